/-
  PathPairs, PathPieces, PathLimits: the walks.
-/
import Derived.Test.YtndedpdonagamaaDoorLaw4A
namespace Go.Proofs.YtndedpdonagamaaDoor
open Go.RowKit

theorem bt2 {w a b : World} (h : Below w.heap.size w a) (k : Below a.heap.size a b) : Below w.heap.size w b := h.trans (k.mono h.size)
set_option maxRecDepth 100000 in
set_option maxHeartbeats 2000000 in
theorem PathPairs_walk (a b : ByteArray) (w : World) (ha : a.size ≤ 9223372036854775807) (hb : b.size ≤ 9223372036854775807) :
    Calls Tryd.prog 7 #[.string a, .string b] w fun e w' => e = .returned (.bool true) ∧ Below w.heap.size w w' := by
  by_cases h1 : a.size ≤ 200
  · by_cases h2 : b.size ≤ 200
    · have hsl := slash_size'
      go_enter Tryd.func7, Tryd.ntmps7
      go_wp2_with fail
      refine (PJoin_any a b w (by omega) (by omega)).mono ?_
      rintro e w1 ⟨r1, rfl, hr1, rfl⟩
      go_wp2_with fail
      refine (RJoin_any a b _ (by omega) (by omega)).mono ?_
      rintro e w1 ⟨r2, rfl, hr2, rfl⟩
      obtain rfl : r1 = r2 := str_ext (hr1.trans hr2.symm)
      clear hr1 hr2
      go_wp2_with fail
      refine (PUnder_any a b _ (by omega) (by omega)).mono ?_
      rintro e w1 ⟨rfl, hb1⟩
      go_wp2_with fail
      refine (RUnder_any a b _ (by omega) (by omega)).mono ?_
      rintro e w2 ⟨rfl, hb2⟩
      go_wp2_with fail
      refine (PUnder_any _ _ _ (by simp; omega) (by simp; omega)).mono ?_
      rintro e w3 ⟨rfl, hb3⟩
      go_wp2_with fail
      refine (RUnder_any _ _ _ (by simp; omega) (by simp; omega)).mono ?_
      rintro e w4 ⟨rfl, hb4⟩
      go_wp2_with fail
      refine (awake_any _).mono ?_
      rintro e w5 ⟨rfl, hb5⟩
      go_wp2
      go_ret
      exact ⟨rfl, bt2 (bt2 (bt2 (bt2 hb1 hb2) hb3) hb4) hb5⟩
    · go_enter Tryd.func7, Tryd.ntmps7
      go_wp2_with fail
      refine (awake_any _).mono ?_
      rintro e w3 ⟨rfl, hb3⟩
      go_wp2
      go_ret
      exact ⟨rfl, hb3⟩
  · go_enter Tryd.func7, Tryd.ntmps7
    go_wp2_with fail
    refine (awake_any _).mono ?_
    rintro e w3 ⟨rfl, hb3⟩
    go_wp2
    go_ret
    exact ⟨rfl, hb3⟩

theorem clean_flat {l : Bs} (h : cleanL l = true) (hr : l ≠ [47]) : l = flatS (pieces l) := by
  rcases (clean_iff l).1 h with h' | ⟨ps, _, hn, rfl⟩
  · exact absurd h' hr
  · rw [pieces_flat hn]
theorem byte_ne {x : ByteArray} {j : Nat} (hj : j < x.size) (h : (47 : UInt8) ∉ x.data.toList) : (((x[j]'hj).toNat : Int) == 47) = false := by
  rw [byte47]
  refine decide_eq_false fun e => h ?_
  have := Lib.data_getElem? x j hj
  rw [e] at this
  exact List.mem_of_getElem? this
set_option maxRecDepth 100000 in
set_option maxHeartbeats 2000000 in
theorem PathPieces_walk (s : ByteArray) (w : World) (hs : s.size ≤ 9223372036854775807) :
    Calls Tryd.prog 4 #[.string s] w fun e w' => e = .returned (.bool true) ∧ Below w.heap.size w w' := by
  by_cases h : s.size ≤ 400
  · have hfp := flat_pieces s.data.toList
    rw [← Lib.size_eq] at hfp
    have HFP := Lib.hid hfp
    clear hfp
    go_enter Tryd.func4, Tryd.ntmps4
    go_wp2_with fail
    refine (PSplit_any s w (by omega)).mono ?_
    rintro e w1 ⟨v, ss, rfl, hst, hss, hb⟩
    have hft : ∀ k, (flatS ((bls ss).take k)).length ≤ s.size + 1 := fun k => by have := flat_take (bls ss) k; rw [hss] at this ⊢; have := HFP.out; omega
    have hel : ∀ x ∈ ss, x.size ≤ s.size ∧ (47 : UInt8) ∉ x.data.toList ∧ x.size ≠ 0 := fun x hx => by
      have h1 : x.data.toList ∈ pieces s.data.toList := by rw [← hss]; exact List.mem_map.2 ⟨x, hx, rfl⟩
      have h2 := piece_len h1
      rw [← Lib.size_eq, ← Lib.size_eq] at h2
      exact ⟨h2, pieces_free h1, fun e => pieces_ne h1 (List.eq_nil_of_length_eq_zero (by rw [← Lib.size_eq]; exact e))⟩
    have HFT := Lib.hid hft
    have HEL := Lib.hid hel
    have HS := Lib.hid hss
    have hst' := hst.dom (fresh_old _ _)
    obtain ⟨A, c, rfl, hlc⟩ := strs_form hst
    have hlen : ss.length ≤ 65536 := by obtain ⟨_, _, _, _, h, _⟩ := hst; exact h
    clear hft hel hss hst
    by_cases h0 : 0 < s.size
    case' pos =>
      have h0i : (0 : Int) < (s.size : Int) := by omega
      have HA := Lib.hid (head_dec s h0)
      have HB := Lib.hid (last_dec s h0)
      rw [HA.out, HB.out]
      go_wp2
    case' neg =>
      have h0i : decide ((0 : Int) < (s.size : Int)) = false := decide_eq_false (by omega)
      have hnil : s.data.toList = [] := List.eq_nil_of_length_eq_zero (by rw [← Lib.size_eq]; omega)
      rw [show decide (s.data.toList.head? = some 47) = false by rw [hnil]; rfl, show decide (s.data.toList.getLast? = some 47) = false by rw [hnil]; rfl]
      clear hnil
      go_wp2
    all_goals
      go_loop [6, 7] (fun t i => ∃ (k : Nat) (T : Str), k ≤ ss.length ∧ i = .int .i64 k ∧ t = .string T ∧ T.size ≤ 500 ∧ Hid (T.data.toList = flatS ((bls ss).take k))) (fun _ i => ss.length - (intOf i).toNat)
      case atStart => exact ⟨0, _, Nat.zero_le _, rfl, rfl, by decide, Lib.hid rfl⟩
      case round =>
        obtain ⟨k, T, hk, rfl, rfl, hT, hTl⟩ := hrel
        by_cases hlt : k < ss.length
        · obtain ⟨b, off, rfl, hcell⟩ := strs_cell hst' hlt
          obtain ⟨hsz, hfr, hne⟩ := HEL.out _ (List.getElem_mem hlt)
          (try (exfalso; omega)) <;> (
            have HT1 : Hid ((bls ss).take (k + 1) = (bls ss).take k ++ [ss[k].data.toList]) := Lib.hid (by
              rw [List.take_add_one, bls_get hlt]; rfl)
            generalize ss[k] = x at *
            have hxe : x.toList.isEmpty = false := by rw [empty_iff']; simp [hne]
            have HFR := Lib.hid hfr
            clear hfr
            go_wp2
            go_loop [8] (fun j => ∃ m : Nat, m ≤ x.size ∧ j = .int .i64 m) (fun j => x.size - (intOf j).toNat)
            case atStart => exact ⟨0, Nat.zero_le _, rfl⟩
            case round =>
              obtain ⟨m, hm, rfl⟩ := hrel
              by_cases hmx : m < x.size
              · have h47 := byte_ne hmx HFR.out
                go_wp2
                go_round
                case rel => exact ⟨m + 1, by omega, by go_num⟩
                case measure => simp [intOf]; omega
              · have HX : Hid ((T ++ (({ data := #[47] } : ByteArray) ++ x)).data.toList = flatS ((bls ss).take (k + 1))) := Lib.hid (by
                  have hl : (({ data := #[47] } : ByteArray) ++ x).data.toList = 47 :: x.data.toList := by rw [app_data]; rfl
                  rw [app_data, hl, hTl.out, HT1.out, flatS_append]; simp [flatS])
                go_wp2
                go_round
                case rel => exact ⟨k + 1, _, by omega, by go_num, rfl, by rw [Lib.size_eq, HX.out]; have := HFT.out (k + 1); omega, HX⟩
                case measure => simp [intOf]; omega)
        · obtain rfl : k = ss.length := by omega
          have HALL : Hid (T.data.toList = flatS (pieces s.data.toList)) := Lib.hid (by
            rw [hTl.out, List.take_of_length_le (by rw [bls_len]; omega), HS.out])
          cases hc : cleanL s.data.toList with
          | false =>
            have HC := Lib.hid hc
            clear hc
            go_wp2_with fail
            refine (PClean_any s _ (by omega)).mono ?_
            rintro e w2 ⟨rfl, hb2⟩
            rw [HC.out]
            go_wp2_with fail
            refine (awake_any _).mono ?_
            rintro e w3 ⟨rfl, hb3⟩
            go_wp2
            go_ret
            exact ⟨rfl, bt2 (bt2 hb hb2) hb3⟩
          | true =>
            have HC := Lib.hid hc
            by_cases h1 : s.data.toList = [47]
            · have e1 : (s.toList == [47]) = true := by rw [toL, beq_iff_eq]; exact h1
              clear hc h1
              go_wp2_with fail
              refine (PClean_any s _ (by omega)).mono ?_
              rintro e w2 ⟨rfl, hb2⟩
              rw [HC.out]
              go_wp2_with fail
              refine (awake_any _).mono ?_
              rintro e w3 ⟨rfl, hb3⟩
              go_wp2
              go_ret
              exact ⟨rfl, bt2 (bt2 hb hb2) hb3⟩
            · have e1 : (s.toList == [47]) = false := by rw [toL, beq_eq_false_iff_ne]; exact h1
              obtain rfl : s = T := str_ext ((clean_flat hc h1).trans HALL.out.symm)
              clear hc h1
              go_wp2_with fail
              refine (PClean_any s _ (by omega)).mono ?_
              rintro e w2 ⟨rfl, hb2⟩
              rw [HC.out]
              go_wp2_with fail
              refine (awake_any _).mono ?_
              rintro e w3 ⟨rfl, hb3⟩
              go_wp2
              go_ret
              exact ⟨rfl, bt2 (bt2 hb hb2) hb3⟩
  · go_enter Tryd.func4, Tryd.ntmps4
    go_wp2_with fail
    refine (awake_any _).mono ?_
    rintro e w3 ⟨rfl, hb3⟩
    go_wp2
    go_ret
    exact ⟨rfl, hb3⟩

end Go.Proofs.YtndedpdonagamaaDoor
