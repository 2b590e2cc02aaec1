/-
  The reference's Parent and Under; the comparison of lists of texts.
-/
import Derived.Test.YtndedpdonagamaaDoorRef4B
namespace Go.Proofs.YtndedpdonagamaaDoor
open Go.RowKit

theorem dirOf_len (ps : List Bs) (k : Nat) : (dirOf (ps.take k)).length ≤ (flatS ps).length + 1 := by
  unfold dirOf
  split
  · simp
  · have := flat_take ps k; omega
set_option maxRecDepth 100000 in
set_option maxHeartbeats 2000000 in
theorem RParent_any (s : ByteArray) (w : World) (hs : s.size ≤ 60000) : Calls Tryd.prog 26 #[.string s] w (PrntQ s.data.toList w) := by
  cases hc : cleanL s.data.toList with
  | false =>
    have HP : Hid (prntL s.data.toList = ([], [], false)) := Lib.hid (if_neg (fun h => by rw [hc] at h; exact absurd h.1 (by decide)))
    have HC := Lib.hid hc
    clear hc
    go_enter Tryd.func26, Tryd.ntmps26
    go_wp2_with fail
    refine (RClean_any s w hs).mono ?_
    rintro e w' ⟨rfl, hb⟩
    rw [HC.out]
    go_wp2
    go_ret3
    exact ⟨_, _, _, rfl, HP.out, hb⟩
  | true =>
    by_cases h1 : s.data.toList = [47]
    · have e1 : (s.toList == [47]) = true := by rw [toL, beq_iff_eq]; exact h1
      have HP : Hid (prntL s.data.toList = ([], [], false)) := Lib.hid (if_neg (fun h => h.2 h1))
      have HC := Lib.hid hc
      clear h1 hc
      go_enter Tryd.func26, Tryd.ntmps26
      go_wp2_with fail
      refine (RClean_any s w hs).mono ?_
      rintro e w' ⟨rfl, hb⟩
      rw [HC.out]
      go_wp2
      go_ret3
      exact ⟨_, _, _, rfl, HP.out, hb⟩
    · have e1 : (s.toList == [47]) = false := by rw [toL, beq_eq_false_iff_ne]; exact h1
      obtain ⟨init, p, hi, hp, hl, hps⟩ := clean_cut hc h1
      have HP := Lib.hid (prnt_cut hc h1 hps)
      have HC := Lib.hid hc
      have hfp := flat_pieces s.data.toList
      rw [← Lib.size_eq] at hfp
      have HI := Lib.hid hi
      clear h1 hc hl hi
      go_enter Tryd.func26, Tryd.ntmps26
      go_wp2_with fail
      refine (RClean_any s w hs).mono ?_
      rintro e w0 ⟨rfl, hb0⟩
      rw [HC.out]
      go_wp2_with fail
      refine (RSplit_any s w0 hs).mono ?_
      rintro e w1 ⟨v, ss, rfl, hst, hss, hb⟩
      rw [hps] at hss
      have hlen1 : ss.length = init.length + 1 := by have := congrArg List.length hss; simpa [bls] using this
      have hdl : ∀ k, (dirOf ((bls ss).take k)).length ≤ s.size + 2 := fun k => by
        have := dirOf_len (bls ss) k
        rw [hss, ← hps] at this
        rw [hss, ← hps]
        omega
      have hel : ∀ x ∈ ss, x.size ≤ s.size := fun x hx => by
        have h1 : x.data.toList ∈ pieces s.data.toList := by rw [hps, ← hss]; exact List.mem_map.2 ⟨x, hx, rfl⟩
        have := piece_len h1
        rw [← Lib.size_eq, ← Lib.size_eq] at this
        exact this
      have HDL := Lib.hid hdl
      have HEL := Lib.hid hel
      have HS := Lib.hid hss
      have hbw : Below w.heap.size w w1 := hb0.trans (hb.mono hb0.size)
      obtain ⟨A, c, rfl, hlc⟩ := strs_form hst
      have hlen : ss.length ≤ 65536 := by obtain ⟨_, _, _, _, h, _⟩ := hst; exact h
      have h1s : 1 ≤ ss.length := by omega
      have HL1 := Lib.hid hlen1
      have HPS := Lib.hid hps
      clear hdl hel hss hfp hlen1 hps
      go_wp2
      go_loop [8, 9] (fun t i => ∃ (k : Nat) (T : Str), k + 1 ≤ ss.length ∧ i = .int .i64 k ∧ t = .string T ∧ T.size ≤ 70000 ∧ Hid (T.data.toList = dirOf ((bls ss).take k))) (fun _ i => ss.length - (intOf i).toNat)
      case atStart => exact ⟨0, _, by omega, rfl, rfl, by decide, Lib.hid rfl⟩
      case round =>
        obtain ⟨k, T, hk, rfl, rfl, hT, hTl⟩ := hrel
        have hki : k < ss.length := by omega
        obtain ⟨b, off, rfl, hcell⟩ := strs_cell hst hki
        have hsz := HEL.out _ (List.getElem_mem hki)
        have HT1 : Hid ((bls ss).take (k + 1) = (bls ss).take k ++ [ss[k].data.toList]) := Lib.hid (by
          rw [List.take_add_one]
          have : (bls ss)[k]? = some ss[k].data.toList := by simp [bls, hki]
          rw [this]; rfl)
        by_cases hlt : k + 1 < ss.length
        · generalize ss[k] = x at *
          go_wp2_with fail
          refine (RJoin_any T x w1 (by omega) (by omega)).mono ?_
          rintro e w2 ⟨r, rfl, hr, rfl⟩
          have hf : r.data.toList = dirOf ((bls ss).take (k + 1)) := by
            rw [hr, hTl.out, HT1.out]
            refine dirOf_join fun q hq => ?_
            have h2 := HS.out
            have : (bls ss).take k = init.take k := by rw [h2, List.take_append_of_le_length (by have := HL1.out; omega)]
            rw [this] at hq
            exact HI.out q (List.mem_of_mem_take hq)
          have HR := Lib.hid hf
          clear hr hf
          go_wp2
          go_round
          case rel => exact ⟨k + 1, r, by omega, by go_num, rfl, by rw [Lib.size_eq, HR.out]; have := HDL.out (k + 1); omega, HR⟩
          case measure => simp [intOf]; omega
        · obtain ⟨m, hm⟩ : ∃ m, ss.length = m + 1 := ⟨k, by omega⟩
          obtain rfl : k = m := by omega
          have HM := Lib.hid hm
          have hfin : prntL s.data.toList = (T.data.toList, ss[k].data.toList, true) := by
            rw [HP.out, hTl.out]
            have h2 := HS.out
            have h3 := HL1.out
            have h4 : (bls ss).take k = init := by rw [h2, List.take_append_of_le_length (by omega), List.take_of_length_le (by omega)]
            have h5 : ss[k].data.toList = p := by
              have h6 : (bls ss)[k]? = some ss[k].data.toList := by simp [bls, hki]
              rw [h2, List.getElem?_append_right (by omega), show k - init.length = 0 by omega] at h6
              simpa using h6.symm
            rw [h4, h5]
          have HFN := Lib.hid hfin
          clear hfin
          generalize ss[k] = x at *
          rw [hm] at *
          have hi1 : IntKind.i64.wrap (((k + 1 : Nat) : Int) - 1) = (k : Int) := by rw [IntWalk.i64_in _ (by omega)]; omega
          have hi2 : (((k + 1 : Nat) : Int) - 1) = (k : Int) := by omega
          clear hm
          go_wp2
          go_quiet (fail)
          go_wp2
          go_ret3
          exact ⟨_, _, _, rfl, HFN.out, below_drewN hbw _⟩

theorem prefix_take {α : Type} {x y : List α} (k : Nat) (h : x.take k = y.take k) (hk : x.length ≤ k) : x <+: y := by
  rw [List.take_of_length_le hk] at h
  rw [h]
  exact List.take_prefix _ _
theorem take_next {α : Type} {x y : List α} {k : Nat} {a b : α} (h : x.take k = y.take k) (ha : x[k]? = some a) (hb : y[k]? = some b) (he : a = b) : x.take (k + 1) = y.take (k + 1) := by
  rw [List.take_add_one, List.take_add_one, ha, hb, h, he]
theorem not_prefix {α : Type} {x y : List α} {k : Nat} {a b : α} (ha : x[k]? = some a) (hb : y[k]? = some b) (he : a ≠ b) : ¬ x <+: y := by
  rintro ⟨t, rfl⟩
  rw [List.getElem?_append_left (List.getElem?_eq_some_iff.1 ha).1, ha] at hb
  injection hb with hb
  exact he hb
theorem bls_get {ss : List Str} {k : Nat} (h : k < ss.length) : (bls ss)[k]? = some (ss[k]'h).data.toList := by simp [bls, h]
theorem bls_len (ss : List Str) : (bls ss).length = ss.length := by simp [bls]
set_option maxRecDepth 100000 in
set_option maxHeartbeats 2000000 in
theorem RUnder_any (a b : ByteArray) (w : World) (ha : a.size ≤ 60000) (hb : b.size ≤ 60000) :
    Calls Tryd.prog 23 #[.string a, .string b] w fun e w' => e = .returned (.bool (underL a.data.toList b.data.toList)) ∧ Below w.heap.size w w' := by
  cases hca : cleanL a.data.toList with
  | false =>
    have HF : Hid (underL a.data.toList b.data.toList = false) := Lib.hid (by unfold underL; rw [hca]; simp)
    have HC := Lib.hid hca
    clear hca
    go_enter Tryd.func23, Tryd.ntmps23
    go_wp2_with fail
    refine (RClean_any a w ha).mono ?_
    rintro e w' ⟨rfl, hb'⟩
    rw [HC.out]
    go_wp2
    go_ret
    exact ⟨ret_bool HF.out.symm, hb'⟩
  | true =>
    have HC := Lib.hid hca
    cases hcb : cleanL b.data.toList with
    | false =>
      have HF : Hid (underL a.data.toList b.data.toList = false) := Lib.hid (by unfold underL; rw [hca, hcb]; simp)
      have HD := Lib.hid hcb
      clear hca hcb
      go_enter Tryd.func23, Tryd.ntmps23
      go_wp2_with fail
      refine (RClean_any a w ha).mono ?_
      rintro e w' ⟨rfl, hb'⟩
      rw [HC.out]
      go_wp2_with fail
      refine (RClean_any b _ hb).mono ?_
      rintro e w2 ⟨rfl, hb2⟩
      rw [HD.out]
      go_wp2
      go_ret
      exact ⟨ret_bool HF.out.symm, hb'.trans (hb2.mono hb'.size)⟩
    | true =>
      have HD := Lib.hid hcb
      have HF : Hid (underL a.data.toList b.data.toList = (pieces a.data.toList).isPrefixOf (pieces b.data.toList)) := Lib.hid (by unfold underL; rw [hca, hcb]; simp)
      clear hca hcb
      go_enter Tryd.func23, Tryd.ntmps23
      go_wp2_with fail
      refine (RClean_any a w ha).mono ?_
      rintro e w' ⟨rfl, hb'⟩
      rw [HC.out]
      go_wp2_with fail
      refine (RClean_any b _ hb).mono ?_
      rintro e w2 ⟨rfl, hb2⟩
      rw [HD.out]
      go_wp2_with fail
      refine (RSplit_any a _ ha).mono ?_
      rintro e w3 ⟨vx, xs, rfl, hx, hxs, hb3⟩
      go_wp2_with fail
      refine (RSplit_any b _ hb).mono ?_
      rintro e w4 ⟨vy, ys, rfl, hy, hys, hb4⟩
      have hbw : Below w.heap.size w w4 := by
        have h1 := hb'.size
        have h2 := hb2.size
        have h3 := hb3.size
        exact ((hb'.trans (hb2.mono h1)).trans (hb3.mono (by omega))).trans (hb4.mono (by omega))
      have hx4 : StrsR w4 (Old w4) vx xs := ((hx.dom (fresh_old _ _)).now hb4)
      have hy4 : StrsR w4 (Old w4) vy ys := hy.dom (fresh_old _ _)
      clear hx hy hb' hb2 hb3 hb4
      obtain ⟨Ax, cx, rfl, _⟩ := strs_form hx4
      obtain ⟨Ay, cy, rfl, _⟩ := strs_form hy4
      have hlx : xs.length ≤ 65536 := by obtain ⟨_, _, _, _, h, _⟩ := hx4; exact h
      have hly : ys.length ≤ 65536 := by obtain ⟨_, _, _, _, h, _⟩ := hy4; exact h
      have HFx : Hid (underL a.data.toList b.data.toList = (bls xs).isPrefixOf (bls ys)) := Lib.hid (by rw [HF.out, hxs, hys])
      clear hxs hys HF
      by_cases hlen : ys.length < xs.length
      · have HG : Hid (underL a.data.toList b.data.toList = false) := Lib.hid (by
          rw [HFx.out, Bool.eq_false_iff, Ne, List.isPrefixOf_iff_prefix]
          intro h
          have := h.length_le
          rw [bls_len, bls_len] at this
          omega)
        go_wp2
        go_ret
        exact ⟨ret_bool HG.out.symm, hbw⟩
      · go_wp2
        go_loopw [11] (fun i wr => ∃ (k m : Nat), k ≤ xs.length ∧ i = .int .i64 k ∧ wr = w4.drewN m ∧ Hid ((bls xs).take k = (bls ys).take k)) (fun i _ => xs.length - (intOf i).toNat)
        case atStart => exact ⟨0, 0, Nat.zero_le _, rfl, rfl, Lib.hid rfl⟩
        case round =>
          obtain ⟨k, m, hk, rfl, rfl, hT⟩ := hrel
          by_cases hlt : k < xs.length
          · have hlt2 : k < ys.length := by omega
            obtain ⟨bx, ox, rfl, hcx⟩ := strs_cell hx4 hlt
            obtain ⟨by_, oy, rfl, hcy⟩ := strs_cell hy4 hlt2
            have HX := Lib.hid (bls_get hlt)
            have HY := Lib.hid (bls_get hlt2)
            generalize xs[k] = x at *
            generalize ys[k] = y at *
            have hi1 : (k : Int) < (xs.length : Int) := by omega
            have hi2 : (k : Int) < (ys.length : Int) := by omega
            have hcx' : (w4.drewN m).cell? ⟨bx, ox + k, none⟩ = some (.string x) := hcx
            have hcy' : (w4.drewN m).cell? ⟨by_, oy + k, none⟩ = some (.string y) := hcy
            have hbm : Below w.heap.size w (w4.drewN m) := below_drewN hbw m
            have HB : ∀ q, ∃ m', (w4.drewN m).drewN q = w4.drewN m' := fun q => ⟨m + q, by simp [World.drewN, Nat.add_assoc]⟩
            have HBH := Lib.hid HB
            clear HB
            generalize hwm : w4.drewN m = wm at *
            have HWM := Lib.hid hwm
            clear hwm
            cases hne : (x.toList == y.toList) with
            | false =>
              have hxy : x ≠ y := by rw [beq_str] at hne; exact of_decide_eq_false hne
              have HG : Hid (underL a.data.toList b.data.toList = false) := Lib.hid (by
                rw [HFx.out, Bool.eq_false_iff, Ne, List.isPrefixOf_iff_prefix]
                exact not_prefix HX.out HY.out (fun e => hxy (str_ext e)))
              go_wp2
              go_quiet (fail)
              go_wp2
              go_ret
              exact ⟨ret_bool HG.out.symm, below_drewN hbm _⟩
            | true =>
              have hxy : x = y := by rw [beq_str] at hne; exact of_decide_eq_true hne
              have HXY := Lib.hid hxy
              clear hxy
              go_wp2
              go_quiet (fail)
              obtain ⟨m', hm'⟩ := HBH.out nq
              go_wp2
              go_roundw
              case rel => exact ⟨k + 1, m', by omega, by go_num, rfl, Lib.hid (take_next hT.out HX.out HY.out (by rw [HXY.out]))⟩
              case measure => simp [intOf]; omega
          · have HG : Hid (underL a.data.toList b.data.toList = true) := Lib.hid (by
              rw [HFx.out, List.isPrefixOf_iff_prefix]
              exact prefix_take k hT.out (by rw [bls_len]; omega))
            go_wp2
            go_ret
            exact ⟨ret_bool HG.out.symm, below_drewN hbw _⟩

set_option maxRecDepth 100000 in
set_option maxHeartbeats 2000000 in
theorem same_any (vx vy : Value) (xs ys : List Str) (w : World) (hx : StrsR w (Old w) vx xs) (hy : StrsR w (Old w) vy ys) :
    Calls Tryd.prog 29 #[vx, vy] w fun e w' => e = .returned (.bool (decide (bls xs = bls ys))) ∧ Below w.heap.size w w' := by
  obtain ⟨Ax, cx, rfl, _⟩ := strs_form hx
  obtain ⟨Ay, cy, rfl, _⟩ := strs_form hy
  have hlx : xs.length ≤ 65536 := by obtain ⟨_, _, _, _, h, _⟩ := hx; exact h
  have hly : ys.length ≤ 65536 := by obtain ⟨_, _, _, _, h, _⟩ := hy; exact h
  by_cases hlen : xs.length = ys.length
  · have hl1 : ((xs.length : Int) != (ys.length : Int)) = false := by simp [hlen]
    have HL := Lib.hid hlen
    have hle : ¬ ys.length < xs.length := by omega
    have hle2 : ¬ xs.length < ys.length := by omega
    clear hlen
    go_enter Tryd.func29, Tryd.ntmps29
    go_wp2
    go_loopw [5] (fun i wr => ∃ (k m : Nat), k ≤ xs.length ∧ i = .int .i64 k ∧ wr = w.drewN m ∧ Hid ((bls xs).take k = (bls ys).take k)) (fun i _ => xs.length - (intOf i).toNat)
    case atStart => exact ⟨0, 0, Nat.zero_le _, rfl, rfl, Lib.hid rfl⟩
    case round =>
      obtain ⟨k, m, hk, rfl, rfl, hT⟩ := hrel
      by_cases hlt : k < xs.length
      · have hlt2 : k < ys.length := by omega
        obtain ⟨bx, ox, rfl, hcx⟩ := strs_cell hx hlt
        obtain ⟨by_, oy, rfl, hcy⟩ := strs_cell hy hlt2
        have HX := Lib.hid (bls_get hlt)
        have HY := Lib.hid (bls_get hlt2)
        generalize xs[k] = x at *
        generalize ys[k] = y at *
        have hi1 : (k : Int) < (xs.length : Int) := by omega
        have hi2 : (k : Int) < (ys.length : Int) := by omega
        have hcx' : (w.drewN m).cell? ⟨bx, ox + k, none⟩ = some (.string x) := hcx
        have hcy' : (w.drewN m).cell? ⟨by_, oy + k, none⟩ = some (.string y) := hcy
        have hbm : Below w.heap.size w (w.drewN m) := below_drewN (Below.refl _ _) m
        have HB : ∀ q, ∃ m', (w.drewN m).drewN q = w.drewN m' := fun q => ⟨m + q, by simp [World.drewN, Nat.add_assoc]⟩
        have HBH := Lib.hid HB
        clear HB
        generalize hwm : w.drewN m = wm at *
        have HWM := Lib.hid hwm
        clear hwm
        cases hne : (x.toList == y.toList) with
        | false =>
          have hxy : x ≠ y := by rw [beq_str] at hne; exact of_decide_eq_false hne
          have HG : Hid (decide (bls xs = bls ys) = false) := Lib.hid (decide_eq_false (fun e => by
            have h1 := HX.out
            rw [e, HY.out] at h1
            injection h1 with h1
            exact hxy (str_ext h1.symm)))
          go_wp2
          go_quiet (fail)
          go_wp2
          go_ret
          exact ⟨ret_bool HG.out.symm, below_drewN hbm _⟩
        | true =>
          have hxy : x = y := by rw [beq_str] at hne; exact of_decide_eq_true hne
          have HXY := Lib.hid hxy
          clear hxy
          go_wp2
          go_quiet (fail)
          obtain ⟨m', hm'⟩ := HBH.out nq
          go_wp2
          go_roundw
          case rel => exact ⟨k + 1, m', by omega, by go_num, rfl, Lib.hid (take_next hT.out HX.out HY.out (by rw [HXY.out]))⟩
          case measure => simp [intOf]; omega
      · have HG : Hid (decide (bls xs = bls ys) = true) := Lib.hid (decide_eq_true (by
          have h1 := hT.out
          rw [List.take_of_length_le (by rw [bls_len]; omega), List.take_of_length_le (by rw [bls_len]; omega)] at h1
          exact h1))
        go_wp2
        go_ret
        exact ⟨ret_bool HG.out.symm, below_drewN (Below.refl _ _) _⟩
  · have hl1 : ((xs.length : Int) != (ys.length : Int)) = true := by rw [bne_iff_ne]; omega
    have HG : Hid (decide (bls xs = bls ys) = false) := Lib.hid (decide_eq_false (fun e => hlen (by have := congrArg List.length e; simpa [bls] using this)))
    clear hlen
    go_enter Tryd.func29, Tryd.ntmps29
    go_wp2
    go_ret
    exact ⟨ret_bool HG.out.symm, Below.refl _ _⟩

end Go.Proofs.YtndedpdonagamaaDoor
