/-
  The reference's Clean, Parent and Under.
-/
import Derived.Test.YtokaaebbmcldaaaGreatDoorRef4A
import Derived.Test.YtokaaebbmcldaaaGreatDoorName4
import Derived.Test.YtokaaebbmcldaaaGreatDoorStrD
namespace Go.Proofs.YtokaaebbmcldaaaGreatDoor
open Go.RowKit

theorem nameL_eq (s : Str) : nameL s = nmL s.data.toList := by
  have hs := Lib.size_eq s
  rw [Bool.eq_iff_iff, nmL_iff]
  unfold nameL
  by_cases h1 : s.size < 1 ∨ 12 < s.size
  · rw [if_pos h1]
    constructor
    · intro h; cases h
    · rintro ⟨h2, h3, _⟩
      have : 0 < s.data.toList.length := List.length_pos_iff.2 h2
      omega
  · rw [if_neg h1, eq_dot, eq_dots]
    have hne : s.data.toList ≠ [] := by intro e; rw [e] at hs; change s.size = 0 at hs; omega
    by_cases h2 : s.data.toList = [46]
    · rw [if_pos (decide_eq_true h2)]
      constructor
      · intro h; cases h
      · exact fun h => absurd h2 h.2.2.1
    · rw [if_neg (by simpa using h2)]
      by_cases h3 : s.data.toList = [46, 46]
      · rw [if_pos (decide_eq_true h3)]
        constructor
        · intro h; cases h
        · exact fun h => absurd h3 h.2.2.2.1
      · rw [if_neg (by simpa using h3), List.all_eq_true]
        have hb : ∀ c : UInt8, byteOK c = true ↔ c ≠ 0 ∧ c ≠ 47 := by
          intro c
          unfold byteOK
          rw [Bool.and_eq_true, byte47]
          have : ((c.toNat : Int) == 0) = decide (c = 0) := by
            rw [Bool.eq_iff_iff, beq_iff_eq, decide_eq_true_iff]
            constructor
            · intro h
              apply UInt8.toNat_inj.1
              have : (0 : UInt8).toNat = 0 := rfl
              omega
            · rintro rfl; rfl
          rw [this]
          simp
        constructor
        · intro h
          exact ⟨hne, by omega, h2, h3, fun h0 => ((hb _).1 (h _ h0)).1 rfl, fun h0 => ((hb _).1 (h _ h0)).2 rfl⟩
        · rintro ⟨_, _, _, _, h0, h47⟩ c hc
          exact (hb c).2 ⟨fun e => h0 (e ▸ hc), fun e => h47 (e ▸ hc)⟩
theorem flat_filter (ps : List Bs) (p : Bs → Bool) : (flatS (ps.filter p)).length ≤ (flatS ps).length := by
  induction ps with
  | nil => simp
  | cons q ps ih =>
    rw [List.filter_cons]
    split
    · rw [flatS_cons, flatS_cons]; simp; omega
    · rw [flatS_cons]; simp; omega
theorem flat_take (ps : List Bs) (k : Nat) : (flatS (ps.take k)).length ≤ (flatS ps).length := by
  conv => rhs; rw [← List.take_append_drop k ps, flatS_append]
  simp
theorem flat_pieces (l : Bs) : (flatS (pieces l)).length ≤ l.length + 1 := by
  have := flat_filter (segs l) ne_
  rw [flat_segs] at this
  simpa [pieces] using this
theorem piece_len {l p : Bs} (h : p ∈ pieces l) : p.length ≤ l.length := by
  have h1 := flat_pieces l
  obtain ⟨a, b, e⟩ := List.append_of_mem h
  rw [e, flatS_append, flatS_cons] at h1
  simp at h1
  omega

/-- A string of a list that lies in memory. -/
theorem strs_cell {w : World} {D : Nat → Prop} {A : Option Addr} {c : Nat} {ss : List Str} (h : StrsR w D (.slice A ss.length c) ss) {k : Nat} (hk : k < ss.length) : ∃ b off, A = some ⟨b, off, none⟩ ∧ w.cell? ⟨b, off + k, none⟩ = some (.string ss[k]) := by
  obtain ⟨A', c', hv, _, _, hr⟩ := h
  injection hv with h1 h2 h3
  subst h1
  obtain ⟨b, off, rfl, _, hc⟩ := hr (by omega)
  have := hc k _ 0 (List.getElem?_eq_getElem hk) (by omega)
  simp only [strCell, Nat.add_zero, Nat.mul_one] at this
  exact ⟨b, off, rfl, this⟩
theorem strs_form {w : World} {D : Nat → Prop} {v : Value} {ss : List Str} (h : StrsR w D v ss) : ∃ A c, v = .slice A ss.length c ∧ ss.length ≤ c := by
  obtain ⟨A, c, rfl, h1, _⟩ := h
  exact ⟨A, c, rfl, h1⟩

set_option maxRecDepth 100000 in
set_option maxHeartbeats 2000000 in
theorem RClean_any (s : ByteArray) (w : World) (hs : s.size ≤ 60000) :
    Calls Tryz.prog 52 #[.string s] w fun e w' => e = .returned (.bool (cleanL s.data.toList)) ∧ Below w.heap.size w w' := by
  have HC := Lib.hid (cleanR_eq s.data.toList)
  have hfp := flat_pieces s.data.toList
  rw [← Lib.size_eq] at hfp
  go_enter Tryz.func52, Tryz.ntmps52
  go_wp2_with fail
  refine (RSplit_any s w hs).mono ?_
  rintro e w1 ⟨v, ss, rfl, hst, hss, hb⟩
  have hft : ∀ k, (flatS ((bls ss).take k)).length ≤ s.size + 1 := fun k => by have := flat_take (bls ss) k; rw [hss] at this ⊢; omega
  have hel : ∀ x ∈ ss, x.size ≤ s.size := fun x hx => by
    have h1 : x.data.toList ∈ pieces s.data.toList := by rw [← hss]; exact List.mem_map.2 ⟨x, hx, rfl⟩
    have := piece_len h1
    rw [← Lib.size_eq, ← Lib.size_eq] at this
    exact this
  have HFT := Lib.hid hft
  have HEL := Lib.hid hel
  have HS := Lib.hid hss
  obtain ⟨A, c, rfl, hlc⟩ := strs_form hst
  have hlen : ss.length ≤ 65536 := by obtain ⟨_, _, _, _, h, _⟩ := hst; exact h
  clear hft hel hss hfp
  go_wp2
  go_loop [6, 7] (fun t i => ∃ (k : Nat) (T : Str), k ≤ ss.length ∧ i = .int .i64 k ∧ t = .string T ∧ T.size ≤ 70000 ∧ Hid (T.data.toList = flatS ((bls ss).take k)) ∧ Hid (∀ p ∈ (bls ss).take k, nmL p = true)) (fun _ i => ss.length - (intOf i).toNat)
  case atStart => exact ⟨0, _, Nat.zero_le _, rfl, rfl, by decide, Lib.hid rfl, Lib.hid (by simp)⟩
  case round =>
    obtain ⟨k, T, hk, rfl, rfl, hT, hTl, hN⟩ := hrel
    by_cases hlt : k < ss.length
    · obtain ⟨b, off, rfl, hcell⟩ := strs_cell hst hlt
      have hsz := HEL.out _ (List.getElem_mem hlt)
      have HT1 : Hid ((bls ss).take (k + 1) = (bls ss).take k ++ [ss[k].data.toList]) := Lib.hid (by
        rw [List.take_add_one]
        have : (bls ss)[k]? = some ss[k].data.toList := by simp [bls, hlt]
        rw [this]; rfl)
      generalize ss[k] = x at *
      have HNM := Lib.hid (nameL_eq x)
      have hN4 := Name4_any x w1 (by omega)
      rw [HNM.out] at hN4
      have H4 := Lib.hid hN4
      clear hN4
      cases hn : nmL x.data.toList with
      | true =>
        have HNX := Lib.hid hn
        clear hn
        go_wp2_with fail
        refine H4.out.mono ?_
        rintro e w2 ⟨rfl, rfl⟩
        rw [HNX.out]
        go_wp2
        go_round
        case rel =>
          have hl : (({ data := #[47] } : ByteArray) ++ x).data.toList = 47 :: x.data.toList := by rw [app_data]; rfl
          have hf : (T ++ (({ data := #[47] } : ByteArray) ++ x)).data.toList = flatS ((bls ss).take (k + 1)) := by
            rw [app_data, hl, hTl.out, HT1.out, flatS_append]; simp [flatS]
          refine ⟨k + 1, _, by omega, by go_num, rfl, ?_, Lib.hid hf, Lib.hid ?_⟩
          · rw [Lib.size_eq, hf]; have := HFT.out (k + 1); omega
          · rw [HT1.out]
            intro p hp
            rcases List.mem_append.1 hp with hp | hp
            · exact hN.out p hp
            · simp at hp; rw [hp]; exact HNX.out
        case measure => simp [intOf]; omega
      | false =>
        have HNX := Lib.hid hn
        clear hn
        have HF : Hid (cleanL s.data.toList = false) := Lib.hid (by
          rw [← HC.out]; unfold cleanR
          rw [← HS.out, List.all_eq_false.2 ⟨x.data.toList, ?_, by simp [HNX.out]⟩]
          · rfl
          · have : x.data.toList ∈ (bls ss).take (k + 1) := by rw [HT1.out]; simp
            exact List.mem_of_mem_take this)
        go_wp2_with fail
        refine H4.out.mono ?_
        rintro e w2 ⟨rfl, rfl⟩
        rw [HNX.out]
        go_wp2
        go_ret
        exact ⟨ret_bool HF.out.symm, hb⟩
    · obtain rfl : k = ss.length := by omega
      have hall : (bls ss).take ss.length = bls ss := List.take_of_length_le (by simp [bls])
      rw [hall] at hTl hN
      have HF : Hid (cleanL s.data.toList = (decide (s.data.toList = [47]) || (decide (0 < ss.length) && decide (s.data.toList = T.data.toList)))) := Lib.hid (by
        rw [← HC.out]; unfold cleanR
        rw [← HS.out, List.all_eq_true.2 hN.out, hTl.out]
        have : decide (bls ss ≠ []) = decide (0 < ss.length) := by
          rw [decide_eq_decide]
          simp [bls, List.length_pos_iff]
        rw [this]
        simp)
      by_cases h1 : s.data.toList = [47]
      · have e1 : (s.toList == [47]) = true := by rw [toL, beq_iff_eq]; exact h1
        have HG : Hid (cleanL s.data.toList = true) := Lib.hid (by rw [HF.out]; simp [h1])
        clear h1
        go_wp2
        go_ret
        exact ⟨ret_bool HG.out.symm, hb⟩
      · have e1 : (s.toList == [47]) = false := by rw [toL, beq_eq_false_iff_ne]; exact h1
        by_cases h2 : 0 < ss.length
        · have h2' : decide ((0 : Int) < (ss.length : Int)) = true := decide_eq_true (by omega)
          have HG : Hid (cleanL s.data.toList = (s.toList == T.toList)) := Lib.hid (by rw [HF.out, toL, toL, Bool.eq_iff_iff]; simp [h1, h2])
          clear h1
          go_wp2
          go_ret
          exact ⟨ret_bool HG.out.symm, hb⟩
        · have h2' : decide ((0 : Int) < (ss.length : Int)) = false := decide_eq_false (by omega)
          have HG : Hid (cleanL s.data.toList = false) := Lib.hid (by rw [HF.out]; simp [h1, h2])
          clear h1
          go_wp2
          go_ret
          exact ⟨ret_bool HG.out.symm, hb⟩

end Go.Proofs.YtokaaebbmcldaaaGreatDoor
