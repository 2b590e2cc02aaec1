/-
  path.Name.
-/
import Derived.Test.YtokaaebbmcldaaaGreatDoorStrC
namespace Go.Proofs.YtokaaebbmcldaaaGreatDoor
open Go.RowKit

theorem indexAny_mem (s : ByteArray) : (0 ≤ Lib.indexAny s.data.toList [0, 47]) ↔ ((0 : UInt8) ∈ s.data.toList ∨ (47 : UInt8) ∈ s.data.toList) := by
  generalize s.data.toList = l
  induction l with
  | nil => simp [Lib.indexAny]
  | cons b l ih =>
    have hge := Lib.indexAny_ge [0, 47] l
    unfold Lib.indexAny
    by_cases hb : [0, 47].contains b = true
    · rw [if_pos hb]
      simp only [List.contains_cons, List.contains_nil, Bool.or_false, Bool.or_eq_true, beq_iff_eq] at hb
      rcases hb with rfl | rfl <;> simp
    · rw [if_neg hb]
      have h0 : (0 : UInt8) ≠ b := by rintro rfl; simp at hb
      have h47 : (47 : UInt8) ≠ b := by rintro rfl; simp at hb
      simp only [List.mem_cons, h0, h47, false_or]
      rw [← ih]
      split
      · rename_i h
        have : Lib.indexAny l [0, 47] = -1 := by simpa using h
        rw [this]
      · rename_i h
        have : Lib.indexAny l [0, 47] ≠ -1 := by simpa using h
        constructor <;> intro h' <;> omega
theorem IndexAny_any (s : ByteArray) (w : World) (hs : s.size ≤ 1000000) : Calls Tryz.prog 90 #[.string s, .string ⟨#[0, 47]⟩] w (AnyQ s w) := by
  by_cases h8 : s.size ≤ 8
  · exact IndexAny_short s w h8
  · refine (Tryz.strings_IndexAny_long (fun w => by kernel_rfl) s ⟨#[0, 47]⟩ w (by decide) (by omega) (by omega) (by decide) ?_).mono ?_
    · intro j b hj
      have : b ∈ [0, 47] := List.mem_of_getElem? hj
      simp at this
      rcases this with rfl | rfl <;> decide
    · rintro e w' ⟨rfl, rfl⟩
      exact ⟨_, rfl, below_a2 _ _ _, indexAny_mem s⟩
/-- It has a byte that a name may not have. -/
def badB (s : ByteArray) : Bool := decide ((0 : UInt8) ∈ s.data.toList ∨ (47 : UInt8) ∈ s.data.toList)
theorem ContainsAny_any (s : ByteArray) (w : World) (hs : s.size ≤ 1000000) :
    Calls Tryz.prog 85 #[.string s, .string ⟨#[0, 47]⟩] w fun e w' => e = .returned (.bool (badB s)) ∧ Below w.heap.size w w' := by
  go_enter Tryz.func85, Tryz.ntmps85
  go_wp2_with fail
  refine (IndexAny_any s w hs).mono ?_
  rintro e w' ⟨v, rfl, hb, hv⟩
  have HV := Lib.hid hv
  clear hv
  go_wp2
  go_ret
  exact ⟨ret_bool (decide_eq_decide.2 HV.out), hb⟩

theorem eq_dot (s : ByteArray) : (s.toList == [46]) = decide (s.data.toList = [46]) := by rw [toL, Bool.eq_iff_iff]; simp
theorem eq_dots (s : ByteArray) : (s.toList == [46, 46]) = decide (s.data.toList = [46, 46]) := by rw [toL, Bool.eq_iff_iff]; simp
set_option maxHeartbeats 1000000 in
theorem PName_any (s : ByteArray) (w : World) :
    Calls Tryz.prog 82 #[.string s] w fun e w' => e = .returned (.bool (nmL s.data.toList)) ∧ Below w.heap.size w w' := by
  have hsz := Lib.size_eq s
  by_cases h0 : s.size = 0
  · have he : s.toList.isEmpty = true := by rw [empty_iff']; simp [h0]
    have he' : s.toList = [] := List.isEmpty_iff.1 he
    have HF : Hid (nmL s.data.toList = false) := Lib.hid (by
      rw [← toL, he']; rfl)
    clear hsz
    go_enter Tryz.func82, Tryz.ntmps82
    go_wp2
    go_ret
    exact ⟨ret_bool HF.out.symm, Below.refl _ _⟩
  · have he : s.toList.isEmpty = false := by rw [empty_iff']; simp [h0]
    have hne : s.data.toList ≠ [] := by intro e; rw [e] at hsz; exact h0 hsz
    by_cases h12 : s.size ≤ 12
    · have hle : decide ((s.size : Int) ≤ 12) = true := decide_eq_true (by omega)
      by_cases h1 : s.data.toList = [46]
      · have e1 : (s.toList == [46]) = true := by rw [eq_dot]; simp [h1]
        have e1' : (s.toList != [46]) = false := by simp [bne, e1]
        have HF : Hid (nmL s.data.toList = false) := Lib.hid (by rw [h1]; rfl)
        clear hsz hne h1
        go_enter Tryz.func82, Tryz.ntmps82
        go_wp2
        go_ret
        exact ⟨ret_bool HF.out.symm, Below.refl _ _⟩
      · have e1 : (s.toList == [46]) = false := by rw [eq_dot]; simp [h1]
        have e1' : (s.toList != [46]) = true := by simp [bne, e1]
        by_cases h2 : s.data.toList = [46, 46]
        · have e2 : (s.toList == [46, 46]) = true := by rw [eq_dots]; simp [h2]
          have e2' : (s.toList != [46, 46]) = false := by simp [bne, e2]
          have HF : Hid (nmL s.data.toList = false) := Lib.hid (by rw [h2]; rfl)
          clear hsz hne h1 h2
          go_enter Tryz.func82, Tryz.ntmps82
          go_wp2
          go_ret
          exact ⟨ret_bool HF.out.symm, Below.refl _ _⟩
        · have e2 : (s.toList == [46, 46]) = false := by rw [eq_dots]; simp [h2]
          have e2' : (s.toList != [46, 46]) = true := by simp [bne, e2]
          have HF : Hid (nmL s.data.toList = !badB s) := Lib.hid (by
            unfold badB
            rw [Bool.eq_iff_iff, nmL_iff]
            simp only [Bool.not_eq_true', decide_eq_false_iff_not, not_or]
            exact ⟨fun h => h.2.2.2.2, fun h => ⟨hne, by omega, h1, h2, h⟩⟩)
          clear hsz hne h1 h2
          go_enter Tryz.func82, Tryz.ntmps82
          go_wp2_with fail
          refine (ContainsAny_any s _ (by omega)).mono ?_
          rintro e w' ⟨rfl, hb⟩
          go_wp2
          go_ret
          exact ⟨ret_bool HF.out.symm, hb⟩
    · have hle : decide ((s.size : Int) ≤ 12) = false := decide_eq_false (by omega)
      have HF : Hid (nmL s.data.toList = false) := Lib.hid (decide_eq_false (fun h => by have := h.2.1; omega))
      clear hsz hne
      go_enter Tryz.func82, Tryz.ntmps82
      go_wp2
      go_ret
      exact ⟨ret_bool HF.out.symm, Below.refl _ _⟩

end Go.Proofs.YtokaaebbmcldaaaGreatDoor
