/-
  Functions of the library at the separator slash.
-/
import Derived.Test.YtokaaebbmcldaaaGreatDoorRep
import Derived.Test.YtokaaebbmcldaaaGreatDoorShelf
import Derived.Test.YtokaaebbmcldaaaGreatDoorPathP
namespace Go.Proofs.YtokaaebbmcldaaaGreatDoor
open Go.RowKit

theorem toL (s : ByteArray) : s.toList = s.data.toList := Lib.toList_data s
theorem str_ext {a b : ByteArray} (h : a.data.toList = b.data.toList) : a = b := by
  cases a; cases b; simp at h; simp [h]
theorem str_eq_iff {a b : ByteArray} : a.data.toList = b.data.toList ↔ a = b := ⟨str_ext, fun h => by rw [h]⟩
theorem beq_str (a b : ByteArray) : (a.toList == b.toList) = decide (a = b) := by
  rw [toL, toL, Bool.eq_iff_iff, beq_iff_eq, decide_eq_true_iff]
  exact str_eq_iff
theorem empty_iff' (s : ByteArray) : s.toList.isEmpty = decide (s.size = 0) := by
  rw [toL, Lib.size_eq, Bool.eq_iff_iff, List.isEmpty_iff, decide_eq_true_iff, List.length_eq_zero_iff]
theorem str_mk (s : ByteArray) : (⟨s.data.toList.toArray⟩ : ByteArray) = s := rfl

set_option maxRecDepth 100000 in
set_option maxHeartbeats 400000 in
theorem Index_slash (s : ByteArray) (w : World) :
    Calls Tryz.prog 92 #[.string s, .string ⟨#[47]⟩] w fun e w' => e = .returned (.int .i64 (Lib.indexByte s.data.toList 47)) ∧ w = w' := by
  by_cases h : s = ⟨#[47]⟩
  · subst h
    go_enter Tryz.func92, Tryz.ntmps92
    go_wp2
    go_ret
    exact ⟨rfl, rfl⟩
  · have h1 : ([47] == s.toList) = false := by
      have := beq_str ⟨#[47]⟩ s
      rw [decide_eq_false (fun e => h e.symm), toL ⟨#[47]⟩] at this
      exact this
    go_enter Tryz.func92, Tryz.ntmps92
    go_wp2_with (go_at_call 97; refine (Tryz.stringslite_IndexByte _ _ _).mono ?_; rintro e w' ⟨rfl, rfl⟩)
    go_ret
    exact ⟨rfl, rfl⟩
theorem SIndex_slash (s : ByteArray) (w : World) :
    Calls Tryz.prog 89 #[.string s, .string ⟨#[47]⟩] w fun e w' => e = .returned (.int .i64 (Lib.indexByte s.data.toList 47)) ∧ w = w' := by
  go_enter Tryz.func89, Tryz.ntmps89
  go_wp2_with (go_at_call 92; refine (Index_slash _ _).mono ?_; rintro e w' ⟨rfl, rfl⟩)
  go_ret
  exact ⟨rfl, rfl⟩

/-- What Cut at a slash returns. -/
def cutL (l : Bs) : Bs × Bs × Bool := if (47 : UInt8) ∈ l then (l.take (Lib.indexByte l 47).toNat, l.drop ((Lib.indexByte l 47).toNat + 1), true) else (l, [], false)
theorem index_some {l : Bs} (h : (47 : UInt8) ∈ l) : ∃ i : Nat, Lib.indexByte l 47 = i ∧ i < l.length ∧ l = l.take i ++ 47 :: l.drop (i + 1) ∧ (47 : UInt8) ∉ l.take i := by
  have hge := Lib.indexByte_ge l 47
  by_cases hm : Lib.indexByte l 47 = -1
  · have := Lib.indexByte_none hm
    obtain ⟨k, hk⟩ := List.mem_iff_getElem?.1 h
    exact absurd hk (this k)
  · obtain ⟨i, hi⟩ := Int.eq_ofNat_of_zero_le (show 0 ≤ Lib.indexByte l 47 by omega)
    obtain ⟨h1, h2⟩ := Lib.indexByte_some hi
    have hlt : i < l.length := (List.getElem?_eq_some_iff.1 h1).1
    refine ⟨i, hi, hlt, ?_, ?_⟩
    · have h3 : l[i] = 47 := (List.getElem?_eq_some_iff.1 h1).2
      rw [← h3, List.getElem_cons_drop, List.take_append_drop]
    · intro hmem
      obtain ⟨k, hk⟩ := List.mem_iff_getElem?.1 hmem
      rw [List.getElem?_take] at hk
      split at hk
      · exact h2 k (by assumption) hk
      · cases hk
theorem index_none {l : Bs} (h : (47 : UInt8) ∉ l) : Lib.indexByte l 47 = -1 := by
  have hge := Lib.indexByte_ge l 47
  by_cases hm : Lib.indexByte l 47 = -1
  · exact hm
  · obtain ⟨i, hi⟩ := Int.eq_ofNat_of_zero_le (show 0 ≤ Lib.indexByte l 47 by omega)
    obtain ⟨h1, _⟩ := Lib.indexByte_some hi
    exact absurd (List.mem_of_getElem? h1) h

end Go.Proofs.YtokaaebbmcldaaaGreatDoor
