/-
  What is said of Split and Join by both sides.
-/
import Derived.Test.YtokaaebbmcldaaaGreatDoorOwn
import Derived.Test.YtokaaebbmcldaaaGreatDoorSeqA
namespace Go.Proofs.YtokaaebbmcldaaaGreatDoor
open Go.RowKit

/-- What a call leaves that returns pieces. -/
def SplitQ (l : Bs) (w : World) (e : Ending) (w' : World) : Prop := ∃ (v : Value) (ss : List Str), e = .returned (.tuple #[v, .bool (decide (l.head? = some 47)), .bool (decide (l.getLast? = some 47))]) ∧ StrsR w' (Fresh w w') v ss ∧ bls ss = pieces l ∧ Below w.heap.size w w'
theorem hasSuffix_slash (l : Bs) : Lib.hasSuffix l [47] = decide (l.getLast? = some 47) := by
  unfold Lib.hasSuffix
  rw [Bool.eq_iff_iff, List.isSuffixOf_iff_suffix, decide_eq_true_iff]
  rcases List.eq_nil_or_concat l with rfl | ⟨a, x, rfl⟩
  · simp
  · simp only [List.concat_eq_append, List.getLast?_concat, Option.some.injEq]
    constructor
    · rintro ⟨t, ht⟩
      have := congrArg List.getLast? ht
      simpa [eq_comm] using this
    · rintro rfl
      exact ⟨a, rfl⟩
theorem pieces_len (l : Bs) : (pieces l).length ≤ l.length + 1 := by
  have h1 : (pieces l).length ≤ (segs l).length := List.length_filter_le _ _
  have h2 : (segs l).length ≤ l.length + 1 := by
    clear h1
    induction l with
    | nil => simp [segs]
    | cons c t ih =>
      rw [segs_cons]
      split
      · simp; omega
      · split
        · simp
        · rename_i h
          rw [h] at ih
          simp at ih ⊢
          omega
  omega
theorem flat_str (xs : List Str) : flat 1 strCell xs = xs.map Value.string := by
  induction xs with
  | nil => rfl
  | cons x xs ih =>
    unfold flat at ih ⊢
    rw [List.flatMap_cons, ih]
    rfl
theorem Tryz.infoStr : (Tryz.prog.info? 9).map (fun i => (i.zero, i.size, i.bytes)) = some (some (.string ⟨#[]⟩), 1, 16) := by kernel_rfl

theorem slash_size' : ({ data := #[47] } : ByteArray).size = 1 := rfl
theorem app_data (a b : ByteArray) : (a ++ b).data.toList = a.data.toList ++ b.data.toList := by simp [ByteArray.data_append]
/-- A string that is a list. -/
def StrQ (l : Bs) (w : World) (e : Ending) (w' : World) : Prop := ∃ r : Str, e = .returned (.string r) ∧ r.data.toList = l ∧ w = w'

end Go.Proofs.YtokaaebbmcldaaaGreatDoor
