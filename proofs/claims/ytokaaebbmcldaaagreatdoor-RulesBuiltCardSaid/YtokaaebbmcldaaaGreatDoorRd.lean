/-
  The truth of a test in a context, in the program and in the reference.
-/
import Derived.Test.YtokaaebbmcldaaaGreatDoorRc
import Derived.Laws.StructEq
namespace Go.Proofs.YtokaaebbmcldaaaGreatDoor
open Go.RowKit

/-- Is a test one of the first k lists? -/
def sndTo (t : Tst) : Nat → Bool
  | 0 => false
  | k + 1 => sndTo t k || decide (checkL t ((k : Int) + 1) = 0)
def soundL (t : Tst) : Bool := sndTo t 5
theorem snd_iff (t : Tst) : ∀ k, sndTo t k = true ↔ ∃ j : Nat, j < k ∧ checkL t ((j : Int) + 1) = 0
  | 0 => by simp [sndTo]
  | k + 1 => by
    simp only [sndTo, Bool.or_eq_true, snd_iff t k, decide_eq_true_eq]
    constructor
    · rintro (⟨j, h1, h2⟩ | h)
      · exact ⟨j, by omega, h2⟩
      · exact ⟨k, by omega, h⟩
    · rintro ⟨j, h1, h2⟩
      rcases Nat.lt_or_ge j k with h | h
      · exact .inl ⟨j, h, h2⟩
      · have : j = k := by omega
        subst this
        exact .inr h2
theorem sound_of {t : Tst} {k : Nat} (hk : k ≤ 5) (h : sndTo t k = true) : soundL t = true := by
  obtain ⟨j, h1, h2⟩ := (snd_iff t k).1 h
  exact (snd_iff t 5).2 ⟨j, by omega, h2⟩
theorem sound_no {t : Tst} {k : Nat} (hk : k ≤ 5) (h5 : 5 ≤ k) (h : sndTo t k = false) : soundL t = false := by
  obtain rfl : k = 5 := by omega
  exact h
theorem allowed_range {list f : Int} (h : allowedL list f = true) : 1 ≤ f ∧ f ≤ 22 := by
  unfold allowedL procL at h
  (repeat' split at h) <;> simp at h <;> omega
theorem owner_no_text {f : Int} (h : ownerL f = true) : textL f = false := by
  unfold ownerL at h; unfold textL; simp at h ⊢; omega
theorem sound_ok {t : Tst} (h : soundL t = true) : TstOk t := by
  obtain ⟨j, _, h2⟩ := (snd_iff t 5).1 h
  generalize (j : Int) + 1 = list at h2
  unfold checkL at h2
  split at h2
  · cases h2
  · rename_i h3
    split at h2
    · cases h2
    · rename_i h4
      simp only [not_or, not_and] at h3 h4
      have ha := allowed_range (by simpa using h3.1)
      refine ⟨ha.1, ha.2, ?_, by omega, by omega⟩
      by_cases ho : t.other = 0
      · exact .inl ho
      · obtain ⟨h5, h6, h7⟩ := h3.2 ho
        have hb := allowed_range (list := list) (f := t.other) (by simpa using h5)
        exact .inr ⟨hb.1, hb.2, owner_no_text (by simpa using h7)⟩
/-- Is an item's file one? -/
def itmOk (y : Itm) : Bool := !decide (y.file = (0, 0))
def evalP (t : Tst) (c : Ctx) : Bool :=
  if soundL t = false then false else if itemL t.fld = false ∧ itemL t.other = false then holdsP t c Itm.zero else c.items.any fun y => itmOk y && holdsP t c y
def evalR (t : Tst) (c : Ctx) : Bool :=
  if soundL t = false ∨ hasR t.fld c = false ∨ t.other ≠ 0 ∧ hasR t.other c = false then false else if itemL t.fld = false ∧ itemL t.other = false then tstL t c Itm.zero else c.items.any fun y => itmOk y && tstL t c y
theorem any_take {α : Type} (p : α → Bool) (l : List α) (k : Nat) {x : α} (hx : l[k]? = some x) : (l.take (k + 1)).any p = ((l.take k).any p || p x) := by
  obtain ⟨hk, e⟩ := List.getElem?_eq_some_iff.1 hx
  rw [List.take_succ_eq_append_getElem hk, List.any_append, e]
  simp
theorem any_of {α : Type} {p : α → Bool} {l : List α} {k : Nat} {x : α} (hx : l[k]? = some x) (h : p x = true) : l.any p = true :=
  List.any_eq_true.2 ⟨x, List.mem_of_getElem? hx, h⟩
section
set_option maxRecDepth 10000
set_option maxHeartbeats 1000000
theorem eqFil (op : BinOp) (a b c d : Int) (w : World) : (op = .eql ∨ op = .neq) → (binOp op 28 (.agg #[.int .i64 a, .int .i64 b]) (.agg #[.int .i64 c, .int .i64 d])).run Tryz.prog w = .ok (.bool (decide ((a, b) = (c, d)) == decide (op = .eql))) w := by
  have u3 := Tryz.underlying3
  have a3 := Tryz.isAgg3
  have z3 := Tryz.sizeOf3
  have hS : Tryz.prog.underlying 28 = some (.struct (Tryz.prog.fieldsOf 28)) := by kernel_rfl
  have hp : Tryz.prog.stoodInHeld 28 = false := by kernel_rfl
  have e : ∀ w, (Op.equalIn 10000 28 (.agg #[.int .i64 a, .int .i64 b]) (.agg #[.int .i64 c, .int .i64 d])).run Tryz.prog w = .ok (a == c && b == d) w := by
    intro w
    rw [show (10000 : Nat) = 9999 + 1 from rfl, run_equalIn_agg w 9999 28 _ _ hS hp]
    simp only [Program.fieldsOf, Tryz.underlying28]
    go_simp
    by_cases h1 : a = c <;> by_cases h2 : b = d <;> simp [h1, h2]
  rintro (rfl | rfl)
  · rw [run_eql_struct, e]
    by_cases h1 : a = c <;> by_cases h2 : b = d <;> simp [h1, h2]
  · rw [run_neq_struct, e]
    by_cases h1 : a = c <;> by_cases h2 : b = d <;> simp [h1, h2]
theorem Rsound (t : Tst) : AFn Tryz.prog 42 [.agg (tstA t)] (fun r => r = .v (.bool (soundL t))) := by
  refine enter Tryz.func42 rfl rfl rfl rfl rfl 0 rfl ?_
  refine aw_seq (fun K hK => ?_)
  refine aw_region ?_
  first | refine al_p rfl (s_boxA rfl rfl (by repeat constructor) ?_) | refine al_p rfl (s_box rfl rfl (by repeat constructor) ?_)
  refine al_p rfl (st_assign rfl ?_)
  refine al_nil ?_
  refine x_then ?_
  refine hK _ ?_
  clear hK K
  refine aw_seq (fun K hK => ?_)
  refine aw_seq (fun K hK => ?_)
  refine aw_region ?_
  refine al_p rfl (st_assign rfl ?_)
  refine al_nil ?_
  refine x_then ?_
  refine hK _ ?_
  clear hK K
  refine aw_block ?_
  refine aw_loopW (fun n s => ∃ k : Nat, k ≤ 5 ∧ n = 5 - k ∧ sndTo t k = false ∧ s = ⟨look [(1, .bp 0 0), (3, .v (.int .i64 ((k : Int) + 1)))], ⟨[tstA t], []⟩⟩) (5) ((wk 1 0)) (⟨0, by omega, rfl, rfl, rfl⟩) ?_
  rintro n s ⟨k, hk, rfl, hs, rfl⟩
  refine aw_seq (fun K hK => ?_)
  refine aw_seq (fun K hK => ?_)
  refine aw_region ?_
  refine al_p rfl (st_move rfl ?_)
  refine al_p rfl (st_leq rfl rfl ?_)
  refine al_nil ?_
  refine x_then ?_
  refine hK _ ?_
  clear hK K
  refine aw_cond rfl (fun hb1 => ?_) (fun hb1 => ?_)
  · have hc1 := bp hb1
    refine aw_skip ?_
    refine x_then ?_
    refine hK _ ?_
    clear hK K
    refine aw_seq (fun K hK => ?_)
    refine aw_block ?_
    refine aw_seq (fun K hK => ?_)
    refine aw_region ?_
    refine al_p rfl (st_loadBW rfl rfl rfl ?_)
    refine al_p rfl (st_move rfl ?_)
    refine al_p rfl (q_call (Rcheck _ _) ?_)
    rintro r rfl
    first | refine al_p rfl (st_eql rfl rfl ?_) | refine al_p rfl (st_eqlS rfl rfl ?_) | refine al_p rfl (st_eqlB (by kernel_rfl) rfl rfl ?_)
    refine al_nil ?_
    refine x_then ?_
    refine hK _ ?_
    clear hK K
    refine aw_cond rfl (fun hb2 => ?_) (fun hb2 => ?_)
    · have hc2 := bp hb2
      refine aw_seq (fun K hK => ?_)
      refine aw_region ?_
      refine al_p rfl (st_assign rfl ?_)
      refine al_nil ?_
      refine x_then ?_
      refine hK _ ?_
      clear hK K
      refine aw_ret ?_
      refine x_blockR ?_
      refine x_thenR ?_
      clear hK K
      refine x_thenR ?_
      refine x_blockR ?_
      refine x_thenR ?_
      clear hK K
      refine e_ret ?_
      first | (exfalso; first | contradiction | omega) | (exact vb (by rw [sound_of (k := k + 1) (by omega) (by simp [sndTo]; omega)]))
    · have hc2 := bp hb2
      refine aw_skip ?_
      refine x_blockN ?_
      refine x_then ?_
      refine hK _ ?_
      clear hK K
      refine aw_region ?_
      refine al_p rfl (st_move rfl ?_)
      first | refine al_p rfl (st_add64 rfl rfl (by omega) ?_) | refine al_p rfl (st_addS rfl rfl (by omega) ?_) | refine al_p rfl (st_add rfl rfl ?_)
      refine al_p rfl (st_assign rfl ?_)
      refine al_nil ?_
      refine x_then ?_
      refine ⟨_, _, ?_, ⟨k + 1, by omega, rfl, by simp [sndTo, hs]; omega, rfl⟩, (wk 1 0)⟩
      omega
  · have hc1 := bp hb1
    refine aw_exit ?_
    refine x_thenE ?_
    clear hK K
    refine x_thenE ?_
    refine ABlock_out ?_
    refine x_then ?_
    refine hK _ ?_
    clear hK K
    refine aw_seq (fun K hK => ?_)
    refine aw_region ?_
    refine al_p rfl (st_assign rfl ?_)
    refine al_nil ?_
    refine x_then ?_
    refine hK _ ?_
    clear hK K
    refine aw_ret ?_
    refine e_ret ?_
    first | (exfalso; first | contradiction | omega) | (exact vb (by rw [sound_no hk (by omega) hs]))

end
end Go.Proofs.YtokaaebbmcldaaaGreatDoor
