/-
  Part 6 of the proof of LookupLoopsP: what the statement's proof uses of the texts in wip/tpl.
-/
import Derived.Test.YtaidkbnbfnaihaaProg
import Derived.WalkKit
import Derived.WalkSpells
import Derived.WalkLawsBesides
import Derived.Deep.QuietTactic
import Derived.BigQuiet
import Derived.Lib.Hide
import Derived.Outline
import Derived.RangeFuncNested
import Derived.RangeFuncBound
import Derived.RangeFuncCalls
import Derived.RangeFuncLeaves
import Derived.Shelf.Abstract
import Derived.Shelf.RegionOpen
import Derived.OwnWalkIn
import Derived.TacticsInMore
import Derived.LoopNIn
import Derived.LoopIn
import Derived.WalkMore
import Derived.Maps.AppendAt
import Derived.OwnWalk
import Derived.Test.YtaidkbnbfnaihaaLl5
namespace Go.Proofs.Ytaidkbnbfnaihaa
open Go.RowKit

section
set_option maxRecDepth 10000
set_option maxHeartbeats 1000000
theorem PisDirM (s : Spc) (a : Fil) (hs : SpcB s) : AFn Try.prog 81 [.agg (spcA s), .agg (filA a)] (fun r => r = .v (.bool (dirL s.files a))) := by
  refine enter Try.func81 rfl rfl rfl rfl rfl 0 rfl ?_
  refine w_ (b_ (h:=b_ (h:=a_ (h:=e_ (w_ (f_ (h:=l_ (h:=l_ (h:=?_)))))))))
  refine al_p rfl (q_call (Pnode s.files a hs.files) ?_)
  rintro r rfl
  refine m_ (h:=x_ (h:=x_ (h:=al_ (h:=s_ (h:=a_ (h:=e_ (w_ (m_ (h:=m_ (h:=?_))))))))))
  refine al_gs true rfl rfl (fun hb1 => ?_) (fun hb1 => ?_)
  · have hc1 := bp hb1
    refine f_ (h:=l_ (h:=eq_ (h:=pt_ (h:=a_ (h:=e_ (aw_ret (?_)))))))
    refine e_ret ?_
    exact vb (by rw [dirL_eq]; simp [*])
  · have hc1 := bp hb1
    refine g0_ (h:=g0_ (h:=g0_ (h:=pf_ (h:=a_ (h:=e_ (aw_ret (?_)))))))
    refine e_ret ?_
    exact vb (by rw [dirL_eq]; simp [*])

end
end Go.Proofs.Ytaidkbnbfnaihaa
namespace Go.Proofs.Ytaidkbnbfnaihaa
open Go.RowKit

def chgA (c : Chg) : List AV := [.v (.int .i64 c.1.1), .v (.int .i64 c.1.2), .v (.string c.2.1), .v (.int .i64 c.2.2.1.1), .v (.int .i64 c.2.2.1.2), .v (.int .i64 c.2.2.2.1), .v (.int .i64 c.2.2.2.2)]
section
set_option maxRecDepth 10000
set_option maxHeartbeats 1000000
theorem Rone (d : Fil) (name : Str) (o n : Fil) : AFn Try.prog 47 [.agg (filA d), .v (.string name), .agg (filA o), .agg (filA n)] (fun r => r = .sl 7 [chgA (d, name, o, n)] none) := by
  refine enter Try.func47 rfl rfl rfl rfl rfl 0 rfl ?_
  refine w_ (b_ (h:=b_ (h:=b_ (h:=a_ (h:=e_ (w_ (l_ (h:=m_ (h:=l_ (h:=l_ (h:=bd_ (h:=bs_ (h:=a_ (h:=e_ (aw_ret (?_))))))))))))))))
  refine e_ret ?_
  rfl

theorem newL_bad {n : Int} (h : n < 1 ∨ 3 < n) : newL n = ([], 50) := by unfold newL; rw [if_pos h]
theorem newL_ok {k : Nat} (h1 : ¬ (k : Int) < 1) (h2 : ¬ 3 < (k : Int)) : newL (k : Int) = (List.replicate k rootDvc, 0) := by unfold newL; rw [if_neg (by omega)]; simp
theorem Rnew (n : Int) : AFn Try.prog 21 [.v (.int .i64 n)] (fun r => r = .tup [.agg (flsA (newL n).1), .v (.int .i64 (newL n).2)]) := by
  refine enter Try.func21 rfl rfl rfl rfl rfl 0 rfl ?_
  refine w_ (al_ (h:=a_ (h:=e_ (q_ (w_ (m_ (h:=lt_ (h:=m_ (h:=?_)))))))))
  refine al_gs false rfl rfl (fun hb1 => ?_) (fun hb1 => ?_)
  · have hc1 := bp hb1
    refine g0_ (h:=g0_ (h:=pt_ (h:=e_ (cy_ (h:=w_ (bd_ (h:=s_ (h:=a_ (h:=e_ (aw_ret (x_thenR (?_))))))))))))
    refine rt_ (r := .tup [.agg (flsA (newL n).1), .v (.int .i64 (newL n).2)]) none (h5 := ?_) (h6 := ⟨rfl, rfl, rfl⟩)
    rw [newL_bad (by omega)]
    exact (by repeat (first | exact LeA.refl _ | exact LeA.nil _ | exact LeL.refl _ | refine LeA.agg ?_ | refine LeA.tup ?_ | exact LeL.nil | refine LeL.cons ?_ ?_ | exact LeA.any _))
  · have hc1 := bp hb1
    refine m_ (h:=gt_ (h:=pf_ (h:=e_ (?_))))
    refine aw_cond rfl (fun hb2 => ?_) (fun hb2 => ?_)
    · have hc2 := bp hb2
      refine w_ (bd_ (h:=s_ (h:=a_ (h:=e_ (aw_ret (x_thenR (?_)))))))
      refine rt_ (r := .tup [.agg (flsA (newL n).1), .v (.int .i64 (newL n).2)]) none (h5 := ?_) (h6 := ⟨rfl, rfl, rfl⟩)
      rw [newL_bad (by omega)]
      exact (by repeat (first | exact LeA.refl _ | exact LeA.nil _ | exact LeL.refl _ | refine LeA.agg ?_ | refine LeA.tup ?_ | exact LeL.nil | refine LeL.cons ?_ ?_ | exact LeA.any _))
    · have hc2 := bp hb2
      obtain ⟨k, rfl⟩ := Int.eq_ofNat_of_zero_le (show 0 ≤ n by omega)
      refine kt_ (w_ (al_ (h:=e_ (q_ (w_ (a_ (h:=e_ (aw_block (?_)))))))))
      refine aw_nilTokB 1 0 47 2 rfl rfl (by repeat constructor) (by repeat constructor) (by repeat constructor) ?_
      refine aw_loopW (fun m s => ∃ j : Nat, j ≤ k ∧ m = k - j ∧ s = ⟨look [(0, .v (.int .i64 (k : Int))), (2, .bp 0 0), (4, .bp 1 0), (5, .v (.int .i64 (j : Int)))], ⟨[[.v (.slice none 0 0)], [.sl 2 ((List.replicate j rootDvc).map dvcA) (some 0)]], [(47, 2, (List.replicate j rootDvc).map dvcA)]⟩⟩) (k) ((wk 2 1)) (⟨0, by omega, rfl, rfl⟩) ?_
      rintro m s ⟨j, hj, rfl, rfl⟩
      refine q_ (w_ (m_ (h:=m_ (h:=lt_ (h:=e_ (?_))))))
      refine aw_cond rfl (fun hb3 => ?_) (fun hb3 => ?_)
      · have hc3 := bp hb3
        refine kt_ (q_ (aw_block (aw_region (f_ (h:=l_ (h:=?_))))))
        refine al_p rfl (st_le (y := .agg (nodA rootNod)) (st_build (by repeat (first | exact FillA.nil _ | (apply FillA.cons; (focus exact rfl); (focus exact rfl); (focus exact rfl); (focus exact rfl); (focus exact rfl); (focus (repeat constructor))))) ⟨rfl, rfl⟩) (by repeat (first | exact LeA.refl _ | exact LeA.nil _ | exact LeL.refl _ | refine LeA.agg ?_ | refine LeA.tup ?_ | exact LeL.nil | refine LeL.cons ?_ ?_ | exact LeA.any _)) ?_)
        refine bs_ (h:=bd_ (h:=bs_ (h:=?_)))
        first | refine al_p rfl (s_append rfl rfl rfl (by simp; omega) (by repeat constructor) ?_) | refine al_p rfl (s_append0 rfl rfl (by simp; omega) (by repeat constructor) ?_)
        refine f_ (h:=s_ (h:=al_nil (x_blockN (t_ (aw_region (m_ (h:=ad_ (h:=a_ (h:=al_nil (?_))))))))))
        refine x_then ?_
        refine ⟨_, _, ?_, ⟨j + 1, by omega, rfl, rfl⟩, (by rw [List.replicate_succ', List.map_append]; exact (wk 2 1))⟩
        omega
      · have hc3 := bp hb3
        obtain rfl : j = k := by omega
        refine aw_exit (x_thenE (x_thenE (ABlock_out (t_ (w_ (l_ (h:=s_ (h:=a_ (h:=e_ (aw_ret (?_)))))))))))
        refine e_ret ?_
        rw [newL_ok hc1 hc2]
        rfl

end
end Go.Proofs.Ytaidkbnbfnaihaa
namespace Go.Proofs.Ytaidkbnbfnaihaa
open Go.RowKit

def Old (w : World) : Nat → Prop := fun b => b < w.heap.size
def Fresh (w w' : World) : Nat → Prop := fun b => w.heap.size ≤ b ∧ b < w'.heap.size
def few : Nat := 65536

theorem below_drewN {B : Nat} {a w : World} (h : Below B a w) (n : Nat) : Below B a (w.drewN n) := ⟨h.os, h.tape, h.output, h.size, h.block⟩
theorem grown_of_below {w w' : World} (h : Below w.heap.size w w') (g : Option Nat) : w.grownBy w' g := ⟨h.os, h.tape, h.output, h.size, fun k hk _ => h.block k hk⟩

def RowL {α : Type} (sz : Nat) (cell : α → Nat → Value) (w : World) (D : Nat → Prop) (A : Option Addr) (xs : List α) : Prop :=
  0 < xs.length → ∃ b off, A = some ⟨b, off, none⟩ ∧ D b ∧ ∀ i x j, xs[i]? = some x → j < sz → w.cell? ⟨b, off + i * sz + j, none⟩ = some (cell x j)
def ListR {α : Type} (sz : Nat) (cell : α → Nat → Value) (w : World) (D : Nat → Prop) (v : Value) (xs : List α) : Prop :=
  ∃ A c, v = .slice A xs.length c ∧ xs.length ≤ c ∧ xs.length ≤ few ∧ RowL sz cell w D A xs

section
variable {α : Type} {sz : Nat} {cell : α → Nat → Value} {w w' : World} {D D' : Nat → Prop} {A : Option Addr} {v : Value} {xs : List α}
theorem ListR.nil_ : ListR sz cell w D (.slice none 0 0) [] := ⟨none, 0, rfl, Nat.le_refl _, Nat.zero_le _, fun h => absurd h (by simp)⟩
end

def strCell (s : Str) : Nat → Value
  | _ => .string s
abbrev StrsR := ListR 1 strCell
def FilV (at_ : Fil) : Value := .agg #[.int .i64 at_.1, .int .i64 at_.2]

theorem ret_bool {a b : Bool} (h : a = b) : Ending.returned (.bool a) = .returned (.bool b) := by rw [h]
theorem cell_of {w : World} {g : Nat} {cs : Array Value} {t : TypeId} {fz : Nat × Nat} (h : w.heap[g]? = some (.cells cs t fz)) (i : Nat) : w.cell? ⟨g, i, none⟩ = cs[i]? := by
  simp [World.cell?, h]
theorem frozen_of {w : World} {g : Nat} {cs : Array Value} {t : TypeId} (h : w.heap[g]? = some (.cells cs t (0, 0))) (i : Nat) : w.frozen? ⟨g, i, none⟩ = false := by
  simp [World.frozen?, h]

theorem blk_alloc {w : World} {b : Nat} {o : Obj} (h : w.heap[b]? = some o) (o' : Obj) : (w.alloc o').heap[b]? = some o := by
  have hb : b < w.heap.size := by
    rcases Nat.lt_or_ge b w.heap.size with hlt | hge
    · exact hlt
    · rw [Array.getElem?_eq_none hge] at h; cases h
  exact (Below.heap_alloc w o' b hb).trans h
theorem cells_of {w : World} {g : Nat} {cs : Array Value} {t : TypeId} (h : w.heap[g]? = some (.cells cs t (0, 0))) : (∀ i, w.cell? ⟨g, i, none⟩ = cs[i]?) ∧ (∀ i, w.frozen? ⟨g, i, none⟩ = false) :=
  ⟨fun i => cell_of h i, fun i => frozen_of h i⟩
theorem blk_set {w : World} {b : Nat} {cs : Array Value} {t : TypeId} {fz : Nat × Nat} (h : w.heap[b]? = some (.cells cs t fz)) (i : Nat) (u : Value) : (w.setCell ⟨b, i, none⟩ u).heap[b]? = some (.cells (cs.setIfInBounds i u) t fz) := by
  simp [World.setCell, Array.getElem?_modify, h]
theorem blk_far {w : World} {b : Nat} {o : Obj} (h : w.heap[b]? = some o) {p : Addr} (hp : b ≠ p.block) (u : Value) : (w.setCell p u).heap[b]? = some o := (Below.heap_setCell w p u b hp).trans h
theorem blk_below {w w' : World} {b B : Nat} {o : Obj} (h : w.heap[b]? = some o) (hg : Below B w w') (hb : b < B) : w'.heap[b]? = some o := (hg.block b hb).trans h


theorem below_a1 (w : World) (o1 : Obj) : Below w.heap.size w (w.alloc o1) := by
  exact (Below.refl _ w).alloc (Nat.le_refl _) _
theorem size_a1 (w : World) (o1 : Obj) : (w.alloc o1).heap.size = w.heap.size + 1 := by simp
theorem blk_a1_0 (w : World) (o1 : Obj) : (w.alloc o1).heap[w.heap.size]? = some o1 := (by have := heap_alloc_new w o1; simpa using this)
theorem below_a2 (w : World) (o1 o2 : Obj) : Below w.heap.size w ((w.alloc o1).alloc o2) := by
  exact (below_a1 w o1).alloc (by simp <;> omega) _
theorem size_a2 (w : World) (o1 o2 : Obj) : ((w.alloc o1).alloc o2).heap.size = w.heap.size + 2 := by simp
theorem blk_a2_0 (w : World) (o1 o2 : Obj) : ((w.alloc o1).alloc o2).heap[w.heap.size]? = some o1 := blk_alloc (blk_a1_0 w o1) _
theorem blk_a2_1 (w : World) (o1 o2 : Obj) : ((w.alloc o1).alloc o2).heap[w.heap.size + 1]? = some o2 := (by have := heap_alloc_new (w.alloc o1) o2; simpa using this)
theorem below_a3 (w : World) (o1 o2 o3 : Obj) : Below w.heap.size w (((w.alloc o1).alloc o2).alloc o3) := by
  exact (below_a2 w o1 o2).alloc (by simp <;> omega) _
theorem blk_a3_0 (w : World) (o1 o2 o3 : Obj) : (((w.alloc o1).alloc o2).alloc o3).heap[w.heap.size]? = some o1 := blk_alloc (blk_a2_0 w o1 o2) _
theorem blk_a3_1 (w : World) (o1 o2 o3 : Obj) : (((w.alloc o1).alloc o2).alloc o3).heap[w.heap.size + 1]? = some o2 := blk_alloc (blk_a2_1 w o1 o2) _
theorem blk_a3_2 (w : World) (o1 o2 o3 : Obj) : (((w.alloc o1).alloc o2).alloc o3).heap[w.heap.size + 1 + 1]? = some o3 := (by have := heap_alloc_new ((w.alloc o1).alloc o2) o3; simpa using this)
theorem below_a4 (w : World) (o1 o2 o3 o4 : Obj) : Below w.heap.size w ((((w.alloc o1).alloc o2).alloc o3).alloc o4) := by
  exact (below_a3 w o1 o2 o3).alloc (by simp <;> omega) _
theorem blk_a4_0 (w : World) (o1 o2 o3 o4 : Obj) : ((((w.alloc o1).alloc o2).alloc o3).alloc o4).heap[w.heap.size]? = some o1 := blk_alloc (blk_a3_0 w o1 o2 o3) _
theorem blk_a4_1 (w : World) (o1 o2 o3 o4 : Obj) : ((((w.alloc o1).alloc o2).alloc o3).alloc o4).heap[w.heap.size + 1]? = some o2 := blk_alloc (blk_a3_1 w o1 o2 o3) _
theorem blk_a4_2 (w : World) (o1 o2 o3 o4 : Obj) : ((((w.alloc o1).alloc o2).alloc o3).alloc o4).heap[w.heap.size + 1 + 1]? = some o3 := blk_alloc (blk_a3_2 w o1 o2 o3) _
theorem blk_a4_3 (w : World) (o1 o2 o3 o4 : Obj) : ((((w.alloc o1).alloc o2).alloc o3).alloc o4).heap[w.heap.size + 1 + 1 + 1]? = some o4 := (by have := heap_alloc_new (((w.alloc o1).alloc o2).alloc o3) o4; simpa using this)

end Go.Proofs.Ytaidkbnbfnaihaa
namespace Go.Proofs.Ytaidkbnbfnaihaa
open Go.RowKit

structure Moves (own : Nat → Prop) (B : Nat) (X Y : World) : Prop where
  os : Y.os = X.os
  tape : Y.tape = X.tape
  output : Y.output = X.output
  size : X.heap.size ≤ Y.heap.size
  block : ∀ k, k < X.heap.size → ¬ own k → (k < B ∨ ∃ o : Obj, X.heap[k]? = some o ∧ o.isCells = true) → Y.heap[k]? = X.heap[k]?

section
variable {own : Nat → Prop} {B : Nat} {X Y Z : World}
theorem Moves.mono (h : Moves own B X Y) {B' : Nat} (hB : B' ≤ B) : Moves own B' X Y :=
  ⟨h.os, h.tape, h.output, h.size, fun i hi ho hb => h.block i hi ho (by
    rcases hb with hb | hb
    · exact .inl (Nat.lt_of_lt_of_le hb hB)
    · exact .inr hb)⟩
theorem Moves.below (h : Below X.heap.size X Y) : Moves own B X Y := ⟨h.os, h.tape, h.output, h.size, fun i hi _ _ => h.block i hi⟩
theorem Moves.grown {g : Nat} (h : X.grownBy Y (some g)) (hg : own g) : Moves own B X Y :=
  ⟨h.os, h.tape, h.output, h.size, fun i hi ho _ => h.block i hi (fun e => ho (by injection e with e; rw [e]; exact hg))⟩
theorem Moves.set_ (X : World) {b : Nat} (hb : own b) (v : Value) : Moves own B X (X.setCell ⟨b, 0, none⟩ v) := Moves.grown (grownBy_setCell' X b v) hb
theorem Moves.put_ {l : Nat} {o : Obj} (o' : Obj) (hl : X.heap[l]? = some o) (ho : o.isCells = false) (hB : B ≤ l) : Moves own B X (X.putObj l o') :=
  have h := grownBy_putObj' X l o'
  ⟨h.os, h.tape, h.output, h.size, fun i hi _ hb => h.block i hi (fun e => by
    injection e with e
    subst e
    rcases hb with hb | ⟨o2, h1, h2⟩
    · omega
    · rw [hl] at h1; injection h1 with h1; subst h1; rw [ho] at h2; cases h2)⟩
theorem Moves.boxed (h : Moves own B X Y) {b : Nat} {t : TypeId} {v : Value} (hb : Boxed X b t v) (hn : ¬ own b) : Boxed Y b t v :=
  (h.block b hb.lt hn (.inr ⟨_, hb, rfl⟩)).trans hb
theorem Moves.under (h : Moves own B X Y) {n₀ : Nat} {w : World} (hb : Below n₀ w X) (hn : n₀ ≤ w.heap.size) (ho : ∀ b, own b → n₀ ≤ b) (hB : n₀ ≤ B) : Below n₀ w Y :=
  ⟨h.os.trans hb.os, h.tape.trans hb.tape, h.output.trans hb.output, Nat.le_trans hb.size h.size, fun i hi => by
    refine (h.block i (by have := hb.size; omega) (fun e => ?_) (.inl (by omega))).trans (hb.block i hi)
    have := ho i e
    omega⟩
end

theorem keepsFrom_below {B : Nat} {X Y : World} (h : Below X.heap.size X Y) : KeepsFrom B X Y := ⟨h.size, fun k _ _ hk _ => (h.block k (Array.getElem?_eq_some_iff.1 hk).1).trans hk⟩
theorem keepsFrom_set {B : Nat} {X Y : World} (h : KeepsFrom B X Y) {b : Nat} (hb : b < B) (v : Value) : KeepsFrom B X (Y.setCell ⟨b, 0, none⟩ v) :=
  h.trans (KeepsFrom.of_grownBy (grownBy_setCell' Y b v) (fun j e => by cases e; exact hb))
theorem boxed_put {W : World} {b D : Nat} {t : TypeId} {v : Value} (h : Boxed W b t v) (hne : b ≠ D) (o : Obj) : Boxed (W.putObj D o) b t v := h.kept (grownBy_putObj' W D o) (fun e => hne (by injection e))
theorem below_put {B : Nat} {w W : World} (h : Below B w W) {D : Nat} (hD : B ≤ D) (o : Obj) : Below B w (W.putObj D o) :=
  have g := grownBy_putObj' W D o
  ⟨g.os.trans h.os, g.tape.trans h.tape, g.output.trans h.output, Nat.le_trans h.size g.size, fun k hk => (World.putObj_heap_other (by omega)).trans (h.block k hk)⟩
theorem wideCall {P : Program} {n m f : Nat} {args : Array Value} {w : World} {R : Ending → World → Prop} (h : CallsIn Fence.wide m P f args w R) :
    Fence.wide.fn f ∧ (Fence.wide.depth.isSome = true → 1 ≤ n) ∧ CallsIn Fence.wide m P f args w R := ⟨trivial, (fun h => by cases h), h⟩
def SeqW {α : Type} (F : Fence) (n : Nat) (P : Program) (g : Nat) (lb : Array Value) (encs : α → Array Value) (own : Nat → Prop) (Kp : World → World → Prop) (Pf : List α → Prop) (S Sp : List α → Prop) (w : World) : Prop :=
  ∀ (l : Nat) (J Jx : List α → World → Prop) (W : World), Below w.heap.size w W →
    (∀ s X Y, J s X → Moves own W.heap.size X Y → J s Y) → (∀ s X Y, Jx s X → Moves own W.heap.size X Y → Jx s Y) →
    (∀ pre x W1, J pre W1 → Pf (pre ++ [x]) → YieldAt F (n - 1) P l (encs x) W1 fun e W' =>
      (e = .returned (.bool true) ∧ J (pre ++ [x]) W' ∧ Kp W1 W') ∨ (e = .returned (.bool false) ∧ Jx (pre ++ [x]) W')) →
    J [] W →
    CallsIn F n P g (#[.func (.yield l) #[] #[]] ++ lb) W fun e W' => (∃ v, e = .returned v) ∧ ((∃ xs, S xs ∧ J xs W') ∨ (∃ pre, Sp pre ∧ Jx pre W'))

variable {F : Fence} {n : Nat} {P : Program}

theorem wpIn_rangeFunc_st {α : Type} {g : Operand} {ps : Array Tmp} {assign body : Code} {Q : Exit → Act → World → Prop} {a : Act} {w : World}
    (hro : F.round = none) (h1 : 1 ≤ n) {gf : Nat} {lb : Array Value} (hg : a.eval g = .func (.func gf) #[] lb) (hFg : F.fn gf) (eg : ∀ args w, (callFunc gf args).run P w = .ok (.enter gf args) w)
    {encs : α → Array Value} {own : Nat → Prop} {Kp : World → World → Prop} {Pf : List α → Prop} {S Sp : List α → Prop} {w0 : World} (hseq : SeqW F (n - 1) P gf lb encs own Kp Pf S Sp w0)
    (hown : ∀ b, own b → b < w.heap.size) (hKt : ∀ {A B C : World}, Kp A B → Kp B C → Kp A C) (hKb : ∀ (W : World) (l : Nat) (o o' : Obj), w.heap.size ≤ l → W.heap[l]? = some o → o.isCells = false → Kp W (W.putObj l o'))
    (hb0 : Below w0.heap.size w0 w) (hps : ∀ x, (encs x).size = ps.size)
    (I : List α → World → Prop) (Ix : Code → List α → World → Prop) (hI : ∀ s X Y, I s X → Moves own w.heap.size X Y → I s Y) (hIx : ∀ c s X Y, Ix c s X → Moves own w.heap.size X Y → Ix c s Y) (h0 : I [] w) (a₁ : α → Act)
    (hassign : ∀ (l : Nat) (x : α) (W : World) (K : Act → World → Prop), K (a₁ x) W →
      assign.wpIn (F.inRound l) (n - 1 - 1) P (Exit.then K (fun _ _ _ => False)) { tmps := (ps.zip (encs x)).foldl (fun t (p, v) => t.setIfInBounds p v) a.tmps, defers := [] } W)
    (hbody : ∀ (l : Nat) (pre : List α) (x : α) (W : World), I pre W → Pf (pre ++ [x]) → w.heap.size + 2 ≤ W.heap.size → body.wpIn (F.inRound l) (n - 1 - 1) P (ownPostG w.heap.size Kp I Ix (pre ++ [x]) W) (a₁ x) W)
    (hdone : ∀ (D : Nat) (xs : List α) (W : World), w.heap.size ≤ D → S xs → I xs W → W.heap[D]? = some (.deferred (some [])) → Q .normal { a with defers := { target := .collected D, args := #[] } :: a.defers } W)
    (hstop : ∀ (D : Nat) (c : Code) (pre : List α) (W : World), w.heap.size ≤ D → Sp pre → Ix c pre W → W.heap[D]? = some (.deferred (some [])) → c.wpIn F n P Q { a with defers := { target := .collected D, args := #[] } :: a.defers } W) :
    (Code.rangeFunc g ps assign body).wpIn F n P Q a w := by
  refine wpIn_rangeFunc ?_
  intro fn hfn
  rw [hro]
  obtain ⟨rec, hrec⟩ : ∃ rec : LoopState → Option Code → Loop, rec = fun st pe => { state := st, pending := pe, fn, tmps := a.tmps, params := ps, assign, body, defers := w.heap.size } := ⟨_, rfl⟩
  obtain ⟨W1, hW1⟩ : ∃ W1, (w.alloc (.deferred (some []))).alloc (.loop (rec .ready none)) = W1 := ⟨_, rfl⟩
  have hbw : Below w.heap.size w W1 := by rw [← hW1]; exact below_a2 w _ _
  have hsz : W1.heap.size = w.heap.size + 2 := by rw [← hW1]; simp
  have hL1 : W1.heap[w.heap.size + 1]? = some (.loop (rec .ready none)) := by rw [← hW1]; exact blk_a2_1 _ _ _
  have hK1 : W1.heap[w.heap.size]? = some (.deferred (some [])) := by rw [← hW1]; exact blk_a2_0 _ _ _
  have hn0 : ¬ own w.heap.size := fun h => by have := hown _ h; omega
  have hn1 : ¬ own (w.heap.size + 1) := fun h => by have := hown _ h; omega
  refine ⟨w.heap.size + 1, [{ target := .collected w.heap.size, args := #[] }], W1, { target := .fn (.func gf) lb, args := #[.func (.yield (w.heap.size + 1)) #[] #[]] }, W1, gf,
    #[.func (.yield (w.heap.size + 1)) #[] #[]] ++ lb, W1, ?_, ?_, ?_, ?_, fun _ => h1, ?_⟩
  · rw [← hW1, hrec]; exact run_enterLoop_outer _ _ _ _ _
  · simp only [resolve, hg]
    simp [go_sem]
  · intro f' hf'; simp [Target.leads] at hf'; subst hf'; exact hFg
  · simp [invoke, go_sem, eg]
  · have lt_of : ∀ {W : World} {k : Nat} {o : Obj}, W.heap[k]? = some o → k < W.heap.size := fun h => (Array.getElem?_eq_some_iff.1 h).1
    have keep : ∀ {X Y : World} {k : Nat} {o : Obj}, Moves own W1.heap.size X Y → X.heap[k]? = some o → k < W1.heap.size → ¬ own k → Y.heap[k]? = some o := fun hm hx hk hn => (hm.block _ (lt_of hx) hn (.inl hk)).trans hx
    refine (hseq (w.heap.size + 1)
      (fun pre W => I pre W ∧ W.heap[w.heap.size + 1]? = some (.loop (rec .ready none)) ∧ W.heap[w.heap.size]? = some (.deferred (some [])))
      (fun pre W => ∃ c, Ix c pre W ∧ W.heap[w.heap.size + 1]? = some (.loop (rec .done (some c))) ∧ W.heap[w.heap.size]? = some (.deferred (some [])))
      W1 (hb0.trans (hbw.mono hb0.size))
      (fun s X Y hs hm => ⟨hI s X Y hs.1 (hm.mono (by omega)), keep hm hs.2.1 (by omega) hn1, keep hm hs.2.2 (by omega) hn0⟩)
      (fun s X Y hs hm => by
        obtain ⟨c, hc, hl, hk⟩ := hs
        exact ⟨c, hIx c s X Y hc (hm.mono (by omega)), keep hm hl (by omega) hn1, keep hm hk (by omega) hn0⟩)
      ?_ ⟨hI _ _ _ h0 (.below hbw), hL1, hK1⟩).mono ?_
    · rintro pre x W ⟨hi, hl, hk⟩ hpf
      have hlt : w.heap.size + 1 < W.heap.size := lt_of hl
      have hy := run_yield (P := P) (args := encs x) hl (by rw [hrec]; exact hps x)
      rw [hrec] at hy
      refine ⟨fn, _, assign, body, hy, roundIn_of_wpIn hfn (hassign _ x W _ ⟨_, run_beginRound hl (by rw [hrec]), ?_⟩)⟩
      have hl2 : (W.putObj (w.heap.size + 1) (.loop { rec .ready none with state := .busy })).heap[w.heap.size + 1]? = some (.loop { rec .ready none with state := .busy }) := World.putObj_heap_same hlt
      have hk2 : (W.putObj (w.heap.size + 1) (.loop { rec .ready none with state := .busy })).heap[w.heap.size]? = some (.deferred (some [])) := (World.putObj_heap_other (by omega)).trans hk
      have hw2 : Kp W (W.putObj (w.heap.size + 1) (.loop { rec .ready none with state := .busy })) := hKb _ _ _ _ (by omega) hl rfl
      refine wpIn_mono (hbody _ pre x _ (hI _ _ _ hi (.put_ _ hl rfl (by omega))) hpf (lt_of hl2)) ?_
      have fin : ∀ (jump : Option Code) (W3 : World), KeepsFrom w.heap.size (W.putObj (w.heap.size + 1) (.loop { rec .ready none with state := .busy })) W3 →
          (Instr.endRound (w.heap.size + 1) jump).run P W3 = .ok (.bool jump.isNone) (W3.putObj (w.heap.size + 1) (.loop (rec (if jump.isNone then .ready else .done) jump))) ∧
          W3.heap[w.heap.size + 1]? = some (.loop { rec .ready none with state := .busy }) ∧
          (W3.putObj (w.heap.size + 1) (.loop (rec (if jump.isNone then .ready else .done) jump))).heap[w.heap.size + 1]? = some (.loop (rec (if jump.isNone then .ready else .done) jump)) ∧
          (W3.putObj (w.heap.size + 1) (.loop (rec (if jump.isNone then .ready else .done) jump))).heap[w.heap.size]? = some (.deferred (some [])) := fun jump W3 hk3 => by
        have hl3 := hk3.same _ _ (by omega) hl2 rfl
        have := run_endRound (P := P) jump hl3
        rw [hrec] at this ⊢
        exact ⟨this, by rw [hrec] at hl3; exact hl3, World.putObj_heap_same (lt_of hl3), (World.putObj_heap_other (by omega)).trans (hk3.same _ _ (Nat.le_refl _) hk2 rfl)⟩
      rintro e a3 W3 hp
      cases e with
      | normal =>
        obtain ⟨hk3, hkp3, hi3⟩ := hp
        obtain ⟨hr, hl3, hl4, hk4⟩ := fin none W3 hk3
        exact ⟨_, _, hr, .inl ⟨rfl, ⟨hI _ _ _ hi3 (.put_ _ hl3 rfl (by omega)), hl4, hk4⟩, hKt (hKt hw2 hkp3) (hKb _ _ _ _ (by omega) hl3 rfl)⟩⟩
      | ret =>
        obtain ⟨hk3, hi3⟩ := hp
        obtain ⟨hr, hl3, hl4, hk4⟩ := fin (some .ret) W3 hk3
        exact ⟨_, _, hr, .inr ⟨rfl, .ret, hIx _ _ _ _ hi3 (.put_ _ hl3 rfl (by omega)), hl4, hk4⟩⟩
      | exit id =>
        obtain ⟨hk3, hi3⟩ := hp
        obtain ⟨hr, hl3, hl4, hk4⟩ := fin (some (.exit id)) W3 hk3
        exact ⟨_, _, hr, .inr ⟨rfl, .exit id, hIx _ _ _ _ hi3 (.put_ _ hl3 rfl (by omega)), hl4, hk4⟩⟩
      | goto t =>
        obtain ⟨hk3, hi3⟩ := hp
        obtain ⟨hr, hl3, hl4, hk4⟩ := fin (some (.goto t)) W3 hk3
        exact ⟨_, _, hr, .inr ⟨rfl, .goto t, hIx _ _ _ _ hi3 (.put_ _ hl3 rfl (by omega)), hl4, hk4⟩⟩
      | panic ch => exact hp.elim
      | outgrown => exact hp.elim
    · rintro e W2 ⟨⟨v, rfl⟩, (⟨xs, hS, hi, hl, hk⟩ | ⟨pre, hSp, c, hi, hl, hk⟩)⟩
      · exact ⟨none, _, by have := run_endLoop (P := P) hl (by rw [hrec]; simp); rw [hrec] at this; exact this, hdone _ xs _ (Nat.le_refl _) hS (hI _ _ _ hi (.put_ _ hl rfl (by omega))) ((World.putObj_heap_other (by omega)).trans hk)⟩
      · exact ⟨some c, _, by have := run_endLoop (P := P) hl (by rw [hrec]; simp); rw [hrec] at this; exact this, hstop _ c pre _ (Nat.le_refl _) hSp (hIx _ _ _ _ hi (.put_ _ hl rfl (by omega))) ((World.putObj_heap_other (by omega)).trans hk)⟩

end Go.Proofs.Ytaidkbnbfnaihaa
namespace Go.Proofs.Ytaidkbnbfnaihaa
open Go.RowKit

theorem calls_rep {P : Program} {f : FuncId} {xs : List AV} {R : AV} (h : AFn P f xs fun r => r = R) {w : World} {N : Nat} {vs : List Value} (hN : N ≤ w.heap.size) (hv : froL (fun b _ => b < N) w xs vs) :
    Calls P f vs.toArray w fun e w' => ∃ (v : Value) (G' : Gh), e = .returned v ∧ rep G' w' R v ∧ Below w.heap.size w w' := by
  refine Calls.mono (h w (fun b _ => b < N) [] vs (hrel_start (fun b o hb => Nat.lt_of_lt_of_le hb hN)) (repL_fro _ _ hv)) ?_
  intro e w' h3
  cases e with
  | returned v =>
    obtain ⟨r, b, t, G', ⟨_, _, rfl⟩, k2, _, k4⟩ := h3
    have k := k2.kept
    exact ⟨v, G', rfl, k4, ⟨k.os, k.tape, k.output, k.size, fun i hi => k.block i hi (by simp)⟩⟩
  | panicked c => exact h3.elim
  | outgrown => exact h3.elim

def SpcIn (s : Spc) (N : Nat) (w : World) (ds ms : Value) : Prop := N ≤ w.heap.size ∧ froL (fun b _ => b < N) w (spcA s) [ds, ms]
theorem SpcIn.keep {s : Spc} {N : Nat} {w w' : World} {ds ms : Value} (h : SpcIn s N w ds ms) (hs : w.heap.size ≤ w'.heap.size) (hb : ∀ b, b < N → w'.heap[b]? = w.heap[b]?) : SpcIn s N w' ds ms :=
  ⟨Nat.le_trans h.1 hs, froL_mono (fun b o hN => ⟨hN, World.cell?_of_block (w := w) (a := ⟨b, o, none⟩) (hb b hN)⟩) _ _ h.2⟩
theorem SpcIn.below {s : Spc} {N B : Nat} {w w' : World} {ds ms : Value} (h : SpcIn s N w ds ms) (hb : Below B w w') (hN : N ≤ B) : SpcIn s N w' ds ms :=
  h.keep hb.size fun b hbN => hb.block b (Nat.lt_of_lt_of_le hbN hN)

section
variable {s : Spc} {N : Nat} {w : World} {ds ms : Value} (h : SpcIn s N w ds ms) (hs : SpcB s)
include h hs
theorem node_o (a : Fil) : Calls Try.prog 54 #[.agg #[ds], FilV a] w fun e w' =>
    (∃ (A : Option Addr) (m c : Nat), e = .returned (.tuple #[.agg #[.int .i64 (nodG s.files a).ino, .int .i64 (nodG s.files a).kind, .int .i64 (nodG s.files a).mode, .int .i64 (nodG s.files a).uid, .int .i64 (nodG s.files a).gid, .int .i64 (nodG s.files a).parent, .string (nodG s.files a).target, .slice A m c], .bool (hasG s.files a)])) ∧ Below w.heap.size w w' := by
  have h2 := h.2
  simp only [spcA, froL] at h2
  obtain ⟨z, zs, e1, h3, _⟩ := h2
  obtain ⟨rfl, rfl⟩ := List.cons.inj e1
  refine (calls_rep (Pnode s.files a hs.files) (vs := [.agg #[ds], FilV a]) h.1 ?_).mono ?_
  · simp only [froL, fro, flsA, filA, FilV]
    exact ⟨_, _, rfl, ⟨[ds], rfl, ds, [], rfl, by simpa only [fro] using h3, rfl⟩, _, _, rfl, ⟨[.int .i64 a.1, .int .i64 a.2], rfl, _, _, rfl, rfl, _, _, rfl, rfl, rfl⟩, rfl⟩
  · rintro e w' ⟨v, G', rfl, hr, hb⟩
    refine ⟨?_, hb⟩
    simp only [rep, repL, nodA, fro] at hr
    obtain ⟨ys, rfl, z1, zs1, rfl, ⟨ys2, rfl, _, _, rfl, rfl, _, _, rfl, rfl, _, _, rfl, rfl, _, _, rfl, rfl, _, _, rfl, rfl, _, _, rfl, rfl, _, _, rfl, rfl, _, _, rfl, ⟨_, A, c, rfl, _⟩, rfl⟩, _, _, rfl, rfl, rfl⟩ := hr
    exact ⟨A, _, c, rfl⟩
theorem fsf (xs : List AV) (vs : List Value) (hx : froL (fun b _ => b < N) w xs vs) : froL (fun b _ => b < N) w (.agg (spcA s) :: xs) (.agg #[ds, ms] :: vs) := by
  have _ := hs
  simp only [froL]
  refine ⟨_, _, rfl, ?_, hx⟩
  simp only [fro]
  exact ⟨[ds, ms], rfl, h.2⟩
theorem fso (a : Fil) : froL (fun b _ => b < N) w [.agg (spcA s), .agg (filA a)] [.agg #[ds, ms], FilV a] := by
  refine fsf h hs _ _ ?_
  simp only [froL, fro, filA, FilV]
  exact ⟨_, _, rfl, ⟨[.int .i64 a.1, .int .i64 a.2], rfl, _, _, rfl, rfl, _, _, rfl, rfl, rfl⟩, rfl⟩
theorem fsi (d : Int) : froL (fun b _ => b < N) w [.agg (spcA s), .v (.int .i64 d)] [.agg #[ds, ms], .int .i64 d] := by
  refine fsf h hs _ _ ?_
  simp only [froL, fro]
  exact ⟨_, _, rfl, rfl, rfl⟩
theorem place_o (d : Int) : Calls Try.prog 77 #[.agg #[ds, ms], .int .i64 d] w fun e w' =>
    e = .returned (.tuple #[FilV ((onL s d).getD (0, 0)), .bool (onL s d).isSome]) ∧ Below w.heap.size w w' := by
  refine (calls_rep (Pplace s d hs) (vs := [.agg #[ds, ms], .int .i64 d]) h.1 (fsi h hs d)).mono ?_
  rintro e w' ⟨v, G', rfl, hr, hb⟩
  refine ⟨?_, hb⟩
  simp only [rep, repL, filA] at hr
  obtain ⟨ys, rfl, z1, zs1, rfl, ⟨ys2, rfl, _, _, rfl, rfl, _, _, rfl, rfl, rfl⟩, _, _, rfl, rfl, rfl⟩ := hr
  rfl
theorem isDir_o (a : Fil) : Calls Try.prog 81 #[.agg #[ds, ms], FilV a] w fun e w' => e = .returned (.bool (dirL s.files a)) ∧ Below w.heap.size w w' := by
  refine (calls_rep (PisDirM s a hs) (vs := [.agg #[ds, ms], FilV a]) h.1 (fso h hs a)).mono ?_
  rintro e w' ⟨v, G', rfl, hr, hb⟩
  simp only [rep] at hr
  exact ⟨by rw [hr], hb⟩
theorem mounted_o (d : Int) : Calls Try.prog 82 #[.agg #[ds, ms], .int .i64 d] w fun e w' => e = .returned (.bool (mtdL s d)) ∧ Below w.heap.size w w' := by
  refine (calls_rep (Pmounted s d hs) (vs := [.agg #[ds, ms], .int .i64 d]) h.1 (fsi h hs d)).mono ?_
  rintro e w' ⟨v, G', rfl, hr, hb⟩
  simp only [rep] at hr
  exact ⟨by rw [hr], hb⟩
end

theorem SpcIn.devs {s : Spc} {N : Nat} {w : World} {ds ms : Value} (h : SpcIn s N w ds ms) : ∃ A cap, ds = .slice A s.files.length cap ∧ s.files.length ≤ cap ∧ cap ≤ maxLen ∧
    (0 < s.files.length → ∃ b off, A = some ⟨b, off, none⟩ ∧ b < N ∧ ∀ i d, s.files[i]? = some d → w.cell? ⟨b, off + i * 2, none⟩ = some (.int .i64 d.next) ∧ ∃ A2 cap2, w.cell? ⟨b, off + i * 2 + 1, none⟩ = some (.slice A2 d.nodes.length cap2)) := by
  have h2 := h.2
  simp only [spcA, froL] at h2
  obtain ⟨z, zs, e1, h3, _⟩ := h2
  obtain ⟨rfl, rfl⟩ := List.cons.inj e1
  simp only [fro, List.length_map] at h3
  obtain ⟨_, A, cap, rfl, h4, h5, h6⟩ := h3
  refine ⟨A, cap, rfl, h4, h5, fun hpos => ?_⟩
  rcases h6 with h6 | ⟨b, off, rfl, h6⟩
  · simp at h6; rw [h6] at hpos; simp at hpos
  · refine ⟨b, off, rfl, ?_, ?_⟩
    · obtain ⟨_, h8⟩ := froR_get h6 (i := 0) (r := dvcA (s.files[0]'hpos)) (by simp [hpos])
      simp only [dvcA, froC] at h8
      exact h8.1.1
    · intro i d hd
      obtain ⟨_, h8⟩ := froR_get h6 (i := i) (r := dvcA d) (by simp [hd])
      simp only [dvcA, froC, fro, List.length_map] at h8
      obtain ⟨⟨_, u, h9, _, rfl⟩, ⟨_, u2, h10, _, _, A2, cap2, rfl, _⟩, _⟩ := h8
      exact ⟨h9, A2, cap2, h10⟩
theorem chain_any (ds ms : Value) (a : Fil) (w : World) :
    Calls Try.prog 83 #[.agg #[ds, ms], FilV a] w fun e w' =>
      e = .returned (.func (.func 93) #[] #[.pointer (some ⟨w.heap.size, 0, none⟩), .pointer (some ⟨w.heap.size + 1, 0, none⟩)]) ∧
      w' = (w.alloc (.cells #[ds, ms] 30)).alloc (.cells #[.int .i64 a.1, .int .i64 a.2] 33) := by
  unfold FilV
  go_enter Try.func83, Try.ntmps83
  go_wp2
  go_ret
  exact ⟨by simp, rfl⟩
end Go.Proofs.Ytaidkbnbfnaihaa
namespace Go.Proofs.Ytaidkbnbfnaihaa
open Go.RowKit Go.Shelf
attribute [local go_sem] Oper.semAt_some

theorem wpIn_scope_wide {n : Nat} {P : Program} {c : Code} {Q : Exit → Act → World → Prop} {a : Act} {w : World} (h : c.wpIn Fence.wide n P (Exit.noGoto Q) a w) : (Code.scope c).wpIn Fence.wide n P Q a w :=
  wpIn_wide.2 (wp_scope_straight (wpIn_wide.1 h))
theorem Moves.setc {own : Nat → Prop} {B : Nat} (X : World) {p : Addr} (hb : own p.block) (v : Value) : Moves own B X (X.setCell p v) :=
  have h : Below 0 X (X.setCell p v) := (Below.refl 0 X).setCell (Nat.zero_le _) v
  ⟨h.os, h.tape, h.output, h.size, fun k _ hk _ => Below.heap_setCell X p v k fun e => hk (by rw [e]; exact hb)⟩
def stepC (s : Spc) (a : Fil) : Option Fil :=
  if (nodG s.files a).ino ≠ 1 then some (a.1, (nodG s.files a).parent)
  else if a.1 = 0 then none else onL s a.1
def chainP (s : Spc) : Nat → Fil → List Fil
  | 0, _ => []
  | k + 1, a => if dirL s.files a then a :: (match stepC s a with
    | none => []
    | some b => chainP s k b) else []
def mostL (f : Fls) : Nat := (f.map fun d => d.nodes.length).sum
def KeepC (N sb db : Nat) (X Y : World) : Prop := X.heap.size ≤ Y.heap.size ∧ Y.heap[sb]? = X.heap[sb]? ∧ Y.heap[db]? = X.heap[db]? ∧ (∀ b, b < N → Y.heap[b]? = X.heap[b]?) ∧
  ∀ (b : Nat) (cs : Array Value), X.heap[b]? = some (.cells cs 50) → Y.heap[b]? = some (.cells cs 50)
theorem KeepC.trans {N sb db : Nat} {X Y Z : World} (h : KeepC N sb db X Y) (k : KeepC N sb db Y Z) : KeepC N sb db X Z :=
  ⟨Nat.le_trans h.1 k.1, k.2.1.trans h.2.1, k.2.2.1.trans h.2.2.1, fun b hb => (k.2.2.2.1 b hb).trans (h.2.2.2.1 b hb), fun b cs hb => k.2.2.2.2 b cs (h.2.2.2.2 b cs hb)⟩
theorem keepC_put {N sb db B : Nat} (hN : N ≤ B) (hs : sb < B) (hd : db < B) (W : World) (l : Nat) (o o' : Obj) (hl : B ≤ l) (ho : W.heap[l]? = some o) (hc : o.isCells = false) : KeepC N sb db W (W.putObj l o') :=
  ⟨(grownBy_putObj' W l o').size, World.putObj_heap_other (by omega), World.putObj_heap_other (by omega), fun b hb => World.putObj_heap_other (by omega), fun b cs hb => by
    refine (World.putObj_heap_other fun e => ?_).trans hb
    subst e
    rw [ho] at hb
    injection hb with hb
    subst hb
    cases hc⟩
theorem keepC_below {N sb db : Nat} {X Y : World} (h : Below X.heap.size X Y) (hN : N ≤ X.heap.size) (hs : sb < X.heap.size) (hd : db < X.heap.size) : KeepC N sb db X Y :=
  ⟨h.size, h.block _ hs, h.block _ hd, fun b hb => h.block _ (by omega), fun b cs hb => (h.block _ (Array.getElem?_eq_some_iff.1 hb).1).trans hb⟩
theorem mostL_le {f : Fls} (hf : FlsB f) (j : Nat) : mostL (f.take j) ≤ 1000000 := by
  have : ∀ (l : Fls), (∀ d ∈ l, d.nodes.length ≤ 1000) → mostL l ≤ l.length * 1000 := by
    intro l
    induction l with
    | nil => intro _; simp [mostL]
    | cons d l ih =>
      intro h
      have h1 := ih fun d hd => h d (List.mem_cons_of_mem _ hd)
      have h2 := h d (List.mem_cons_self ..)
      simp only [mostL, List.map_cons, List.sum_cons, List.length_cons] at h1 ⊢
      omega
  have h1 := this (f.take j) fun d hd => hf.nodes d (List.mem_of_mem_take hd)
  have h2 := hf.few
  have h3 : (f.take j).length ≤ f.length := by simp; omega
  have : (f.take j).length * 1000 ≤ 1000 * 1000 := Nat.mul_le_mul_right _ (by omega)
  omega
theorem mostL_snoc {f : Fls} {j : Nat} {d : Dvc} (h : f[j]? = some d) : mostL (f.take (j + 1)) = mostL (f.take j) + d.nodes.length := by
  rw [List.take_add_one, h]
  simp [mostL]

set_option maxRecDepth 100000 in
set_option maxHeartbeats 2000000 in
theorem chain1 (n : Nat) (s : Spc) (hs : SpcB s) (a0 : Fil) (N sb db : Nat) (ds ms : Value) (w : World) (h0 : w.heap[sb]? = some (.cells #[ds, ms] 30)) (h1 : w.heap[db]? = some (.cells #[.int .i64 a0.1, .int .i64 a0.2] 33))
    (hS : SpcIn s N w ds ms) (hNs : N ≤ sb) (hNd : N ≤ db) (hne : sb ≠ db) :
    SeqW Fence.wide n Try.prog 93 #[.pointer (some ⟨sb, 0, none⟩), .pointer (some ⟨db, 0, none⟩)] (fun x : Fil => #[FilV x]) (fun b => b = db) (KeepC N sb db) (fun xs => xs <+: chainP s (mostL s.files) a0)
      (fun xs => xs = chainP s (mostL s.files) a0) (fun pre => pre <+: chainP s (mostL s.files) a0) w := fun l J Jx W hW hJ hJx hY hst => by
  have lt_of : ∀ {W : World} {k : Nat} {o : Obj}, W.heap[k]? = some o → k < W.heap.size := fun h => (Array.getElem?_eq_some_iff.1 h).1
  have k0 : W.heap[sb]? = some (.cells #[ds, ms] 30) := blk_below h0 hW (lt_of h0)
  have k1 : W.heap[db]? = some (.cells #[.int .i64 a0.1, .int .i64 a0.2] 33) := blk_below h1 hW (lt_of h1)
  have kS : SpcIn s N W ds ms := hS.below hW hS.1
  obtain ⟨A, cap, rfl, hcap, hcm, hdev⟩ := kS.devs
  obtain ⟨c0, f0⟩ := cells_of k0
  obtain ⟨c1, f1⟩ := cells_of k1
  have hfew := hs.files.few
  have HD := Lib.hid hdev
  have HW := Lib.hid hW
  have HJ := Lib.hid hJ
  have HJx := Lib.hid hJx
  have HY := Lib.hid hY
  clear hdev hS hW hJ hJx hY h0 h1
  refine callsIn_of_wp Try.func93 rfl trivial ?_ rfl
  simp only [Try.ntmps93, List.size_toArray, List.length_cons, List.length_nil, Nat.reduceAdd, Nat.reduceSub, Array.replicate_succ, Array.replicate_zero, List.push_toArray, List.append_toArray, List.nil_append, List.cons_append]
  gi_wp2
  refine wpIn_scope_wide ?_
  gi_wp2
  gi_loopw [4, 14] (fun t i wr => ∃ j : Nat, j ≤ s.files.length ∧ i = .int .i64 j ∧ t = .int .i64 (mostL (s.files.take j)) ∧ Below W.heap.size W wr) (fun _ i _ => s.files.length - (intOf i).toNat)
  case atStart => exact ⟨0, Nat.zero_le _, rfl, rfl, Below.refl _ _⟩
  case round =>
    obtain ⟨j, hj, rfl, rfl, hb⟩ := hrel
    have hNW := kS.1
    by_cases hlt : j < s.files.length
    · obtain ⟨b, off, rfl, hbN, hrow⟩ := HD.out (by omega)
      obtain ⟨r1, A2, cap2, r2⟩ := hrow j _ (List.getElem?_eq_getElem hlt)
      have r1' := (World.cell?_of_block (w := W) (w' := wr) (a := ⟨b, off + j * 2, none⟩) (hb.block b (by omega))).trans r1
      have r2' := (World.cell?_of_block (w := W) (w' := wr) (a := ⟨b, off + j * 2 + 1, none⟩) (hb.block b (by omega))).trans r2
      have hM := mostL_le hs.files j
      have hL := hs.files.nodes _ (List.getElem_mem hlt)
      have HE := Lib.hid (mostL_snoc (List.getElem?_eq_getElem hlt))
      generalize (s.files[j]).nodes.length = L at *
      generalize (s.files[j]).next = nx at *
      generalize mostL (s.files.take j) = M at *
      clear hrow r1 r2 hs
      gi_wp2
      go_roundw
      case rel => exact ⟨j + 1, by omega, by go_num, by rw [HE.out]; go_num, hb.alloc hb.size _⟩
      case measure => simp [intOf]; omega
    · have ej : j = s.files.length := by omega
      subst ej
      have hM := mostL_le hs.files s.files.length
      rw [List.take_length] at hM
      rw [List.take_length]
      have k0' := blk_below k0 hb (lt_of k0)
      have k1' := blk_below k1 hb (lt_of k1)
      have kS' := kS.below hb hNW
      have hJ0 : J [] wr := HJ.out _ _ _ hst (Moves.below hb)
      gi_wp2
      refine wpIn_label ?_
      gi_wp2
      clear c0 f0 c1 f1 k0 k1 kS hst
      obtain ⟨M, hM0⟩ : ∃ M, mostL s.files = M := ⟨_, rfl⟩
      rw [hM0] at hM ⊢
      have HM := Lib.hid hM0
      clear hM0
      gi_loopw [25] (fun i wr => ∃ (j : Nat) (pre : List Fil) (cur : Fil), j ≤ M ∧ i = .int .i64 j ∧ J pre wr ∧ wr.heap[sb]? = some (.cells #[.slice A s.files.length cap, ms] 30) ∧
        wr.heap[db]? = some (.cells #[.int .i64 cur.1, .int .i64 cur.2] 33) ∧ SpcIn s N wr (.slice A s.files.length cap) ms ∧ Hid (pre ++ chainP s (M - j) cur = chainP s M a0)) (fun i _ => M - (intOf i).toNat)
      case atStart => exact ⟨0, [], a0, Nat.zero_le _, rfl, hJ0, k0', k1', kS', rfl⟩
      case round =>
        obtain ⟨j, pre, cur, hj, rfl, hJp, m0, m1, mS, hch⟩ := hrel
        clear k0' k1' kS' hJ0
        obtain ⟨c0, f0⟩ := cells_of m0
        obtain ⟨c1, f1⟩ := cells_of m1
        by_cases hlt : j < M
        · have HC : Hid (chainP s (M - j) cur = if dirL s.files cur then cur :: (match stepC s cur with
            | none => []
            | some b => chainP s (M - (j + 1)) b) else []) := by
            rw [show M - j = (M - (j + 1)) + 1 by omega]; exact Lib.hid rfl
          gi_wp2_with fail
          refine wideCall ((callsIn_wide.2 (node_o mS hs cur)).mono ?_)
          rintro e w1 ⟨⟨eA, em, ec, rfl⟩, hb1⟩
          have HB1 := Lib.hid hb1
          have HD1 := Lib.hid (dirL_eq s.files cur)
          obtain ⟨nd, hnd⟩ : ∃ nd, nodG s.files cur = nd := ⟨_, rfl⟩
          have HN := Lib.hid hnd
          obtain ⟨hg, hhg⟩ : ∃ hg, hasG s.files cur = hg := ⟨_, rfl⟩
          have HH := Lib.hid hhg
          have n0 := blk_below m0 hb1 (lt_of m0)
          have n1 := blk_below m1 hb1 (lt_of m1)
          have nS := mS.below hb1 mS.1
          have hz := hb1.size
          clear c0 f0 c1 f1
          obtain ⟨c0, f0⟩ := cells_of n0
          obtain ⟨c1, f1⟩ := cells_of n1
          rw [hnd, hhg]
          clear hb1 hnd hhg
          cases hg with
          | false =>
            have HE : Hid (chainP s (M - j) cur = []) := Lib.hid (by rw [HC.out, HD1.out, HH.out]; simp)
            gi_wp2
            refine ⟨fun _ h => (by cases h), ?_⟩
            gi_wp2
            rw [Exit.noGoto_ret]
            refine bodyPost_ret (results_none rfl _ _ _) rfl ?_
            exact ⟨⟨_, rfl⟩, .inl ⟨pre, by rw [HM.out, ← hch.out, HE.out]; simp, HJ.out _ _ _ hJp (Moves.below (HB1.out.alloc hz _))⟩⟩
          | true =>
            by_cases hk : nd.kind = 2
            · have HE : Hid (chainP s (M - j) cur = cur :: (match stepC s cur with
                | none => []
                | some b => chainP s (M - (j + 1)) b)) := Lib.hid (by rw [HC.out, HD1.out, HH.out, HN.out]; simp [hk])
              obtain ⟨W2, hW2⟩ : ∃ W2, w1.alloc (.cells #[.int .i64 nd.ino, .int .i64 2, .int .i64 nd.mode, .int .i64 nd.uid, .int .i64 nd.gid, .int .i64 nd.parent, .string nd.target, .slice eA em ec] 50) = W2 := ⟨_, rfl⟩
              have hB2 : Below wr.heap.size wr W2 := by rw [← hW2]; exact HB1.out.alloc hz _
              have hJ2 : J pre W2 := HJ.out _ _ _ hJp (Moves.below hB2)
              have q7 : W2.heap[w1.heap.size]? = some (.cells #[.int .i64 nd.ino, .int .i64 2, .int .i64 nd.mode, .int .i64 nd.uid, .int .i64 nd.gid, .int .i64 nd.parent, .string nd.target, .slice eA em ec] 50) := by rw [← hW2]; exact blk_a1_0 _ _
              have q0 := blk_below m0 hB2 (lt_of m0)
              have q1 := blk_below m1 hB2 (lt_of m1)
              have qS := mS.below hB2 mS.1
              obtain ⟨fn, tmps, assign, body, hy, hR⟩ := HY.out pre cur W2 hJ2 (by rw [HM.out, ← hch.out, HE.out]; exact ⟨_, by rw [List.append_assoc]; rfl⟩)
              rw [← hW2] at hy
              unfold FilV at hy
              have HH2 := Lib.hid hW2
              clear hW2
              gi_wp2
              refine ⟨(fun h => by cases h), ?_⟩
              rw [HH2.out]
              refine hR.mono ?_
              rintro e W3 (⟨rfl, hJ3, hk3⟩ | ⟨rfl, hJx3⟩)
              · obtain ⟨z0, z1, z2, z3, z4⟩ := hk3
                have r0 := z1.trans q0
                have r1 := z2.trans q1
                have r7 := z4 _ _ q7
                have rS := qS.keep z0 z3
                clear hy hR c0 f0 c1 f1 q0 q1 q7 qS
                obtain ⟨c0, f0⟩ := cells_of r0
                obtain ⟨c1, f1⟩ := cells_of r1
                obtain ⟨c7, f7⟩ := cells_of r7
                by_cases hi : nd.ino = 1
                · gi_wp2_with fail
                  refine wideCall ((callsIn_wide.2 (place_o rS hs cur.1)).mono ?_)
                  rintro e w4 ⟨rfl, hb4⟩
                  have HP := Lib.hid (show stepC s cur = if cur.1 = 0 then none else onL s cur.1 by unfold stepC; rw [HN.out, if_neg (by simp [hi])])
                  obtain ⟨pl, hpl⟩ : ∃ pl, onL s cur.1 = pl := ⟨_, rfl⟩
                  rw [hpl]
                  have HPL := Lib.hid hpl
                  have s0 := blk_below r0 hb4 (lt_of r0)
                  have s1 := blk_below r1 hb4 (lt_of r1)
                  have sS := rS.below hb4 rS.1
                  have sz := hb4.size
                  have sJ := HJ.out _ _ _ hJ3 (Moves.below hb4)
                  clear c0 f0 c1 f1 c7 f7 hb4 hpl r0 r1 r7 rS
                  obtain ⟨c0, f0⟩ := cells_of s0
                  obtain ⟨c1, f1⟩ := cells_of s1
                  unfold FilV
                  cases pl with
                  | none =>
                    have HS : Hid (stepC s cur = none) := Lib.hid (by rw [HP.out, HPL.out]; split <;> rfl)
                    gi_wp2
                    rw [Exit.noGoto_ret]
                    refine bodyPost_ret (results_none rfl _ _ _) rfl ?_
                    exact ⟨⟨_, rfl⟩, .inl ⟨pre ++ [cur], by rw [HM.out, ← hch.out, HE.out, HS.out], HJ.out _ _ _ sJ (Moves.below ((Below.refl _ _).alloc (Nat.le_refl _) _))⟩⟩
                  | some on =>
                    by_cases hd : cur.1 = 0
                    · have HS : Hid (stepC s cur = none) := Lib.hid (by rw [HP.out, if_pos hd])
                      gi_wp2
                      rw [Exit.noGoto_ret]
                      refine bodyPost_ret (results_none rfl _ _ _) rfl ?_
                      exact ⟨⟨_, rfl⟩, .inl ⟨pre ++ [cur], by rw [HM.out, ← hch.out, HE.out, HS.out], HJ.out _ _ _ sJ (Moves.below ((Below.refl _ _).alloc (Nat.le_refl _) _))⟩⟩
                    · have HS : Hid (stepC s cur = some on) := Lib.hid (by rw [HP.out, if_neg hd, HPL.out])
                      gi_wp2
                      have t1 := blk_alloc (blk_set (blk_set s1 0 (.int .i64 on.1)) 1 (.int .i64 on.2)) (.cells #[.int .i64 on.1, .int .i64 on.2] 33)
                      have t0 := blk_alloc (blk_far (blk_far s0 (p := ⟨db, 0, none⟩) hne (.int .i64 on.1)) (p := ⟨db, 1, none⟩) hne (.int .i64 on.2)) (.cells #[.int .i64 on.1, .int .i64 on.2] 33)
                      have hb5 : Below N w4 (((w4.setCell ⟨db, 0, none⟩ (.int .i64 on.1)).setCell ⟨db, 1, none⟩ (.int .i64 on.2)).alloc (.cells #[.int .i64 on.1, .int .i64 on.2] 33)) :=
                        (((Below.refl _ _).setCell hNd _).setCell hNd _).alloc (by simpa using sS.1) _
                      refine ⟨⟨j + 1, pre ++ [cur], on, by omega, by go_num, ?_, t0, by simpa using t1, sS.below hb5 (Nat.le_refl _), Lib.hid ?_⟩, by simp [intOf]; omega⟩
                      · exact HJ.out _ _ _ (HJ.out _ _ _ (HJ.out _ _ _ sJ (Moves.setc (own := fun b => b = db) (p := ⟨db, 0, none⟩) _ rfl _)) (Moves.setc (own := fun b => b = db) (p := ⟨db, 1, none⟩) _ rfl _)) (Moves.below ((Below.refl _ _).alloc (Nat.le_refl _) _))
                      · rw [← hch.out, HE.out, HS.out]
                        simp
                · have HS : Hid (stepC s cur = some (cur.1, nd.parent)) := Lib.hid (by unfold stepC; rw [HN.out, if_pos hi])
                  gi_wp2
                  have m1' := blk_set r1 1 (.int .i64 nd.parent)
                  have m0' := blk_far r0 (p := ⟨db, 1, none⟩) hne (.int .i64 nd.parent)
                  have hb4 : Below N W3 (W3.setCell ⟨db, 1, none⟩ (.int .i64 nd.parent)) := (Below.refl _ _).setCell hNd _
                  refine ⟨⟨j + 1, pre ++ [cur], (cur.1, nd.parent), by omega, by go_num, HJ.out _ _ _ hJ3 (Moves.setc (own := fun b => b = db) (p := ⟨db, 1, none⟩) _ rfl _), m0', by simpa using m1', rS.below hb4 (Nat.le_refl _), Lib.hid ?_⟩, by simp [intOf]; omega⟩
                  rw [← hch.out, HE.out, HS.out]
                  simp
              · clear hy hR
                gi_wp2
                rw [Exit.noGoto_ret]
                refine bodyPost_ret (results_none rfl _ _ _) rfl ?_
                exact ⟨⟨_, rfl⟩, .inr ⟨pre ++ [cur], by rw [HM.out, ← hch.out, HE.out]; exact ⟨_, by rw [List.append_assoc]; rfl⟩, hJx3⟩⟩
            · have HE : Hid (chainP s (M - j) cur = []) := Lib.hid (by rw [HC.out, HD1.out, HH.out, HN.out]; simp [hk])
              gi_wp2
              refine ⟨fun _ h => (by cases h), ?_⟩
              gi_wp2
              rw [Exit.noGoto_ret]
              refine bodyPost_ret (results_none rfl _ _ _) rfl ?_
              exact ⟨⟨_, rfl⟩, .inl ⟨pre, by rw [HM.out, ← hch.out, HE.out]; simp, HJ.out _ _ _ hJp (Moves.below (HB1.out.alloc hz _))⟩⟩
        · have HC : Hid (chainP s (M - j) cur = []) := by rw [show M - j = 0 by omega]; exact Lib.hid rfl
          gi_wp2
          rw [Exit.noGoto_normal]
          go_end0
          exact ⟨⟨_, rfl⟩, .inl ⟨pre, by rw [HM.out, ← hch.out, HC.out]; simp, hJp⟩⟩
end Go.Proofs.Ytaidkbnbfnaihaa
namespace Go.Proofs.Ytaidkbnbfnaihaa
open Go.RowKit

theorem SetAt.det {α : Type} {l xs a b : List α} {n : Nat} (h : SetAt l n xs a) : SetAt l n xs b → a = b := by
  induction h generalizing b with
  | nil l n => intro k; cases k; rfl
  | here a x l xs l' _ ih => intro k; cases k with | here _ _ _ _ _ k => rw [ih k]
  | there a x l xs l' n _ ih => intro k; cases k with | there _ _ _ _ _ _ k => rw [ih k]
def rowsB (sz cap : Nat) (rows : List (List AV)) : List AV := rows.flatten ++ List.replicate ((cap - rows.length) * sz) .any
theorem rowsB_len {sz cap : Nat} {rows : List (List AV)} (h : ∀ r ∈ rows, r.length = sz) (hc : rows.length ≤ cap) : (rowsB sz cap rows).length = cap * sz := by
  unfold rowsB
  rw [List.length_append, flat_len h, List.length_replicate, ← Nat.add_mul]
  congr 1
  omega
theorem rowsB_take {sz cap : Nat} {rows : List (List AV)} (h : ∀ r ∈ rows, r.length = sz) : ((rowsB sz cap rows).drop 0).take (rows.length * sz) = rows.flatten := by
  unfold rowsB
  rw [List.drop_zero, List.take_left' (flat_len h)]
theorem rowsB_push {sz cap : Nat} {rows : List (List AV)} {r row' : List AV} (h : ∀ x ∈ rows, x.length = sz) (hr : r.length = sz) (hp : 0 < sz) (hc : rows.length + 1 ≤ cap) (hs : SetAt (rowsB sz cap rows) (0 + rows.length * sz) r row') : row' = rowsB sz cap (rows ++ [r]) := by
  refine hs.det ?_
  unfold rowsB
  have e : List.replicate ((cap - rows.length) * sz) AV.any = List.replicate sz AV.any ++ List.replicate ((cap - (rows ++ [r]).length) * sz) AV.any := by
    rw [List.replicate_append_replicate]
    congr 1
    rw [show (rows ++ [r]).length = rows.length + 1 by simp, show cap - rows.length = (cap - (rows.length + 1)) + 1 by omega, Nat.add_mul]
    omega
  rw [e, Nat.zero_add, List.flatten_append, List.append_assoc]
  have key := SetAt.right (SetAt.whole (xs := r) (l := List.replicate sz AV.any) (b := List.replicate ((cap - (rows ++ [r]).length) * sz) AV.any) (by simp [hr])) rows.flatten (fun e => by rw [e] at hr; simp at hr; omega)
  rw [flat_len h, Nat.add_zero] at key
  simpa using key
theorem rowsB_new {sz cap : Nat} {rows : List (List AV)} {r : List AV} (h : ∀ x ∈ rows, x.length = sz) {cap0 n : Nat} (hn : n = rows.length) : ((rowsB sz cap0 rows).drop 0).take (n * sz) ++ r ++ List.replicate ((cap - (n + 1)) * sz) .any = rowsB sz cap (rows ++ [r]) := by
  subst hn
  rw [rowsB_take h]
  unfold rowsB
  simp
end Go.Proofs.Ytaidkbnbfnaihaa
namespace Go.Proofs.Ytaidkbnbfnaihaa
open Go.RowKit

def devR (d : Dvc) (j cap1 : Nat) : List AV := [.v (.int .i64 d.next), .bs j 0 8 d.nodes.length cap1]
theorem dvcs_two (l : List Dvc) : ∀ r ∈ l.map dvcA, r.length = 2 := by
  intro r hr
  obtain ⟨d, _, rfl⟩ := List.mem_map.1 hr
  rfl
theorem nods_eight (l : List Nod) : ∀ r ∈ l.map nodA, r.length = 8 := by
  intro r hr
  obtain ⟨d, _, rfl⟩ := List.mem_map.1 hr
  rfl
end Go.Proofs.Ytaidkbnbfnaihaa
namespace Go.Proofs.Ytaidkbnbfnaihaa.Old
open Go.RowKit

def SameOn (D : Nat → Prop) (w w' : World) : Prop := ∀ b, D b → w'.heap[b]? = w.heap[b]?
def Old (w : World) : Nat → Prop := fun b => b < w.heap.size
def Fresh (w w' : World) : Nat → Prop := fun b => w.heap.size ≤ b ∧ b < w'.heap.size
def few : Nat := 65536

theorem below_drewN {B : Nat} {a w : World} (h : Below B a w) (n : Nat) : Below B a (w.drewN n) := ⟨h.os, h.tape, h.output, h.size, h.block⟩
theorem sameOn_old {w w' : World} (h : Below w.heap.size w w') : SameOn (Old w) w w' := fun b hb => h.block b hb
theorem grown_of_below {w w' : World} (h : Below w.heap.size w w') (g : Option Nat) : w.grownBy w' g := ⟨h.os, h.tape, h.output, h.size, fun k hk _ => h.block k hk⟩

def RowL {α : Type} (sz : Nat) (cell : α → Nat → Value) (w : World) (D : Nat → Prop) (A : Option Addr) (xs : List α) : Prop :=
  0 < xs.length → ∃ b off, A = some ⟨b, off, none⟩ ∧ D b ∧ ∀ i x j, xs[i]? = some x → j < sz → w.cell? ⟨b, off + i * sz + j, none⟩ = some (cell x j)
def ListR {α : Type} (sz : Nat) (cell : α → Nat → Value) (w : World) (D : Nat → Prop) (v : Value) (xs : List α) : Prop :=
  ∃ A c, v = .slice A xs.length c ∧ xs.length ≤ c ∧ xs.length ≤ few ∧ RowL sz cell w D A xs

section
variable {α : Type} {sz : Nat} {cell : α → Nat → Value} {w w' : World} {D D' : Nat → Prop} {A : Option Addr} {v : Value} {xs : List α}
theorem RowL.keep (h : RowL sz cell w D A xs) (hs : SameOn D w w') : RowL sz cell w' D A xs := by
  intro hn
  obtain ⟨b, off, rfl, hb, hc⟩ := h hn
  exact ⟨b, off, rfl, hb, fun i x j hi hj => (World.cell?_of_block (w := w) (a := ⟨b, off + i * sz + j, none⟩) (hs b hb)).trans (hc i x j hi hj)⟩
theorem ListR.keep (h : ListR sz cell w D v xs) (hs : SameOn D w w') : ListR sz cell w' D v xs := by
  obtain ⟨A, c, rfl, h1, h2, h3⟩ := h
  exact ⟨A, c, rfl, h1, h2, h3.keep hs⟩
theorem ListR.nil_ : ListR sz cell w D (.slice none 0 0) [] := ⟨none, 0, rfl, Nat.le_refl _, Nat.zero_le _, fun h => absurd h (by simp)⟩
end

def entCell (e : Ent) : Nat → Value
  | 0 => .string e.1
  | _ => .int .i64 e.2
def nodCell (n : Nod × Value) : Nat → Value
  | 0 => .int .i64 n.1.ino
  | 1 => .int .i64 n.1.kind
  | 2 => .int .i64 n.1.mode
  | 3 => .int .i64 n.1.uid
  | 4 => .int .i64 n.1.gid
  | 5 => .int .i64 n.1.parent
  | 6 => .string n.1.target
  | _ => n.2
def dvcCell (d : Dvc × Value) : Nat → Value
  | 0 => .int .i64 d.1.next
  | _ => d.2
def strCell (s : Str) : Nat → Value
  | _ => .string s
abbrev EntsR := ListR 2 entCell
abbrev StrsR := ListR 1 strCell
def FilV (at_ : Fil) : Value := .agg #[.int .i64 at_.1, .int .i64 at_.2]
def NodsR (w : World) (D : Nat → Prop) (v : Value) (ns : List Nod) : Prop :=
  ∃ xs : List (Nod × Value), xs.map (·.1) = ns ∧ ListR 8 nodCell w D v xs ∧ ∀ x ∈ xs, EntsR w D x.2 x.1.entries
def DvcsR (w : World) (D : Nat → Prop) (v : Value) (f : Fls) : Prop :=
  ∃ xs : List (Dvc × Value), xs.map (·.1) = f ∧ ListR 2 dvcCell w D v xs ∧ ∀ x ∈ xs, NodsR w D x.2 x.1.nodes
def FlsR (w : World) (D : Nat → Prop) (v : Value) (f : Fls) : Prop := ∃ d, v = .agg #[d] ∧ DvcsR w D d f

theorem ret_bool {a b : Bool} (h : a = b) : Ending.returned (.bool a) = .returned (.bool b) := by rw [h]
theorem map_len {α β : Type} {g : α → β} {xs : List α} {ys : List β} (h : xs.map g = ys) : xs.length = ys.length := by
  subst h
  simp

theorem cell_of {w : World} {g : Nat} {cs : Array Value} {t : TypeId} {fz : Nat × Nat} (h : w.heap[g]? = some (.cells cs t fz)) (i : Nat) : w.cell? ⟨g, i, none⟩ = cs[i]? := by
  simp [World.cell?, h]
theorem frozen_of {w : World} {g : Nat} {cs : Array Value} {t : TypeId} (h : w.heap[g]? = some (.cells cs t (0, 0))) (i : Nat) : w.frozen? ⟨g, i, none⟩ = false := by
  simp [World.frozen?, h]

theorem blk_grown' {w w' : World} {b : Nat} {row : Option Nat} {o : Obj} (h : w.heap[b]? = some o) (hg : w.grownBy w' row) (hne : some b ≠ row) : w'.heap[b]? = some o := by
  have hb : b < w.heap.size := by
    rcases Nat.lt_or_ge b w.heap.size with hlt | hge
    · exact hlt
    · rw [Array.getElem?_eq_none hge] at h; cases h
  exact (hg.block b hb hne).trans h
theorem blk_alloc {w : World} {b : Nat} {o : Obj} (h : w.heap[b]? = some o) (o' : Obj) : (w.alloc o').heap[b]? = some o := by
  have hb : b < w.heap.size := by
    rcases Nat.lt_or_ge b w.heap.size with hlt | hge
    · exact hlt
    · rw [Array.getElem?_eq_none hge] at h; cases h
  exact (Below.heap_alloc w o' b hb).trans h
theorem cells_of {w : World} {g : Nat} {cs : Array Value} {t : TypeId} (h : w.heap[g]? = some (.cells cs t (0, 0))) : (∀ i, w.cell? ⟨g, i, none⟩ = cs[i]?) ∧ (∀ i, w.frozen? ⟨g, i, none⟩ = false) :=
  ⟨fun i => cell_of h i, fun i => frozen_of h i⟩
theorem blk_set {w : World} {b : Nat} {cs : Array Value} {t : TypeId} {fz : Nat × Nat} (h : w.heap[b]? = some (.cells cs t fz)) (i : Nat) (u : Value) : (w.setCell ⟨b, i, none⟩ u).heap[b]? = some (.cells (cs.setIfInBounds i u) t fz) := by
  simp [World.setCell, Array.getElem?_modify, h]
theorem blk_far {w : World} {b : Nat} {o : Obj} (h : w.heap[b]? = some o) {p : Addr} (hp : b ≠ p.block) (u : Value) : (w.setCell p u).heap[b]? = some o := (Below.heap_setCell w p u b hp).trans h
theorem blk_below {w w' : World} {b B : Nat} {o : Obj} (h : w.heap[b]? = some o) (hg : Below B w w') (hb : b < B) : w'.heap[b]? = some o := (hg.block b hb).trans h


theorem below_a1 (w : World) (o1 : Obj) : Below w.heap.size w (w.alloc o1) := by
  exact (Below.refl _ w).alloc (Nat.le_refl _) _
theorem size_a1 (w : World) (o1 : Obj) : (w.alloc o1).heap.size = w.heap.size + 1 := by simp
theorem blk_a1_0 (w : World) (o1 : Obj) : (w.alloc o1).heap[w.heap.size]? = some o1 := (by have := heap_alloc_new w o1; simpa using this)
theorem after1 {w w1 : World} {o1 : Obj} (h : Below (w.alloc o1).heap.size (w.alloc o1) w1) : Below w.heap.size w w1 ∧ w.heap.size + 1 ≤ w1.heap.size ∧ w1.heap[w.heap.size]? = some o1 := by
  have hs := h.size
  rw [size_a1] at hs
  exact ⟨(below_a1 w o1).trans (h.mono (by simp <;> omega)), hs, blk_below (blk_a1_0 w o1) h (by simp)⟩
theorem below_a2 (w : World) (o1 o2 : Obj) : Below w.heap.size w ((w.alloc o1).alloc o2) := by
  exact (below_a1 w o1).alloc (by simp <;> omega) _
theorem size_a2 (w : World) (o1 o2 : Obj) : ((w.alloc o1).alloc o2).heap.size = w.heap.size + 2 := by simp
theorem blk_a2_0 (w : World) (o1 o2 : Obj) : ((w.alloc o1).alloc o2).heap[w.heap.size]? = some o1 := blk_alloc (blk_a1_0 w o1) _
theorem blk_a2_1 (w : World) (o1 o2 : Obj) : ((w.alloc o1).alloc o2).heap[w.heap.size + 1]? = some o2 := (by have := heap_alloc_new (w.alloc o1) o2; simpa using this)
theorem below_a3 (w : World) (o1 o2 o3 : Obj) : Below w.heap.size w (((w.alloc o1).alloc o2).alloc o3) := by
  exact (below_a2 w o1 o2).alloc (by simp <;> omega) _
theorem blk_a3_0 (w : World) (o1 o2 o3 : Obj) : (((w.alloc o1).alloc o2).alloc o3).heap[w.heap.size]? = some o1 := blk_alloc (blk_a2_0 w o1 o2) _
theorem blk_a3_1 (w : World) (o1 o2 o3 : Obj) : (((w.alloc o1).alloc o2).alloc o3).heap[w.heap.size + 1]? = some o2 := blk_alloc (blk_a2_1 w o1 o2) _
theorem blk_a3_2 (w : World) (o1 o2 o3 : Obj) : (((w.alloc o1).alloc o2).alloc o3).heap[w.heap.size + 1 + 1]? = some o3 := (by have := heap_alloc_new ((w.alloc o1).alloc o2) o3; simpa using this)
theorem below_a4 (w : World) (o1 o2 o3 o4 : Obj) : Below w.heap.size w ((((w.alloc o1).alloc o2).alloc o3).alloc o4) := by
  exact (below_a3 w o1 o2 o3).alloc (by simp <;> omega) _
theorem blk_a4_0 (w : World) (o1 o2 o3 o4 : Obj) : ((((w.alloc o1).alloc o2).alloc o3).alloc o4).heap[w.heap.size]? = some o1 := blk_alloc (blk_a3_0 w o1 o2 o3) _
theorem blk_a4_1 (w : World) (o1 o2 o3 o4 : Obj) : ((((w.alloc o1).alloc o2).alloc o3).alloc o4).heap[w.heap.size + 1]? = some o2 := blk_alloc (blk_a3_1 w o1 o2 o3) _
theorem blk_a4_2 (w : World) (o1 o2 o3 o4 : Obj) : ((((w.alloc o1).alloc o2).alloc o3).alloc o4).heap[w.heap.size + 1 + 1]? = some o3 := blk_alloc (blk_a3_2 w o1 o2 o3) _
theorem blk_a4_3 (w : World) (o1 o2 o3 o4 : Obj) : ((((w.alloc o1).alloc o2).alloc o3).alloc o4).heap[w.heap.size + 1 + 1 + 1]? = some o4 := (by have := heap_alloc_new (((w.alloc o1).alloc o2).alloc o3) o4; simpa using this)

end Go.Proofs.Ytaidkbnbfnaihaa.Old
namespace Go.Proofs.Ytaidkbnbfnaihaa.Old
open Go.RowKit

def flat {α : Type} (sz : Nat) (cell : α → Nat → Value) (xs : List α) : List Value := xs.flatMap fun x => (List.range sz).map (cell x)

section
variable {α : Type} {sz : Nat} {cell : α → Nat → Value}
theorem flat_length (xs : List α) : (flat sz cell xs).length = xs.length * sz := by
  induction xs with
  | nil => simp [flat]
  | cons x xs ih =>
    unfold flat at ih ⊢
    rw [List.flatMap_cons, List.length_append, ih]
    simp [Nat.add_mul, Nat.add_comm]
theorem flat_append (xs ys : List α) : flat sz cell (xs ++ ys) = flat sz cell xs ++ flat sz cell ys := by simp [flat]
theorem flat_get (xs : List α) : ∀ (i j : Nat) (x : α), xs[i]? = some x → j < sz → (flat sz cell xs)[i * sz + j]? = some (cell x j) := by
  induction xs with
  | nil => intro i j x h; simp at h
  | cons y ys ih =>
    intro i j x h hj
    have e : flat sz cell (y :: ys) = (List.range sz).map (cell y) ++ flat sz cell ys := by simp [flat]
    rw [e]
    cases i with
    | zero =>
      simp at h
      subst h
      rw [List.getElem?_append_left (by simpa using hj)]
      simp [hj]
    | succ i =>
      rw [List.getElem?_append_right (by simp [Nat.add_mul]; omega)]
      simp only [List.getElem?_cons_succ] at h
      have := ih i j x h hj
      rw [← this]
      congr 1
      simp [Nat.add_mul]
      omega
theorem flat_get_inv (xs : List α) (hsz : 0 < sz) {k : Nat} {u : Value} (h : (flat sz cell xs)[k]? = some u) : ∃ x, xs[k / sz]? = some x ∧ u = cell x (k % sz) := by
  have hk : k < xs.length * sz := by
    have := (List.getElem?_eq_some_iff.1 h).1
    rwa [flat_length] at this
  have hq : k / sz < xs.length := (Nat.div_lt_iff_lt_mul hsz).2 hk
  have hx : xs[k / sz]? = some xs[k / sz] := List.getElem?_eq_getElem hq
  have := flat_get (cell := cell) xs (k / sz) (k % sz) _ hx (Nat.mod_lt _ hsz)
  rw [Nat.mul_comm, Nat.div_add_mod, h] at this
  injection this with this
  exact ⟨_, hx, this⟩

def Ones (w : World) (v : Value) : Prop := ∀ (g : Nat) (cs : Array Value) (t : TypeId), v.ownBlock = some g → w.heap[g]? = some (.cells cs t (0, 0)) → ∀ u ∈ cs.toList, u.oneCell' = true
theorem Ones.of_block {w w' : World} {v : Value} (h : Ones w v) (hb : ∀ g, v.ownBlock = some g → w'.heap[g]? = w.heap[g]?) : Ones w' v := fun g cs t hg hc => h g cs t hg ((hb g hg).symm.trans hc)
theorem Ones.nil_ (w : World) : Ones w (.slice none 0 0) := fun g cs t hg => by simp [Value.ownBlock] at hg
def OwnL (sz : Nat) (cell : α → Nat → Value) (E : TypeId) (w : World) (base : Nat) (v : Value) (xs : List α) : Prop :=
  w.ownsRow base E sz v xs.length (flat sz cell xs) ∧ Ones w v

theorem OwnL.nil_ (E : TypeId) (w : World) (base : Nat) : OwnL sz cell E w base (.slice none 0 0) [] := ⟨World.ownsRow_nil w base E sz, Ones.nil_ w⟩
theorem OwnL.kept {E : TypeId} {w w' : World} {base : Nat} {v : Value} {xs : List α} (h : OwnL sz cell E w base v xs) {row : Option Nat} (hg : w.grownBy w' row) (hne : v.ownBlock = none ∨ v.ownBlock ≠ row) : OwnL sz cell E w' base v xs := by
  refine ⟨World.ownsRow.kept h.1 hg hne, h.2.of_block fun g hb => hg.block g (World.ownsRow.lt h.1 g hb).2 ?_⟩
  rcases hne with e | e
  · rw [e] at hb; cases hb
  · rw [← hb]; exact e
theorem OwnL.alloc {E : TypeId} {w : World} {base : Nat} {v : Value} {xs : List α} (h : OwnL sz cell E w base v xs) (o : Obj) : OwnL sz cell E (w.alloc o) base v xs :=
  ⟨World.ownsRow.alloc h.1 o, h.2.of_block fun g hb => heap_alloc_old w o (World.ownsRow.lt h.1 g hb).2⟩
theorem OwnL.below {E : TypeId} {w w' : World} {base : Nat} {v : Value} {xs : List α} (h : OwnL sz cell E w base v xs) (hb : Below w.heap.size w w') : OwnL sz cell E w' base v xs :=
  h.kept (grown_of_below hb none) (by cases v.ownBlock <;> simp)
theorem OwnL.set_ {E : TypeId} {w : World} {base : Nat} {v : Value} {xs : List α} (h : OwnL sz cell E w base v xs) {p : Addr} (hp : v.ownBlock ≠ some p.block) (u : Value) : OwnL sz cell E (w.setCell p u) base v xs :=
  h.kept (row := some p.block) ⟨rfl, rfl, rfl, by simp [World.setCell], fun k _ hne => Below.heap_setCell w p u k (fun e => hne (by rw [e]))⟩ (.inr hp)
theorem OwnL.setb {E : TypeId} {w : World} {base : Nat} {v : Value} {xs : List α} (h : OwnL sz cell E w base v xs) {p : Addr} (hp : p.block < base) (u : Value) : OwnL sz cell E (w.setCell p u) base v xs :=
  h.set_ (fun e => by have := (World.ownsRow.lt h.1 _ e).1; omega) u
theorem OwnL.lt {E : TypeId} {w : World} {base : Nat} {v : Value} {xs : List α} (h : OwnL sz cell E w base v xs) : ∀ k, v.ownBlock = some k → base ≤ k ∧ k < w.heap.size := World.ownsRow.lt h.1
theorem OwnL.ne_ {E : TypeId} {w : World} {base : Nat} {v : Value} {xs : List α} (h : OwnL sz cell E w base v xs) {g : Nat} {t : TypeId} {cs : Array Value} (hg : w.heap[g]? = some (.cells cs t (0, 0))) (hne : E ≠ t) : v.ownBlock ≠ some g := by
  rcases h.1.2 with ⟨rfl, _⟩ | ⟨g', cap, cur, rfl, _, hh, _⟩
  · simp [Value.ownBlock]
  · intro he
    have : g' = g := by simpa [Value.ownBlock] using he
    subst this
    rw [hg] at hh
    injection hh with hh
    injection hh with _ ht
    exact hne ht.symm
theorem OwnL.form {E : TypeId} {w : World} {base : Nat} {v : Value} {xs : List α} (h : OwnL sz cell E w base v xs) : ∃ A c, v = .slice A xs.length c := by
  rcases h.1.2 with ⟨rfl, hn⟩ | ⟨g, cap, cur, rfl, _⟩
  · exact ⟨none, 0, by rw [hn]⟩
  · exact ⟨_, _, rfl⟩
theorem OwnL.list {E : TypeId} {w : World} {base : Nat} {v : Value} {xs : List α} (h : OwnL sz cell E w base v xs) (hf : xs.length ≤ few) {D : Nat → Prop} (hD : ∀ b, base ≤ b → b < w.heap.size → D b) : ListR sz cell w D v xs := by
  rcases h.1.2 with ⟨rfl, hn⟩ | ⟨g, cap, cur, rfl, hb, hg, hnc, _, hcs, htake⟩
  · obtain rfl : xs = [] := List.eq_nil_of_length_eq_zero hn
    exact ListR.nil_
  · refine ⟨_, _, rfl, hnc, hf, fun _ => ⟨g, 0, rfl, hD g hb (Array.getElem?_eq_some_iff.1 hg).1, fun i x j hi hj => ?_⟩⟩
    have hlt : i * sz + j < xs.length * sz := by
      have h1 := (List.getElem?_eq_some_iff.1 hi).1
      have h2 : (i + 1) * sz ≤ xs.length * sz := Nat.mul_le_mul_right sz h1
      rw [Nat.add_mul] at h2
      omega
    rw [Nat.zero_add, cell_of_row w g _ cur E (0, 0) hg, ← flat_get xs i j x hi hj, ← htake, List.getElem?_take, if_pos hlt]
    simp
end

def ElemOK (T E sz bytes : Nat) : Prop := Try.prog.underlying T = some (.slice E) ∧ ∃ i z, Try.prog.info? E = some i ∧ i.zero = some z ∧ i.size = sz ∧ i.bytes = bytes ∧ z.cells.size = sz ∧ (z.cells.toList.all (·.oneCell')) = true
theorem elem_of {T E sz bytes : Nat} {z : Value} (hT : Try.prog.underlying T = some (.slice E)) (h : (Try.prog.info? E).map (fun i => (i.zero, i.size, i.bytes)) = some (some z, sz, bytes)) (hz : z.cells.size = sz) (h1 : (z.cells.toList.all (·.oneCell')) = true) : ElemOK T E sz bytes := by
  refine ⟨hT, ?_⟩
  cases hi : Try.prog.info? E with
  | none => rw [hi] at h; cases h
  | some i =>
    rw [hi] at h
    simp only [Option.map_some, Option.some.injEq, Prod.mk.injEq] at h
    exact ⟨i, z, rfl, h.1, h.2.1, h.2.2, hz, h1⟩

theorem run_append_nilsrc {P : Program} {w : World} {base : Nat} {t ty e : TypeId} {i : TypeInfo} {size : Nat} (ht : P.underlying t = some (.slice e)) (hi : P.info? e = some i)
    {v : Value} {n : Nat} {xs : List Value} (hown : w.ownsRow base e size v n xs) (c : Nat) : (Builtin.append_ #[t, t] ty #[v, .slice none 0 c]).run P w = .ok v w := by
  rcases hown.2 with ⟨rfl, rfl⟩ | ⟨g, cap, cur, rfl, _, _, hnc, _⟩
  · simp [Builtin.append_, run_underlying ht, sizeOf, typeInfo, hi, Builtin.lenOf, Builtin.firstCells]
  · simp [Builtin.append_, run_underlying ht, sizeOf, typeInfo, hi, Builtin.lenOf, Builtin.firstCells, hnc, storeCells]

section
variable {α : Type} {sz : Nat} {cell : α → Nat → Value}
theorem zeroCells_one {z : Array Value} (h : (z.toList.all (·.oneCell')) = true) {k : Nat} {u : Value} (hu : u ∈ Builtin.zeroCells z k) : u.oneCell' = true := by
  simp only [Builtin.zeroCells, Array.mem_map, Array.mem_range] at hu
  obtain ⟨i, hi2, rfl⟩ := hu
  have hpos : 0 < z.size := by
    rcases Nat.eq_zero_or_pos z.size with e | e
    · rw [e] at hi2; simp at hi2
    · exact e
  have hlt : i % z.size < z.size := Nat.mod_lt _ hpos
  rw [getElem!_pos z _ hlt]
  exact List.all_eq_true.1 h _ (by simp)
set_option maxRecDepth 10000 in
theorem append_ones {w : World} {T E bytes ty : Nat} (hE : ElemOK T E sz bytes) (hsz : 0 < sz) (hby : bytes ≤ 100000) {base : Nat} {v : Value} {n : Nat} {xs : List Value} (hown : w.ownsRow base E sz v n xs) (h1 : Ones w v)
    (ad : Addr) (m c : Nat) (news : List Value) (hl : news.length = m * sz) (hnews : ∀ j u, news[j]? = some u → w.cell? (ad.add j) = some u) (hone : ∀ u ∈ news, u.oneCell' = true) (hf : n ≤ 1000000) (hm : m ≤ 1000000) {v' : Value} {w' : World}
    (hrun : (Builtin.append_ #[T, T] ty #[v, .slice (some ad) m c]).run Try.prog w = .ok v' w') (hnil : v' = .slice none 0 0 ↔ v = .slice none 0 0 ∧ m = 0) : Ones w' v' := by
  obtain ⟨ht, i, z, hi, hz, hs, hb, hzs, hz1⟩ := hE
  subst hs
  have hbb : (n + m) * bytes ≤ 2000000 * 100000 := Nat.mul_le_mul (by omega) hby
  rcases hown.2 with ⟨rfl, rfl⟩ | ⟨g, cap, cur, rfl, hbg, hg, hnc, hcm, hcs, htk⟩
  · rcases Nat.eq_zero_or_pos m with h0 | h0
    · rw [hnil.2 ⟨rfl, h0⟩]; exact Ones.nil_ _
    · have hr := run_append_nil (P := Try.prog) w T ty E i z ht hi hz ad m c news hl hnews h0 (by omega) (by rw [hb]; rw [Nat.zero_add] at hbb; omega)
      have hq := hrun.symm.trans hr
      simp only [Result.ok.injEq] at hq
      obtain ⟨rfl, rfl⟩ := hq
      intro g cs t hgg hc u hu
      have : g = w.heap.size := by simpa [Value.ownBlock] using hgg.symm
      subst this
      have hn := heap_alloc_new w.drew (.cells (news.toArray ++ Builtin.zeroCells z.cells (grownCap w m 0 E - m)) E)
      have hn' : (w.drew.alloc (.cells (news.toArray ++ Builtin.zeroCells z.cells (grownCap w m 0 E - m)) E)).heap[w.heap.size]? = some (.cells (news.toArray ++ Builtin.zeroCells z.cells (grownCap w m 0 E - m)) E) := hn
      rw [hn'] at hc
      injection hc with hc
      injection hc with hc _
      subst hc
      rcases Array.mem_append.1 (Array.mem_toList_iff.1 hu) with h | h
      · exact hone u (by simpa using h)
      · exact zeroCells_one hz1 h
  · have hgc : w.heap[g]? = some (.cells cur.toList.toArray E (0, 0)) := by simpa using hg
    by_cases hroom : n + m ≤ cap
    · have hfit : n * i.size + news.length ≤ cur.size := by
        rw [hcs, hl, ← Nat.add_mul]
        exact Nat.mul_le_mul_right _ hroom
      have hr := run_append_room_cells (P := Try.prog) w T ty E i ht hi g 0 n cap ad m c news hl hnews hone hroom (fun j hj => by
        have : 0 + n * i.size + j < cur.size := by omega
        simp only [World.cell?, hg]; simp; omega) (fun j hj => by simp [World.frozen?, hg])
      have hq := hrun.symm.trans hr
      simp only [Result.ok.injEq] at hq
      obtain ⟨rfl, rfl⟩ := hq
      obtain ⟨r1, _⟩ := setCells_heap g E news (0 + n * i.size) cur.toList w hgc
      intro g' cs t hgg hc u hu
      have : g' = g := by simpa [Value.ownBlock] using hgg.symm
      subst this
      rw [r1] at hc
      injection hc with hc
      injection hc with hc _
      subst hc
      rcases setL_mem news _ _ u (by simpa using hu) with h | h
      · exact h1 g' cur E rfl hg u h
      · exact hone u h
    · have hr := run_append_grow (P := Try.prog) w T ty E i z ht hi hz ⟨g, 0, none⟩ n cap xs hown.1 (fun j u hj => by
        rw [Addr.add_mid]
        simp only [World.cell?, hg]
        rw [← htk, List.getElem?_take] at hj
        split at hj
        · simpa using hj
        · cases hj) ad m c news hl hnews (by omega) (by omega) (growslice_fits (by omega) (by rw [hb]; omega))
      have hq := hrun.symm.trans hr
      simp only [Result.ok.injEq] at hq
      obtain ⟨rfl, rfl⟩ := hq
      intro g' cs t hgg hc u hu
      have : g' = w.heap.size := by simpa [Value.ownBlock] using hgg.symm
      subst this
      have hn' : (w.drew.alloc (.cells (xs.toArray ++ news.toArray ++ Builtin.zeroCells z.cells (grownCap w (n + m) cap E - (n + m))) E)).heap[w.heap.size]? = some (.cells (xs.toArray ++ news.toArray ++ Builtin.zeroCells z.cells (grownCap w (n + m) cap E - (n + m))) E) := heap_alloc_new w.drew _
      rw [hn'] at hc
      injection hc with hc
      injection hc with hc _
      subst hc
      rcases Array.mem_append.1 (Array.mem_toList_iff.1 hu) with h | h
      · rcases Array.mem_append.1 h with h | h
        · have hx : u ∈ xs := by simpa using h
          rw [← htk] at hx
          exact h1 g cur E rfl hg u (List.mem_of_mem_take hx)
        · exact hone u (by simpa using h)
      · exact zeroCells_one hz1 h
theorem run_append_L {w : World} {T E bytes ty : Nat} (hE : ElemOK T E sz bytes) (hsz : 0 < sz) (hby : bytes ≤ 100000) {base : Nat} {v sv : Value} {xs ys : List α} {D : Nat → Prop} (hown : OwnL sz cell E w base v xs) (hr : ListR sz cell w D sv ys)
    (h1 : ∀ y ∈ ys, ∀ j, j < sz → (cell y j).oneCell' = true) (hf : xs.length ≤ 1000000) (hbase : base ≤ w.heap.size) :
    ∃ v' w', (Builtin.append_ #[T, T] ty #[v, sv]).run Try.prog w = .ok v' w' ∧ OwnL sz cell E w' base v' (xs ++ ys) ∧ w.grownBy w' v.ownBlock ∧ (v'.ownBlock = v.ownBlock ∨ v'.ownBlock = some w.heap.size) := by
  have hE0 := hE
  obtain ⟨ht, i, z, hi, hz, hs, hb, hzs, hz1⟩ := hE
  obtain ⟨A, c, rfl, hlc, hfew, hrow⟩ := hr
  unfold few at hfew
  rcases Nat.eq_zero_or_pos ys.length with h0 | h0
  · have hy : ys = [] := List.eq_nil_of_length_eq_zero h0
    subst hy
    rcases A with _ | ad
    · exact ⟨v, w, run_append_nilsrc ht hi hown.1 c, by simpa using hown, World.grownBy.refl w _, .inl rfl⟩
    · obtain ⟨v', w', hrun, h2, h3, h4, h5⟩ := run_append_own_at (P := Try.prog) w base T ty E i z sz bytes ht hi hz hs hb hzs hsz v xs.length _ hown.1 ad 0 c [] (by simp) (by simp) (by simp) (by unfold maxLen; omega) (by
        have : (xs.length + 0) * bytes ≤ 1000000 * 100000 := Nat.mul_le_mul (by omega) hby
        omega) hbase
      exact ⟨v', w', hrun, ⟨by simpa using h2, append_ones hE0 hsz hby hown.1 hown.2 ad 0 c [] (by simp) (by simp) (by simp) hf (by omega) hrun h4⟩, h3, h5⟩
  · obtain ⟨b, off, rfl, _, hcell⟩ := hrow h0
    have hcl : ∀ j u, (flat sz cell ys)[j]? = some u → w.cell? ((⟨b, off, none⟩ : Addr).add j) = some u := by
      intro j u hu
      obtain ⟨x, hx, rfl⟩ := flat_get_inv ys hsz hu
      have hcl := hcell _ x (j % sz) hx (Nat.mod_lt _ hsz)
      have hm : off + j / sz * sz + j % sz = off + j := by
        have := Nat.div_add_mod j sz
        rw [Nat.mul_comm] at this
        omega
      rw [hm] at hcl
      rw [Addr.add_lit]
      exact hcl
    have hon : ∀ u ∈ flat sz cell ys, u.oneCell' = true := by
      intro u hu
      obtain ⟨k, hk⟩ := List.mem_iff_getElem?.1 hu
      obtain ⟨x, hx, rfl⟩ := flat_get_inv ys hsz hk
      exact h1 x (List.mem_of_getElem? hx) _ (Nat.mod_lt _ hsz)
    obtain ⟨v', w', hrun, h2, h3, h4, h5⟩ := run_append_own_at (P := Try.prog) w base T ty E i z sz bytes ht hi hz hs hb hzs hsz v xs.length _ hown.1 ⟨b, off, none⟩ ys.length c (flat sz cell ys) (flat_length ys) hcl hon (by unfold maxLen; omega) (by
        have : (xs.length + ys.length) * bytes ≤ 1100000 * 100000 := Nat.mul_le_mul (by omega) hby
        omega) hbase
    exact ⟨v', w', hrun, ⟨by rw [flat_append, List.length_append]; exact h2, append_ones hE0 hsz hby hown.1 hown.2 _ _ c _ (flat_length ys) hcl hon hf (by omega) hrun h4⟩, h3, h5⟩

theorem wp_append_L {w : World} {o : Oper} {a : Act} {K : Act → World → Prop} {Q : Exit → Act → World → Prop} (s x : Operand) (T : TypeId)
    (ho : o.op = .call { callee := .builtin .append, args := #[s, x], argTypes := #[T, T] }) {E bytes : Nat} (hE : ElemOK T E sz bytes) (hsz : 0 < sz) (hby : bytes ≤ 100000)
    {base : Nat} {v sv : Value} {xs ys : List α} {D : Nat → Prop} (hs : a.eval s = v) (hx : a.eval x = sv) (hown : OwnL sz cell E w base v xs) (hr : ListR sz cell w D sv ys)
    (h1 : ∀ y ∈ ys, ∀ j, j < sz → (cell y j).oneCell' = true) (hf : xs.length ≤ 1000000) (hbase : base ≤ w.heap.size)
    (h : ∀ v' w', OwnL sz cell E w' base v' (xs ++ ys) → w.grownBy w' v.ownBlock → (v'.ownBlock = v.ownBlock ∨ v'.ownBlock = some w.heap.size) → K (a.put o.dst v') w') : o.wp Try.prog a w K Q := by
  obtain ⟨v', w', hrun, h2, h3, h4⟩ := run_append_L (ty := o.type) hE hsz hby hown hr h1 hf hbase
  unfold Oper.wp execOp
  simp only [ho, resolve, invoke, builtin, Sem.run_bind, Sem.run_pure, Result.andThen_ok, List.map_toArray, List.map_cons, List.map_nil, hs, hx, hrun]
  exact h v' w' h2 h3 h4
theorem wpList_append_L {w : World} {ops : Array Oper} {rest : List Oper} {o : Oper} {a : Act} {Q : Exit → Act → World → Prop} (hgd : o.guard = none) (s x : Operand) (T : TypeId)
    (ho : o.op = .call { callee := .builtin .append, args := #[s, x], argTypes := #[T, T] }) {E bytes : Nat} (hE : ElemOK T E sz bytes) (hsz : 0 < sz) (hby : bytes ≤ 100000)
    {base : Nat} {v sv : Value} {xs ys : List α} {D : Nat → Prop} (hs : a.eval s = v) (hx : a.eval x = sv) (hown : OwnL sz cell E w base v xs) (hr : ListR sz cell w D sv ys)
    (h1 : ∀ y ∈ ys, ∀ j, j < sz → (cell y j).oneCell' = true) (hf : xs.length ≤ 1000000) (hbase : base ≤ w.heap.size)
    (h : ∀ v' w', OwnL sz cell E w' base v' (xs ++ ys) → w.grownBy w' v.ownBlock → (v'.ownBlock = v.ownBlock ∨ v'.ownBlock = some w.heap.size) → wpList Try.prog ops Q rest (a.put o.dst v') w') : wpList Try.prog ops Q (o :: rest) a w :=
  wpList_plain hgd fun _ hK => wp_append_L s x T ho hE hsz hby hs hx hown hr h1 hf hbase fun v' w' h2 h3 h4 => hK _ _ (h v' w' h2 h3 h4)
theorem OwnL.mono {E : TypeId} {w : World} {base base' : Nat} {v : Value} {xs : List α} (h : OwnL sz cell E w base v xs) (hb : base' ≤ base) : OwnL sz cell E w base' v xs := by
  refine ⟨⟨h.1.1, ?_⟩, h.2⟩
  rcases h.1.2 with h' | ⟨g, cap, cur, hv, hg, r⟩
  · exact .inl h'
  · exact .inr ⟨g, cap, cur, hv, Nat.le_trans hb hg, r⟩
theorem wpList_clone_L {w : World} {ops : Array Oper} {rest : List Oper} {o : Oper} {a : Act} {Q : Exit → Act → World → Prop} (hgd : o.guard = none) (s x : Operand) (T : TypeId)
    (ho : o.op = .call { callee := .builtin .append, args := #[s, x], argTypes := #[T, T] }) {E bytes : Nat} (hE : ElemOK T E sz bytes) (hsz : 0 < sz) (hby : bytes ≤ 100000)
    (sv : Value) (ys : List α) {D : Nat → Prop} (hs : a.eval s = .slice none 0 0) (hx : a.eval x = sv) (hr : ListR sz cell w D sv ys)
    (h1 : ∀ y ∈ ys, ∀ j, j < sz → (cell y j).oneCell' = true)
    (h : ∀ A c w', OwnL sz cell E w' w.heap.size (.slice A ys.length c) ys → Below w.heap.size w w' → wpList Try.prog ops Q rest (a.put o.dst (.slice A ys.length c)) w') : wpList Try.prog ops Q (o :: rest) a w :=
  wpList_append_L hgd s x T ho hE hsz hby hs hx (OwnL.nil_ E w w.heap.size) hr h1 (by simp) (Nat.le_refl _) fun v' w' h2 h3 _ => by
    rw [List.nil_append] at h2
    obtain ⟨A, c, rfl⟩ := h2.form
    exact h A c w' h2 ⟨h3.os, h3.tape, h3.output, h3.size, fun k hk => h3.block k hk (by simp [Value.ownBlock])⟩
theorem listR_one {w : World} {cs : Array Value} {t : TypeId} {x : α} {B : Nat} (hB : B = w.heap.size) (hcs : ∀ j, j < sz → cs[j]? = some (cell x j)) {D : Nat → Prop} (hD : D w.heap.size) : ListR sz cell (w.alloc (.cells cs t)) D (.slice (some ⟨B, 0, none⟩) 1 1) [x] := by
  subst hB
  refine ⟨_, 1, rfl, Nat.le_refl _, by unfold few; simp, fun _ => ⟨_, _, rfl, hD, fun i y j hi hj => ?_⟩⟩
  cases i with
  | succ i => simp at hi
  | zero =>
    simp at hi
    subst hi
    rw [cell_of_row (w.alloc (.cells cs t)) w.heap.size _ cs t (0, 0) (heap_alloc_new w _)]
    simp [hcs j hj]
end

theorem elemEnt : ElemOK 48 108 2 24 := elem_of (z := .agg #[.string ⟨#[]⟩, .int .i64 0]) (by kernel_rfl) (by kernel_rfl) rfl rfl
theorem elemNod : ElemOK 45 50 8 88 := elem_of (z := .agg #[.int .i64 0, .int .i64 0, .int .i64 0, .int .i64 0, .int .i64 0, .int .i64 0, .string ⟨#[]⟩, .slice none 0 0]) (by kernel_rfl) (by kernel_rfl) rfl rfl
theorem elemDvc : ElemOK 25 47 2 32 := elem_of (z := .agg #[.int .i64 0, .slice none 0 0]) (by kernel_rfl) (by kernel_rfl) rfl rfl
end Go.Proofs.Ytaidkbnbfnaihaa.Old
namespace Go.Proofs.Ytaidkbnbfnaihaa.Old
open Go.RowKit

def blk (v : Value) : List Nat := v.ownBlock.toList
theorem mem_blk {v : Value} {b : Nat} : b ∈ blk v ↔ v.ownBlock = some b := by
  unfold blk
  cases v.ownBlock <;> simp [eq_comm]

section
variable {α : Type} {sz : Nat} {cell : α → Nat → Value} {E : TypeId} {w w' : World} {base : Nat} {v : Value} {xs : List α}
theorem OwnL.frame (h : OwnL sz cell E w base v xs) {row : Option Nat} (hg : w.grownBy w' row) (hne : ∀ b ∈ blk v, some b ≠ row) : OwnL sz cell E w' base v xs := by
  refine h.kept hg ?_
  cases hb : v.ownBlock with
  | none => exact .inl rfl
  | some b => exact .inr (hne b (mem_blk.2 hb))
theorem OwnL.blk_lt (h : OwnL sz cell E w base v xs) : ∀ b ∈ blk v, base ≤ b ∧ b < w.heap.size := fun b hb => h.lt b (mem_blk.1 hb)
theorem OwnL.not_mem (h : OwnL sz cell E w base v xs) {g : Nat} {t : TypeId} {cs : Array Value} (hg : w.heap[g]? = some (.cells cs t (0, 0))) (hne : E ≠ t) : g ∉ blk v := fun hm => h.ne_ hg hne (mem_blk.1 hm)
end

def fpN (v : Value) (ys : List (Nod × Value)) : List Nat := blk v ++ ys.flatMap fun y => blk y.2
def NodsAt (w : World) (base : Nat) (v : Value) (ys : List (Nod × Value)) : Prop :=
  OwnL 8 nodCell 50 w base v ys ∧ (∀ y ∈ ys, OwnL 2 entCell 108 w base y.2 y.1.entries ∧ y.1.entries.length ≤ few) ∧ (fpN v ys).Nodup
abbrev DvcL := Int × Value × List (Nod × Value)
def dvlCell (d : DvcL) : Nat → Value
  | 0 => .int .i64 d.1
  | _ => d.2.1
def fpD (v : Value) (L : List DvcL) : List Nat := blk v ++ L.flatMap fun x => fpN x.2.1 x.2.2
def DvcsAt (w : World) (base : Nat) (v : Value) (L : List DvcL) : Prop :=
  OwnL 2 dvlCell 47 w base v L ∧ (∀ x ∈ L, NodsAt w base x.2.1 x.2.2 ∧ x.2.2.length ≤ few) ∧ (fpD v L).Nodup ∧ L.length ≤ few
def dvcOf (x : DvcL) : Dvc := ⟨x.1, x.2.2.map (·.1)⟩
def flsOf (L : List DvcL) : Fls := L.map dvcOf

section
variable {w w' : World} {base : Nat} {v : Value}
theorem NodsAt.frame {ys : List (Nod × Value)} (h : NodsAt w base v ys) {row : Option Nat} (hg : w.grownBy w' row) (hne : ∀ b ∈ fpN v ys, some b ≠ row) : NodsAt w' base v ys := by
  obtain ⟨h1, h2, h3⟩ := h
  refine ⟨h1.frame hg fun b hb => hne b (List.mem_append_left _ hb), fun y hy => ⟨(h2 y hy).1.frame hg fun b hb => hne b (List.mem_append_right _ (List.mem_flatMap.2 ⟨y, hy, hb⟩)), (h2 y hy).2⟩, h3⟩
theorem NodsAt.fp_lt {ys : List (Nod × Value)} (h : NodsAt w base v ys) : ∀ b ∈ fpN v ys, base ≤ b ∧ b < w.heap.size := by
  intro b hb
  rcases List.mem_append.1 hb with hb | hb
  · exact h.1.blk_lt b hb
  · obtain ⟨y, hy, hb⟩ := List.mem_flatMap.1 hb
    exact (h.2.1 y hy).1.blk_lt b hb
theorem DvcsAt.frame {L : List DvcL} (h : DvcsAt w base v L) {row : Option Nat} (hg : w.grownBy w' row) (hne : ∀ b ∈ fpD v L, some b ≠ row) : DvcsAt w' base v L := by
  obtain ⟨h1, h2, h3, h4⟩ := h
  refine ⟨h1.frame hg fun b hb => hne b (List.mem_append_left _ hb), fun y hy => ⟨(h2 y hy).1.frame hg fun b hb => hne b (List.mem_append_right _ (List.mem_flatMap.2 ⟨y, hy, hb⟩)), (h2 y hy).2⟩, h3, h4⟩
theorem DvcsAt.fp_lt {L : List DvcL} (h : DvcsAt w base v L) : ∀ b ∈ fpD v L, base ≤ b ∧ b < w.heap.size := by
  intro b hb
  rcases List.mem_append.1 hb with hb | hb
  · exact h.1.blk_lt b hb
  · obtain ⟨y, hy, hb⟩ := List.mem_flatMap.1 hb
    exact (h.2.1 y hy).1.fp_lt b hb
theorem NodsAt.below {ys : List (Nod × Value)} (h : NodsAt w base v ys) (hb : Below w.heap.size w w') : NodsAt w' base v ys := h.frame (grown_of_below hb none) (by simp)
theorem DvcsAt.below {L : List DvcL} (h : DvcsAt w base v L) (hb : Below w.heap.size w w') : DvcsAt w' base v L := h.frame (grown_of_below hb none) (by simp)
theorem DvcsAt.set_ {L : List DvcL} (h : DvcsAt w base v L) {p : Addr} (hp : p.block ∉ fpD v L) (u : Value) : DvcsAt (w.setCell p u) base v L :=
  h.frame (row := some p.block) ⟨rfl, rfl, rfl, by simp [World.setCell], fun k _ hne => Below.heap_setCell w p u k (fun e => hne (by rw [e]))⟩ (fun b hb e => hp (by injection e with e; rwa [← e]))
theorem NodsAt.set_ {L : List (Nod × Value)} (h : NodsAt w base v L) {p : Addr} (hp : p.block ∉ fpN v L) (u : Value) : NodsAt (w.setCell p u) base v L :=
  h.frame (row := some p.block) ⟨rfl, rfl, rfl, by simp [World.setCell], fun k _ hne => Below.heap_setCell w p u k (fun e => hne (by rw [e]))⟩ (fun b hb e => hp (by injection e with e; rwa [← e]))
theorem DvcsAt.nil_ (w : World) (base : Nat) : DvcsAt w base (.slice none 0 0) [] := ⟨OwnL.nil_ _ _ _, by simp, by simp [fpD, blk, Value.ownBlock], by simp⟩
theorem NodsAt.nil_ (w : World) (base : Nat) : NodsAt w base (.slice none 0 0) [] := ⟨OwnL.nil_ _ _ _, by simp, by simp [fpN, blk, Value.ownBlock]⟩
end

end Go.Proofs.Ytaidkbnbfnaihaa.Old
namespace Go.Proofs.Ytaidkbnbfnaihaa.Old
open Go.RowKit

theorem cells8 {w : World} {b o : Nat} {x : Nod × Value} (h : ∀ j, j < 8 → w.cell? ⟨b, o + j, none⟩ = some (nodCell x j)) :
    w.cell? ⟨b, o, none⟩ = some (.int .i64 x.1.ino) ∧ w.cell? ⟨b, o + 1, none⟩ = some (.int .i64 x.1.kind) ∧ w.cell? ⟨b, o + 2, none⟩ = some (.int .i64 x.1.mode) ∧ w.cell? ⟨b, o + 3, none⟩ = some (.int .i64 x.1.uid) ∧
    w.cell? ⟨b, o + 4, none⟩ = some (.int .i64 x.1.gid) ∧ w.cell? ⟨b, o + 5, none⟩ = some (.int .i64 x.1.parent) ∧ w.cell? ⟨b, o + 6, none⟩ = some (.string x.1.target) ∧ w.cell? ⟨b, o + 7, none⟩ = some x.2 :=
  ⟨h 0 (by omega), h 1 (by omega), h 2 (by omega), h 3 (by omega), h 4 (by omega), h 5 (by omega), h 6 (by omega), h 7 (by omega)⟩
theorem entCell_one (y : Ent) (j : Nat) : (entCell y j).oneCell' = true := by
  unfold entCell
  split <;> rfl
end Go.Proofs.Ytaidkbnbfnaihaa.Old
