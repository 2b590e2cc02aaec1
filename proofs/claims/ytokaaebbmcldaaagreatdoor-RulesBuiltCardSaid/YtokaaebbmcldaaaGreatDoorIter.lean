/-
  A range over a function whose iterator keeps a state of its own in boxes (captured variables that it assigns).
-/
import Derived.RangeFuncNested
import Derived.RangeFuncBound
import Derived.RangeFuncCalls
import Derived.RangeFuncLeaves
import Derived.Test.YtokaaebbmcldaaaGreatDoorRep
namespace Go.Proofs.YtokaaebbmcldaaaGreatDoor
open Go.RowKit

/-- What the iterator's own steps and the loop's book-keeping may change: new blocks, the iterator's own boxes, and what is no cells and lies at or beyond B. -/
structure Moves (own : Nat → Prop) (B : Nat) (X Y : World) : Prop where
  os : Y.os = X.os
  tape : Y.tape = X.tape
  output : Y.output = X.output
  size : X.heap.size ≤ Y.heap.size
  block : ∀ k, k < X.heap.size → ¬ own k → (k < B ∨ ∃ o : Obj, X.heap[k]? = some o ∧ o.isCells = true) → Y.heap[k]? = X.heap[k]?

section
variable {own : Nat → Prop} {B : Nat} {X Y Z : World}
theorem Moves.refl (own : Nat → Prop) (B : Nat) (X : World) : Moves own B X X := ⟨rfl, rfl, rfl, Nat.le_refl _, fun _ _ _ _ => rfl⟩
theorem Moves.trans (h : Moves own B X Y) (k : Moves own B Y Z) : Moves own B X Z :=
  ⟨k.os.trans h.os, k.tape.trans h.tape, k.output.trans h.output, Nat.le_trans h.size k.size, fun i hi ho hb => by
    have e := h.block i hi ho hb
    refine (k.block i (Nat.lt_of_lt_of_le hi h.size) ho ?_).trans e
    rcases hb with hb | ⟨o, h1, h2⟩
    · exact .inl hb
    · exact .inr ⟨o, e.trans h1, h2⟩⟩
theorem Moves.mono (h : Moves own B X Y) {B' : Nat} (hB : B' ≤ B) : Moves own B' X Y :=
  ⟨h.os, h.tape, h.output, h.size, fun i hi ho hb => h.block i hi ho (by
    rcases hb with hb | hb
    · exact .inl (Nat.lt_of_lt_of_le hb hB)
    · exact .inr hb)⟩
theorem Moves.below (h : Below X.heap.size X Y) : Moves own B X Y := ⟨h.os, h.tape, h.output, h.size, fun i hi _ _ => h.block i hi⟩
theorem Moves.grown {g : Nat} (h : X.grownBy Y (some g)) (hg : own g) : Moves own B X Y :=
  ⟨h.os, h.tape, h.output, h.size, fun i hi ho _ => h.block i hi (fun e => ho (by injection e with e; rw [e]; exact hg))⟩
theorem Moves.set_ (X : World) {b : Nat} (hb : own b) (v : Value) : Moves own B X (X.setCell ⟨b, 0, none⟩ v) := Moves.grown (grownBy_setCell' X b v) hb
theorem Moves.put_ {l : Nat} {o : Obj} (o' : Obj) (hl : X.heap[l]? = some o) (ho : o.isCells = false) (hB : B ≤ l) : Moves own B X (X.putObj l o') :=
  have h := grownBy_putObj' X l o'
  ⟨h.os, h.tape, h.output, h.size, fun i hi _ hb => h.block i hi (fun e => by
    injection e with e
    subst e
    rcases hb with hb | ⟨o2, h1, h2⟩
    · omega
    · rw [hl] at h1; injection h1 with h1; subst h1; rw [ho] at h2; cases h2)⟩
theorem Moves.boxed (h : Moves own B X Y) {b : Nat} {t : TypeId} {v : Value} (hb : Boxed X b t v) (hn : ¬ own b) : Boxed Y b t v :=
  (h.block b hb.lt hn (.inr ⟨_, hb, rfl⟩)).trans hb
theorem Moves.under (h : Moves own B X Y) {n₀ : Nat} {w : World} (hb : Below n₀ w X) (hn : n₀ ≤ w.heap.size) (ho : ∀ b, own b → n₀ ≤ b) (hB : n₀ ≤ B) : Below n₀ w Y :=
  ⟨h.os.trans hb.os, h.tape.trans hb.tape, h.output.trans hb.output, Nat.le_trans hb.size h.size, fun i hi => by
    refine (h.block i (by have := hb.size; omega) (fun e => ?_) (.inl (by omega))).trans (hb.block i hi)
    have := ho i e
    omega⟩
end

theorem keepsFrom_below {B : Nat} {X Y : World} (h : Below X.heap.size X Y) : KeepsFrom B X Y := ⟨h.size, fun k _ _ hk _ => (h.block k (Array.getElem?_eq_some_iff.1 hk).1).trans hk⟩
theorem keepsFrom_set {B : Nat} {X Y : World} (h : KeepsFrom B X Y) {b : Nat} (hb : b < B) (v : Value) : KeepsFrom B X (Y.setCell ⟨b, 0, none⟩ v) :=
  h.trans (KeepsFrom.of_grownBy (grownBy_setCell' Y b v) (fun j e => by cases e; exact hb))
theorem boxed_put {W : World} {b D : Nat} {t : TypeId} {v : Value} (h : Boxed W b t v) (hne : b ≠ D) (o : Obj) : Boxed (W.putObj D o) b t v := h.kept (grownBy_putObj' W D o) (fun e => hne (by injection e))
theorem below_put {B : Nat} {w W : World} (h : Below B w W) {D : Nat} (hD : B ≤ D) (o : Obj) : Below B w (W.putObj D o) :=
  have g := grownBy_putObj' W D o
  ⟨g.os.trans h.os, g.tape.trans h.tape, g.output.trans h.output, Nat.le_trans h.size g.size, fun k hk => (World.putObj_heap_other (by omega)).trans (h.block k hk)⟩
/-- A call at the fence that asks nothing. -/
theorem wideCall {P : Program} {n m f : Nat} {args : Array Value} {w : World} {R : Ending → World → Prop} (h : CallsIn Fence.wide m P f args w R) :
    Fence.wide.fn f ∧ (Fence.wide.depth.isSome = true → 1 ≤ n) ∧ CallsIn Fence.wide m P f args w R := ⟨trivial, (fun h => by cases h), h⟩
/-- The iterator's contract: it hands out a list, or a part of it where a round says 'no more'. -/
def SeqW {α : Type} (F : Fence) (n : Nat) (P : Program) (g : Nat) (lb : Array Value) (encs : α → Array Value) (own : Nat → Prop) (Kp : World → World → Prop) (Pf : List α → Prop) (S Sp : List α → Prop) (w : World) : Prop :=
  ∀ (l : Nat) (J Jx : List α → World → Prop) (W : World), Below w.heap.size w W →
    (∀ s X Y, J s X → Moves own W.heap.size X Y → J s Y) → (∀ s X Y, Jx s X → Moves own W.heap.size X Y → Jx s Y) →
    (∀ pre x W1, J pre W1 → Pf (pre ++ [x]) → YieldAt F (n - 1) P l (encs x) W1 fun e W' =>
      (e = .returned (.bool true) ∧ J (pre ++ [x]) W' ∧ Kp W1 W') ∨ (e = .returned (.bool false) ∧ Jx (pre ++ [x]) W')) →
    J [] W →
    CallsIn F n P g (#[.func (.yield l) #[] #[]] ++ lb) W fun e W' => (∃ v, e = .returned v) ∧ ((∃ xs, S xs ∧ J xs W') ∨ (∃ pre, Sp pre ∧ Jx pre W'))

variable {F : Fence} {n : Nat} {P : Program}

/-- The law of the caller (after the kit's own laws of this form). -/
theorem wpIn_rangeFunc_st {α : Type} {g : Operand} {ps : Array Tmp} {assign body : Code} {Q : Exit → Act → World → Prop} {a : Act} {w : World}
    (hro : F.round = none) (h1 : 1 ≤ n) {gf : Nat} {lb : Array Value} (hg : a.eval g = .func (.func gf) #[] lb) (hFg : F.fn gf) (eg : ∀ args w, (callFunc gf args).run P w = .ok (.enter gf args) w)
    {encs : α → Array Value} {own : Nat → Prop} {Kp : World → World → Prop} {Pf : List α → Prop} {S Sp : List α → Prop} {w0 : World} (hseq : SeqW F (n - 1) P gf lb encs own Kp Pf S Sp w0)
    (hown : ∀ b, own b → b < w.heap.size) (hKt : ∀ {A B C : World}, Kp A B → Kp B C → Kp A C) (hKb : ∀ (W : World) (l : Nat) (o o' : Obj), w.heap.size ≤ l → W.heap[l]? = some o → o.isCells = false → Kp W (W.putObj l o'))
    (hb0 : Below w0.heap.size w0 w) (hps : ∀ x, (encs x).size = ps.size)
    (I : List α → World → Prop) (Ix : Code → List α → World → Prop) (hI : ∀ s X Y, I s X → Moves own w.heap.size X Y → I s Y) (hIx : ∀ c s X Y, Ix c s X → Moves own w.heap.size X Y → Ix c s Y) (h0 : I [] w) (a₁ : α → Act)
    (hassign : ∀ (l : Nat) (x : α) (W : World) (K : Act → World → Prop), K (a₁ x) W →
      assign.wpIn (F.inRound l) (n - 1 - 1) P (Exit.then K (fun _ _ _ => False)) { tmps := (ps.zip (encs x)).foldl (fun t (p, v) => t.setIfInBounds p v) a.tmps, defers := [] } W)
    (hbody : ∀ (l : Nat) (pre : List α) (x : α) (W : World), I pre W → Pf (pre ++ [x]) → w.heap.size + 2 ≤ W.heap.size → body.wpIn (F.inRound l) (n - 1 - 1) P (ownPostG w.heap.size Kp I Ix (pre ++ [x]) W) (a₁ x) W)
    (hdone : ∀ (D : Nat) (xs : List α) (W : World), w.heap.size ≤ D → S xs → I xs W → W.heap[D]? = some (.deferred (some [])) → Q .normal { a with defers := { target := .collected D, args := #[] } :: a.defers } W)
    (hstop : ∀ (D : Nat) (c : Code) (pre : List α) (W : World), w.heap.size ≤ D → Sp pre → Ix c pre W → W.heap[D]? = some (.deferred (some [])) → c.wpIn F n P Q { a with defers := { target := .collected D, args := #[] } :: a.defers } W) :
    (Code.rangeFunc g ps assign body).wpIn F n P Q a w := by
  refine wpIn_rangeFunc ?_
  intro fn hfn
  rw [hro]
  obtain ⟨rec, hrec⟩ : ∃ rec : LoopState → Option Code → Loop, rec = fun st pe => { state := st, pending := pe, fn, tmps := a.tmps, params := ps, assign, body, defers := w.heap.size } := ⟨_, rfl⟩
  obtain ⟨W1, hW1⟩ : ∃ W1, (w.alloc (.deferred (some []))).alloc (.loop (rec .ready none)) = W1 := ⟨_, rfl⟩
  have hbw : Below w.heap.size w W1 := by rw [← hW1]; exact below_a2 w _ _
  have hsz : W1.heap.size = w.heap.size + 2 := by rw [← hW1]; simp
  have hL1 : W1.heap[w.heap.size + 1]? = some (.loop (rec .ready none)) := by rw [← hW1]; exact blk_a2_1 _ _ _
  have hK1 : W1.heap[w.heap.size]? = some (.deferred (some [])) := by rw [← hW1]; exact blk_a2_0 _ _ _
  have hn0 : ¬ own w.heap.size := fun h => by have := hown _ h; omega
  have hn1 : ¬ own (w.heap.size + 1) := fun h => by have := hown _ h; omega
  refine ⟨w.heap.size + 1, [{ target := .collected w.heap.size, args := #[] }], W1, { target := .fn (.func gf) lb, args := #[.func (.yield (w.heap.size + 1)) #[] #[]] }, W1, gf,
    #[.func (.yield (w.heap.size + 1)) #[] #[]] ++ lb, W1, ?_, ?_, ?_, ?_, fun _ => h1, ?_⟩
  · rw [← hW1, hrec]; exact run_enterLoop_outer _ _ _ _ _
  · simp only [resolve, hg]
    simp [go_sem]
  · intro f' hf'; simp [Target.leads] at hf'; subst hf'; exact hFg
  · simp [invoke, go_sem, eg]
  · have lt_of : ∀ {W : World} {k : Nat} {o : Obj}, W.heap[k]? = some o → k < W.heap.size := fun h => (Array.getElem?_eq_some_iff.1 h).1
    have keep : ∀ {X Y : World} {k : Nat} {o : Obj}, Moves own W1.heap.size X Y → X.heap[k]? = some o → k < W1.heap.size → ¬ own k → Y.heap[k]? = some o := fun hm hx hk hn => (hm.block _ (lt_of hx) hn (.inl hk)).trans hx
    refine (hseq (w.heap.size + 1)
      (fun pre W => I pre W ∧ W.heap[w.heap.size + 1]? = some (.loop (rec .ready none)) ∧ W.heap[w.heap.size]? = some (.deferred (some [])))
      (fun pre W => ∃ c, Ix c pre W ∧ W.heap[w.heap.size + 1]? = some (.loop (rec .done (some c))) ∧ W.heap[w.heap.size]? = some (.deferred (some [])))
      W1 (hb0.trans (hbw.mono hb0.size))
      (fun s X Y hs hm => ⟨hI s X Y hs.1 (hm.mono (by omega)), keep hm hs.2.1 (by omega) hn1, keep hm hs.2.2 (by omega) hn0⟩)
      (fun s X Y hs hm => by
        obtain ⟨c, hc, hl, hk⟩ := hs
        exact ⟨c, hIx c s X Y hc (hm.mono (by omega)), keep hm hl (by omega) hn1, keep hm hk (by omega) hn0⟩)
      ?_ ⟨hI _ _ _ h0 (.below hbw), hL1, hK1⟩).mono ?_
    · rintro pre x W ⟨hi, hl, hk⟩ hpf
      have hlt : w.heap.size + 1 < W.heap.size := lt_of hl
      have hy := run_yield (P := P) (args := encs x) hl (by rw [hrec]; exact hps x)
      rw [hrec] at hy
      refine ⟨fn, _, assign, body, hy, roundIn_of_wpIn hfn (hassign _ x W _ ⟨_, run_beginRound hl (by rw [hrec]), ?_⟩)⟩
      have hl2 : (W.putObj (w.heap.size + 1) (.loop { rec .ready none with state := .busy })).heap[w.heap.size + 1]? = some (.loop { rec .ready none with state := .busy }) := World.putObj_heap_same hlt
      have hk2 : (W.putObj (w.heap.size + 1) (.loop { rec .ready none with state := .busy })).heap[w.heap.size]? = some (.deferred (some [])) := (World.putObj_heap_other (by omega)).trans hk
      have hw2 : Kp W (W.putObj (w.heap.size + 1) (.loop { rec .ready none with state := .busy })) := hKb _ _ _ _ (by omega) hl rfl
      refine wpIn_mono (hbody _ pre x _ (hI _ _ _ hi (.put_ _ hl rfl (by omega))) hpf (lt_of hl2)) ?_
      have fin : ∀ (jump : Option Code) (W3 : World), KeepsFrom w.heap.size (W.putObj (w.heap.size + 1) (.loop { rec .ready none with state := .busy })) W3 →
          (Instr.endRound (w.heap.size + 1) jump).run P W3 = .ok (.bool jump.isNone) (W3.putObj (w.heap.size + 1) (.loop (rec (if jump.isNone then .ready else .done) jump))) ∧
          W3.heap[w.heap.size + 1]? = some (.loop { rec .ready none with state := .busy }) ∧
          (W3.putObj (w.heap.size + 1) (.loop (rec (if jump.isNone then .ready else .done) jump))).heap[w.heap.size + 1]? = some (.loop (rec (if jump.isNone then .ready else .done) jump)) ∧
          (W3.putObj (w.heap.size + 1) (.loop (rec (if jump.isNone then .ready else .done) jump))).heap[w.heap.size]? = some (.deferred (some [])) := fun jump W3 hk3 => by
        have hl3 := hk3.same _ _ (by omega) hl2 rfl
        have := run_endRound (P := P) jump hl3
        rw [hrec] at this ⊢
        exact ⟨this, by rw [hrec] at hl3; exact hl3, World.putObj_heap_same (lt_of hl3), (World.putObj_heap_other (by omega)).trans (hk3.same _ _ (Nat.le_refl _) hk2 rfl)⟩
      rintro e a3 W3 hp
      cases e with
      | normal =>
        obtain ⟨hk3, hkp3, hi3⟩ := hp
        obtain ⟨hr, hl3, hl4, hk4⟩ := fin none W3 hk3
        exact ⟨_, _, hr, .inl ⟨rfl, ⟨hI _ _ _ hi3 (.put_ _ hl3 rfl (by omega)), hl4, hk4⟩, hKt (hKt hw2 hkp3) (hKb _ _ _ _ (by omega) hl3 rfl)⟩⟩
      | ret =>
        obtain ⟨hk3, hi3⟩ := hp
        obtain ⟨hr, hl3, hl4, hk4⟩ := fin (some .ret) W3 hk3
        exact ⟨_, _, hr, .inr ⟨rfl, .ret, hIx _ _ _ _ hi3 (.put_ _ hl3 rfl (by omega)), hl4, hk4⟩⟩
      | exit id =>
        obtain ⟨hk3, hi3⟩ := hp
        obtain ⟨hr, hl3, hl4, hk4⟩ := fin (some (.exit id)) W3 hk3
        exact ⟨_, _, hr, .inr ⟨rfl, .exit id, hIx _ _ _ _ hi3 (.put_ _ hl3 rfl (by omega)), hl4, hk4⟩⟩
      | goto t =>
        obtain ⟨hk3, hi3⟩ := hp
        obtain ⟨hr, hl3, hl4, hk4⟩ := fin (some (.goto t)) W3 hk3
        exact ⟨_, _, hr, .inr ⟨rfl, .goto t, hIx _ _ _ _ hi3 (.put_ _ hl3 rfl (by omega)), hl4, hk4⟩⟩
      | panic ch => exact hp.elim
      | outgrown => exact hp.elim
    · rintro e W2 ⟨⟨v, rfl⟩, (⟨xs, hS, hi, hl, hk⟩ | ⟨pre, hSp, c, hi, hl, hk⟩)⟩
      · exact ⟨none, _, by have := run_endLoop (P := P) hl (by rw [hrec]; simp); rw [hrec] at this; exact this, hdone _ xs _ (Nat.le_refl _) hS (hI _ _ _ hi (.put_ _ hl rfl (by omega))) ((World.putObj_heap_other (by omega)).trans hk)⟩
      · exact ⟨some c, _, by have := run_endLoop (P := P) hl (by rw [hrec]; simp); rw [hrec] at this; exact this, hstop _ c pre _ (Nat.le_refl _) hSp (hIx _ _ _ _ hi (.put_ _ hl rfl (by omega))) ((World.putObj_heap_other (by omega)).trans hk)⟩

end Go.Proofs.YtokaaebbmcldaaaGreatDoor
