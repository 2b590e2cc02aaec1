/-
  The memory that a call sees: boxes of its own, growing lists, all else stays as it is. What an operation does, by trees.
-/
import Derived.Test.YtokaaebbmcldaaaGreatDoorAvA
namespace Go.Proofs.YtokaaebbmcldaaaGreatDoor
open Go.RowKit

/-- The boxes; the growing lists: the type and the number of cells of an element, and the elements. -/
structure AH where
  bx : List (List AV)
  tk : List (Nat × Nat × List (List AV))
/-- Where a call began: the world, the blocks that it may change, the cells that stayed. -/
structure Env where
  w0 : World
  ins : List Nat
  St0 : Nat → Nat → Prop
structure Kept (w0 : World) (ins : List Nat) (w : World) : Prop where
  os : w.os = w0.os
  tape : w.tape = w0.tape
  output : w.output = w0.output
  size : w0.heap.size ≤ w.heap.size
  block : ∀ k, k < w0.heap.size → k ∉ ins → w.heap[k]? = w0.heap[k]?
def BoxAt (G : Gh) (w : World) (b : Nat) (row : List AV) : Prop :=
  ∃ (us : List Value) (T : TypeId), w.heap[b]? = some (.cells us.toArray T (0, 0)) ∧ repL G w row us ∧ ∀ u ∈ us, u.oneCell' = true
def TokAt (base : Nat) (G : Gh) (w : World) (n : Nat) (u : Value) (E sz : Nat) (rows : List (List AV)) : Prop :=
  n = rows.length ∧ (∃ xs, w.ownsRow base E sz u n xs) ∧ ∀ b, u.ownBlock = some b → ∀ o, n * sz ≤ o → ¬ G.St b o
structure HRel (E : Env) (G : Gh) (h : AH) (w : World) : Prop where
  inpre : ∀ (i b : Nat), E.ins[i]? = some b → G.bx[i]? = some b
  kept : Kept E.w0 E.ins w
  stlt : ∀ b o, G.St b o → b < w.heap.size
  stnew : ∀ b o, G.St b o → E.St0 b o ∨ E.w0.heap.size ≤ b
  bxlen : G.bx.length = h.bx.length
  bxnd : G.bx.Nodup
  bxst : ∀ b ∈ G.bx, ∀ o, ¬ G.St b o
  bxown : ∀ b ∈ G.bx, E.w0.heap.size ≤ b ∨ b ∈ E.ins
  box : ∀ (i b : Nat) (row : List AV), G.bx[i]? = some b → h.bx[i]? = some row → BoxAt G w b row
  tklen : G.tk.length = h.tk.length
  tok : ∀ (g n : Nat) (u : Value) (T sz : Nat) (rows : List (List AV)), G.tk[g]? = some (n, u) → h.tk[g]? = some (T, sz, rows) → TokAt E.w0.heap.size G w n u T sz rows
  tkbx : ∀ (g n : Nat) (u : Value), G.tk[g]? = some (n, u) → ∀ b, u.ownBlock = some b → b ∉ G.bx
  tknd : ∀ (g g' n n' : Nat) (u u' : Value), G.tk[g]? = some (n, u) → G.tk[g']? = some (n', u') → g ≠ g' → ∀ b, u.ownBlock = some b → u'.ownBlock ≠ some b

theorem HRel.boxlt {E : Env} {G : Gh} {h : AH} {w : World} (hr : HRel E G h w) {b : Nat} (hb : b ∈ G.bx) : b < w.heap.size := by
  obtain ⟨i, hi⟩ := List.mem_iff_getElem?.1 hb
  have hlt : i < h.bx.length := by rw [← hr.bxlen]; exact (List.getElem?_eq_some_iff.1 hi).1
  obtain ⟨us, T, h1, _⟩ := hr.box i b _ hi (List.getElem?_eq_getElem hlt)
  exact (Array.getElem?_eq_some_iff.1 h1).1
theorem HRel.toklt {E : Env} {G : Gh} {h : AH} {w : World} (hr : HRel E G h w) {g n : Nat} {u : Value} (hg : G.tk[g]? = some (n, u)) {b : Nat} (hb : u.ownBlock = some b) : E.w0.heap.size ≤ b ∧ b < w.heap.size := by
  have hlt : g < h.tk.length := by rw [← hr.tklen]; exact (List.getElem?_eq_some_iff.1 hg).1
  obtain ⟨_, ⟨xs, h1⟩, _⟩ := hr.tok g n u _ _ _ hg (List.getElem?_eq_getElem hlt)
  exact World.ownsRow.lt h1 b hb

/-- What was there is as it was; some cells of new blocks are to stay. -/
theorem HRel.grow {E : Env} {G : Gh} {h : AH} {w w' : World} (hr : HRel E G h w) (hb : Below w.heap.size w w') (N : Nat → Nat → Prop) (hN : ∀ b o, N b o → w.heap.size ≤ b ∧ b < w'.heap.size) :
    HRel E ⟨fun b o => G.St b o ∨ N b o, G.bx, G.tk⟩ h w' ∧ Ext G w ⟨fun b o => G.St b o ∨ N b o, G.bx, G.tk⟩ w' := by
  have he : Ext G w ⟨fun b o => G.St b o ∨ N b o, G.bx, G.tk⟩ w' :=
    ⟨fun b o hs => ⟨.inl hs, hb.cell (p := ⟨b, o, none⟩) (hr.stlt b o hs)⟩, fun _ _ h => h, fun _ n u h => ⟨n, u, h, Nat.le_refl _, fun _ => rfl⟩⟩
  refine ⟨⟨hr.inpre, ?_, ?_, ?_, hr.bxlen, hr.bxnd, ?_, hr.bxown, ?_, hr.tklen, ?_, hr.tkbx, hr.tknd⟩, he⟩
  · have k := hr.kept
    exact ⟨hb.os.trans k.os, hb.tape.trans k.tape, hb.output.trans k.output, Nat.le_trans k.size hb.size, fun i hi hn => (hb.block i (Nat.lt_of_lt_of_le hi k.size)).trans (k.block i hi hn)⟩
  · rintro b o (hs | hs)
    · exact Nat.lt_of_lt_of_le (hr.stlt b o hs) hb.size
    · exact (hN b o hs).2
  · rintro b o (hs | hs)
    · exact hr.stnew b o hs
    · exact .inr (Nat.le_trans hr.kept.size (hN b o hs).1)
  · rintro b hbx o (hs | hs)
    · exact hr.bxst b hbx o hs
    · have := hr.boxlt hbx
      have := (hN b o hs).1
      omega
  · intro i b row hi hrow
    obtain ⟨us, T, h1, h2, h3⟩ := hr.box i b row hi hrow
    exact ⟨us, T, (hb.block b (hr.boxlt (List.mem_of_getElem? hi))).trans h1, repL_mono he row us h2, h3⟩
  · intro g n u T sz rows hg ht
    obtain ⟨h1, ⟨xs, h2⟩, h3⟩ := hr.tok g n u T sz rows hg ht
    refine ⟨h1, ⟨xs, World.ownsRow.kept h2 (w' := w') (row := none) ⟨hb.os, hb.tape, hb.output, hb.size, fun k hk _ => hb.block k hk⟩ (by cases u.ownBlock <;> simp)⟩, fun b hub o ho => ?_⟩
    rintro (hs | hs)
    · exact h3 b hub o ho hs
    · have := (hr.toklt hg hub).2
      have := (hN b o hs).1
      omega
theorem ext_none (G : Gh) : (⟨fun b o => G.St b o ∨ False, G.bx, G.tk⟩ : Gh) = G := by
  cases G; simp
theorem HRel.below {E : Env} {G : Gh} {h : AH} {w w' : World} (hr : HRel E G h w) (hb : Below w.heap.size w w') : HRel E G h w' ∧ Ext G w G w' := by
  have := hr.grow hb (fun _ _ => False) (fun _ _ h => h.elim)
  rwa [ext_none] at this

/-- Another box. -/
theorem HRel.addBox {E : Env} {G : Gh} {h : AH} {w : World} (hr : HRel E G h w) {b : Nat} {row : List AV} (hnew : b ∉ G.bx) (hbase : E.w0.heap.size ≤ b) (hst : ∀ o, ¬ G.St b o)
    (htk : ∀ (g n : Nat) (u : Value), G.tk[g]? = some (n, u) → u.ownBlock ≠ some b) (hbox : BoxAt G w b row) :
    HRel E ⟨G.St, G.bx ++ [b], G.tk⟩ ⟨h.bx ++ [row], h.tk⟩ w ∧ Ext G w ⟨G.St, G.bx ++ [b], G.tk⟩ w := by
  have he : Ext G w ⟨G.St, G.bx ++ [b], G.tk⟩ w :=
    ⟨fun _ _ h => ⟨h, rfl⟩, fun i b' hi => by
      rw [List.getElem?_append_left (List.getElem?_eq_some_iff.1 hi).1]; exact hi, fun _ n u h => ⟨n, u, h, Nat.le_refl _, fun _ => rfl⟩⟩
  refine ⟨⟨fun i b' hi => he.bx i b' (hr.inpre i b' hi), hr.kept, hr.stlt, hr.stnew, by simp [hr.bxlen], ?_, ?_, ?_, ?_, hr.tklen, hr.tok, ?_, hr.tknd⟩, he⟩
  · exact List.nodup_append.2 ⟨hr.bxnd, by simp, fun x hx y hy => by simp at hy; subst hy; intro e; subst e; exact hnew hx⟩
  · intro b' hb'
    rcases List.mem_append.1 hb' with h1 | h1
    · exact hr.bxst b' h1
    · simp at h1; subst h1; exact hst
  · intro b' hb'
    rcases List.mem_append.1 hb' with h1 | h1
    · exact hr.bxown b' h1
    · simp at h1; subst h1; exact .inl hbase
  · intro i b' row' hi hrow
    rcases Nat.lt_or_ge i G.bx.length with hlt | hge
    · rw [List.getElem?_append_left hlt] at hi
      rw [List.getElem?_append_left (by rw [← hr.bxlen]; exact hlt)] at hrow
      obtain ⟨us, T, h1, h2, h3⟩ := hr.box i b' row' hi hrow
      exact ⟨us, T, h1, repL_mono he row' us h2, h3⟩
    · rw [List.getElem?_append_right hge] at hi
      rw [List.getElem?_append_right (by rw [← hr.bxlen]; exact hge), ← hr.bxlen] at hrow
      have h0 : i - G.bx.length = 0 := by
        have := (List.getElem?_eq_some_iff.1 hi).1
        simp at this
        omega
      rw [h0] at hi hrow
      simp at hi hrow
      subst hi
      subst hrow
      obtain ⟨us, T, h1, h2, h3⟩ := hbox
      exact ⟨us, T, h1, repL_mono he row us h2, h3⟩
  · intro g n u hg b' hb' hmem
    rcases List.mem_append.1 hmem with h1 | h1
    · exact hr.tkbx g n u hg b' hb' h1
    · simp at h1; subst h1; exact htk g n u hg hb'

/-- A box holds something else. -/
theorem HRel.setBox {E : Env} {G : Gh} {h : AH} {w w' : World} (hr : HRel E G h w) {i b : Nat} {row : List AV} (hi : G.bx[i]? = some b)
    (hos : w'.os = w.os) (htape : w'.tape = w.tape) (hout : w'.output = w.output) (hsz : w'.heap.size = w.heap.size) (hblk : ∀ k, k ≠ b → w'.heap[k]? = w.heap[k]?)
    (hbox : ∃ (us : List Value) (T : TypeId), w'.heap[b]? = some (.cells us.toArray T (0, 0)) ∧ repL G w row us ∧ ∀ u ∈ us, u.oneCell' = true) :
    HRel E G ⟨h.bx.set i row, h.tk⟩ w' ∧ Ext G w G w' := by
  have hmem : b ∈ G.bx := List.mem_of_getElem? hi
  have he : Ext G w G w' := ⟨fun b' o hs => ⟨hs, World.cell?_of_block (w := w) (a := ⟨b', o, none⟩) (hblk b' (fun e => hr.bxst b hmem o (e ▸ hs)))⟩, fun _ _ h => h, fun _ n u h => ⟨n, u, h, Nat.le_refl _, fun _ => rfl⟩⟩
  refine ⟨⟨hr.inpre, ?_, ?_, hr.stnew, by simp [hr.bxlen], hr.bxnd, hr.bxst, hr.bxown, ?_, hr.tklen, ?_, hr.tkbx, hr.tknd⟩, he⟩
  · have k := hr.kept
    refine ⟨hos.trans k.os, htape.trans k.tape, hout.trans k.output, by rw [hsz]; exact k.size, fun j hj hn => ?_⟩
    refine (hblk j (fun e => ?_)).trans (k.block j hj hn)
    subst e
    rcases hr.bxown j hmem with h1 | h1
    · omega
    · exact hn h1
  · intro b' o hs
    rw [hsz]
    exact hr.stlt b' o hs
  · intro j b' row' hj hrow
    by_cases hji : j = i
    · subst hji
      rw [hi] at hj
      injection hj with hj
      subst hj
      have hlt : j < h.bx.length := by rw [← hr.bxlen]; exact (List.getElem?_eq_some_iff.1 hi).1
      rw [List.getElem?_set_self hlt] at hrow
      injection hrow with hrow
      subst hrow
      obtain ⟨us, T, h1, h2, h3⟩ := hbox
      exact ⟨us, T, h1, repL_mono he row us h2, h3⟩
    · rw [List.getElem?_set_ne (Ne.symm hji)] at hrow
      obtain ⟨us, T, h1, h2, h3⟩ := hr.box j b' row' hj hrow
      have hne : b' ≠ b := by
        intro e
        subst e
        obtain ⟨l1, e1⟩ := List.getElem?_eq_some_iff.1 hi
        obtain ⟨l2, e2⟩ := List.getElem?_eq_some_iff.1 hj
        exact hji ((List.getElem_inj hr.bxnd).1 (e2.trans e1.symm))
      exact ⟨us, T, (hblk b' hne).trans h1, repL_mono he row' us h2, h3⟩
  · intro g n u T sz rows hg ht
    obtain ⟨h1, ⟨xs, h2⟩, h3⟩ := hr.tok g n u T sz rows hg ht
    refine ⟨h1, ⟨xs, World.ownsRow.kept h2 (w' := w') (row := some b) ⟨hos, htape, hout, by omega, fun k _ hne => hblk k (fun e => hne (by rw [e]))⟩ (.inr (fun e => hr.tkbx g n u hg b e hmem))⟩, h3⟩

/-! One operation. -/
def Fits (E : Env) (R : AV → AH → Prop) (G : Gh) (w : World) (v : Value) (w' : World) : Prop := ∃ x h' G', R x h' ∧ HRel E G' h' w' ∧ Ext G w G' w' ∧ rep G' w' x v
def Upon (P : Program) (E : Env) (R : AV → AH → Prop) (G : Gh) (w : World) : Result Next → Prop
  | .ok (.value v) w' => Fits E R G w v w'
  | .ok .skip w' => Fits E R G w undef w'
  | .ok (.enter f args) w' => Calls P f args w' fun e w'' => match e with
      | .returned v => Fits E R G w v w''
      | _ => False
  | _ => False
/-- What an operation does: by the trees of its operands. -/
def AStep (P : Program) (o : Oper) (ev : Operand → Option AV) (h : AH) (R : AV → AH → Prop) : Prop :=
  ∀ (E : Env) (G : Gh) (w : World) (ec : Operand → Value), HRel E G h w → (∀ x ∈ o.op.operands, ∀ av, ev x = some av → rep G w av (ec x)) → Upon P E R G w ((execOp ec o).run P w)

theorem Fits.mono {E : Env} {R R' : AV → AH → Prop} (hR : ∀ x h, R x h → R' x h) {G : Gh} {w w' : World} {v : Value} (h : Fits E R G w v w') : Fits E R' G w v w' := by
  obtain ⟨x, h', G', h1, h2⟩ := h
  exact ⟨x, h', G', hR _ _ h1, h2⟩
theorem AStep.mono {P : Program} {o : Oper} {ev : Operand → Option AV} {h : AH} {R R' : AV → AH → Prop} (hs : AStep P o ev h R) (hR : ∀ x h, R x h → R' x h) : AStep P o ev h R' := by
  intro E G w ec h1 h2
  have := hs E G w ec h1 h2
  revert this
  generalize (execOp ec o).run P w = r
  intro hu
  unfold Upon at hu ⊢
  split at hu
  · exact hu.mono hR
  · exact hu.mono hR
  · refine Calls.mono hu ?_
    intro e w'' h3
    cases e with
    | returned v => exact Fits.mono hR h3
    | panicked c => exact h3.elim
    | outgrown => exact h3.elim
  · exact hu.elim
/-- It depends on the operands alone. -/
theorem AStep.congr {P : Program} {o : Oper} {ev ev' : Operand → Option AV} {h : AH} {R : AV → AH → Prop} (hs : AStep P o ev h R) (he : ∀ x ∈ o.op.operands, ev' x = ev x) : AStep P o ev' h R :=
  fun E G w ec h1 h2 => hs E G w ec h1 (fun x hx av hav => h2 x hx av (by rw [he x hx]; exact hav))

/-! The slots. -/
def look : List (Nat × AV) → Nat → Option AV
  | [], _ => none
  | (i, x) :: l, t => match Nat.beq i t with
    | true => some x
    | false => look l t
def put (d : Option Tmp) (x : AV) (f : Nat → Option AV) : Nat → Option AV :=
  match d with
  | some d => fun t => match Nat.beq d t with
    | true => some x
    | false => f t
  | none => f
def evs (f : Nat → Option AV) : Operand → Option AV
  | .tmp t => f t
  | .const c => some (.v c)
  | .global g => some (.v (.pointer (some ⟨g, 0, none⟩)))
  | .func f => some (.fn f [])
/-- How many slots there are; how many boxes have come in. -/
structure Dim where
  n : Nat
  ni : Nat
def dstIn (d : Option Tmp) (N : Dim) : Bool :=
  match d with
  | some d => Nat.blt d N.n
  | none => true
structure AS where
  sl : Nat → Option AV
  h : AH
def SlotsR (G : Gh) (w : World) (f : Nat → Option AV) (a : Act) : Prop := ∀ t x, f t = some x → rep G w x (a.tmps.getD t undef)
def Rel (N : Dim) (E : Env) (s : AS) (a : Act) (w : World) : Prop := ∃ G, HRel E G s.h w ∧ SlotsR G w s.sl a ∧ a.tmps.size = N.n ∧ a.defers = [] ∧ E.ins.length = N.ni
def lift (N : Dim) (E : Env) (Q : Exit → AS → Prop) (e : Exit) (a : Act) (w : World) : Prop := ∃ s, Q e s ∧ Rel N E s a w
def AWp (P : Program) (N : Dim) (c : Code) (Q : Exit → AS → Prop) (s : AS) : Prop := ∀ E a w, Rel N E s a w → c.wp P (lift N E Q) a w

theorem SlotsR.ev {G : Gh} {w : World} {f : Nat → Option AV} {a : Act} (h : SlotsR G w f a) {x : Operand} {av : AV} (hx : evs f x = some av) : rep G w av (a.eval x) := by
  cases x with
  | tmp t => exact h t av hx
  | const c => simp only [evs, Option.some.injEq] at hx; subst hx; simp only [rep, Act.eval]
  | global g => simp only [evs, Option.some.injEq] at hx; subst hx; simp only [rep, Act.eval]
  | func f => simp only [evs, Option.some.injEq] at hx; subst hx; simp only [rep, Act.eval]; exact ⟨[], rfl, by simp only [repL]⟩
theorem put_look (d : Nat) (x : AV) (l : List (Nat × AV)) : put (some d) x (look l) = look ((d, x) :: l) := rfl
theorem put_some (d : Nat) (x : AV) (f : Nat → Option AV) (t : Nat) : put (some d) x f t = if d = t then some x else f t := by
  show (match Nat.beq d t with | true => some x | false => f t) = _
  by_cases h : d = t
  · subst h; simp
  · have : Nat.beq d t = false := by
      rw [← Bool.not_eq_true, Nat.beq_eq]; exact h
    rw [this, if_neg h]
theorem SlotsR.put {G G' : Gh} {w w' : World} {f : Nat → Option AV} {a : Act} {N : Dim} (h : SlotsR G w f a) (he : Ext G w G' w') (hn : a.tmps.size = N.n) {d : Option Tmp} {x : AV} {v : Value} (hd : dstIn d N = true) (hx : rep G' w' x v) :
    SlotsR G' w' (put d x f) (a.put d v) ∧ (a.put d v).tmps.size = N.n ∧ (a.put d v).defers = a.defers := by
  cases d with
  | none => exact ⟨fun t y ht => rep_mono he _ _ (h t y ht), hn, rfl⟩
  | some d =>
    have hdn : d < N.n := Nat.le_of_ble_eq_true hd
    refine ⟨fun t y ht => ?_, by simp [Act.put, hn], rfl⟩
    rw [put_some] at ht
    by_cases hdt : d = t
    · subst hdt
      rw [if_pos rfl] at ht
      injection ht with ht
      subst ht
      have : (a.put (some d) v).tmps.getD d undef = v := by simp [Act.put, hn, hdn]
      rw [this]
      exact hx
    · rw [if_neg hdt] at ht
      have : (a.put (some d) v).tmps.getD t undef = a.tmps.getD t undef := by simp [Act.put, Array.getElem?_setIfInBounds_ne hdt]
      rw [this]
      exact rep_mono he _ _ (h t y ht)
end Go.Proofs.YtokaaebbmcldaaaGreatDoor
