/-
  Calls, as operations.
-/
import Derived.Test.YtokaaebbmcldaaaGreatDoorAvJ
namespace Go.Proofs.YtokaaebbmcldaaaGreatDoor
open Go.RowKit

/-- Functions with a body. -/
def funOk (P : Program) (f : FuncId) : Bool :=
  match P.funcs[f]? with
  | some fn => fn.body.isSome && !(fn.name == "runtime.NumGoroutine")
  | none => false
class Fun (P : Program) (f : Nat) : Prop where
  eq : funOk P f = true
theorem run_callFunc {P : Program} {f : FuncId} (hf : funOk P f = true) (args : Array Value) (w : World) : (callFunc f args).run P w = .ok (.enter f args) w := by
  unfold funOk at hf
  cases h : P.funcs[f]? with
  | none => simp [h] at hf
  | some fn =>
    simp only [h, Bool.and_eq_true, Bool.not_eq_true'] at hf
    obtain ⟨h1, h2⟩ := hf
    have h3 : ¬ fn.name = "runtime.NumGoroutine" := by simpa using h2
    have h4 : fn.body.isNone = false := by cases hb : fn.body <;> simp [hb] at h1 ⊢
    have h5 : ¬ fn.body = none := by intro e; simp [e] at h4
    simp [callFunc, h, h3, h5]

/-- What is handed over. -/
def ArgOk (x y : AV) : Prop := ∀ (G : Gh) (w : World) (v : Value), rep G w x v → rep ⟨G.St, [], []⟩ w y v
theorem argOk_era (x : AV) : ArgOk x (era x) := fun G _ _ h => rep_fro (G := ⟨G.St, [], []⟩) _ _ (fro_era (G := G) _ _ h)
theorem ext_clean (St : Nat → Nat → Prop) (bx : List Nat) (tk : List (Nat × Value)) (w : World) : Ext ⟨St, [], []⟩ w ⟨St, bx, tk⟩ w := ⟨fun _ _ h => ⟨h, rfl⟩, fun _ _ h => by simp at h, fun _ _ _ h => by simp at h⟩
theorem owns_mono {w : World} {base base' : Nat} {e : TypeId} {size : Nat} {v : Value} {n : Nat} {xs : List Value} (h : w.ownsRow base e size v n xs) (hb : base' ≤ base) : w.ownsRow base' e size v n xs := by
  refine ⟨h.1, ?_⟩
  rcases h.2 with h' | ⟨g, cap, cur, hv, hg, r⟩
  · exact .inl h'
  · exact .inr ⟨g, cap, cur, hv, Nat.le_trans hb hg, r⟩
theorem argOk_clean {x : AV} (h : cln x = true) : ArgOk x x := by
  have := argOk_era x
  rwa [era_clean x h] at this
theorem argOk_nil (sz : Nat) : ArgOk (.v (.slice none 0 0)) (.sl sz [] none) := fun G w v h => LeA.nil sz _ w v (by simpa only [rep] using h)
inductive Args (ev : Operand → Option AV) : List Operand → List AV → Prop
  | nil : Args ev [] []
  | cons (o : Operand) (x y : AV) (l : List Operand) (ys : List AV) : ev o = some x → ArgOk x y → Args ev l ys → Args ev (o :: l) (y :: ys)
theorem Args.rep {ev : Operand → Option AV} {l : List Operand} {ys : List AV} (h : Args ev l ys) {G : Gh} {w : World} {ec : Operand → Value} (he : ∀ x ∈ l, ∀ av, ev x = some av → rep G w av (ec x)) : repL ⟨G.St, [], []⟩ w ys (l.map ec) := by
  induction h with
  | nil => simp only [List.map_nil, repL]
  | cons o x y l ys h1 h2 _ ih =>
    simp only [List.map_cons, repL]
    exact ⟨_, _, rfl, h2 G w _ (he o (by simp) _ h1), ih fun x hx => he x (by simp [hx])⟩

/-- What a call of a function leaves that has been handed no box. -/
theorem call_merge {E : Env} {G : Gh} {h : AH} {w w' : World} (hr : HRel E G h w) {Gc : Gh} {bx' : List (List AV)} {tk' : List Tok} (hc : HRel ⟨w, [], G.St⟩ Gc ⟨bx', tk'⟩ w') (he : Ext ⟨G.St, [], []⟩ w Gc w') (hbc : bpLtB 0 0 bx' = true) :
    HRel E ⟨Gc.St, G.bx ++ Gc.bx, G.tk ++ Gc.tk⟩ ⟨h.bx ++ bx', h.tk ++ tk'⟩ w' ∧ Ext G w ⟨Gc.St, G.bx ++ Gc.bx, G.tk ++ Gc.tk⟩ w' := by
  have hblk : ∀ k, k < w.heap.size → w'.heap[k]? = w.heap[k]? := fun k hk => hc.kept.block k hk (by simp)
  have hsz : w.heap.size ≤ w'.heap.size := hc.kept.size
  have hcb : ∀ b ∈ Gc.bx, w.heap.size ≤ b := fun b hb => (hc.bxown b hb).resolve_right (by simp)
  have hext : Ext G w ⟨Gc.St, G.bx ++ Gc.bx, G.tk ++ Gc.tk⟩ w' := by
    refine ⟨fun b o hs => he.st b o hs, fun i b hi => by rw [List.getElem?_append_left (List.getElem?_eq_some_iff.1 hi).1]; exact hi, fun g n u hg => ⟨n, u, by rw [List.getElem?_append_left (List.getElem?_eq_some_iff.1 hg).1]; exact hg, Nat.le_refl _, fun _ => rfl⟩⟩
  have hstc : ∀ b o, Gc.St b o → b < w.heap.size → G.St b o := fun b o hs hb => (hc.stnew b o hs).resolve_right (by simp only; omega)
  have tksplit : ∀ (g n : Nat) (u : Value), (G.tk ++ Gc.tk)[g]? = some (n, u) → (g < G.tk.length ∧ G.tk[g]? = some (n, u)) ∨ (G.tk.length ≤ g ∧ Gc.tk[g - G.tk.length]? = some (n, u)) := by
    intro g n u hg
    rcases Nat.lt_or_ge g G.tk.length with hlt | hge
    · rw [List.getElem?_append_left hlt] at hg; exact .inl ⟨hlt, hg⟩
    · rw [List.getElem?_append_right hge] at hg; exact .inr ⟨hge, hg⟩
  refine ⟨⟨fun i b hi => hext.bx i b (hr.inpre i b hi), ?_, hc.stlt, ?_, by simp [hr.bxlen, hc.bxlen], ?_, ?_, ?_, ?_, by simp [hr.tklen, hc.tklen], ?_, ?_, ?_⟩, hext⟩
  · have k := hr.kept
    have k' := hc.kept
    exact ⟨k'.os.trans k.os, k'.tape.trans k.tape, k'.output.trans k.output, Nat.le_trans k.size hsz, fun i hi hn => (hblk i (Nat.lt_of_lt_of_le hi k.size)).trans (k.block i hi hn)⟩
  · intro b o hs
    rcases hc.stnew b o hs with h1 | h1
    · exact hr.stnew b o h1
    · exact .inr (Nat.le_trans hr.kept.size h1)
  · refine List.nodup_append.2 ⟨hr.bxnd, hc.bxnd, fun x hx y hy e => ?_⟩
    subst e
    have := hr.boxlt hx
    have := hcb x hy
    omega
  · intro b hb o hs
    rcases List.mem_append.1 hb with h1 | h1
    · exact hr.bxst b h1 o (hstc b o hs (hr.boxlt h1))
    · exact hc.bxst b h1 o hs
  · intro b hb
    rcases List.mem_append.1 hb with h1 | h1
    · exact hr.bxown b h1
    · exact .inl (Nat.le_trans hr.kept.size (hcb b h1))
  · intro i b row hi hrow
    rcases Nat.lt_or_ge i G.bx.length with hlt | hge
    · simp only at hi hrow
      rw [List.getElem?_append_left hlt] at hi
      rw [List.getElem?_append_left (by rw [← hr.bxlen]; exact hlt)] at hrow
      obtain ⟨us, T, h1, h2, h3⟩ := hr.box i b row hi hrow
      exact ⟨us, T, (hblk b (hr.boxlt (List.mem_of_getElem? hi))).trans h1, repL_mono hext _ _ h2, h3⟩
    · simp only at hi hrow
      rw [List.getElem?_append_right hge] at hi
      rw [List.getElem?_append_right (by rw [← hr.bxlen]; exact hge), ← hr.bxlen] at hrow
      obtain ⟨us, T, h1, h2, h3⟩ := hc.box _ b row hi hrow
      refine ⟨us, T, h1, ?_, h3⟩
      have := repL_trunc 0 0 _ _ (bpLtB_get hbc hrow) h2
      refine repL_mono (ext_clean Gc.St (G.bx ++ Gc.bx) (G.tk ++ Gc.tk) w') _ _ ?_
      simpa using this
  · intro g n u T sz rows hg ht
    simp only at hg ht
    rcases tksplit g n u hg with ⟨h1, h2⟩ | ⟨h1, h2⟩
    · rw [List.getElem?_append_left (by rw [← hr.tklen]; exact h1)] at ht
      obtain ⟨k1, ⟨xs, k2⟩, k3⟩ := hr.tok g n u T sz rows h2 ht
      refine ⟨k1, ⟨xs, World.ownsRow.kept k2 (w' := w') (row := none) ⟨hc.kept.os, hc.kept.tape, hc.kept.output, hsz, fun k hk _ => hblk k hk⟩ (by cases u.ownBlock <;> simp)⟩, fun b hb o ho hs => ?_⟩
      exact k3 b hb o ho (hstc b o hs (hr.toklt h2 hb).2)
    · rw [List.getElem?_append_right (by rw [← hr.tklen]; exact h1), ← hr.tklen] at ht
      obtain ⟨k1, ⟨xs, k2⟩, k3⟩ := hc.tok _ n u T sz rows h2 ht
      exact ⟨k1, ⟨xs, owns_mono k2 hr.kept.size⟩, k3⟩
  · intro g n u hg b hb hm
    rcases tksplit g n u hg with ⟨h1, h2⟩ | ⟨h1, h2⟩
    · rcases List.mem_append.1 hm with h3 | h3
      · exact hr.tkbx g n u h2 b hb h3
      · have := (hr.toklt h2 hb).2
        have := hcb b h3
        omega
    · rcases List.mem_append.1 hm with h3 | h3
      · have := (hc.toklt h2 hb).1
        have := hr.boxlt h3
        simp only at *
        omega
      · exact hc.tkbx _ n u h2 b hb h3
  · intro g g' n n' u u' hg hg' hne b hb hb'
    rcases tksplit g n u hg with ⟨h1, h2⟩ | ⟨h1, h2⟩
    · rcases tksplit g' n' u' hg' with ⟨k1, k2⟩ | ⟨k1, k2⟩
      · exact hr.tknd g g' n n' u u' h2 k2 hne b hb hb'
      · have := (hr.toklt h2 hb).2
        have := (hc.toklt k2 hb').1
        simp only at *
        omega
    · rcases tksplit g' n' u' hg' with ⟨k1, k2⟩ | ⟨k1, k2⟩
      · have := (hr.toklt k2 hb').2
        have := (hc.toklt h2 hb).1
        simp only at *
        omega
      · exact hc.tknd _ _ n n' u u' h2 k2 (by omega) b hb hb'

/-- At the beginning of a call without boxes. -/
theorem call_start {E : Env} {G : Gh} {h : AH} {w : World} (hr : HRel E G h w) : HRel ⟨w, [], G.St⟩ ⟨G.St, [], []⟩ ⟨[], []⟩ w := by
  refine ⟨by simp, ⟨rfl, rfl, rfl, Nat.le_refl _, fun _ _ _ => rfl⟩, hr.stlt, fun _ _ h => .inl h, rfl, by simp, by simp, by simp, by simp, rfl, by simp, by simp, by simp⟩

/-- A function that makes nothing that may grow: R tells of the result. -/
def AFn (P : Program) (f : FuncId) (xs : List AV) (R : AV → Prop) : Prop := ACall P f xs [] (fun r bx' tk' => bx' = [] ∧ tk' = [] ∧ R r)
/-- A function whose result holds a list that may grow. -/
def AFnT (P : Program) (f : FuncId) (xs : List AV) (F : Option Nat → AV) (t : Tok) : Prop := ACall P f xs [] (fun r bx' tk' => bx' = [] ∧ tk' = [t] ∧ r = F (some 0))
/-- A function that changes one box. -/
def AFnB (P : Program) (f : FuncId) (xs : List AV) (row : List AV) (R : AV → List AV → Prop) : Prop := ACall P f xs [row] (fun r bx' tk' => ∃ row', bx' = [row'] ∧ tk' = [] ∧ R r row')
theorem AFn.mono {P : Program} {f : FuncId} {xs : List AV} {R R' : AV → Prop} (h : AFn P f xs R) (hR : ∀ r, R r → R' r) : AFn P f xs R' := ACall.mono h fun _ _ _ ⟨h1, h2, h3⟩ => ⟨h1, h2, hR _ h3⟩
mutual
def shT (k : Nat) : AV → AV
  | .v x => .v x
  | .agg cs => .agg (shTL k cs)
  | .tup cs => .tup (shTL k cs)
  | .sl sz rows none => .sl sz rows none
  | .sl sz rows (some g) => .sl sz rows (some (k + g))
  | .fp row => .fp row
  | .bp i o => .bp i o
  | .fn f caps => .fn f (shTL k caps)
  | .any => .any
def shTL (k : Nat) : List AV → List AV
  | [] => []
  | x :: xs => shT k x :: shTL k xs
end
section
variable {G G' : Gh} {w : World} {k : Nat} (hst : G'.St = G.St) (hbx : G.bx = []) (htk : ∀ (g n : Nat) (u : Value), G.tk[g]? = some (n, u) → G'.tk[k + g]? = some (n, u))
include hst hbx htk
mutual
theorem rep_shT : ∀ (x : AV) (v : Value), rep G w x v → rep G' w (shT k x) v
  | .v _, _, h => by simpa only [rep, shT] using h
  | .agg cs, _, h => by
    simp only [rep, shT] at h ⊢
    obtain ⟨ys, h1, h2⟩ := h
    exact ⟨ys, h1, repL_shT cs ys h2⟩
  | .tup cs, _, h => by
    simp only [rep, shT] at h ⊢
    obtain ⟨ys, h1, h2⟩ := h
    exact ⟨ys, h1, repL_shT cs ys h2⟩
  | .sl sz rows none, _, h => by simp only [rep, shT] at h ⊢; rw [hst]; exact h
  | .sl sz rows (some g), _, h => by
    simp only [rep, shT] at h ⊢
    obtain ⟨h0, n, u, h1, h2⟩ := h
    rw [hst]
    exact ⟨h0, n, u, htk g n u h1, h2⟩
  | .fp _, _, h => by simp only [rep, shT] at h ⊢; rw [hst]; exact h
  | .bp i _, _, h => by simp only [rep, hbx] at h; obtain ⟨b, h1, _⟩ := h; simp at h1
  | .fn f caps, _, h => by
    simp only [rep, shT] at h ⊢
    obtain ⟨ys, h1, h2⟩ := h
    exact ⟨ys, h1, repL_shT caps ys h2⟩
  | .any, _, _ => by simp only [rep, shT]
theorem repL_shT : ∀ (xs : List AV) (vs : List Value), repL G w xs vs → repL G' w (shTL k xs) vs
  | [], _, h => by have _ := hst; have _ := hbx; have _ := htk; simpa only [repL, shTL] using h
  | x :: xs, _, h => by
    simp only [repL, shTL] at h ⊢
    obtain ⟨z, zs, h1, h2, h3⟩ := h
    exact ⟨z, zs, h1, rep_shT x z h2, repL_shT xs zs h3⟩
end
end

section
variable {P : Program} {ev : Operand → Option AV} {h : AH} {R : AV → AH → Prop} {d : Option Tmp} {ty : TypeId} {pos : String} {af : Array Edge} {gd : Option (Nat × Bool)} {ats : Array TypeId}
theorem upon_call {f : FuncId} {l : List Operand} {E : Env} {G : Gh} {w : World} {ec : Operand → Value} [hf : Fun P f] {fo : Operand} {caps : List Value} (hfo : ec fo = .func (.func f) #[] caps.toArray)
    (hc : Calls P f (l.map ec ++ caps).toArray w fun e w'' => match e with
      | .returned v => Fits E R G w v w''
      | _ => False) : Upon P E R G w ((execOp ec ⟨d, .call { callee := .value fo, args := l.toArray, argTypes := ats }, ty, pos, af, gd⟩).run P w) := by
  have e : (execOp ec ⟨d, .call { callee := .value fo, args := l.toArray, argTypes := ats }, ty, pos, af, gd⟩).run P w = .ok (.enter f (l.map ec ++ caps).toArray) w := by
    simp only [execOp, resolve, hfo, Deferred.ofValue, invoke, Sem.run_bind, Sem.run_pure, Result.andThen_ok, List.map_toArray]
    rw [run_callFunc hf.eq]
    simp
  rw [e]
  exact hc
theorem func_op {G : Gh} {w : World} {ec : Operand → Value} {f : FuncId} {caps : List AV} {fo : Operand} (h : rep G w (.fn f caps) (ec fo)) : ∃ cs : List Value, ec fo = .func (.func f) #[] cs.toArray ∧ repL G w caps cs := by
  simpa only [rep] using h
/-- The result of a call without boxes, without anything that may grow. -/
theorem fits_pure {E : Env} {G : Gh} {w w' : World} {R0 : AV → Prop} {v : Value} (hr : HRel E G h w) (hR : ∀ r, R0 r → R r h)
    (hx : ∃ r bx' tk' G', (bx' = [] ∧ tk' = [] ∧ R0 r) ∧ HRel ⟨w, [], G.St⟩ G' ⟨bx', tk'⟩ w' ∧ Ext ⟨G.St, [], []⟩ w G' w' ∧ rep G' w' r v) : Fits E R G w v w' := by
  obtain ⟨r, bx', tk', Gc, ⟨rfl, rfl, hR0⟩, h1, h2, h3⟩ := hx
  obtain ⟨k1, k2⟩ := call_merge hr h1 h2 rfl
  refine ⟨r, h, _, hR r hR0, by simpa using k1, k2, ?_⟩
  have e1 : Gc.bx = [] := List.eq_nil_of_length_eq_zero (by rw [h1.bxlen]; rfl)
  have e2 : Gc.tk = [] := List.eq_nil_of_length_eq_zero (by rw [h1.tklen]; rfl)
  refine rep_mono (ext_clean Gc.St (G.bx ++ Gc.bx) (G.tk ++ Gc.tk) w') _ _ ?_
  have e3 : Gc = ⟨Gc.St, [], []⟩ := by cases Gc; simp only at e1 e2; rw [e1, e2]
  rw [e3] at h3
  exact h3
/-- A call of a function. -/
theorem st_call {f : FuncId} {l : List Operand} {ys : List AV} {R0 : AV → Prop} [Fun P f] (hfo : ev (.func f) = some (.fn f [])) (ha : Args ev l ys) (hc : AFn P f ys R0) (hR : ∀ r, R0 r → R r h) : AStep P ⟨d, .call { callee := .value (.func f), args := l.toArray, argTypes := ats }, ty, pos, af, gd⟩ ev h R := by
  intro E G w ec hr he
  obtain ⟨cs, k1, k2⟩ := func_op (he (.func f) (by simp [Op.operands, Call.operands]) _ hfo)
  simp only [repL] at k2
  subst k2
  refine upon_call k1 ?_
  rw [List.append_nil]
  refine Calls.mono (hc w G.St [] _ (call_start hr) (ha.rep fun x hx av hav => he x (by simp [Op.operands, Call.operands, hx]) av hav)) ?_
  intro e w' h3
  cases e with
  | returned v => exact fits_pure hr hR h3
  | panicked c => exact h3.elim
  | outgrown => exact h3.elim
/-- A call of a function that is held in a variable. -/
theorem st_callC {f : FuncId} {fo : Operand} {caps cy : List AV} {l : List Operand} {ys zs : List AV} {R0 : AV → Prop} [Fun P f] (hfo : ev fo = some (.fn f caps)) (ha : Args ev l ys) (hcy : clnL caps = true) (hz : ys ++ caps = zs) (hc : AFn P f zs R0) (hR : ∀ r, R0 r → R r h) : AStep P ⟨d, .call { callee := .value fo, args := l.toArray, argTypes := ats }, ty, pos, af, gd⟩ ev h R := by
  subst hz
  intro E G w ec hr he
  obtain ⟨cs, k1, k2⟩ := func_op (he fo (by simp [Op.operands, Call.operands]) _ hfo)
  refine upon_call k1 ?_
  have k3 : repL ⟨G.St, [], []⟩ w caps cs := by
    have := repL_fro (G := ⟨G.St, [], []⟩) _ _ (froL_era (G := G) _ _ k2)
    rwa [eraL_clean _ hcy] at this
  have k4 := ha.rep (G := G) (w := w) (ec := ec) fun x hx av hav => he x (by simp [Op.operands, Call.operands, hx]) av hav
  have app : ∀ (xs : List AV) (vs : List Value), repL ⟨G.St, [], []⟩ w xs vs → repL ⟨G.St, [], []⟩ w (xs ++ caps) (vs ++ cs) := by
    intro xs
    induction xs with
    | nil => intro vs hv; simp only [repL] at hv; subst hv; simpa using k3
    | cons x xs ih =>
      intro vs hv
      simp only [repL] at hv
      obtain ⟨z, zs, rfl, h1, h2⟩ := hv
      simp only [List.cons_append, repL]
      exact ⟨z, _, rfl, h1, ih zs h2⟩
  refine Calls.mono (hc w G.St [] _ (call_start hr) (app _ _ k4)) ?_
  intro e w' h3
  cases e with
  | returned v => exact fits_pure hr hR h3
  | panicked c => exact h3.elim
  | outgrown => exact h3.elim
/-- A call of a function whose result holds a list that may grow. -/
theorem st_callT {f : FuncId} {l : List Operand} {ys : List AV} {F : Option Nat → AV} {t : Tok} {n : Nat} {tk' : List Tok} [Fun P f] (hfo : ev (.func f) = some (.fn f [])) (ha : Args ev l ys) (hc : AFnT P f ys F t) (hF : ∀ k, shT k (F (some 0)) = F (some k)) (hs : SnocAt h.tk t n tk') (hR : R (F (some n)) ⟨h.bx, tk'⟩) :
    AStep P ⟨d, .call { callee := .value (.func f), args := l.toArray, argTypes := ats }, ty, pos, af, gd⟩ ev h R := by
  intro E G w ec hr he
  obtain ⟨cs, k1, k2⟩ := func_op (he (.func f) (by simp [Op.operands, Call.operands]) _ hfo)
  simp only [repL] at k2
  subst k2
  refine upon_call k1 ?_
  rw [List.append_nil]
  refine Calls.mono (hc w G.St [] _ (call_start hr) (ha.rep fun x hx av hav => he x (by simp [Op.operands, Call.operands, hx]) av hav)) ?_
  intro e w' h3
  cases e with
  | returned v =>
    obtain ⟨r, bx', tk1, Gc, ⟨rfl, rfl, rfl⟩, h1, h2, h3⟩ := h3
    obtain ⟨m1, m2⟩ := call_merge hr h1 h2 rfl
    obtain ⟨e1, e2⟩ := hs.eq
    subst e1
    subst e2
    have e1 : Gc.bx = [] := List.eq_nil_of_length_eq_zero (by rw [h1.bxlen]; rfl)
    refine ⟨_, _, _, hR, by simpa using m1, m2, ?_⟩
    rw [← hF]
    refine rep_shT (G := Gc) (G' := ⟨Gc.St, G.bx ++ Gc.bx, G.tk ++ Gc.tk⟩) (k := h.tk.length) rfl e1 (fun g n u hg => ?_) _ _ h3
    rw [← hr.tklen]
    show (G.tk ++ Gc.tk)[G.tk.length + g]? = _
    rw [List.getElem?_append_right (by omega)]
    simpa using hg
  | panicked c => exact h3.elim
  | outgrown => exact h3.elim
end
end Go.Proofs.YtokaaebbmcldaaaGreatDoor
