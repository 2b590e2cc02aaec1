/-
  The walk by trees: sequences, branches, loops; operations in order, and in whatever order.
-/
import Derived.Test.YtokaaebbmcldaaaGreatDoorAvB
namespace Go.Proofs.YtokaaebbmcldaaaGreatDoor
open Go.RowKit

section
variable {P : Program} {N : Dim} {Q : Exit → AS → Prop} {s : AS}
def AThen (K : AS → Prop) (Q : Exit → AS → Prop) : Exit → AS → Prop
  | .normal, s => K s
  | e, s => Q e s
theorem aw_seq {x y : Code} (h : ∀ K : AS → Prop, (∀ s, AWp P N y Q s → K s) → AWp P N x (AThen K Q) s) : AWp P N (.seq x y) Q s := by
  intro E a w hr
  refine wp_seq (wp_mono (h _ (fun _ h => h) E a w hr) ?_)
  rintro e a' w' ⟨s', hq, hr'⟩
  cases e with
  | normal => exact hq E a' w' hr'
  | exit id => exact ⟨s', hq, hr'⟩
  | goto l => exact ⟨s', hq, hr'⟩
  | ret => exact ⟨s', hq, hr'⟩
  | panic c => exact ⟨s', hq, hr'⟩
  | outgrown => exact ⟨s', hq, hr'⟩
theorem aw_skip (h : Q .normal s) : AWp P N .skip Q s := fun _ _ _ hr => wp_skip ⟨s, h, hr⟩
theorem aw_label {l : Nat} (h : Q .normal s) : AWp P N (.label l) Q s := fun _ _ _ hr => wp_label ⟨s, h, hr⟩
theorem aw_exit {id : Nat} (h : Q (.exit id) s) : AWp P N (.exit id) Q s := fun _ _ _ hr => wp_exit ⟨s, h, hr⟩
theorem aw_goto {l : Nat} (h : Q (.goto l) s) : AWp P N (.goto l) Q s := fun _ _ _ hr => wp_goto ⟨s, h, hr⟩
theorem aw_ret (h : Q .ret s) : AWp P N .ret Q s := fun _ _ _ hr => wp_ret ⟨s, h, hr⟩
theorem Rel.bool {E : Env} {a : Act} {w : World} (hr : Rel N E s a w) {c : Operand} {t : Bool} (hc : evs s.sl c = some (.v (.bool t))) : a.eval c = .bool t := by
  obtain ⟨G, _, hs, _⟩ := hr
  have := hs.ev hc
  simpa only [rep] using this
theorem aw_cond {c : Operand} {x y : Code} {t : Bool} (hc : evs s.sl c = some (.v (.bool t))) (ht : t = true → AWp P N x Q s) (hf : t = false → AWp P N y Q s) : AWp P N (.cond c x y) Q s :=
  fun E a w hr => wp_cond_split (hr.bool hc) (fun h => ht h E a w hr) (fun h => hf h E a w hr)
theorem aw_cond_t {c : Operand} {x y : Code} (hc : evs s.sl c = some (.v (.bool true))) (ht : AWp P N x Q s) : AWp P N (.cond c x y) Q s := aw_cond hc (fun _ => ht) (fun h => by cases h)
theorem aw_cond_f {c : Operand} {x y : Code} (hc : evs s.sl c = some (.v (.bool false))) (hf : AWp P N y Q s) : AWp P N (.cond c x y) Q s := aw_cond hc (fun h => by cases h) (fun _ => hf)
def ABlock (id : Nat) (Q : Exit → AS → Prop) : Exit → AS → Prop
  | .exit id', s => if id' = id then Q .normal s else Q (.exit id') s
  | e, s => Q e s
theorem ABlock_out {id : Nat} (h : Q .normal s) : ABlock id Q (.exit id) s := by simp only [ABlock, if_true]; exact h
theorem ABlock_far {id id' : Nat} (hne : Nat.beq id' id = false) (h : Q (.exit id') s) : ABlock id Q (.exit id') s := by
  have : ¬ id' = id := fun e => by subst e; simp at hne
  simp only [ABlock, this, if_false]; exact h
theorem aw_block {id : Nat} {c : Code} (h : AWp P N c (ABlock id Q) s) : AWp P N (.block id c) Q s := by
  intro E a w hr
  refine wp_block (wp_mono (h E a w hr) ?_)
  rintro e a' w' ⟨s', hq, hr'⟩
  cases e with
  | exit id' =>
    simp only [ABlock, Exit.inBlock] at hq ⊢
    split
    · rename_i h1; rw [if_pos h1] at hq; exact ⟨s', hq, hr'⟩
    · rename_i h1; rw [if_neg h1] at hq; exact ⟨s', hq, hr'⟩
  | normal => exact ⟨s', hq, hr'⟩
  | goto l => exact ⟨s', hq, hr'⟩
  | ret => exact ⟨s', hq, hr'⟩
  | panic c => exact ⟨s', hq, hr'⟩
  | outgrown => exact ⟨s', hq, hr'⟩
/-- A loop: the relation bears a number that every round lowers. -/
theorem aw_loop {c : Code} (I : Nat → AS → Prop) (n : Nat) (h0 : I n s) (round : ∀ n s, I n s → AWp P N c (AThen (fun s' => ∃ m, m < n ∧ I m s') Q) s) : AWp P N (.loop c) Q s := by
  intro E a w hr
  refine wp_loop_ghost (fun n a w => ∃ s, I n s ∧ Rel N E s a w) n ⟨s, h0, hr⟩ ?_
  rintro n a w ⟨s, hI, hr⟩
  refine wp_mono (round n s hI E a w hr) ?_
  rintro e a' w' ⟨s', hq, hr'⟩
  cases e with
  | normal => obtain ⟨m, h1, h2⟩ := hq; exact ⟨m, h1, s', h2, hr'⟩
  | exit id => exact ⟨s', hq, hr'⟩
  | goto l => exact ⟨s', hq, hr'⟩
  | ret => exact ⟨s', hq, hr'⟩
  | panic c => exact ⟨s', hq, hr'⟩
  | outgrown => exact ⟨s', hq, hr'⟩
/-- What is known may be told in other words. -/
theorem aw_rel {c : Code} {s' : AS} (h : AWp P N c Q s') (hr : ∀ E a w, Rel N E s a w → Rel N E s' a w) : AWp P N c Q s := fun E a w k => h E a w (hr E a w k)

/-! Operations. -/
theorem upon_of {E : Env} {R : AV → AH → Prop} {G : Gh} {w : World} {r : Result Next} {o : Oper} {a : Act} {next : Act → World → Prop} {Q' : Exit → Act → World → Prop} (h : Upon P E R G w r)
    (hn : ∀ v w', Fits E R G w v w' → next (a.put o.dst v) w') : o.upon P a next Q' r := by
  unfold Upon at h
  split at h
  · exact hn _ _ h
  · exact hn _ _ h
  · refine Calls.mono h ?_
    intro e w'' h3
    cases e with
    | returned v => exact hn _ _ h3
    | panicked c => exact h3.elim
    | outgrown => exact h3.elim
  · exact h.elim
theorem step_wp {E : Env} {a : Act} {w : World} {o : Oper} {K : AS → Prop} {next : Act → World → Prop} {Q' : Exit → Act → World → Prop} (hr : Rel N E s a w) (hd : dstIn o.dst N = true)
    (h : AStep P o (evs s.sl) s.h (fun x h' => K ⟨put o.dst x s.sl, h'⟩)) (hn : ∀ s' a' w', K s' → Rel N E s' a' w' → next a' w') : o.wp P a w next Q' := by
  obtain ⟨G, h1, h2, h3, h4, h5⟩ := hr
  refine upon_of (h E G w a.eval h1 (fun x _ av hav => h2.ev hav)) ?_
  rintro v w' ⟨x, h', G', hK, k1, k2, k3⟩
  obtain ⟨k4, k5, k6⟩ := h2.put k2 h3 hd k3
  exact hn _ _ _ hK ⟨G', k1, k4, k5, k6.trans h4, h5⟩
theorem skip_rel {E : Env} {a : Act} {w : World} {d : Option Tmp} (hr : Rel N E s a w) (hd : dstIn d N = true) : Rel N E ⟨put d (.v undef) s.sl, s.h⟩ (a.put d undef) w := by
  obtain ⟨G, h1, h2, h3, h4, h5⟩ := hr
  obtain ⟨k4, k5, k6⟩ := h2.put (Ext.refl G w) h3 hd (x := .v undef) (v := undef) (by simp only [rep])
  exact ⟨G, h1, k4, k5, k6.trans h4, h5⟩

/-- What a guarding operation has yielded: a bool, or nothing. -/
def yv (ops : Array Oper) (f : Nat → Option AV) (j : Nat) : Option (Option Bool) :=
  match (ops[j]?).bind (·.dst) with
  | none => some none
  | some d => match f d with
    | some (.v (.bool b)) => some (some b)
    | some (.v (.tuple _)) => some none
    | _ => none
def wantedA (ops : Array Oper) (f : Nat → Option AV) (o : Oper) : Option Bool :=
  match o.guard with
  | none => some true
  | some (j, want) => match yv ops f j with
    | some (some b) => some (b == want)
    | some none => some false
    | none => none
theorem wanted_eq {ops : Array Oper} {o : Oper} {E : Env} {a : Act} {w : World} {t : Bool} (hr : Rel N E s a w) (h : wantedA ops s.sl o = some t) : Region.wanted o (yielded ops a.tmps) = t := by
  obtain ⟨G, _, hs, _⟩ := hr
  unfold wantedA at h
  unfold Region.wanted
  cases hg : o.guard with
  | none => simp only [hg] at h ⊢; injection h
  | some jw =>
    obtain ⟨j, want⟩ := jw
    simp only [hg] at h ⊢
    unfold yv at h
    unfold yielded
    cases hj : (ops[j]?).bind (·.dst) with
    | none => simp only [hj] at h ⊢; simp at h ⊢; exact h.symm ▸ rfl
    | some d =>
      simp only [hj] at h ⊢
      cases hl : s.sl d with
      | none => simp [hl] at h
      | some av =>
        have hrep := hs d av hl
        simp only [hl] at h
        cases av with
        | v x =>
          simp only [rep] at hrep
          rw [Array.getD_eq_getD_getElem?] at hrep
          cases x with
          | bool b =>
            simp only at h
            injection h with h
            cases hd : a.tmps[d]? with
            | none => rw [hd] at hrep; simp [undef] at hrep
            | some y => rw [hd] at hrep; simp at hrep; subst hrep; simp [hd, ← h]
          | tuple vs =>
            simp only at h
            injection h with h
            cases hd : a.tmps[d]? with
            | none => simp [hd, ← h]
            | some y => rw [hd] at hrep; simp at hrep; subst hrep; simp [hd, ← h]
          | _ => simp at h
        | _ => simp at h

/-- Operations in order. -/
def AL (P : Program) (N : Dim) (ops : Array Oper) (Q : Exit → AS → Prop) (rest : List Oper) (s : AS) : Prop := ∀ E a w, Rel N E s a w → wpList P ops (lift N E Q) rest a w
theorem aw_region {id : Nat} {l : List Oper} (h : AL P N l.toArray Q l s) : AWp P N (.region id l.toArray false) Q s := fun E a w hr => wp_region_lit (h E a w hr)
theorem al_nil {ops : Array Oper} (h : Q .normal s) : AL P N ops Q [] s := fun _ _ _ hr => wpList_nil ⟨s, h, hr⟩
theorem al_plain {ops : Array Oper} {o : Oper} {rest : List Oper} (hg : o.guard = none) (hd : dstIn o.dst N = true) (h : AStep P o (evs s.sl) s.h (fun x h' => AL P N ops Q rest ⟨put o.dst x s.sl, h'⟩)) : AL P N ops Q (o :: rest) s :=
  fun E a w hr => wpList_plain hg fun _ hK => step_wp hr hd h fun s' a' w' h1 h2 => hK _ _ (h1 E a' w' h2)
theorem al_guard {ops : Array Oper} {o : Oper} {rest : List Oper} {t : Bool} (hg : wantedA ops s.sl o = some t) (hd : dstIn o.dst N = true) (h : t = true → AStep P o (evs s.sl) s.h (fun x h' => AL P N ops Q rest ⟨put o.dst x s.sl, h'⟩))
    (h' : t = false → AL P N ops Q rest ⟨put o.dst (.v undef) s.sl, s.h⟩) : AL P N ops Q (o :: rest) s := by
  intro E a w hr
  refine wpList_step fun K hK => ?_
  rw [wanted_eq hr hg]
  cases t with
  | true => exact step_wp hr hd (h rfl) fun s' a' w' h1 h2 => hK _ _ (h1 E a' w' h2)
  | false => exact hK _ _ (h' rfl E _ _ (skip_rel hr hd))
theorem al_yes {ops : Array Oper} {o : Oper} {rest : List Oper} (hg : wantedA ops s.sl o = some true) (hd : dstIn o.dst N = true) (h : AStep P o (evs s.sl) s.h (fun x h' => AL P N ops Q rest ⟨put o.dst x s.sl, h'⟩)) : AL P N ops Q (o :: rest) s :=
  al_guard hg hd (fun _ => h) (fun h => by cases h)
theorem al_no {ops : Array Oper} {o : Oper} {rest : List Oper} (hg : wantedA ops s.sl o = some false) (hd : dstIn o.dst N = true) (h : AL P N ops Q rest ⟨put o.dst (.v undef) s.sl, s.h⟩) : AL P N ops Q (o :: rest) s :=
  al_guard hg hd (fun h => by cases h) (fun _ => h)

/-! Operations in whatever order. -/
def AOp (P : Program) (N : Dim) (ops : Array Oper) (i : Nat) (K : AS → Prop) (s : AS) : Prop :=
  match ops[i]? with
  | none => False
  | some o => dstIn o.dst N = true ∧ ∃ t, wantedA ops s.sl o = some t ∧ (t = true → AStep P o (evs s.sl) s.h (fun x h' => K ⟨put o.dst x s.sl, h'⟩)) ∧ (t = false → K ⟨put o.dst (.v undef) s.sl, s.h⟩)
def AAny (P : Program) (N : Dim) (ops : Array Oper) (Q : Exit → AS → Prop) (S : AH → Prop) (tl : Nat) : Nat → Array Bool → AS → Prop
  | 0, listed, s => Region.ready .any ops listed = [] ∧ Q .normal s
  | fuel + 1, listed, s => (Region.ready .any ops listed = [] → Q .normal s) ∧ ∀ i ∈ Region.ready .any ops listed, AOp P N ops i (fun s' => (i = tl ∨ S s'.h) ∧ AAny P N ops Q S tl fuel (listed.setIfInBounds i true) s') s
theorem AOp.wp {ops : Array Oper} {i : Nat} {K : AS → Prop} {E : Env} {a : Act} {w : World} {next : Act → World → Prop} {Q' : Exit → Act → World → Prop} (hr : Rel N E s a w) (h : AOp P N ops i K s) (hn : ∀ s' a' w', K s' → Rel N E s' a' w' → next a' w') : wpOp P ops Q' i next a w := by
  unfold AOp at h
  unfold wpOp
  cases ho : ops[i]? with
  | none => simp only [ho] at h
  | some o =>
    simp only [ho] at h ⊢
    obtain ⟨hd, t, ht, h1, h2⟩ := h
    rw [wanted_eq hr ht]
    cases t with
    | true => exact .inl (step_wp hr hd (h1 rfl) hn)
    | false => exact hn _ _ _ (h2 rfl) (skip_rel hr hd)
theorem AAny.wp {ops : Array Oper} {S : AH → Prop} {tl : Nat} {E : Env} : ∀ (fuel : Nat) (listed : Array Bool) (s : AS) (a : Act) (w : World), Rel N E s a w → AAny P N ops Q S tl fuel listed s → wpAny P .any ops (lift N E Q) fuel listed a w
  | 0, _, s, _, _, hr, h => ⟨h.1, s, h.2, hr⟩
  | fuel + 1, _, s, _, _, hr, h => ⟨fun h0 => ⟨s, h.1 h0, hr⟩, fun i hi => (h.2 i hi).wp hr fun s' a' w' hk hr' => AAny.wp fuel _ s' a' w' hr' hk.2⟩
theorem Rel.drew {E : Env} {a : Act} {w : World} (hr : Rel N E s a w) : Rel N E s a { w with drawn := w.drawn + 1 } := by
  obtain ⟨G, h1, h2, h3⟩ := hr
  obtain ⟨k1, k2⟩ := h1.below (w' := { w with drawn := w.drawn + 1 }) ⟨rfl, rfl, rfl, Nat.le_refl _, fun _ _ => rfl⟩
  exact ⟨G, k1, fun t x ht => rep_mono k2 _ _ (h2 t x ht), h3⟩
theorem aw_draw {id : Nat} {l : List Oper} (S : AH → Prop) (tl : Nat) (hm : P.follows .mixedOrders = true) (h : AAny P N l.toArray Q S tl l.length (Array.replicate l.length false) s) : AWp P N (.region id l.toArray true) Q s := by
  intro E a w hr
  refine wp_region_any hm ?_
  have := AAny.wp (Q := Q) l.length (Array.replicate l.length false) s a _ hr.drew h
  simpa using this
end
end Go.Proofs.YtokaaebbmcldaaaGreatDoor
