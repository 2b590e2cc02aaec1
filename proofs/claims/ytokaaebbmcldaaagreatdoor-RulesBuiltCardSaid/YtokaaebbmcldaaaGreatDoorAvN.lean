/-
  Calls that are handed what a box holds, to be read alone.
-/
import Derived.Test.YtokaaebbmcldaaaGreatDoorAvM
namespace Go.Proofs.YtokaaebbmcldaaaGreatDoor
open Go.RowKit

mutual
def lowA (bx : List (List AV)) : AV → AV
  | .v x => .v x
  | .agg cs => .agg (lowAL bx cs)
  | .tup cs => .tup (lowAL bx cs)
  | .sl sz rows _ => .sl sz rows none
  | .fp row => .fp row
  | .bp j o => match bx[j]? with
    | some row => .fp (eraL (row.drop o))
    | none => .any
  | .fn f caps => .fn f (lowAL bx caps)
  | .any => .any
def lowAL (bx : List (List AV)) : List AV → List AV
  | [] => []
  | x :: xs => lowA bx x :: lowAL bx xs
end
/-- The boxes too are only read. -/
def StL (G : Gh) (b o : Nat) : Prop := G.St b o ∨ b ∈ G.bx
theorem eraL_drop : ∀ (xs : List AV) (n : Nat), eraL (xs.drop n) = (eraL xs).drop n
  | [], n => by simp [eraL]
  | x :: xs, n => by
    cases n with
    | zero => rfl
    | succ n => simp only [List.drop_succ_cons, eraL]; exact eraL_drop xs n
theorem froL_froC {St : Nat → Nat → Prop} {w : World} {b : Nat} (hst : ∀ o, St b o) : ∀ {xs : List AV} {us : List Value} {off : Nat}, froL St w xs us → (∀ u ∈ us, u.oneCell' = true) → (∀ j u, us[j]? = some u → w.cell? ⟨b, off + j, none⟩ = some u) → froC St w b xs off
  | [], _, _, _, _, _ => by simp only [froC]
  | x :: xs, _, off, h, h1, h2 => by
    simp only [froL] at h
    obtain ⟨z, zs, rfl, h3, h4⟩ := h
    simp only [froC]
    refine ⟨⟨hst off, z, by simpa using h2 0 z rfl, h1 z (by simp), h3⟩, froL_froC hst h4 (fun u hu => h1 u (by simp [hu])) fun j u hj => ?_⟩
    have := h2 (j + 1) u (by simpa using hj)
    rwa [show off + (j + 1) = off + 1 + j by omega] at this
section
variable {E : Env} {G : Gh} {h : AH} {w : World} (hr : HRel E G h w)
include hr
theorem stL_mono : ∀ b o, G.St b o → StL G b o ∧ w.cell? ⟨b, o, none⟩ = w.cell? ⟨b, o, none⟩ := have _ := hr; fun _ _ h => ⟨.inl h, rfl⟩
theorem low_box {j b o : Nat} {row : List AV} (hb : G.bx[j]? = some b) (hrow : h.bx[j]? = some row) : froC (StL G) w b (eraL (row.drop o)) o := by
  obtain ⟨us, T, h1, h2, h3⟩ := hr.box j b row hb hrow
  have h4 : froL (StL G) w (eraL row) us := froL_mono (stL_mono hr) _ _ (froL_era _ _ h2)
  have h5 : froC (StL G) w b (eraL row) 0 := froL_froC (fun _ => .inr (List.mem_of_getElem? hb)) h4 h3 fun j u hj => by
    simp only [World.cell?, h1]
    simpa using hj
  have := froC_drop h5 o
  rw [eraL_drop]
  simpa using this
mutual
theorem rep_low : ∀ (x : AV) (v : Value), rep G w x v → rep ⟨StL G, [], []⟩ w (lowA h.bx x) v
  | .v _, _, k => by simpa only [rep, lowA] using k
  | .agg cs, _, k => by
    simp only [rep, lowA] at k ⊢
    obtain ⟨ys, h1, h2⟩ := k
    exact ⟨ys, h1, repL_low cs ys h2⟩
  | .tup cs, _, k => by
    simp only [rep, lowA] at k ⊢
    obtain ⟨ys, h1, h2⟩ := k
    exact ⟨ys, h1, repL_low cs ys h2⟩
  | .sl sz rows none, _, k => by simp only [rep, lowA] at k ⊢; exact fro_mono (stL_mono hr) _ _ k
  | .sl sz rows (some g), _, k => by simp only [rep, lowA] at k ⊢; exact fro_mono (stL_mono hr) _ _ k.1
  | .fp row, _, k => by
    simp only [rep, lowA] at k ⊢
    obtain ⟨b, off, h1, h2⟩ := k
    exact ⟨b, off, h1, froC_mono (stL_mono hr) _ _ _ h2⟩
  | .bp j o, v, k => by
    simp only [rep] at k
    obtain ⟨b, h1, h2⟩ := k
    simp only [lowA]
    have hlt : j < h.bx.length := by rw [← hr.bxlen]; exact (List.getElem?_eq_some_iff.1 h1).1
    rw [List.getElem?_eq_getElem hlt]
    simp only [rep]
    exact ⟨b, o, h2, low_box hr h1 (List.getElem?_eq_getElem hlt)⟩
  | .fn f caps, _, k => by
    simp only [rep, lowA] at k ⊢
    obtain ⟨ys, h1, h2⟩ := k
    exact ⟨ys, h1, repL_low caps ys h2⟩
  | .any, _, _ => by simp only [rep, lowA]
theorem repL_low : ∀ (xs : List AV) (vs : List Value), repL G w xs vs → repL ⟨StL G, [], []⟩ w (lowAL h.bx xs) vs
  | [], _, k => by have _ := hr; simpa only [repL, lowAL] using k
  | x :: xs, _, k => by
    simp only [repL, lowAL] at k ⊢
    obtain ⟨z, zs, h1, h2, h3⟩ := k
    exact ⟨z, zs, h1, rep_low x z h2, repL_low xs zs h3⟩
end
theorem low_start : HRel ⟨w, [], StL G⟩ ⟨StL G, [], []⟩ ⟨[], []⟩ w := by
  refine ⟨by simp, ⟨rfl, rfl, rfl, Nat.le_refl _, fun _ _ _ => rfl⟩, ?_, fun _ _ h => .inl h, rfl, by simp, by simp, by simp, by simp, rfl, by simp, by simp, by simp⟩
  rintro b o (hs | hs)
  · exact hr.stlt b o hs
  · exact hr.boxlt hs
end
inductive ArgsL (bx : List (List AV)) (ev : Operand → Option AV) : List Operand → List AV → Prop
  | nil : ArgsL bx ev [] []
  | cons (o : Operand) (x y : AV) (l : List Operand) (ys : List AV) : ev o = some x → lowA bx x = y → ArgsL bx ev l ys → ArgsL bx ev (o :: l) (y :: ys)
theorem ArgsL.rep {E : Env} {G : Gh} {h : AH} {w : World} (hr : HRel E G h w) {ev : Operand → Option AV} {l : List Operand} {ys : List AV} (ha : ArgsL h.bx ev l ys) {ec : Operand → Value} (he : ∀ x ∈ l, ∀ av, ev x = some av → rep G w av (ec x)) : repL ⟨StL G, [], []⟩ w ys (l.map ec) := by
  induction ha with
  | nil => simp only [List.map_nil, repL]
  | cons o x y l ys h1 h2 _ ih =>
    simp only [List.map_cons, repL]
    subst h2
    exact ⟨_, _, rfl, rep_low hr _ _ (he o (by simp) _ h1), ih fun x hx => he x (by simp [hx])⟩
/-! Plain values alone. -/
mutual
def plnA : AV → Bool
  | .v _ => true
  | .agg cs => plnL cs
  | .tup cs => plnL cs
  | _ => false
def plnL : List AV → Bool
  | [] => true
  | x :: xs => plnA x && plnL xs
end
mutual
theorem rep_pln {G G' : Gh} {w w' : World} : ∀ (x : AV) (v : Value), plnA x = true → rep G w x v → rep G' w' x v
  | .v _, _, _, h => by simpa only [rep] using h
  | .agg cs, _, hp, h => by
    simp only [plnA] at hp
    simp only [rep] at h ⊢
    obtain ⟨ys, h1, h2⟩ := h
    exact ⟨ys, h1, repL_pln cs ys hp h2⟩
  | .tup cs, _, hp, h => by
    simp only [plnA] at hp
    simp only [rep] at h ⊢
    obtain ⟨ys, h1, h2⟩ := h
    exact ⟨ys, h1, repL_pln cs ys hp h2⟩
  | .sl _ _ _, _, hp, _ => by simp [plnA] at hp
  | .fp _, _, hp, _ => by simp [plnA] at hp
  | .bp _ _, _, hp, _ => by simp [plnA] at hp
  | .fn _ _, _, hp, _ => by simp [plnA] at hp
  | .any, _, hp, _ => by simp [plnA] at hp
theorem repL_pln {G G' : Gh} {w w' : World} : ∀ (xs : List AV) (vs : List Value), plnL xs = true → repL G w xs vs → repL G' w' xs vs
  | [], _, _, h => by simpa only [repL] using h
  | x :: xs, _, hp, h => by
    simp only [plnL, Bool.and_eq_true] at hp
    simp only [repL] at h ⊢
    obtain ⟨z, zs, h1, h2, h3⟩ := h
    exact ⟨z, zs, h1, rep_pln x z hp.1 h2, repL_pln xs zs hp.2 h3⟩
end
section
variable {P : Program} {ev : Operand → Option AV} {bx : List (List AV)} {tk : List Tok} {R : AV → AH → Prop} {d : Option Tmp} {ty : TypeId} {pos : String} {af : Array Edge} {gd : Option (Nat × Bool)} {ats : Array TypeId}
/-- A call that reads boxes and returns plain values. -/
theorem s_callS {f : FuncId} {l : List Operand} {ys : List AV} {R0 : AV → Prop} [Fun P f] (hfo : ev (.func f) = some (.fn f [])) (ha : ArgsL bx ev l ys) (hc : AFn P f ys R0) (hR : ∀ r, R0 r → plnA r = true ∧ R r ⟨bx, tk⟩) : AStep P ⟨d, .call { callee := .value (.func f), args := l.toArray, argTypes := ats }, ty, pos, af, gd⟩ ev ⟨bx, tk⟩ R := by
  intro E G w ec hr he
  obtain ⟨cs, k1, k2⟩ := func_op (he (.func f) (by simp [Op.operands, Call.operands]) _ hfo)
  simp only [repL] at k2
  subst k2
  refine upon_call k1 ?_
  rw [List.append_nil]
  refine Calls.mono (hc w (StL G) [] _ (low_start hr) (ArgsL.rep hr ha fun x hx av hav => he x (by simp [Op.operands, Call.operands, hx]) av hav)) ?_
  intro e w' h3
  cases e with
  | returned v =>
    obtain ⟨r, bx', tk', Gc, ⟨rfl, rfl, hR0⟩, h1, h2, h3⟩ := h3
    obtain ⟨q1, q2⟩ := hR r hR0
    have hk := h1.kept
    obtain ⟨m1, m2⟩ := hr.below (w' := w') ⟨hk.os, hk.tape, hk.output, hk.size, fun k hk' => hk.block k hk' (by simp)⟩
    exact ⟨r, _, G, q2, m1, m2, rep_pln _ _ q1 h3⟩
  | panicked c => exact h3.elim
  | outgrown => exact h3.elim
end
end Go.Proofs.YtokaaebbmcldaaaGreatDoor
