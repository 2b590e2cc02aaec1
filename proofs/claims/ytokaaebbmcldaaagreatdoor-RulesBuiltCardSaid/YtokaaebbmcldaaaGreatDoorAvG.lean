/-
  The operations, one by one: structs and slices that are written out, growing lists, parts of slices.
-/
import Derived.Test.YtokaaebbmcldaaaGreatDoorAvF
namespace Go.Proofs.YtokaaebbmcldaaaGreatDoor
open Go.RowKit

/-! Structs that are written out. -/
inductive FillA (pl : List (Nat × Nat)) (ev : Operand → Option AV) : List AV → List (Nat × Operand) → List AV → Prop
  | nil (cs : List AV) : FillA pl ev cs [] cs
  | cons (cs cs' cs'' : List AV) (i : Nat) (o : Operand) (ps : List (Nat × Operand)) (x : AV) (off sz : Nat) : ev o = some x → pl[i]? = some (off, sz) → onesA (cellsA x) = true → Nat.beq (cellsA x).length sz = true → Nat.blt 0 sz = true →
      SetAt cs off (cellsA x) cs' → FillA pl ev cs' ps cs'' → FillA pl ev cs ((i, o) :: ps) cs''
theorem foldl_setL (off : Nat) : ∀ (vs : List Value) (s : Nat) (us : List Value), (vs.zipIdx s).foldl (fun cs (x : Value × Nat) => cs.setIfInBounds (off + x.2) x.1) us.toArray = (setL us (off + s) vs).toArray
  | [], _, _ => rfl
  | v :: vs, s, us => by
    simp only [List.zipIdx_cons, List.foldl_cons, List.setIfInBounds_toArray, setL]
    exact foldl_setL off vs (s + 1) (us.set (off + s) v)
theorem FillA.run {pl : List (Nat × Nat)} {ev : Operand → Option AV} {G : Gh} {w : World} {ec : Operand → Value} {place : Nat → Option (Nat × Nat)} {cs : List AV} {ps : List (Nat × Operand)} {cs' : List AV} (hf : FillA pl ev cs ps cs')
    (hpl : ∀ i p, pl[i]? = some p → place i = some p) (he : ∀ p ∈ ps, ∀ av, ev p.2 = some av → rep G w av (ec p.2)) : ∀ {us : List Value}, repL G w cs us → (∀ u ∈ us, u.oneCell' = true) →
      ∃ us', Instr.fill place us.toArray (ps.map fun p => (p.1, ec p.2)) = some us'.toArray ∧ repL G w cs' us' ∧ ∀ u ∈ us', u.oneCell' = true := by
  induction hf with
  | nil cs => intro us h1 h2; exact ⟨us, rfl, h1, h2⟩
  | cons cs cs' cs'' i o ps x off sz h1 h2 h3 h4 h5 h6 _ ih =>
    intro us k1 k2
    obtain ⟨vs, m1, m2⟩ := rep_cells (he (i, o) (by simp) _ h1) h3
    obtain ⟨q1, q2⟩ := h6.rep k1 m2
    have hl := Nat.eq_of_beq_eq_true h4
    have hp : 0 < sz := Nat.le_of_ble_eq_true h5
    have hvl := repL_length m2
    have hne : cellsA x ≠ [] := fun e => by rw [e] at hl; simp at hl; omega
    rw [if_neg hne] at q2
    obtain ⟨us', r1, r2, r3⟩ := ih (fun p hp => he p (by simp [hp])) q1 (fun u hu => by
      rcases setL_mem vs us off u hu with e | e
      · exact k2 u e
      · exact repL_ones m2 h3 u e)
    refine ⟨us', ?_, r2, r3⟩
    simp only [List.map_cons, Instr.fill, hpl i _ h2]
    rw [if_neg (by simp only [m1, List.size_toArray, Bool.or_eq_true, decide_eq_true_eq, not_or]; simp; omega)]
    rw [← r1, m1]
    congr 1
    have := foldl_setL off vs 0 us
    rw [Nat.add_zero] at this
    rw [← this, ← Array.foldl_toList]
    simp
theorem FillA.idx {pl : List (Nat × Nat)} {ev : Operand → Option AV} {cs : List AV} {ps : List (Nat × Operand)} {cs' : List AV} (hf : FillA pl ev cs ps cs') : ∀ p ∈ ps, ∃ q, pl[p.1]? = some q := by
  induction hf with
  | nil => simp
  | cons cs cs' cs'' i o ps x off sz h1 h2 _ _ _ _ _ ih =>
    intro p hq
    rcases List.mem_cons.1 hq with e | e
    · subst e; exact ⟨_, h2⟩
    · exact ih p e
section
variable {P : Program} {ev : Operand → Option AV} {h : AH} {R : AV → AH → Prop} {d : Option Tmp} {ty : TypeId} {pos : String} {af : Array Edge} {gd : Option (Nat × Bool)}
theorem run_buildA {T : Nat} {pl : List (Nat × Nat)} {zs : List Value} (hp : plcOf P T = some pl) (hz : zerOf P T = some zs) {place : Nat → Option (Nat × Nat)} {parts : List (Nat × Value)} {cells : List Value} (hall : ∀ p ∈ parts, ∃ q, pl[p.1]? = some q)
    (hf : ∀ place : Nat → Option (Nat × Nat), (∀ i p, pl[i]? = some p → place i = some p) → Instr.fill place zs.toArray parts = some cells.toArray) (w : World) : (Instr.build T parts.toArray).run P w = .ok (.agg cells.toArray) w := by
  refine run_build w T _ cells.toArray ?_
  obtain ⟨i, z, k1, k2, k3⟩ := zer_spec hz
  unfold plcOf at hp
  unfold Program.built
  rw [k1]
  cases hu : P.underlying T with
  | none => simp [hu] at hp
  | some dsc =>
    cases dsc <;> try (simp [hu] at hp; done)
    case array n e =>
      cases hi : P.info? e with
      | none => simp [hu, hi] at hp
      | some ie =>
        simp only [hu, hi, Option.map_some, Option.some.injEq] at hp
        simp only [k2, hi, k3]
        refine hf _ fun i p hi => ?_
        subst hp
        rw [List.getElem?_map] at hi
        cases hr : (List.range n)[i]? with
        | none => rw [hr] at hi; cases hi
        | some k =>
          rw [hr] at hi
          have : k = i := by
            obtain ⟨h1, h2⟩ := List.getElem?_eq_some_iff.1 hr
            simp at h2
            exact h2.symm
          subst this
          simpa using hi
    case struct fs =>
      simp only [hu] at hp
      simp only [k2, hp, k3]
      exact hf _ fun i p hi => by simpa using hi
theorem st_build {T : TypeId} {l : List (Nat × Operand)} {pl : List (Nat × Nat)} {row cs : List AV} [hp : Plc P T pl] [hz : Zer P T row] (hf : FillA pl ev row l cs) (hR : R (.agg cs) h) : AStep P ⟨d, .build T l.toArray, ty, pos, af, gd⟩ ev h R := by
  refine st_val (fun _ G w ec _ he => ?_) hR
  obtain ⟨zs, hz1, hrow, hz2⟩ := hz.eq
  have hrep : repL G w row zs := hrow ▸ repL_vs zs
  have hev : ∀ p ∈ l, ∀ av, ev p.2 = some av → rep G w av (ec p.2) := fun p hp av hav => he p.2 (by simp only [Op.operands]; simp; exact ⟨p.1, hp⟩) av hav
  obtain ⟨us', k1, k2, k3⟩ := hf.run (place := fun i => pl[i]?) (fun i p h => h) hev hrep (List.all_eq_true.1 hz2)
  have hrun := run_buildA (P := P) hp.eq hz1 (place := fun i => pl[i]?) (parts := l.map fun p => (p.1, ec p.2)) (cells := us') (fun p hp => by
    obtain ⟨q, hq, rfl⟩ := List.mem_map.1 hp
    exact hf.idx q hq) (fun place hpl => by
    obtain ⟨us'', m1, m2, _⟩ := hf.run (place := place) hpl hev hrep (List.all_eq_true.1 hz2)
    have key : ∀ (ps : List (Nat × Value)) (cells : Array Value), (∀ p ∈ ps, ∃ q, pl[p.1]? = some q) → Instr.fill place cells ps = Instr.fill (fun i => pl[i]?) cells ps := by
      intro ps
      induction ps with
      | nil => intro cells _; rfl
      | cons p ps ih =>
        intro cells hq
        obtain ⟨q, hq1⟩ := hq p (by simp)
        obtain ⟨i, v⟩ := p
        simp only [Instr.fill, hpl i q hq1, hq1]
        split
        · rfl
        · exact ih _ (fun p hp => hq p (by simp [hp]))
    rw [key _ _ (fun p hp => by
      obtain ⟨q, hq, rfl⟩ := List.mem_map.1 hp
      exact hf.idx q hq)]
    exact k1) w
  refine ⟨.agg us'.toArray, ?_, by simp only [rep]; exact ⟨us', rfl, k2⟩⟩
  simp only [execOp, Sem.run_bind, List.map_toArray, hrun, Result.andThen_ok, Sem.run_pure]
end

/-! Rows and their cells. -/
def FlatR (St : Nat → Nat → Prop) (w : World) (sz : Nat) (rows : List (List AV)) (us : List Value) : Prop :=
  us.length = rows.length * sz ∧ (∀ r ∈ rows, r.length = sz) ∧ (∀ u ∈ us, u.oneCell' = true) ∧ ∀ (i : Nat) (r : List AV) (k : Nat) (x : AV), rows[i]? = some r → r[k]? = some x → ∃ u, us[i * sz + k]? = some u ∧ fro St w x u
theorem FlatR.nil (St : Nat → Nat → Prop) (w : World) (sz : Nat) : FlatR St w sz [] [] := ⟨by simp, by simp, by simp, by simp⟩
theorem FlatR.append {St : Nat → Nat → Prop} {w : World} {sz : Nat} {rows rows' : List (List AV)} {us us' : List Value} (h : FlatR St w sz rows us) (h' : FlatR St w sz rows' us') : FlatR St w sz (rows ++ rows') (us ++ us') := by
  obtain ⟨a1, a2, a3, a4⟩ := h
  obtain ⟨b1, b2, b3, b4⟩ := h'
  refine ⟨by simp [a1, b1, Nat.add_mul], ?_, ?_, ?_⟩
  · intro r hr
    rcases List.mem_append.1 hr with e | e
    · exact a2 r e
    · exact b2 r e
  · intro r hr
    rcases List.mem_append.1 hr with e | e
    · exact a3 r e
    · exact b3 r e
  · intro i r k x hi hk
    rcases Nat.lt_or_ge i rows.length with hlt | hge
    · rw [List.getElem?_append_left hlt] at hi
      obtain ⟨u, h1, h2⟩ := a4 i r k x hi hk
      exact ⟨u, by rw [List.getElem?_append_left (List.getElem?_eq_some_iff.1 h1).1]; exact h1, h2⟩
    · rw [List.getElem?_append_right hge] at hi
      obtain ⟨u, h1, h2⟩ := b4 _ r k x hi hk
      refine ⟨u, ?_, h2⟩
      have e : i * sz + k = us.length + ((i - rows.length) * sz + k) := by
        rw [a1, Nat.sub_mul]
        have : rows.length * sz ≤ i * sz := Nat.mul_le_mul_right sz hge
        omega
      rw [e, List.getElem?_append_right (by omega)]
      simpa using h1
theorem FlatR.mono {St St' : Nat → Nat → Prop} {w w' : World} {sz : Nat} {rows : List (List AV)} {us : List Value} (h : FlatR St w sz rows us) (hst : ∀ b o, St b o → St' b o ∧ w'.cell? ⟨b, o, none⟩ = w.cell? ⟨b, o, none⟩) : FlatR St' w' sz rows us :=
  ⟨h.1, h.2.1, h.2.2.1, fun i r k x hi hk => let ⟨u, h1, h2⟩ := h.2.2.2 i r k x hi hk; ⟨u, h1, fro_mono hst x u h2⟩⟩
theorem FlatR.froR {St : Nat → Nat → Prop} {w : World} {sz b off : Nat} {rows : List (List AV)} {us : List Value} (h : FlatR St w sz rows us) (hc : ∀ j u, us[j]? = some u → St b (off + j) ∧ w.cell? ⟨b, off + j, none⟩ = some u) : froR St w b sz rows off := by
  refine froR_of fun i r hi => ⟨h.2.1 r (List.mem_of_getElem? hi), froC_of fun k x hk => ?_⟩
  obtain ⟨u, h1, h2⟩ := h.2.2.2 i r k x hi hk
  obtain ⟨c1, c2⟩ := hc _ u h1
  rw [← Nat.add_assoc] at c1 c2
  exact ⟨c1, u, c2, h.2.2.1 u (List.mem_of_getElem? h1), h2⟩
theorem froC_flat {St : Nat → Nat → Prop} {w : World} {b : Nat} {r : List AV} {off : Nat} (hc : froC St w b r off) : ∃ us : List Value, us.length = r.length ∧ froL St w r us ∧ (∀ u ∈ us, u.oneCell' = true) ∧ ∀ j u, us[j]? = some u → w.cell? ⟨b, off + j, none⟩ = some u := by
  obtain ⟨us, h1, h2, h3⟩ := froC_cells hc
  exact ⟨us, froL_length h1, h1, h2, h3⟩
theorem froL_get {St : Nat → Nat → Prop} {w : World} : ∀ {xs : List AV} {ys : List Value}, froL St w xs ys → ∀ {i : Nat} {x : AV}, xs[i]? = some x → ∃ y, ys[i]? = some y ∧ fro St w x y
  | [], _, _, i, x, hi => by simp at hi
  | x :: xs, _, h, i, x', hi => by
    simp only [froL] at h
    obtain ⟨z, zs, rfl, h2, h3⟩ := h
    cases i with
    | zero => simp at hi; subst hi; exact ⟨z, by simp, h2⟩
    | succ i => simp only [List.getElem?_cons_succ] at hi ⊢; exact froL_get h3 hi
theorem FlatR.one {St : Nat → Nat → Prop} {w : World} {sz : Nat} {r : List AV} {us : List Value} (hl : r.length = sz) (hf : froL St w r us) (h1 : ∀ u ∈ us, u.oneCell' = true) : FlatR St w sz [r] us := by
  refine ⟨by simp [froL_length hf, hl], by simp [hl], h1, fun i r' k x hi hk => ?_⟩
  cases i with
  | zero => simp at hi; subst hi; obtain ⟨y, h1, h2⟩ := froL_get hf hk; exact ⟨y, by simpa using h1, h2⟩
  | succ i => simp at hi
theorem froR_flat {St : Nat → Nat → Prop} {w : World} {b sz : Nat} : ∀ {rs : List (List AV)} {off : Nat}, froR St w b sz rs off → ∃ us : List Value, FlatR St w sz rs us ∧ ∀ j u, us[j]? = some u → w.cell? ⟨b, off + j, none⟩ = some u
  | [], _, _ => ⟨[], FlatR.nil _ _ _, by simp⟩
  | r :: rs, off, h => by
    simp only [Go.Proofs.YtokaaebbmcldaaaGreatDoor.froR] at h
    obtain ⟨us, a1, a2, a3, a4⟩ := froC_flat h.1.2
    obtain ⟨vs, b1, b2⟩ := froR_flat h.2
    refine ⟨us ++ vs, FlatR.append (FlatR.one h.1.1 a2 a3) b1, fun j u hj => ?_⟩
    rcases Nat.lt_or_ge j us.length with hlt | hge
    · rw [List.getElem?_append_left hlt] at hj
      exact a4 j u hj
    · rw [List.getElem?_append_right hge] at hj
      have := b2 _ u hj
      rwa [show off + sz + (j - us.length) = off + j by rw [a1, h.1.1] at hge ⊢; omega] at this
/-- The cells of a slice that stays. -/
theorem fro_flat {St : Nat → Nat → Prop} {w : World} {sz : Nat} {rows : List (List AV)} {y : Value} (h : fro St w (.sl sz rows none) y) : ∃ A cap us, y = .slice A rows.length cap ∧ rows.length ≤ cap ∧ cap ≤ maxLen ∧ FlatR St w sz rows us ∧
    (rows ≠ [] → ∃ b off, A = some ⟨b, off, none⟩ ∧ ∀ j u, us[j]? = some u → w.cell? ⟨b, off + j, none⟩ = some u) := by
  simp only [fro] at h
  obtain ⟨_, A, cap, h1, h2, h3, h4⟩ := h
  rcases h4 with h4 | ⟨b, off, h5, h6⟩
  · subst h4
    exact ⟨A, cap, [], h1, h2, h3, FlatR.nil _ _ _, fun h => absurd rfl h⟩
  · obtain ⟨us, k1, k2⟩ := froR_flat h6
    exact ⟨A, cap, us, h1, h2, h3, k1, fun _ => ⟨b, off, h5, k2⟩⟩
end Go.Proofs.YtokaaebbmcldaaaGreatDoor
