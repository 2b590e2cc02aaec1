/-
  The operations, one by one: slices that are written out, growing lists, parts of slices.
-/
import Derived.Test.YtokaaebbmcldaaaGreatDoorAvG
namespace Go.Proofs.YtokaaebbmcldaaaGreatDoor
open Go.RowKit

mutual
def cln : AV → Bool
  | .v _ => true
  | .agg cs => clnL cs
  | .tup cs => clnL cs
  | .sl _ _ none => true
  | .sl _ _ (some _) => false
  | .fp _ => true
  | .bp _ _ => false
  | .fn _ caps => clnL caps
  | .any => true
def clnL : List AV → Bool
  | [] => true
  | x :: xs => cln x && clnL xs
end
mutual
theorem era_clean : ∀ (x : AV), cln x = true → era x = x
  | .v _, _ => by simp only [era]
  | .agg cs, h => by simp only [cln] at h; simp only [era, eraL_clean cs h]
  | .tup cs, h => by simp only [cln] at h; simp only [era, eraL_clean cs h]
  | .sl _ _ none, _ => by simp only [era]
  | .sl _ _ (some _), h => by simp [cln] at h
  | .fp _, _ => by simp only [era]
  | .bp _ _, h => by simp [cln] at h
  | .fn _ caps, h => by simp only [cln] at h; simp only [era, eraL_clean caps h]
  | .any, _ => by simp only [era]
theorem eraL_clean : ∀ (xs : List AV), clnL xs = true → eraL xs = xs
  | [], _ => by simp only [eraL]
  | x :: xs, h => by
    simp only [clnL, Bool.and_eq_true] at h
    simp only [eraL, era_clean x h.1, eraL_clean xs h.2]
end
inductive DenseA (sz : Nat) (ev : Operand → Option AV) : Nat → List (Nat × Operand) → List (List AV) → Prop
  | nil (i : Nat) : DenseA sz ev i [] []
  | cons (i : Nat) (o : Operand) (ps : List (Nat × Operand)) (x : AV) (rows : List (List AV)) : ev o = some x → onesA (cellsA x) = true → Nat.beq (cellsA x).length sz = true → clnL (cellsA x) = true → DenseA sz ev (i + 1) ps rows → DenseA sz ev i ((i, o) :: ps) (cellsA x :: rows)
  | consE (i : Nat) (o : Operand) (ps : List (Nat × Operand)) (x : AV) (rows : List (List AV)) : ev o = some x → onesA (cellsA x) = true → Nat.beq (cellsA x).length sz = true → DenseA sz ev (i + 1) ps rows → DenseA sz ev i ((i, o) :: ps) (eraL (cellsA x) :: rows)
/-- Values, each with the cells of a row. -/
def RowsV (St : Nat → Nat → Prop) (w : World) (sz : Nat) : List (List AV) → List Value → Prop
  | [], vs => vs = []
  | r :: rs, vs => ∃ v vs', vs = v :: vs' ∧ r.length = sz ∧ (∃ us : List Value, v.cells = us.toArray ∧ froL St w r us ∧ ∀ u ∈ us, u.oneCell' = true) ∧ RowsV St w sz rs vs'
theorem eraL_length : ∀ (xs : List AV), (eraL xs).length = xs.length
  | [] => rfl
  | x :: xs => by simp only [eraL, List.length_cons, eraL_length xs]
theorem DenseA.vals {sz : Nat} {ev : Operand → Option AV} {G : Gh} {w : World} {ec : Operand → Value} {i : Nat} {ps : List (Nat × Operand)} {rows : List (List AV)} (hd : DenseA sz ev i ps rows) (he : ∀ p ∈ ps, ∀ av, ev p.2 = some av → rep G w av (ec p.2)) :
    ∃ vs, RowsV G.St w sz rows vs ∧ ps.map (fun p => (p.1, ec p.2)) = (vs.zipIdx i).map (fun x => (x.2, x.1)) ∧ vs.length = rows.length := by
  induction hd with
  | nil i => exact ⟨[], by simp only [RowsV], rfl, rfl⟩
  | cons i o ps x rows h1 h2 h3 h4 _ ih =>
    obtain ⟨vs, k1, k2, k3⟩ := ih (fun p hp => he p (by simp [hp]))
    obtain ⟨us, m1, m2⟩ := rep_cells (he (i, o) (by simp) _ h1) h2
    refine ⟨ec o :: vs, ?_, by simp [k2], by simp [k3]⟩
    simp only [RowsV]
    have := froL_era _ _ m2
    rw [eraL_clean _ h4] at this
    exact ⟨_, _, rfl, Nat.eq_of_beq_eq_true h3, ⟨us, m1, this, repL_ones m2 h2⟩, k1⟩
  | consE i o ps x rows h1 h2 h3 _ ih =>
    obtain ⟨vs, k1, k2, k3⟩ := ih (fun p hp => he p (by simp [hp]))
    obtain ⟨us, m1, m2⟩ := rep_cells (he (i, o) (by simp) _ h1) h2
    refine ⟨ec o :: vs, ?_, by simp [k2], by simp [k3]⟩
    simp only [RowsV]
    exact ⟨_, _, rfl, by rw [eraL_length]; exact Nat.eq_of_beq_eq_true h3, ⟨us, m1, froL_era _ _ m2, repL_ones m2 h2⟩, k1⟩
theorem RowsV.sizes {St : Nat → Nat → Prop} {w : World} {sz : Nat} : ∀ {rows : List (List AV)} {vs : List Value}, RowsV St w sz rows vs → (∀ v ∈ vs, v.cells.size = sz) ∧ vs.length = rows.length
  | [], _, h => by simp only [RowsV] at h; subst h; simp
  | r :: rs, _, h => by
    simp only [RowsV] at h
    obtain ⟨v, vs, rfl, h1, ⟨us, h2, h3, _⟩, h4⟩ := h
    obtain ⟨k1, k2⟩ := RowsV.sizes h4
    refine ⟨?_, by simp [k2]⟩
    intro y hy
    rcases List.mem_cons.1 hy with e | e
    · rw [e, h2]; simp [froL_length h3, h1]
    · exact k1 y e
theorem RowsV.get {St : Nat → Nat → Prop} {w : World} {sz : Nat} : ∀ {rows : List (List AV)} {vs : List Value}, RowsV St w sz rows vs → ∀ {i : Nat} {r : List AV}, rows[i]? = some r → r.length = sz ∧ ∃ v us, vs[i]? = some v ∧ v.cells = List.toArray us ∧ froL St w r us ∧ ∀ u ∈ us, u.oneCell' = true
  | [], _, _, i, r, hi => by simp at hi
  | r :: rs, _, h, i, r', hi => by
    simp only [RowsV] at h
    obtain ⟨v, vs, rfl, h1, ⟨us, h2, h3, h3'⟩, h4⟩ := h
    cases i with
    | zero => simp at hi; subst hi; exact ⟨h1, v, us, by simp, h2, h3, h3'⟩
    | succ i => simp only [List.getElem?_cons_succ] at hi ⊢; exact RowsV.get h4 hi
theorem RowsV.fill {St : Nat → Nat → Prop} {w : World} {sz : Nat} {rows : List (List AV)} {vs : List Value} (h : RowsV St w sz rows vs) (hs : 0 < sz) (cells : Array Value) (hc : cells.size = rows.length * sz) :
    ∃ us : List Value, Instr.fill (fun i => some (i * sz, sz)) cells ((vs.zipIdx 0).map fun x => (x.2, x.1)) = some us.toArray ∧ FlatR St w sz rows us := by
  obtain ⟨k1, k2⟩ := h.sizes
  obtain ⟨r, h1, h2, h3⟩ := Great.fill_dense hs vs 0 cells k1 (by rw [Nat.zero_add, k2, hc]; exact Nat.le_refl _)
  have key : ∀ (i : Nat) (row : List AV) (k : Nat), rows[i]? = some row → k < sz → ∃ us : List Value, froL St w row us ∧ (∀ u ∈ us, u.oneCell' = true) ∧ r[i * sz + k]? = us[k]? := by
    intro i row k hi hk
    obtain ⟨q1, v, us, q2, q3, q4, q5⟩ := h.get hi
    refine ⟨us, q4, q5, ?_⟩
    have hilt : i < vs.length := (List.getElem?_eq_some_iff.1 q2).1
    have hle : (i + 1) * sz ≤ vs.length * sz := Nat.mul_le_mul_right sz hilt
    rw [Nat.add_mul] at hle
    rw [h3, if_pos ⟨by simp, by rw [Nat.zero_add]; omega⟩]
    have e1 : (i * sz + k) / sz = i := by rw [Nat.add_comm, Nat.mul_comm, Nat.add_mul_div_left _ _ hs, Nat.div_eq_of_lt hk, Nat.zero_add]
    have e2 : (i * sz + k) % sz = k := by rw [Nat.add_comm, Nat.mul_comm, Nat.add_mul_mod_self_left, Nat.mod_eq_of_lt hk]
    rw [e1, e2, Nat.sub_zero, q2, Option.bind_some, q3]
    simp
  refine ⟨r.toList, by rw [h1], ?_, ?_, ?_, ?_⟩
  · rw [Array.length_toList, h2, hc]
  · intro row hrow
    obtain ⟨i, hi⟩ := List.mem_iff_getElem?.1 hrow
    exact (h.get hi).1
  · intro u hu
    obtain ⟨j, hj⟩ := List.mem_iff_getElem?.1 hu
    have hjl : j < rows.length * sz := by
      have := (List.getElem?_eq_some_iff.1 hj).1
      rwa [Array.length_toList, h2, hc] at this
    have hq : j / sz < rows.length := (Nat.div_lt_iff_lt_mul hs).2 hjl
    obtain ⟨us, _, m2, m3⟩ := key (j / sz) _ (j % sz) (List.getElem?_eq_getElem hq) (Nat.mod_lt _ hs)
    have e : j / sz * sz + j % sz = j := by have := Nat.div_add_mod j sz; rw [Nat.mul_comm] at this; exact this
    rw [e] at m3
    rw [Array.getElem?_toList, m3] at hj
    exact m2 u (List.mem_of_getElem? hj)
  · intro i row k x hi hk
    have hkl : k < sz := by
      have := (List.getElem?_eq_some_iff.1 hk).1
      rwa [(h.get hi).1] at this
    obtain ⟨us, m1, _, m3⟩ := key i row k hi hkl
    obtain ⟨y, n1, n2⟩ := froL_get m1 hk
    exact ⟨y, by rw [Array.getElem?_toList, m3]; exact n1, n2⟩
/-- A new block whose cells stay. -/
theorem new_rows {E : Env} {G : Gh} {h : AH} {w : World} (hr : HRel E G h w) {sz : Nat} {rows : List (List AV)} {us : List Value} {T : TypeId} (hf : FlatR G.St w sz rows us) (hlen : rows.length ≤ maxLen) :
    ∃ G', HRel E G' h (w.alloc (.cells us.toArray T)) ∧ Ext G w G' (w.alloc (.cells us.toArray T)) ∧ fro G'.St (w.alloc (.cells us.toArray T)) (.sl sz rows none) (.slice (some ⟨w.heap.size, 0, none⟩) rows.length rows.length) ∧
      (∀ o, G'.St w.heap.size o → o < us.length) ∧ G'.bx = G.bx ∧ G'.tk = G.tk := by
  obtain ⟨k1, k2⟩ := hr.grow (w' := w.alloc (.cells us.toArray T)) ((Below.refl _ _).alloc (Nat.le_refl _) _) (fun b o => b = w.heap.size ∧ o < us.length) (fun b o hb => by simp [hb.1])
  refine ⟨_, k1, k2, ?_, ?_, rfl, rfl⟩
  · simp only [fro]
    refine ⟨trivial, _, _, rfl, Nat.le_refl _, hlen, ?_⟩
    by_cases h0 : rows = []
    · exact .inl h0
    · refine .inr ⟨w.heap.size, 0, rfl, (hf.mono k2.st).froR fun j u hj => ?_⟩
      rw [Nat.zero_add]
      refine ⟨.inr ⟨rfl, (List.getElem?_eq_some_iff.1 hj).1⟩, ?_⟩
      simp only [World.cell?, heap_alloc_self]
      simpa using hj
  · rintro o (hs | hs)
    · have := hr.stlt _ _ hs
      omega
    · exact hs.2
section
variable {P : Program} {ev : Operand → Option AV} {h : AH} {R : AV → AH → Prop} {d : Option Tmp} {ty : TypeId} {pos : String} {af : Array Edge} {gd : Option (Nat × Bool)}
theorem run_slit {T len E sz bytes : Nat} {l : List (Nat × Operand)} {rows : List (List AV)} (hE : elmOf P T = some (E, sz, bytes)) (hd : DenseA sz ev 0 l rows) (hl : Nat.beq l.length len = true) (hsm : Nat.ble len 1000 = true) (hpos : Nat.blt 0 len = true) (hsz : Nat.ble sz 100 = true)
    {Ev : Env} {G : Gh} {w : World} {ec : Operand → Value} (_hr : HRel Ev G h w) (he : ∀ x ∈ (Op.buildSlice T len l.toArray).operands, ∀ av, ev x = some av → rep G w av (ec x)) :
    ∃ us : List Value, FlatR G.St w sz rows us ∧ rows.length = len ∧ len ≤ 1000 ∧ (Instr.buildSlice T len (l.toArray.map fun p => (p.1, ec p.2))).run P w = .ok (.slice (some ⟨w.heap.size, 0, none⟩) len len) (w.alloc (.cells us.toArray E)) := by
  obtain ⟨hu, inf, z, hinf, hz, hzs, hs, hby, hp⟩ := elm_spec hE
  have hev : ∀ p ∈ l, ∀ av, ev p.2 = some av → rep G w av (ec p.2) := fun p hp av hav => he p.2 (by simp only [Op.operands]; simp; exact ⟨p.1, hp⟩) av hav
  obtain ⟨vs, k1, k2, k3⟩ := hd.vals hev
  have hl' : l.length = len := Nat.eq_of_beq_eq_true hl
  have hsm' : len ≤ 1000 := Nat.le_of_ble_eq_true hsm
  have hpos' : 0 < len := Nat.le_of_ble_eq_true hpos
  have hsz' : sz ≤ 100 := Nat.le_of_ble_eq_true hsz
  have hrl : rows.length = len := by
    have := congrArg List.length k2
    simp at this
    omega
  obtain ⟨us, m1, m2⟩ := k1.fill hp ((Array.range (len * inf.size)).map (z.cells[· % z.cells.size]!)) (by simp [hs, hrl])
  refine ⟨us, m2, hrl, hsm', ?_⟩
  refine run_buildSlice w T E len _ us.toArray inf z hu hinf hz (by
    rw [hs]
    have : len * sz ≤ 1000 * 100 := Nat.mul_le_mul hsm' hsz'
    omega) (by rw [hs]; exact Nat.ne_of_gt (Nat.mul_pos hpos' hp)) ?_
  rw [hs] at m1 ⊢
  simp only [List.map_toArray]
  rw [k2]
  exact m1
theorem st_slit {T : TypeId} {len E sz bytes : Nat} {l : List (Nat × Operand)} {rows : List (List AV)} [hE : Elm P T E sz bytes] (hd : DenseA sz ev 0 l rows) (hl : Nat.beq l.length len = true) (hsm : Nat.ble len 1000 = true) (hpos : Nat.blt 0 len = true) (hsz : Nat.ble sz 100 = true) (hR : R (.sl sz rows none) h) :
    AStep P ⟨d, .buildSlice T len l.toArray, ty, pos, af, gd⟩ ev h R := by
  intro E' G w ec hr he
  obtain ⟨us, m2, hrl, hsm', hrun⟩ := run_slit hE.eq hd hl hsm hpos hsz hr he
  obtain ⟨G', q1, q2, q3, _⟩ := new_rows (T := E) hr m2 (by rw [hrl]; unfold maxLen; omega)
  simp only [execOp, Sem.run_bind, hrun, Result.andThen_ok, Sem.run_pure]
  refine ⟨_, _, G', hR, q1, q2, ?_⟩
  simp only [rep]
  rw [hrl] at q3
  exact q3

/-! Growing lists. -/
/-- A list that may grow. -/
theorem HRel.addTok {E : Env} {G : Gh} {w : World} (hr : HRel E G h w) {T sz n : Nat} {u : Value} {rows : List (List AV)} (ht : TokAt E.w0.heap.size G w n u T sz rows) (hbx : ∀ b, u.ownBlock = some b → b ∉ G.bx) (htk : ∀ (g n' : Nat) (u' : Value), G.tk[g]? = some (n', u') → ∀ b, u.ownBlock = some b → u'.ownBlock ≠ some b) :
    HRel E ⟨G.St, G.bx, G.tk ++ [(n, u)]⟩ ⟨h.bx, h.tk ++ [(T, sz, rows)]⟩ w ∧ Ext G w ⟨G.St, G.bx, G.tk ++ [(n, u)]⟩ w := by
  have he : Ext G w ⟨G.St, G.bx, G.tk ++ [(n, u)]⟩ w := ⟨fun _ _ h => ⟨h, rfl⟩, fun _ _ h => h, fun g n' u' hg => ⟨n', u', by rw [List.getElem?_append_left (List.getElem?_eq_some_iff.1 hg).1]; exact hg, Nat.le_refl _, fun _ => rfl⟩⟩
  have split : ∀ (g n' : Nat) (u' : Value), (G.tk ++ [(n, u)])[g]? = some (n', u') → G.tk[g]? = some (n', u') ∨ (g = G.tk.length ∧ n' = n ∧ u' = u) := by
    intro g n' u' hg
    rcases Nat.lt_or_ge g G.tk.length with hlt | hge
    · rw [List.getElem?_append_left hlt] at hg; exact .inl hg
    · rw [List.getElem?_append_right hge] at hg
      have h0 : g - G.tk.length = 0 := by have := (List.getElem?_eq_some_iff.1 hg).1; simp at this; omega
      rw [h0] at hg
      simp at hg
      exact .inr ⟨by omega, hg.1.symm, hg.2.symm⟩
  refine ⟨⟨hr.inpre, hr.kept, hr.stlt, hr.stnew, hr.bxlen, hr.bxnd, hr.bxst, hr.bxown, ?_, by simp [hr.tklen], ?_, ?_, ?_⟩, he⟩
  · intro i b row hi hrow
    obtain ⟨us, T', h1, h2, h3⟩ := hr.box i b row hi hrow
    exact ⟨us, T', h1, repL_mono he _ _ h2, h3⟩
  · intro g n' u' T' sz' rows' hg ht'
    rcases split g n' u' hg with h1 | ⟨h1, h2, h3⟩
    · have hlt : g < h.tk.length := by rw [← hr.tklen]; exact (List.getElem?_eq_some_iff.1 h1).1
      simp only at ht'
      rw [List.getElem?_append_left hlt] at ht'
      exact hr.tok g n' u' T' sz' rows' h1 ht'
    · subst h1; subst h2; subst h3
      simp only [hr.tklen] at ht'
      simp at ht'
      obtain ⟨rfl, rfl, rfl⟩ := ht'
      exact ht
  · intro g n' u' hg b hb
    rcases split g n' u' hg with h1 | ⟨h1, h2, h3⟩
    · exact hr.tkbx g n' u' h1 b hb
    · subst h3; exact hbx b hb
  · intro g g' n1 n2 u1 u2 hg hg' hne b hb
    rcases split g n1 u1 hg with h1 | ⟨h1, h2, h3⟩
    · rcases split g' n2 u2 hg' with k1 | ⟨k1, k2, k3⟩
      · exact hr.tknd g g' n1 n2 u1 u2 h1 k1 hne b hb
      · subst k3; exact fun e => htk g n1 u1 h1 b e hb
    · rcases split g' n2 u2 hg' with k1 | ⟨k1, k2, k3⟩
      · subst h3; exact htk g' n2 u2 k1 b hb
      · exact absurd (h1.trans k1.symm) hne
/-- 'append' onto a growing list. -/
theorem append_tok {E : Env} {G : Gh} {w : World} (hr : HRel E G h w) {T T' sz bytes : Nat} (hE : elmOf P T = some (T', sz, bytes)) (hby : bytes ≤ 100000) {g : Nat} {rows new : List (List AV)} {y s : Value} (hg : h.tk[g]? = some (T', sz, rows))
    (hs : rep G w (.sl sz rows (some g)) s) (hy : fro G.St w (.sl sz new none) y) (hsm : rows.length + new.length ≤ 1000000) (rt : TypeId) :
    ∃ v' w' G', (Builtin.append_ #[T, T] rt #[s, y]).run P w = .ok v' w' ∧ HRel E G' ⟨h.bx, h.tk.set g (T', sz, rows ++ new)⟩ w' ∧ Ext G w G' w' ∧ rep G' w' (.sl sz (rows ++ new) (some g)) v' := by
  obtain ⟨hu, inf, z, hinf, hz, hzs, hsz, hbts, hp⟩ := elm_spec hE
  simp only [rep] at hs
  obtain ⟨hs0, n, u, hn1, hn2, hn3⟩ := hs
  obtain ⟨tn, ⟨xs, town⟩, tsp⟩ := hr.tok g n u T' sz rows hn1 hg
  have hsu : s = u := hn3 tn.symm
  subst hsu
  subst tn
  obtain ⟨A, cap, vs, e1, e2, e3, e4, e5⟩ := fro_flat hy
  obtain ⟨A0, cap0, us0, f1, f2, f3, f4, f5⟩ := fro_flat hs0
  have hb0 : E.w0.heap.size ≤ w.heap.size := hr.kept.size
  -- the cells of what is there are xs
  have hxs : FlatR G.St w sz rows xs := by
    by_cases h0 : rows = []
    · subst h0
      have : xs = [] := List.eq_nil_of_length_eq_zero (by simpa using town.1)
      subst this
      exact FlatR.nil _ _ _
    · obtain ⟨b, off, q1, q2⟩ := f5 h0
      have : us0 = xs := by
        refine List.ext_getElem? fun j => ?_
        rcases Nat.lt_or_ge j (rows.length * sz) with hj | hj
        · have hj1 : j < us0.length := by rw [f4.1]; exact hj
          have hj2 : j < xs.length := by rw [town.1]; exact hj
          have a1 := q2 j _ (List.getElem?_eq_getElem hj1)
          rcases town.2 with ⟨c1, c2⟩ | ⟨gb, cp, cur, c1, c2, c3, c4, c5, c6, c7⟩
          · exact absurd c2 (by simp [h0])
          · rw [f1, q1] at c1
            injection c1 with c1 c1' c1''
            injection c1 with c1
            injection c1 with c1 c1o
            subst c1
            subst c1o
            have a2 : w.cell? ⟨b, 0 + j, none⟩ = cur[j]? := by simp only [World.cell?, c3]; simp
            rw [a2] at a1
            rw [List.getElem?_eq_getElem hj1, ← a1, ← c7, List.getElem?_take, if_pos hj, Array.getElem?_toList]
        · rw [List.getElem?_eq_none (by rw [f4.1]; exact hj), List.getElem?_eq_none (by rw [town.1]; exact hj)]
      rw [← this]
      exact f4
  -- the run
  have hrun : ∃ v' w', (Builtin.append_ #[T, T] rt #[s, y]).run P w = .ok v' w' ∧ w'.ownsRow E.w0.heap.size T' sz v' (rows.length + new.length) (xs ++ vs) ∧ w.grownBy w' s.ownBlock ∧ (v'.ownBlock = s.ownBlock ∨ (v'.ownBlock = some w.heap.size ∧ ∀ k, k < w.heap.size → w'.heap[k]? = w.heap[k]?)) := by
    by_cases h0 : new = []
    · subst h0
      have hv : vs = [] := List.eq_nil_of_length_eq_zero (by simpa using e4.1)
      subst hv
      rcases A with _ | ad
      · refine ⟨s, w, ?_, by simpa using town, World.grownBy.refl w _, .inl rfl⟩
        rw [e1]
        rcases town.2 with ⟨c1, c2⟩ | ⟨gb, cp, cur, c1, c2, c3, c4, c5, c6, c7⟩
        · simp [Builtin.append_, run_underlying hu, sizeOf, typeInfo, hinf, Builtin.lenOf, Builtin.firstCells, c1]
        · simp [Builtin.append_, run_underlying hu, sizeOf, typeInfo, hinf, Builtin.lenOf, Builtin.firstCells, c1, c4, storeCells]
      · rw [e1]
        obtain ⟨v', w', r1, r2, r3, r4, r5⟩ := run_append_own_at (P := P) w E.w0.heap.size T rt T' inf z sz bytes hu hinf hz hsz hbts hzs hp s rows.length xs town ad 0 cap [] (by simp) (by simp) (by simp) (by unfold maxLen; omega) (by
          have : (rows.length + 0) * bytes ≤ 1000000 * 100000 := Nat.mul_le_mul (by omega) hby
          omega) hb0
        refine ⟨v', w', r1, by simpa using r2, r3, .inl ?_⟩
        rcases town.2 with ⟨c1, c2⟩ | ⟨gb, cp, cur, c1, c2, c3, c4, c5, c6, c7⟩
        · rw [r4.2 ⟨c1, rfl⟩, c1]
        · have hroom := run_append_room (P := P) w T rt T' inf hu hinf gb rows.length cp cur c3 ad 0 cap [] (by simp) (by simp) (by simp) (by omega) (by rw [c6, hsz]; simp; exact Nat.mul_le_mul_right _ c4)
          rw [← c1, r1] at hroom
          injection hroom with e _
          rw [e, c1]
          simp [Value.ownBlock]
    · obtain ⟨b, off, q1, q2⟩ := e5 h0
      subst q1
      rw [e1]
      have hnl : 0 < new.length := by cases new with | nil => exact absurd rfl h0 | cons => simp
      have hnews : ∀ j u, vs[j]? = some u → w.cell? ((⟨b, off, none⟩ : Addr).add j) = some u := fun j u hj => by rw [Addr.add_mid]; exact q2 j u hj
      have hbt : (rows.length + new.length) * bytes ≤ 140737488355328 := by
        have : (rows.length + new.length) * bytes ≤ 1000000 * 100000 := Nat.mul_le_mul hsm hby
        omega
      obtain ⟨v', w', r1, r2, r3, r4, r5⟩ := run_append_own_at (P := P) w E.w0.heap.size T rt T' inf z sz bytes hu hinf hz hsz hbts hzs hp s rows.length xs town ⟨b, off, none⟩ new.length cap vs (by rw [e4.1]) hnews e4.2.2.1 (by unfold maxLen; omega) hbt hb0
      refine ⟨v', w', r1, r2, r3, ?_⟩
      rcases town.2 with ⟨c1, c2⟩ | ⟨gb, cp, cur, c1, c2, c3, c4, c5, c6, c7⟩
      · rcases r5 with r5 | r5
        · exact .inl r5
        · exact .inr ⟨r5, fun k hk => r3.block k hk (by rw [c1]; simp [Value.ownBlock])⟩
      · by_cases hroom : rows.length + new.length ≤ cp
        · refine .inl ?_
          have hh := run_append_room (P := P) w T rt T' inf hu hinf gb rows.length cp cur c3 ⟨b, off, none⟩ new.length cap vs (by rw [e4.1, hsz]) hnews e4.2.2.1 hroom (by rw [e4.1, c6, hsz, ← Nat.add_mul]; exact Nat.mul_le_mul_right _ hroom)
          rw [← c1, r1] at hh
          injection hh with e _
          rw [e, c1]
          simp [Value.ownBlock]
        · refine .inr ?_
          have holds : ∀ j u, xs[j]? = some u → w.cell? ((⟨gb, 0, none⟩ : Addr).add j) = some u := town.cells (g := gb) (by rw [c1]; rfl)
          have hh := run_append_grow (P := P) w T rt T' inf z hu hinf hz ⟨gb, 0, none⟩ rows.length cp xs (by rw [town.1, hsz]) holds ⟨b, off, none⟩ new.length cap vs (by rw [e4.1, hsz]) hnews (by omega) (by omega) (growslice_fits (by omega) (by rw [hbts]; exact hbt))
          rw [← c1, r1] at hh
          injection hh with ea eb
          refine ⟨by rw [ea]; simp [Value.ownBlock], fun k hk => ?_⟩
          rw [eb]
          exact Below.heap_alloc w.drew _ k hk
  obtain ⟨v', w', r1, r2, r3, r5⟩ := hrun
  -- what stays now
  refine ⟨v', w', ⟨fun b o => G.St b o ∨ (v'.ownBlock = some b ∧ o < (rows.length + new.length) * sz), G.bx, G.tk.set g (rows.length + new.length, v')⟩, r1, ?_⟩
  have hvlt := World.ownsRow.lt r2
  have hold : ∀ b, s.ownBlock = some b → E.w0.heap.size ≤ b ∧ b < w.heap.size := fun b hb => hr.toklt hn1 hb
  have hcells : ∀ b o u, v'.ownBlock = some b → (xs ++ vs)[o]? = some u → w'.cell? ⟨b, o, none⟩ = some u := by
    intro b o u hb ho
    rcases r2.2 with ⟨c1, c2⟩ | ⟨gb, cp, cur, c1, c2, c3, c4, c5, c6, c7⟩
    · rw [c1] at hb; simp [Value.ownBlock] at hb
    · rw [c1] at hb
      simp [Value.ownBlock] at hb
      subst hb
      have hlt : o < (rows.length + new.length) * sz := by
        have := (List.getElem?_eq_some_iff.1 ho).1
        rwa [r2.1] at this
      simp only [World.cell?, c3]
      rw [← c7, List.getElem?_take, if_pos hlt, Array.getElem?_toList] at ho
      simpa using ho
  have hst : ∀ b o, G.St b o → (G.St b o ∨ (v'.ownBlock = some b ∧ o < (rows.length + new.length) * sz)) ∧ w'.cell? ⟨b, o, none⟩ = w.cell? ⟨b, o, none⟩ := by
    intro b o hb
    refine ⟨.inl hb, ?_⟩
    by_cases hbs : s.ownBlock = some b
    · have hlt : o < rows.length * sz := Nat.lt_of_not_le fun hle => tsp b hbs o hle hb
      rcases r5 with r5 | ⟨r5, r6⟩
      · have ho : o < xs.length := by rw [town.1]; exact hlt
        have c := hcells b o xs[o] (by rw [r5]; exact hbs) (by rw [List.getElem?_append_left ho]; exact List.getElem?_eq_getElem ho)
        rw [c]
        rcases town.2 with ⟨c1, c2⟩ | ⟨gb, cp, cur, c1, c2, c3, c4, c5, c6, c7⟩
        · rw [c1] at hbs; simp [Value.ownBlock] at hbs
        · rw [c1] at hbs
          simp [Value.ownBlock] at hbs
          subst hbs
          have hx : xs[o]? = cur[o]? := by rw [← c7, List.getElem?_take, if_pos hlt, Array.getElem?_toList]
          rw [List.getElem?_eq_getElem ho] at hx
          simp only [World.cell?, c3]
          simpa using hx
      · exact World.cell?_of_block (w := w) (a := ⟨b, o, none⟩) (r6 b (hold b hbs).2)
    · exact World.cell?_of_block (w := w) (a := ⟨b, o, none⟩) (r3.block b (hr.stlt b o hb) (fun e => hbs e.symm))
  have hgl : g < G.tk.length := (List.getElem?_eq_some_iff.1 hn1).1
  have hext : Ext G w ⟨fun b o => G.St b o ∨ (v'.ownBlock = some b ∧ o < (rows.length + new.length) * sz), G.bx, G.tk.set g (rows.length + new.length, v')⟩ w' := by
    refine ⟨hst, fun _ _ h => h, fun g' n' u' hg' => ?_⟩
    by_cases hgg : g = g'
    · subst hgg
      rw [hn1] at hg'
      injection hg' with hg'
      injection hg' with e1' e2'
      subst e1'
      subst e2'
      refine ⟨_, _, List.getElem?_set_self hgl, by omega, fun e => ?_⟩
      have hnew : new = [] := List.eq_nil_of_length_eq_zero (by omega)
      subst hnew
      have : v' = s := by
        rcases A with _ | ad
        · rw [e1] at r1
          rcases town.2 with ⟨c1, c2⟩ | ⟨gb, cp, cur, c1, c2, c3, c4, c5, c6, c7⟩
          · simp [Builtin.append_, run_underlying hu, sizeOf, typeInfo, hinf, Builtin.lenOf, Builtin.firstCells, c1] at r1
            rw [← r1.1, c1]
          · simp [Builtin.append_, run_underlying hu, sizeOf, typeInfo, hinf, Builtin.lenOf, Builtin.firstCells, c1, c4, storeCells] at r1
            rw [← r1.1, c1]
        · rw [e1] at r1
          rcases town.2 with ⟨c1, c2⟩ | ⟨gb, cp, cur, c1, c2, c3, c4, c5, c6, c7⟩
          · simp [Builtin.append_, run_underlying hu, sizeOf, typeInfo, hinf, Builtin.lenOf, Builtin.firstCells, c1, loadCells, loadCellsFrom] at r1
            rw [← r1.1, c1]
          · simp [Builtin.append_, run_underlying hu, sizeOf, typeInfo, hinf, Builtin.lenOf, Builtin.firstCells, c1, c4, storeCells, loadCells, loadCellsFrom] at r1
            rw [← r1.1, c1]
      exact this.symm
    · exact ⟨n', u', by rw [List.getElem?_set_ne hgg]; exact hg', Nat.le_refl _, fun _ => rfl⟩
  have hvb : ∀ b, v'.ownBlock = some b → s.ownBlock = some b ∨ b = w.heap.size := by
    intro b hb
    rcases r5 with r5 | ⟨r5, _⟩
    · exact .inl (by rw [← r5]; exact hb)
    · rw [r5] at hb; injection hb with hb; exact .inr hb.symm
  refine ⟨⟨hr.inpre, ?_, ?_, ?_, hr.bxlen, hr.bxnd, ?_, hr.bxown, ?_, by simp [hr.tklen], ?_, ?_, ?_⟩, hext, ?_⟩
  · have k := hr.kept
    refine ⟨r3.os.trans k.os, r3.tape.trans k.tape, r3.output.trans k.output, Nat.le_trans k.size r3.size, fun i hi hn => (r3.block i (Nat.lt_of_lt_of_le hi k.size) (fun e => ?_)).trans (k.block i hi hn)⟩
    have := (hold i e.symm).1
    omega
  · rintro b o (hb | ⟨hb, _⟩)
    · exact Nat.lt_of_lt_of_le (hr.stlt b o hb) r3.size
    · exact (hvlt b hb).2
  · rintro b o (hb | ⟨hb, _⟩)
    · exact hr.stnew b o hb
    · exact .inr (hvlt b hb).1
  · rintro b hbx o (hb | ⟨hb, _⟩)
    · exact hr.bxst b hbx o hb
    · rcases hvb b hb with e | e
      · exact hr.tkbx g _ _ hn1 b e hbx
      · have := hr.boxlt hbx; omega
  · intro i b row hi hrow
    obtain ⟨us, T'', h1, h2, h3⟩ := hr.box i b row hi hrow
    have hmem : b ∈ G.bx := List.mem_of_getElem? hi
    exact ⟨us, T'', (r3.block b (hr.boxlt hmem) (fun e => hr.tkbx g _ _ hn1 b e.symm hmem)).trans h1, repL_mono hext _ _ h2, h3⟩
  · intro g' n' u' T'' sz' rows' hg' ht'
    by_cases hgg : g = g'
    · subst hgg
      simp only at hg' ht'
      rw [List.getElem?_set_self hgl] at hg'
      rw [List.getElem?_set_self (by rw [← hr.tklen]; exact hgl)] at ht'
      injection hg' with hg'
      injection hg' with a1 a2
      injection ht' with ht'
      injection ht' with b1 b2
      injection b2 with b2 b3
      subst a1; subst a2; subst b1; subst b2; subst b3
      refine ⟨by simp, ⟨_, r2⟩, fun b hb o ho => ?_⟩
      rintro (hs' | ⟨_, hs'⟩)
      · rcases hvb b hb with e | e
        · have hlt : o < rows.length * sz := Nat.lt_of_not_le fun hle => tsp b e o hle hs'
          have : rows.length * sz ≤ (rows.length + new.length) * sz := Nat.mul_le_mul_right sz (by omega)
          omega
        · have := hr.stlt b o hs'; omega
      · omega
    · simp only at hg' ht'
      rw [List.getElem?_set_ne hgg] at hg' ht'
      obtain ⟨h1, ⟨xs', h2⟩, h3⟩ := hr.tok g' n' u' T'' sz' rows' hg' ht'
      have hne : u'.ownBlock = none ∨ u'.ownBlock ≠ s.ownBlock := by
        cases hu' : u'.ownBlock with
        | none => exact .inl rfl
        | some b => exact .inr fun e => hr.tknd g g' _ _ _ _ hn1 hg' hgg b e.symm hu'
      refine ⟨h1, ⟨xs', World.ownsRow.kept h2 r3 hne⟩, fun b hb o ho => ?_⟩
      rintro (hs' | ⟨hs', _⟩)
      · exact h3 b hb o ho hs'
      · rcases hvb b hs' with e | e
        · exact hr.tknd g g' _ _ _ _ hn1 hg' hgg b e hb
        · have := (hr.toklt hg' hb).2; omega
  · intro g' n' u' hg' b hb hbx
    by_cases hgg : g = g'
    · subst hgg
      simp only at hg'
      rw [List.getElem?_set_self hgl] at hg'
      injection hg' with hg'
      injection hg' with a1 a2
      subst a2
      rcases hvb b hb with e | e
      · exact hr.tkbx g _ _ hn1 b e hbx
      · have := hr.boxlt hbx; omega
    · simp only at hg'
      rw [List.getElem?_set_ne hgg] at hg'
      exact hr.tkbx g' n' u' hg' b hb hbx
  · intro g1 g2 n1 n2 u1 u2 hg1 hg2 hne b hb hb2
    simp only at hg1 hg2
    by_cases h1 : g = g1
    · subst h1
      rw [List.getElem?_set_self hgl] at hg1
      injection hg1 with hg1
      injection hg1 with a1 a2
      subst a2
      rw [List.getElem?_set_ne hne] at hg2
      rcases hvb b hb with e | e
      · exact hr.tknd g g2 _ _ _ _ hn1 hg2 hne b e hb2
      · have := (hr.toklt hg2 hb2).2; omega
    · rw [List.getElem?_set_ne h1] at hg1
      by_cases h2 : g = g2
      · subst h2
        rw [List.getElem?_set_self hgl] at hg2
        injection hg2 with hg2
        injection hg2 with a1 a2
        subst a2
        rcases hvb b hb2 with e | e
        · exact hr.tknd g1 g _ _ _ _ hg1 hn1 hne b hb e
        · have := (hr.toklt hg1 hb).2; omega
      · rw [List.getElem?_set_ne h2] at hg2
        exact hr.tknd g1 g2 _ _ _ _ hg1 hg2 hne b hb hb2
  · simp only [rep]
    refine ⟨?_, _, _, List.getElem?_set_self hgl, by simp, fun _ => rfl⟩
    simp only [fro]
    refine ⟨trivial, ?_⟩
    have hflat := (hxs.append e4).mono hst
    rcases r2.2 with ⟨c1, c2⟩ | ⟨gb, cp, cur, c1, c2, c3, c4, c5, c6, c7⟩
    · have hz0 : (rows ++ new).length = 0 := by rw [List.length_append]; exact c2
      exact ⟨none, 0, by rw [c1, hz0], by rw [hz0]; exact Nat.le_refl _, by simp, .inl (List.eq_nil_of_length_eq_zero hz0)⟩
    · refine ⟨_, cp, by rw [c1]; simp, by simpa using c4, c5, .inr ⟨gb, 0, rfl, hflat.froR fun j u hj => ?_⟩⟩
      rw [Nat.zero_add]
      have hlt : j < (rows.length + new.length) * sz := by
        have := (List.getElem?_eq_some_iff.1 hj).1
        rwa [r2.1] at this
      have hob : v'.ownBlock = some gb := by rw [c1]; simp [Value.ownBlock]
      exact ⟨.inr ⟨hob, hlt⟩, hcells gb j u hob hj⟩
end
end Go.Proofs.YtokaaebbmcldaaaGreatDoor
