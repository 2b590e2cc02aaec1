/-
  Calls: what a function does, by trees.
-/
import Derived.Test.YtokaaebbmcldaaaGreatDoorAvI
namespace Go.Proofs.YtokaaebbmcldaaaGreatDoor
open Go.RowKit

abbrev Tok := Nat × Nat × List (List AV)
/-- A call with these arguments and with these boxes, which it may change, returns; R tells of the result, of the boxes and of the growing lists. -/
def ACall (P : Program) (f : FuncId) (xs : List AV) (bx : List (List AV)) (R : AV → List (List AV) → List Tok → Prop) : Prop :=
  ∀ (w : World) (St : Nat → Nat → Prop) (bl : List Nat) (vs : List Value), HRel ⟨w, bl, St⟩ ⟨St, bl, []⟩ ⟨bx, []⟩ w → repL ⟨St, bl, []⟩ w xs vs → Calls P f vs.toArray w fun e w' => match e with
    | .returned v => ∃ r bx' tk' G', R r bx' tk' ∧ HRel ⟨w, bl, St⟩ G' ⟨bx', tk'⟩ w' ∧ Ext ⟨St, bl, []⟩ w G' w' ∧ rep G' w' r v
    | _ => False
theorem ACall.mono {P : Program} {f : FuncId} {xs : List AV} {bx : List (List AV)} {R R' : AV → List (List AV) → List Tok → Prop} (h : ACall P f xs bx R) (hR : ∀ r b t, R r b t → R' r b t) : ACall P f xs bx R' := by
  intro w St bl vs h1 h2
  refine Calls.mono (h w St bl vs h1 h2) ?_
  intro e w' h3
  cases e with
  | returned v => obtain ⟨r, b, t, G', k1, k2⟩ := h3; exact ⟨r, b, t, G', hR _ _ _ k1, k2⟩
  | panicked c => exact h3.elim
  | outgrown => exact h3.elim

/-- One tree says no more than the other. -/
def LeA (x y : AV) : Prop := ∀ (G : Gh) (w : World) (v : Value), rep G w x v → rep G w y v
def LeL (xs ys : List AV) : Prop := ∀ (G : Gh) (w : World) (vs : List Value), repL G w xs vs → repL G w ys vs
theorem LeA.refl (x : AV) : LeA x x := fun _ _ _ h => h
theorem LeA.of_eq {x y : AV} (h : x = y) : LeA x y := h ▸ LeA.refl x
theorem LeA.any (x : AV) : LeA x .any := fun _ _ _ _ => by simp only [rep]
theorem LeA.nil (sz : Nat) : LeA (.v (.slice none 0 0)) (.sl sz [] none) := fun G w v h => by
  simp only [rep] at h ⊢
  rw [h]
  simp only [fro]
  exact ⟨trivial, none, 0, rfl, Nat.le_refl _, Nat.zero_le _, .inl trivial⟩
theorem LeL.nil : LeL [] [] := fun _ _ _ h => h
theorem LeL.cons {x y : AV} {xs ys : List AV} (h : LeA x y) (k : LeL xs ys) : LeL (x :: xs) (y :: ys) := fun G w vs hv => by
  simp only [repL] at hv ⊢
  obtain ⟨z, zs, h1, h2, h3⟩ := hv
  exact ⟨z, zs, h1, h G w z h2, k G w zs h3⟩
theorem LeL.refl (xs : List AV) : LeL xs xs := fun _ _ _ h => h
theorem LeA.agg {xs ys : List AV} (h : LeL xs ys) : LeA (.agg xs) (.agg ys) := fun G w v hv => by
  simp only [rep] at hv ⊢
  obtain ⟨zs, h1, h2⟩ := hv
  exact ⟨zs, h1, h G w zs h2⟩
theorem LeA.tup {xs ys : List AV} (h : LeL xs ys) : LeA (.tup xs) (.tup ys) := fun G w v hv => by
  simp only [rep] at hv ⊢
  obtain ⟨zs, h1, h2⟩ := hv
  exact ⟨zs, h1, h G w zs h2⟩

/-! The result. -/
inductive ResA (P : Program) (s : AS) : List ResultVar → List AV → Prop
  | nil : ResA P s [] []
  | tmp (t : Tmp) (x : AV) (rs : List ResultVar) (xs : List AV) : s.sl t = some x → ResA P s rs xs → ResA P s (.tmp t :: rs) (x :: xs)
  | cellN (a : Tmp) (T : TypeId) (i sz : Nat) (row : List AV) (rs : List ResultVar) (xs : List AV) : Typ P T sz true → s.sl a = some (.bp i 0) → s.h.bx[i]? = some row → Nat.beq row.length sz = true → ResA P s rs xs → ResA P s (.cell a T :: rs) (.agg row :: xs)
  | cell1 (a : Tmp) (T : TypeId) (i sz : Nat) (row : List AV) (x : AV) (rs : List ResultVar) (xs : List AV) : Typ P T sz false → s.sl a = some (.bp i 0) → s.h.bx[i]? = some row → row[0]? = some x → ResA P s rs xs → ResA P s (.cell a T :: rs) (x :: xs)
def tupA : List AV → AV
  | [x] => x
  | xs => .tup xs
def resOne (tmps : Array Value) : ResultVar → Sem Value
  | .tmp t => pure (tmps.getD t undef)
  | .cell a t => do loadVar t (← asAddr (tmps.getD a undef))
theorem ResA.run {P : Program} {s : AS} {rs : List ResultVar} {xs : List AV} (h : ResA P s rs xs) {E : Env} {G : Gh} {a : Act} {w : World} (hr : HRel E G s.h w) (hs : SlotsR G w s.sl a) :
    ∃ ys, (rs.mapM (resOne a.tmps)).run P w = .ok ys w ∧ repL G w xs ys := by
  induction h with
  | nil => exact ⟨[], by simp, by simp only [repL]⟩
  | tmp t x rs xs h1 _ ih =>
    obtain ⟨ys, k1, k2⟩ := ih
    refine ⟨_ :: ys, ?_, by simp only [repL]; exact ⟨_, ys, rfl, hs t x h1, k2⟩⟩
    rw [List.mapM_cons]
    simp only [Sem.run_bind, resOne, Sem.run_pure, Result.andThen_ok, k1]
  | cellN c T i sz row rs xs ht h1 h2 h3 _ ih =>
    obtain ⟨ys, k1, k2⟩ := ih
    have q := hs c _ h1
    simp only [rep] at q
    obtain ⟨b, q1, q2⟩ := q
    obtain ⟨us, T', m1, m2, m3⟩ := hr.boxAt q1 h2
    have hl : us.length = sz := by rw [repL_length m2]; exact Nat.eq_of_beq_eq_true h3
    have hload := run_loadN (P := P) (T := T) (cs := us) (by rw [hl]; exact ht.eq) (b := b) (o := 0) (w := w) (by have := box_range m1 0 us.length; simpa using this)
    simp only [Instr.loadAt, Instr.sureAddr, Sem.run_bind, Sem.run_pure, Result.andThen_ok] at hload
    refine ⟨.agg us.toArray :: ys, ?_, by simp only [repL, rep]; exact ⟨_, ys, rfl, ⟨us, rfl, m2⟩, k2⟩⟩
    rw [List.mapM_cons]
    simp only [Sem.run_bind, resOne, q2, asAddr, Sem.run_pure, Result.andThen_ok, hload, k1]
  | cell1 c T i sz row x rs xs ht h1 h2 h3 _ ih =>
    obtain ⟨ys, k1, k2⟩ := ih
    have q := hs c _ h1
    simp only [rep] at q
    obtain ⟨b, q1, q2⟩ := q
    obtain ⟨us, T', m1, m2, m3⟩ := hr.boxAt q1 h2
    obtain ⟨u, n1, n2⟩ := repL_get m2 h3
    have hload := run_load1 (P := P) ht.eq (b := b) (o := 0) (w := w) (u := u) (by simp only [World.cell?, m1]; simpa using n1)
    simp only [Instr.loadAt, Instr.sureAddr, Sem.run_bind, Sem.run_pure, Result.andThen_ok] at hload
    refine ⟨u :: ys, ?_, by simp only [repL]; exact ⟨_, ys, rfl, n2, k2⟩⟩
    rw [List.mapM_cons]
    simp only [Sem.run_bind, resOne, q2, asAddr, Sem.run_pure, Result.andThen_ok, hload, k1]
theorem results_eq (fn : Func) (tmps : Array Value) : results fn tmps = (fn.results.mapM (resOne tmps) >>= fun vs => pure (if h : vs.size = 1 then vs[0] else .tuple vs)) := by
  unfold results
  refine congrArg (fun (F : ResultVar → Sem Value) => Array.mapM (m := Sem) F fn.results >>= fun vs => pure (if h : vs.size = 1 then vs[0] else Value.tuple vs)) (funext fun r => ?_)
  cases r <;> rfl
theorem ResA.results {P : Program} {fn : Func} {s : AS} {rs : List ResultVar} {xs : List AV} (hfr : fn.results = rs.toArray) (h : ResA P s rs xs) {E : Env} {G : Gh} {a : Act} {w : World} (hr : HRel E G s.h w) (hs : SlotsR G w s.sl a) : ∃ v, (results fn a.tmps).run P w = .ok v w ∧ rep G w (tupA xs) v := by
  obtain ⟨ys, k1, k2⟩ := h.run hr hs
  have hl := repL_length k2
  refine ⟨if h : ys.toArray.size = 1 then ys.toArray[0] else .tuple ys.toArray, ?_, ?_⟩
  · rw [results_eq, hfr, Sem.run_bind, Array.mapM_eq_mapM_toList]
    simp only [Sem.run_map, k1, Result.andThen_ok, Sem.run_pure]
  · match xs, ys, k2, hl with
    | [x], [y], k2, _ =>
      simp only [repL] at k2
      obtain ⟨z, zs, e1, e2, _⟩ := k2
      injection e1 with e1 _
      subst e1
      simpa [tupA] using e2
    | [], [], k2, _ => simp [tupA, rep, repL]
    | x :: x' :: xs, y :: y' :: ys, k2, _ =>
      simp only [List.size_toArray, List.length_cons, tupA]
      rw [dif_neg (by omega)]
      simp only [rep]
      exact ⟨_, rfl, k2⟩
    | [x], [], _, hl => simp at hl
    | [x], y :: y' :: ys, _, hl => simp at hl
    | [], y :: ys, _, hl => simp at hl
    | x :: x' :: xs, [], _, hl => simp at hl
    | x :: x' :: xs, [y], _, hl => simp at hl

/-! One growing list is handed on. -/
mutual
def reT (g : Option Nat) : AV → AV
  | .v x => .v x
  | .agg cs => .agg (reTL g cs)
  | .tup cs => .tup (reTL g cs)
  | .sl sz rows none => .sl sz rows none
  | .sl sz rows (some g') => match g with
    | none => .sl sz rows none
    | some k => match Nat.beq k g' with
      | true => .sl sz rows (some 0)
      | false => .sl sz rows none
  | .fp row => .fp row
  | .bp i o => .bp i o
  | .fn f caps => .fn f (reTL g caps)
  | .any => .any
def reTL (g : Option Nat) : List AV → List AV
  | [] => []
  | x :: xs => reT g x :: reTL g xs
end
section
variable {G : Gh} {w : World} {g : Option Nat} {tkl : List (Nat × Value)} (hg : ∀ k, g = some k → ∃ p, G.tk[k]? = some p ∧ tkl = [p])
include hg
mutual
theorem rep_reT : ∀ (x : AV) (v : Value), rep G w x v → rep ⟨G.St, G.bx, tkl⟩ w (reT g x) v
  | .v _, _, h => by simpa only [rep, reT] using h
  | .agg cs, _, h => by
    simp only [rep, reT] at h ⊢
    obtain ⟨ys, h1, h2⟩ := h
    exact ⟨ys, h1, repL_reT cs ys h2⟩
  | .tup cs, _, h => by
    simp only [rep, reT] at h ⊢
    obtain ⟨ys, h1, h2⟩ := h
    exact ⟨ys, h1, repL_reT cs ys h2⟩
  | .sl sz rows none, _, h => by simpa only [rep, reT] using h
  | .sl sz rows (some g'), v, h => by
    simp only [rep] at h
    obtain ⟨h0, n, u, h1, h2⟩ := h
    simp only [reT]
    split
    · simp only [rep]; exact h0
    · rename_i k
      split
      · rename_i hb
        have e : k = g' := Nat.eq_of_beq_eq_true hb
        subst e
        obtain ⟨p, k1, k2⟩ := hg k rfl
        rw [h1] at k1
        injection k1 with k1
        simp only [rep]
        refine ⟨h0, n, u, ?_, h2⟩
        rw [k2, ← k1]
        rfl
      · simp only [rep]; exact h0
  | .fp _, _, h => by simpa only [rep, reT] using h
  | .bp _ _, _, h => by simpa only [rep, reT] using h
  | .fn f caps, _, h => by
    simp only [rep, reT] at h ⊢
    obtain ⟨ys, h1, h2⟩ := h
    exact ⟨ys, h1, repL_reT caps ys h2⟩
  | .any, _, _ => by simp only [rep, reT]
theorem repL_reT : ∀ (xs : List AV) (vs : List Value), repL G w xs vs → repL ⟨G.St, G.bx, tkl⟩ w (reTL g xs) vs
  | [], _, h => by have _ := hg; simpa only [repL, reTL] using h
  | x :: xs, _, h => by
    simp only [repL, reTL] at h ⊢
    obtain ⟨z, zs, h1, h2, h3⟩ := h
    exact ⟨z, zs, h1, rep_reT x z h2, repL_reT xs zs h3⟩
end
end
def tokOf (tk : List Tok) : Option Nat → Option (List Tok)
  | none => some []
  | some k => (tk[k]?).map fun t => [t]
/-- What stood at the beginning stays. -/
theorem HRel.addSt {E : Env} {G : Gh} {h : AH} {w : World} (hr : HRel E G h w) (h0 : ∀ b o, E.St0 b o → b < E.w0.heap.size ∧ b ∉ E.ins) : HRel E ⟨fun b o => G.St b o ∨ E.St0 b o, G.bx, G.tk⟩ h w ∧ Ext G w ⟨fun b o => G.St b o ∨ E.St0 b o, G.bx, G.tk⟩ w := by
  have he : Ext G w ⟨fun b o => G.St b o ∨ E.St0 b o, G.bx, G.tk⟩ w := ⟨fun _ _ h => ⟨.inl h, rfl⟩, fun _ _ h => h, fun _ n u h => ⟨n, u, h, Nat.le_refl _, fun _ => rfl⟩⟩
  refine ⟨⟨hr.inpre, hr.kept, ?_, ?_, hr.bxlen, hr.bxnd, ?_, hr.bxown, ?_, hr.tklen, ?_, hr.tkbx, hr.tknd⟩, he⟩
  · rintro b o (hs | hs)
    · exact hr.stlt b o hs
    · exact Nat.lt_of_lt_of_le (h0 b o hs).1 hr.kept.size
  · rintro b o (hs | hs)
    · exact hr.stnew b o hs
    · exact .inl hs
  · rintro b hb o (hs | hs)
    · exact hr.bxst b hb o hs
    · obtain ⟨k1, k2⟩ := h0 b o hs
      rcases hr.bxown b hb with e | e
      · omega
      · exact k2 e
  · intro i b row hi hrow
    obtain ⟨us, T, h1, h2, h3⟩ := hr.box i b row hi hrow
    exact ⟨us, T, h1, repL_mono he _ _ h2, h3⟩
  · intro g n u T sz rows hg ht
    obtain ⟨h1, h2, h3⟩ := hr.tok g n u T sz rows hg ht
    refine ⟨h1, h2, fun b hb o ho => ?_⟩
    rintro (hs | hs)
    · exact h3 b hb o ho hs
    · have := (hr.toklt hg hb).1
      have := (h0 b o hs).1
      omega
/-- The end of a body. -/
def ABody (P : Program) (rs : List ResultVar) (n : Nat) (R : AV → List (List AV) → List Tok → Prop) (e : Exit) (s : AS) : Prop :=
  (e = .normal ∨ e = .ret) ∧ ∃ xs g r tk', ResA P s rs xs ∧ tokOf s.h.tk g = some tk' ∧ bpLt n 1 (reT g (tupA xs)) = true ∧ bpLtB n 0 (s.h.bx.take n) = true ∧ LeA (reT g (tupA xs)) r ∧ R r (s.h.bx.take n) tk'
theorem abody_ret {P : Program} {rs : List ResultVar} {n : Nat} {R : AV → List (List AV) → List Tok → Prop} {s : AS} {xs : List AV} {r : AV} (g : Option Nat) {tk' : List Tok} (h1 : ResA P s rs xs) (h2 : tokOf s.h.tk g = some tk') (h3 : bpLt n 1 (reT g (tupA xs)) = true) (h4 : bpLtB n 0 (s.h.bx.take n) = true) (h5 : LeA (reT g (tupA xs)) r) (h6 : R r (s.h.bx.take n) tk') : ABody P rs n R .ret s :=
  ⟨.inr rfl, xs, g, r, tk', h1, h2, h3, h4, h5, h6⟩
theorem abody_end {P : Program} {rs : List ResultVar} {n : Nat} {R : AV → List (List AV) → List Tok → Prop} {s : AS} {xs : List AV} {r : AV} (g : Option Nat) {tk' : List Tok} (h1 : ResA P s rs xs) (h2 : tokOf s.h.tk g = some tk') (h3 : bpLt n 1 (reT g (tupA xs)) = true) (h4 : bpLtB n 0 (s.h.bx.take n) = true) (h5 : LeA (reT g (tupA xs)) r) (h6 : R r (s.h.bx.take n) tk') : ABody P rs n R .normal s :=
  ⟨.inl rfl, xs, g, r, tk', h1, h2, h3, h4, h5, h6⟩
def idxL : Nat → List AV → List (Nat × AV)
  | _, [] => []
  | i, x :: xs => (i, x) :: idxL (i + 1) xs
theorem look_idxL : ∀ (xs : List AV) (i t : Nat) (x : AV), look (idxL i xs) t = some x → i ≤ t ∧ xs[t - i]? = some x
  | [], _, _, _, h => by cases h
  | y :: xs, i, t, x, h => by
    simp only [idxL] at h
    rw [← put_look, put_some] at h
    split at h
    · rename_i e; subst e; injection h with h; subst h; exact ⟨Nat.le_refl _, by simp⟩
    · rename_i hne
      obtain ⟨h1, h2⟩ := look_idxL xs (i + 1) t x h
      refine ⟨by omega, ?_⟩
      rw [show t - i = (t - (i + 1)) + 1 by omega, List.getElem?_cons_succ]
      exact h2
theorem acall_of {P : Program} {f : FuncId} {fn : Func} {c : Code} {rs : List ResultVar} {xs : List AV} {bx : List (List AV)} {R : AV → List (List AV) → List Tok → Prop} {N : Dim} (hf : P.funcs[f]? = some fn) (hb : fn.body = some c) (hfr : fn.results = rs.toArray) (hN : fn.ntmps = N.n) (hle : Nat.ble xs.length N.n = true) (hni : bx.length = N.ni) (n : Nat) (hn : Nat.ble N.ni n = true)
    (h : AWp P N c (ABody P rs n R) ⟨look (idxL 0 xs), ⟨bx, []⟩⟩) : ACall P f xs bx R := by
  intro w St bl vs h1 h2
  refine calls_of_wp hf hb ?_
  have hvl := repL_length h2
  have hlen : xs.length ≤ N.n := Nat.le_of_ble_eq_true hle
  have hrel : Rel N ⟨w, bl, St⟩ ⟨look (idxL 0 xs), ⟨bx, []⟩⟩ { tmps := vs.toArray ++ Array.replicate (fn.ntmps - vs.toArray.size) undef, defers := [] } w := by
    refine ⟨_, h1, ?_, by simp; omega, rfl, ?_⟩
    · intro t x ht
      obtain ⟨_, k1⟩ := look_idxL xs 0 t x ht
      rw [Nat.sub_zero] at k1
      obtain ⟨y, k2, k3⟩ := repL_get h2 k1
      have : (vs.toArray ++ Array.replicate (fn.ntmps - vs.toArray.size) undef).getD t undef = y := by
        have hlt := (List.getElem?_eq_some_iff.1 k2).1
        rw [Array.getD_eq_getD_getElem?, Array.getElem?_append_left (by simpa using hlt)]
        simp [k2]
      simp only [this]
      exact k3
    · have := h1.bxlen
      simp only at this
      rw [← hni]
      exact this
  refine wp_mono (h _ _ _ hrel) ?_
  rintro e a w' ⟨s, ⟨he, xs', g, r, tk', q1, q2, q3, q4, q5, q6⟩, G, r1, r2, r3, r4, r5⟩
  obtain ⟨v, m1, m2⟩ := q1.results hfr r1 r2
  have h0 : ∀ b o, (⟨w, bl, St⟩ : Env).St0 b o → b < (⟨w, bl, St⟩ : Env).w0.heap.size ∧ b ∉ (⟨w, bl, St⟩ : Env).ins := fun b o hs => ⟨h1.stlt b o hs, fun hm => h1.bxst b hm o hs⟩
  have hinl : (⟨w, bl, St⟩ : Env).ins.length ≤ n := by rw [r5]; exact Nat.le_of_ble_eq_true hn
  have hfin : ∃ G', HRel ⟨w, bl, St⟩ G' ⟨s.h.bx.take n, tk'⟩ w' ∧ Ext ⟨St, bl, []⟩ w G' w' ∧ rep G' w' r v := by
    have t1 := r1.trunc n 0 hinl q4
    have fin : ∀ (G1 : Gh), G1.St = G.St → G1.bx = G.bx.take n → HRel ⟨w, bl, St⟩ G1 ⟨s.h.bx.take n, tk'⟩ w' → rep G1 w' (reT g (tupA xs')) v → ∃ G', HRel ⟨w, bl, St⟩ G' ⟨s.h.bx.take n, tk'⟩ w' ∧ Ext ⟨St, bl, []⟩ w G' w' ∧ rep G' w' r v := by
      intro G1 e1 e2 t2 t3
      obtain ⟨t4, t5⟩ := t2.addSt h0
      refine ⟨_, t4, ⟨fun b o hs => ⟨.inr hs, ?_⟩, fun i b hi => t4.inpre i b hi, fun g n u hg => by simp at hg⟩, rep_mono t5 _ _ (q5 _ _ _ t3)⟩
      obtain ⟨z1, z2⟩ := h0 b o hs
      exact World.cell?_of_block (w := w) (a := ⟨b, o, none⟩) (r1.kept.block b z1 z2)
    cases g with
    | none =>
      simp only [tokOf, Option.some.injEq] at q2
      subst q2
      refine fin ⟨G.St, G.bx.take n, []⟩ rfl rfl (by simpa using t1) ?_
      have := rep_trunc n 1 _ _ q3 (rep_reT (g := none) (tkl := []) (fun k hk => by cases hk) _ _ m2)
      simpa using this
    | some k =>
      simp only [tokOf] at q2
      cases hk : s.h.tk[k]? with
      | none => rw [hk] at q2; cases q2
      | some t =>
        obtain ⟨T, sz, rows⟩ := t
        rw [hk] at q2
        simp at q2
        subst q2
        have hkl : k < G.tk.length := by rw [r1.tklen]; exact (List.getElem?_eq_some_iff.1 hk).1
        have hgk : G.tk[k]? = some G.tk[k] := List.getElem?_eq_getElem hkl
        rcases hp : G.tk[k] with ⟨n', u⟩
        rw [hp] at hgk
        obtain ⟨z1, z2, z3⟩ := r1.tok k n' u T sz rows hgk hk
        obtain ⟨y1, y2⟩ := t1.addTok (T := T) (sz := sz) (n := n') (u := u) (rows := rows) ⟨z1, z2, z3⟩ (fun b hb hm => r1.tkbx k n' u hgk b hb (List.mem_of_mem_take hm)) (fun g' n1 u1 hg' => by simp at hg')
        refine fin ⟨G.St, G.bx.take n, [(n', u)]⟩ rfl rfl (by simpa using y1) ?_
        have := rep_trunc n 1 _ _ q3 (rep_reT (g := some k) (tkl := [(n', u)]) (fun k' hk' => by injection hk' with hk'; subst hk'; exact ⟨_, hgk, rfl⟩) _ _ m2)
        simpa using this
  obtain ⟨G', f1, f2, f3⟩ := hfin
  rcases he with rfl | rfl
  · exact ⟨r4, v, m1, r, _, tk', G', q6, f1, f2, f3⟩
  · exact ⟨r4, v, m1, r, _, tk', G', q6, f1, f2, f3⟩
end Go.Proofs.YtokaaebbmcldaaaGreatDoor
