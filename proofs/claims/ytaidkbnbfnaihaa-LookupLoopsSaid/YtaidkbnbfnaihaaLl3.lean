/-
  Part 3 of the proof of LookupLoopsP: what the statement's proof uses of the texts in wip/tpl.
-/
import Derived.Laws.StructEq
import Derived.Laws.Cover3
import Derived.ArgAppend
import Derived.Test.YtaidkbnbfnaihaaLl2
namespace Go.Proofs.Ytaidkbnbfnaihaa
open Go.RowKit

abbrev Tok := Nat × Nat × List (List AV)
def ACall (P : Program) (f : FuncId) (xs : List AV) (bx : List (List AV)) (R : AV → List (List AV) → List Tok → Prop) : Prop :=
  ∀ (w : World) (St : Nat → Nat → Prop) (bl : List Nat) (vs : List Value), HRel ⟨w, bl, St⟩ ⟨St, bl, []⟩ ⟨bx, []⟩ w → repL ⟨St, bl, []⟩ w xs vs → Calls P f vs.toArray w fun e w' => match e with
    | .returned v => ∃ r bx' tk' G', R r bx' tk' ∧ HRel ⟨w, bl, St⟩ G' ⟨bx', tk'⟩ w' ∧ Ext ⟨St, bl, []⟩ w G' w' ∧ rep G' w' r v
    | _ => False
theorem ACall.mono {P : Program} {f : FuncId} {xs : List AV} {bx : List (List AV)} {R R' : AV → List (List AV) → List Tok → Prop} (h : ACall P f xs bx R) (hR : ∀ r b t, R r b t → R' r b t) : ACall P f xs bx R' := by
  intro w St bl vs h1 h2
  refine Calls.mono (h w St bl vs h1 h2) ?_
  intro e w' h3
  cases e with
  | returned v => obtain ⟨r, b, t, G', k1, k2⟩ := h3; exact ⟨r, b, t, G', hR _ _ _ k1, k2⟩
  | panicked c => exact h3.elim
  | outgrown => exact h3.elim

def LeA (x y : AV) : Prop := ∀ (G : Gh) (w : World) (v : Value), rep G w x v → rep G w y v
def LeL (xs ys : List AV) : Prop := ∀ (G : Gh) (w : World) (vs : List Value), repL G w xs vs → repL G w ys vs
theorem LeA.refl (x : AV) : LeA x x := fun _ _ _ h => h
theorem LeA.of_eq {x y : AV} (h : x = y) : LeA x y := h ▸ LeA.refl x
theorem LeA.any (x : AV) : LeA x .any := fun _ _ _ _ => by simp only [rep]
theorem LeA.nil (sz : Nat) : LeA (.v (.slice none 0 0)) (.sl sz [] none) := fun G w v h => by
  simp only [rep] at h ⊢
  rw [h]
  simp only [fro]
  exact ⟨trivial, none, 0, rfl, Nat.le_refl _, Nat.zero_le _, .inl trivial⟩
theorem LeL.nil : LeL [] [] := fun _ _ _ h => h
theorem LeL.cons {x y : AV} {xs ys : List AV} (h : LeA x y) (k : LeL xs ys) : LeL (x :: xs) (y :: ys) := fun G w vs hv => by
  simp only [repL] at hv ⊢
  obtain ⟨z, zs, h1, h2, h3⟩ := hv
  exact ⟨z, zs, h1, h G w z h2, k G w zs h3⟩
theorem LeL.refl (xs : List AV) : LeL xs xs := fun _ _ _ h => h
theorem LeA.agg {xs ys : List AV} (h : LeL xs ys) : LeA (.agg xs) (.agg ys) := fun G w v hv => by
  simp only [rep] at hv ⊢
  obtain ⟨zs, h1, h2⟩ := hv
  exact ⟨zs, h1, h G w zs h2⟩
theorem LeA.tup {xs ys : List AV} (h : LeL xs ys) : LeA (.tup xs) (.tup ys) := fun G w v hv => by
  simp only [rep] at hv ⊢
  obtain ⟨zs, h1, h2⟩ := hv
  exact ⟨zs, h1, h G w zs h2⟩

inductive ResA (P : Program) (s : AS) : List ResultVar → List AV → Prop
  | nil : ResA P s [] []
  | tmp (t : Tmp) (x : AV) (rs : List ResultVar) (xs : List AV) : s.sl t = some x → ResA P s rs xs → ResA P s (.tmp t :: rs) (x :: xs)
  | cellN (a : Tmp) (T : TypeId) (i sz : Nat) (row : List AV) (rs : List ResultVar) (xs : List AV) : Typ P T sz true → s.sl a = some (.bp i 0) → s.h.bx[i]? = some row → Nat.beq row.length sz = true → ResA P s rs xs → ResA P s (.cell a T :: rs) (.agg row :: xs)
  | cell1 (a : Tmp) (T : TypeId) (i sz : Nat) (row : List AV) (x : AV) (rs : List ResultVar) (xs : List AV) : Typ P T sz false → s.sl a = some (.bp i 0) → s.h.bx[i]? = some row → row[0]? = some x → ResA P s rs xs → ResA P s (.cell a T :: rs) (x :: xs)
def tupA : List AV → AV
  | [x] => x
  | xs => .tup xs
def resOne (tmps : Array Value) : ResultVar → Sem Value
  | .tmp t => pure (tmps.getD t undef)
  | .cell a t => do loadVar t (← asAddr (tmps.getD a undef))
theorem ResA.run {P : Program} {s : AS} {rs : List ResultVar} {xs : List AV} (h : ResA P s rs xs) {E : Env} {G : Gh} {a : Act} {w : World} (hr : HRel E G s.h w) (hs : SlotsR G w s.sl a) :
    ∃ ys, (rs.mapM (resOne a.tmps)).run P w = .ok ys w ∧ repL G w xs ys := by
  induction h with
  | nil => exact ⟨[], by simp, by simp only [repL]⟩
  | tmp t x rs xs h1 _ ih =>
    obtain ⟨ys, k1, k2⟩ := ih
    refine ⟨_ :: ys, ?_, by simp only [repL]; exact ⟨_, ys, rfl, hs t x h1, k2⟩⟩
    rw [List.mapM_cons]
    simp only [Sem.run_bind, resOne, Sem.run_pure, Result.andThen_ok, k1]
  | cellN c T i sz row rs xs ht h1 h2 h3 _ ih =>
    obtain ⟨ys, k1, k2⟩ := ih
    have q := hs c _ h1
    simp only [rep] at q
    obtain ⟨b, q1, q2⟩ := q
    obtain ⟨us, T', m1, m2, m3⟩ := hr.boxAt q1 h2
    have hl : us.length = sz := by rw [repL_length m2]; exact Nat.eq_of_beq_eq_true h3
    have hload := run_loadN (P := P) (T := T) (cs := us) (by rw [hl]; exact ht.eq) (b := b) (o := 0) (w := w) (by have := box_range m1 0 us.length; simpa using this)
    simp only [Instr.loadAt, Instr.sureAddr, Sem.run_bind, Sem.run_pure, Result.andThen_ok] at hload
    refine ⟨.agg us.toArray :: ys, ?_, by simp only [repL, rep]; exact ⟨_, ys, rfl, ⟨us, rfl, m2⟩, k2⟩⟩
    rw [List.mapM_cons]
    simp only [Sem.run_bind, resOne, q2, asAddr, Sem.run_pure, Result.andThen_ok, hload, k1]
  | cell1 c T i sz row x rs xs ht h1 h2 h3 _ ih =>
    obtain ⟨ys, k1, k2⟩ := ih
    have q := hs c _ h1
    simp only [rep] at q
    obtain ⟨b, q1, q2⟩ := q
    obtain ⟨us, T', m1, m2, m3⟩ := hr.boxAt q1 h2
    obtain ⟨u, n1, n2⟩ := repL_get m2 h3
    have hload := run_load1 (P := P) ht.eq (b := b) (o := 0) (w := w) (u := u) (by simp only [World.cell?, m1]; simpa using n1)
    simp only [Instr.loadAt, Instr.sureAddr, Sem.run_bind, Sem.run_pure, Result.andThen_ok] at hload
    refine ⟨u :: ys, ?_, by simp only [repL]; exact ⟨_, ys, rfl, n2, k2⟩⟩
    rw [List.mapM_cons]
    simp only [Sem.run_bind, resOne, q2, asAddr, Sem.run_pure, Result.andThen_ok, hload, k1]
theorem results_eq (fn : Func) (tmps : Array Value) : results fn tmps = (fn.results.mapM (resOne tmps) >>= fun vs => pure (if h : vs.size = 1 then vs[0] else .tuple vs)) := by
  unfold results
  refine congrArg (fun (F : ResultVar → Sem Value) => Array.mapM (m := Sem) F fn.results >>= fun vs => pure (if h : vs.size = 1 then vs[0] else Value.tuple vs)) (funext fun r => ?_)
  cases r <;> rfl
theorem ResA.results {P : Program} {fn : Func} {s : AS} {rs : List ResultVar} {xs : List AV} (hfr : fn.results = rs.toArray) (h : ResA P s rs xs) {E : Env} {G : Gh} {a : Act} {w : World} (hr : HRel E G s.h w) (hs : SlotsR G w s.sl a) : ∃ v, (results fn a.tmps).run P w = .ok v w ∧ rep G w (tupA xs) v := by
  obtain ⟨ys, k1, k2⟩ := h.run hr hs
  have hl := repL_length k2
  refine ⟨if h : ys.toArray.size = 1 then ys.toArray[0] else .tuple ys.toArray, ?_, ?_⟩
  · rw [results_eq, hfr, Sem.run_bind, Array.mapM_eq_mapM_toList]
    simp only [Sem.run_map, k1, Result.andThen_ok, Sem.run_pure]
  · match xs, ys, k2, hl with
    | [x], [y], k2, _ =>
      simp only [repL] at k2
      obtain ⟨z, zs, e1, e2, _⟩ := k2
      injection e1 with e1 _
      subst e1
      simpa [tupA] using e2
    | [], [], k2, _ => simp [tupA, rep, repL]
    | x :: x' :: xs, y :: y' :: ys, k2, _ =>
      simp only [List.size_toArray, List.length_cons, tupA]
      rw [dif_neg (by omega)]
      simp only [rep]
      exact ⟨_, rfl, k2⟩
    | [x], [], _, hl => simp at hl
    | [x], y :: y' :: ys, _, hl => simp at hl
    | [], y :: ys, _, hl => simp at hl
    | x :: x' :: xs, [], _, hl => simp at hl
    | x :: x' :: xs, [y], _, hl => simp at hl

mutual
def reT (g : Option Nat) : AV → AV
  | .v x => .v x
  | .agg cs => .agg (reTL g cs)
  | .tup cs => .tup (reTL g cs)
  | .sl sz rows none => .sl sz rows none
  | .sl sz rows (some g') => match g with
    | none => .sl sz rows none
    | some k => match Nat.beq k g' with
      | true => .sl sz rows (some 0)
      | false => .sl sz rows none
  | .fp row => .fp row
  | .bp i o => .bp i o
  | .bs i o sz n cap => .bs i o sz n cap
  | .fn f caps => .fn f (reTL g caps)
  | .any => .any
def reTL (g : Option Nat) : List AV → List AV
  | [] => []
  | x :: xs => reT g x :: reTL g xs
end
section
variable {G : Gh} {w : World} {g : Option Nat} {tkl : List (Nat × Value)} (hg : ∀ k, g = some k → ∃ p, G.tk[k]? = some p ∧ tkl = [p])
include hg
mutual
theorem rep_reT : ∀ (x : AV) (v : Value), rep G w x v → rep ⟨G.St, G.bx, tkl⟩ w (reT g x) v
  | .v _, _, h => by simpa only [rep, reT] using h
  | .agg cs, _, h => by
    simp only [rep, reT] at h ⊢
    obtain ⟨ys, h1, h2⟩ := h
    exact ⟨ys, h1, repL_reT cs ys h2⟩
  | .tup cs, _, h => by
    simp only [rep, reT] at h ⊢
    obtain ⟨ys, h1, h2⟩ := h
    exact ⟨ys, h1, repL_reT cs ys h2⟩
  | .sl sz rows none, _, h => by simpa only [rep, reT] using h
  | .sl sz rows (some g'), v, h => by
    simp only [rep] at h
    obtain ⟨h0, n, u, h1, h2⟩ := h
    simp only [reT]
    split
    · simp only [rep]; exact h0
    · rename_i k
      split
      · rename_i hb
        have e : k = g' := Nat.eq_of_beq_eq_true hb
        subst e
        obtain ⟨p, k1, k2⟩ := hg k rfl
        rw [h1] at k1
        injection k1 with k1
        simp only [rep]
        refine ⟨h0, n, u, ?_, h2⟩
        rw [k2, ← k1]
        rfl
      · simp only [rep]; exact h0
  | .fp _, _, h => by simpa only [rep, reT] using h
  | .bp _ _, _, h => by simpa only [rep, reT] using h
  | .bs _ _ _ _ _, _, h => by simpa only [rep, reT] using h
  | .fn f caps, _, h => by
    simp only [rep, reT] at h ⊢
    obtain ⟨ys, h1, h2⟩ := h
    exact ⟨ys, h1, repL_reT caps ys h2⟩
  | .any, _, _ => by simp only [rep, reT]
theorem repL_reT : ∀ (xs : List AV) (vs : List Value), repL G w xs vs → repL ⟨G.St, G.bx, tkl⟩ w (reTL g xs) vs
  | [], _, h => by have _ := hg; simpa only [repL, reTL] using h
  | x :: xs, _, h => by
    simp only [repL, reTL] at h ⊢
    obtain ⟨z, zs, h1, h2, h3⟩ := h
    exact ⟨z, zs, h1, rep_reT x z h2, repL_reT xs zs h3⟩
end
end
def tokOf (tk : List Tok) : Option Nat → Option (List Tok)
  | none => some []
  | some k => (tk[k]?).map fun t => [t]
theorem HRel.addSt {E : Env} {G : Gh} {h : AH} {w : World} (hr : HRel E G h w) (h0 : ∀ b o, E.St0 b o → b < E.w0.heap.size ∧ b ∉ E.ins) : HRel E ⟨fun b o => G.St b o ∨ E.St0 b o, G.bx, G.tk⟩ h w ∧ Ext G w ⟨fun b o => G.St b o ∨ E.St0 b o, G.bx, G.tk⟩ w := by
  have he : Ext G w ⟨fun b o => G.St b o ∨ E.St0 b o, G.bx, G.tk⟩ w := ⟨fun _ _ h => ⟨.inl h, rfl⟩, fun _ _ h => h, fun _ n u h => ⟨n, u, h, Nat.le_refl _, fun _ => rfl⟩⟩
  refine ⟨⟨hr.inpre, hr.kept, ?_, ?_, hr.bxlen, hr.bxnd, ?_, hr.bxown, ?_, hr.tklen, ?_, hr.tkbx, hr.tknd⟩, he⟩
  · rintro b o (hs | hs)
    · exact hr.stlt b o hs
    · exact Nat.lt_of_lt_of_le (h0 b o hs).1 hr.kept.size
  · rintro b o (hs | hs)
    · exact hr.stnew b o hs
    · exact .inl hs
  · rintro b hb o (hs | hs)
    · exact hr.bxst b hb o hs
    · obtain ⟨k1, k2⟩ := h0 b o hs
      rcases hr.bxown b hb with e | e
      · omega
      · exact k2 e
  · intro i b row hi hrow
    obtain ⟨us, T, h1, h2, h3⟩ := hr.box i b row hi hrow
    exact ⟨us, T, h1, repL_mono he _ _ h2, h3⟩
  · intro g n u T sz rows hg ht
    obtain ⟨h1, h2, h3⟩ := hr.tok g n u T sz rows hg ht
    refine ⟨h1, h2, fun b hb o ho => ?_⟩
    rintro (hs | hs)
    · exact h3 b hb o ho hs
    · have := (hr.toklt hg hb).1
      have := (h0 b o hs).1
      omega
def ABody (P : Program) (rs : List ResultVar) (n : Nat) (R : AV → List (List AV) → List Tok → Prop) (e : Exit) (s : AS) : Prop :=
  (e = .normal ∨ e = .ret) ∧ ∃ xs g r tk', ResA P s rs xs ∧ tokOf s.h.tk g = some tk' ∧ bpLt n 1 (reT g (tupA xs)) = true ∧ bpLtB n 0 (s.h.bx.take n) = true ∧ LeA (reT g (tupA xs)) r ∧ R r (s.h.bx.take n) tk'
theorem abody_ret {P : Program} {rs : List ResultVar} {n : Nat} {R : AV → List (List AV) → List Tok → Prop} {s : AS} {xs : List AV} {r : AV} (g : Option Nat) {tk' : List Tok} (h1 : ResA P s rs xs) (h2 : tokOf s.h.tk g = some tk') (h3 : bpLt n 1 (reT g (tupA xs)) = true) (h4 : bpLtB n 0 (s.h.bx.take n) = true) (h5 : LeA (reT g (tupA xs)) r) (h6 : R r (s.h.bx.take n) tk') : ABody P rs n R .ret s :=
  ⟨.inr rfl, xs, g, r, tk', h1, h2, h3, h4, h5, h6⟩
theorem abody_end {P : Program} {rs : List ResultVar} {n : Nat} {R : AV → List (List AV) → List Tok → Prop} {s : AS} {xs : List AV} {r : AV} (g : Option Nat) {tk' : List Tok} (h1 : ResA P s rs xs) (h2 : tokOf s.h.tk g = some tk') (h3 : bpLt n 1 (reT g (tupA xs)) = true) (h4 : bpLtB n 0 (s.h.bx.take n) = true) (h5 : LeA (reT g (tupA xs)) r) (h6 : R r (s.h.bx.take n) tk') : ABody P rs n R .normal s :=
  ⟨.inl rfl, xs, g, r, tk', h1, h2, h3, h4, h5, h6⟩
def idxL : Nat → List AV → List (Nat × AV)
  | _, [] => []
  | i, x :: xs => (i, x) :: idxL (i + 1) xs
theorem look_idxL : ∀ (xs : List AV) (i t : Nat) (x : AV), look (idxL i xs) t = some x → i ≤ t ∧ xs[t - i]? = some x
  | [], _, _, _, h => by cases h
  | y :: xs, i, t, x, h => by
    simp only [idxL] at h
    rw [← put_look, put_some] at h
    split at h
    · rename_i e; subst e; injection h with h; subst h; exact ⟨Nat.le_refl _, by simp⟩
    · rename_i hne
      obtain ⟨h1, h2⟩ := look_idxL xs (i + 1) t x h
      refine ⟨by omega, ?_⟩
      rw [show t - i = (t - (i + 1)) + 1 by omega, List.getElem?_cons_succ]
      exact h2
theorem acall_of {P : Program} {f : FuncId} {fn : Func} {c : Code} {rs : List ResultVar} {xs : List AV} {bx : List (List AV)} {R : AV → List (List AV) → List Tok → Prop} {N : Dim} (hf : P.funcs[f]? = some fn) (hb : fn.body = some c) (hfr : fn.results = rs.toArray) (hN : fn.ntmps = N.n) (hle : Nat.ble xs.length N.n = true) (hni : bx.length = N.ni) (n : Nat) (hn : Nat.ble N.ni n = true)
    (h : AWp P N c (ABody P rs n R) ⟨look (idxL 0 xs), ⟨bx, []⟩⟩) : ACall P f xs bx R := by
  intro w St bl vs h1 h2
  refine calls_of_wp hf hb ?_
  have hvl := repL_length h2
  have hlen : xs.length ≤ N.n := Nat.le_of_ble_eq_true hle
  have hrel : Rel N ⟨w, bl, St⟩ ⟨look (idxL 0 xs), ⟨bx, []⟩⟩ { tmps := vs.toArray ++ Array.replicate (fn.ntmps - vs.toArray.size) undef, defers := [] } w := by
    refine ⟨_, h1, ?_, by simp; omega, rfl, ?_⟩
    · intro t x ht
      obtain ⟨_, k1⟩ := look_idxL xs 0 t x ht
      rw [Nat.sub_zero] at k1
      obtain ⟨y, k2, k3⟩ := repL_get h2 k1
      have : (vs.toArray ++ Array.replicate (fn.ntmps - vs.toArray.size) undef).getD t undef = y := by
        have hlt := (List.getElem?_eq_some_iff.1 k2).1
        rw [Array.getD_eq_getD_getElem?, Array.getElem?_append_left (by simpa using hlt)]
        simp [k2]
      simp only [this]
      exact k3
    · have := h1.bxlen
      simp only at this
      rw [← hni]
      exact this
  refine wp_mono (h _ _ _ hrel) ?_
  rintro e a w' ⟨s, ⟨he, xs', g, r, tk', q1, q2, q3, q4, q5, q6⟩, G, r1, r2, r3, r4, r5⟩
  obtain ⟨v, m1, m2⟩ := q1.results hfr r1 r2
  have h0 : ∀ b o, (⟨w, bl, St⟩ : Env).St0 b o → b < (⟨w, bl, St⟩ : Env).w0.heap.size ∧ b ∉ (⟨w, bl, St⟩ : Env).ins := fun b o hs => ⟨h1.stlt b o hs, fun hm => h1.bxst b hm o hs⟩
  have hinl : (⟨w, bl, St⟩ : Env).ins.length ≤ n := by rw [r5]; exact Nat.le_of_ble_eq_true hn
  have hfin : ∃ G', HRel ⟨w, bl, St⟩ G' ⟨s.h.bx.take n, tk'⟩ w' ∧ Ext ⟨St, bl, []⟩ w G' w' ∧ rep G' w' r v := by
    have t1 := r1.trunc n 0 hinl q4
    have fin : ∀ (G1 : Gh), G1.St = G.St → G1.bx = G.bx.take n → HRel ⟨w, bl, St⟩ G1 ⟨s.h.bx.take n, tk'⟩ w' → rep G1 w' (reT g (tupA xs')) v → ∃ G', HRel ⟨w, bl, St⟩ G' ⟨s.h.bx.take n, tk'⟩ w' ∧ Ext ⟨St, bl, []⟩ w G' w' ∧ rep G' w' r v := by
      intro G1 e1 e2 t2 t3
      obtain ⟨t4, t5⟩ := t2.addSt h0
      refine ⟨_, t4, ⟨fun b o hs => ⟨.inr hs, ?_⟩, fun i b hi => t4.inpre i b hi, fun g n u hg => by simp at hg⟩, rep_mono t5 _ _ (q5 _ _ _ t3)⟩
      obtain ⟨z1, z2⟩ := h0 b o hs
      exact World.cell?_of_block (w := w) (a := ⟨b, o, none⟩) (r1.kept.block b z1 z2)
    cases g with
    | none =>
      simp only [tokOf, Option.some.injEq] at q2
      subst q2
      refine fin ⟨G.St, G.bx.take n, []⟩ rfl rfl (by simpa using t1) ?_
      have := rep_trunc n 1 _ _ q3 (rep_reT (g := none) (tkl := []) (fun k hk => by cases hk) _ _ m2)
      simpa using this
    | some k =>
      simp only [tokOf] at q2
      cases hk : s.h.tk[k]? with
      | none => rw [hk] at q2; cases q2
      | some t =>
        obtain ⟨T, sz, rows⟩ := t
        rw [hk] at q2
        simp at q2
        subst q2
        have hkl : k < G.tk.length := by rw [r1.tklen]; exact (List.getElem?_eq_some_iff.1 hk).1
        have hgk : G.tk[k]? = some G.tk[k] := List.getElem?_eq_getElem hkl
        rcases hp : G.tk[k] with ⟨n', u⟩
        rw [hp] at hgk
        obtain ⟨z1, z2, z3⟩ := r1.tok k n' u T sz rows hgk hk
        obtain ⟨y1, y2⟩ := t1.addTok (T := T) (sz := sz) (n := n') (u := u) (rows := rows) ⟨z1, z2, z3⟩ (fun b hb hm => r1.tkbx k n' u hgk b hb (List.mem_of_mem_take hm)) (fun g' n1 u1 hg' => by simp at hg')
        refine fin ⟨G.St, G.bx.take n, [(n', u)]⟩ rfl rfl (by simpa using y1) ?_
        have := rep_trunc n 1 _ _ q3 (rep_reT (g := some k) (tkl := [(n', u)]) (fun k' hk' => by injection hk' with hk'; subst hk'; exact ⟨_, hgk, rfl⟩) _ _ m2)
        simpa using this
  obtain ⟨G', f1, f2, f3⟩ := hfin
  rcases he with rfl | rfl
  · exact ⟨r4, v, m1, r, _, tk', G', q6, f1, f2, f3⟩
  · exact ⟨r4, v, m1, r, _, tk', G', q6, f1, f2, f3⟩
end Go.Proofs.Ytaidkbnbfnaihaa
namespace Go.Proofs.Ytaidkbnbfnaihaa
open Go.RowKit

def funOk (P : Program) (f : FuncId) : Bool :=
  match P.funcs[f]? with
  | some fn => fn.body.isSome && !(fn.name == "runtime.NumGoroutine")
  | none => false
class Fun (P : Program) (f : Nat) : Prop where
  eq : funOk P f = true
theorem run_callFunc {P : Program} {f : FuncId} (hf : funOk P f = true) (args : Array Value) (w : World) : (callFunc f args).run P w = .ok (.enter f args) w := by
  unfold funOk at hf
  cases h : P.funcs[f]? with
  | none => simp [h] at hf
  | some fn =>
    simp only [h, Bool.and_eq_true, Bool.not_eq_true'] at hf
    obtain ⟨h1, h2⟩ := hf
    have h3 : ¬ fn.name = "runtime.NumGoroutine" := by simpa using h2
    have h4 : fn.body.isNone = false := by cases hb : fn.body <;> simp [hb] at h1 ⊢
    have h5 : ¬ fn.body = none := by intro e; simp [e] at h4
    simp [callFunc, h, h3, h5]

def ArgOk (x y : AV) : Prop := ∀ (G : Gh) (w : World) (v : Value), rep G w x v → rep ⟨G.St, [], []⟩ w y v
theorem argOk_era (x : AV) : ArgOk x (era x) := fun G _ _ h => rep_fro (G := ⟨G.St, [], []⟩) _ _ (fro_era (G := G) _ _ h)
theorem ext_clean (St : Nat → Nat → Prop) (bx : List Nat) (tk : List (Nat × Value)) (w : World) : Ext ⟨St, [], []⟩ w ⟨St, bx, tk⟩ w := ⟨fun _ _ h => ⟨h, rfl⟩, fun _ _ h => by simp at h, fun _ _ _ h => by simp at h⟩
theorem owns_mono {w : World} {base base' : Nat} {e : TypeId} {size : Nat} {v : Value} {n : Nat} {xs : List Value} (h : w.ownsRow base e size v n xs) (hb : base' ≤ base) : w.ownsRow base' e size v n xs := by
  refine ⟨h.1, ?_⟩
  rcases h.2 with h' | ⟨g, cap, cur, hv, hg, r⟩
  · exact .inl h'
  · exact .inr ⟨g, cap, cur, hv, Nat.le_trans hb hg, r⟩
theorem argOk_clean {x : AV} (h : cln x = true) : ArgOk x x := by
  have := argOk_era x
  rwa [era_clean x h] at this
theorem argOk_nil (sz : Nat) : ArgOk (.v (.slice none 0 0)) (.sl sz [] none) := fun G w v h => LeA.nil sz _ w v (by simpa only [rep] using h)
inductive Args (ev : Operand → Option AV) : List Operand → List AV → Prop
  | nil : Args ev [] []
  | cons (o : Operand) (x y : AV) (l : List Operand) (ys : List AV) : ev o = some x → ArgOk x y → Args ev l ys → Args ev (o :: l) (y :: ys)
theorem Args.rep {ev : Operand → Option AV} {l : List Operand} {ys : List AV} (h : Args ev l ys) {G : Gh} {w : World} {ec : Operand → Value} (he : ∀ x ∈ l, ∀ av, ev x = some av → rep G w av (ec x)) : repL ⟨G.St, [], []⟩ w ys (l.map ec) := by
  induction h with
  | nil => simp only [List.map_nil, repL]
  | cons o x y l ys h1 h2 _ ih =>
    simp only [List.map_cons, repL]
    exact ⟨_, _, rfl, h2 G w _ (he o (by simp) _ h1), ih fun x hx => he x (by simp [hx])⟩

theorem call_merge {E : Env} {G : Gh} {h : AH} {w w' : World} (hr : HRel E G h w) {Gc : Gh} {bx' : List (List AV)} {tk' : List Tok} (hc : HRel ⟨w, [], G.St⟩ Gc ⟨bx', tk'⟩ w') (he : Ext ⟨G.St, [], []⟩ w Gc w') (hbc : bpLtB 0 0 bx' = true) :
    HRel E ⟨Gc.St, G.bx ++ Gc.bx, G.tk ++ Gc.tk⟩ ⟨h.bx ++ bx', h.tk ++ tk'⟩ w' ∧ Ext G w ⟨Gc.St, G.bx ++ Gc.bx, G.tk ++ Gc.tk⟩ w' := by
  have hblk : ∀ k, k < w.heap.size → w'.heap[k]? = w.heap[k]? := fun k hk => hc.kept.block k hk (by simp)
  have hsz : w.heap.size ≤ w'.heap.size := hc.kept.size
  have hcb : ∀ b ∈ Gc.bx, w.heap.size ≤ b := fun b hb => (hc.bxown b hb).resolve_right (by simp)
  have hext : Ext G w ⟨Gc.St, G.bx ++ Gc.bx, G.tk ++ Gc.tk⟩ w' := by
    refine ⟨fun b o hs => he.st b o hs, fun i b hi => by rw [List.getElem?_append_left (List.getElem?_eq_some_iff.1 hi).1]; exact hi, fun g n u hg => ⟨n, u, by rw [List.getElem?_append_left (List.getElem?_eq_some_iff.1 hg).1]; exact hg, Nat.le_refl _, fun _ => rfl⟩⟩
  have hstc : ∀ b o, Gc.St b o → b < w.heap.size → G.St b o := fun b o hs hb => (hc.stnew b o hs).resolve_right (by simp only; omega)
  have tksplit : ∀ (g n : Nat) (u : Value), (G.tk ++ Gc.tk)[g]? = some (n, u) → (g < G.tk.length ∧ G.tk[g]? = some (n, u)) ∨ (G.tk.length ≤ g ∧ Gc.tk[g - G.tk.length]? = some (n, u)) := by
    intro g n u hg
    rcases Nat.lt_or_ge g G.tk.length with hlt | hge
    · rw [List.getElem?_append_left hlt] at hg; exact .inl ⟨hlt, hg⟩
    · rw [List.getElem?_append_right hge] at hg; exact .inr ⟨hge, hg⟩
  refine ⟨⟨fun i b hi => hext.bx i b (hr.inpre i b hi), ?_, hc.stlt, ?_, by simp [hr.bxlen, hc.bxlen], ?_, ?_, ?_, ?_, by simp [hr.tklen, hc.tklen], ?_, ?_, ?_⟩, hext⟩
  · have k := hr.kept
    have k' := hc.kept
    exact ⟨k'.os.trans k.os, k'.tape.trans k.tape, k'.output.trans k.output, Nat.le_trans k.size hsz, fun i hi hn => (hblk i (Nat.lt_of_lt_of_le hi k.size)).trans (k.block i hi hn)⟩
  · intro b o hs
    rcases hc.stnew b o hs with h1 | h1
    · exact hr.stnew b o h1
    · exact .inr (Nat.le_trans hr.kept.size h1)
  · refine List.nodup_append.2 ⟨hr.bxnd, hc.bxnd, fun x hx y hy e => ?_⟩
    subst e
    have := hr.boxlt hx
    have := hcb x hy
    omega
  · intro b hb o hs
    rcases List.mem_append.1 hb with h1 | h1
    · exact hr.bxst b h1 o (hstc b o hs (hr.boxlt h1))
    · exact hc.bxst b h1 o hs
  · intro b hb
    rcases List.mem_append.1 hb with h1 | h1
    · exact hr.bxown b h1
    · exact .inl (Nat.le_trans hr.kept.size (hcb b h1))
  · intro i b row hi hrow
    rcases Nat.lt_or_ge i G.bx.length with hlt | hge
    · simp only at hi hrow
      rw [List.getElem?_append_left hlt] at hi
      rw [List.getElem?_append_left (by rw [← hr.bxlen]; exact hlt)] at hrow
      obtain ⟨us, T, h1, h2, h3⟩ := hr.box i b row hi hrow
      exact ⟨us, T, (hblk b (hr.boxlt (List.mem_of_getElem? hi))).trans h1, repL_mono hext _ _ h2, h3⟩
    · simp only at hi hrow
      rw [List.getElem?_append_right hge] at hi
      rw [List.getElem?_append_right (by rw [← hr.bxlen]; exact hge), ← hr.bxlen] at hrow
      obtain ⟨us, T, h1, h2, h3⟩ := hc.box _ b row hi hrow
      refine ⟨us, T, h1, ?_, h3⟩
      have := repL_trunc 0 0 _ _ (bpLtB_get hbc hrow) h2
      refine repL_mono (ext_clean Gc.St (G.bx ++ Gc.bx) (G.tk ++ Gc.tk) w') _ _ ?_
      simpa using this
  · intro g n u T sz rows hg ht
    simp only at hg ht
    rcases tksplit g n u hg with ⟨h1, h2⟩ | ⟨h1, h2⟩
    · rw [List.getElem?_append_left (by rw [← hr.tklen]; exact h1)] at ht
      obtain ⟨k1, ⟨xs, k2⟩, k3⟩ := hr.tok g n u T sz rows h2 ht
      refine ⟨k1, ⟨xs, World.ownsRow.kept k2 (w' := w') (row := none) ⟨hc.kept.os, hc.kept.tape, hc.kept.output, hsz, fun k hk _ => hblk k hk⟩ (by cases u.ownBlock <;> simp)⟩, fun b hb o ho hs => ?_⟩
      exact k3 b hb o ho (hstc b o hs (hr.toklt h2 hb).2)
    · rw [List.getElem?_append_right (by rw [← hr.tklen]; exact h1), ← hr.tklen] at ht
      obtain ⟨k1, ⟨xs, k2⟩, k3⟩ := hc.tok _ n u T sz rows h2 ht
      exact ⟨k1, ⟨xs, owns_mono k2 hr.kept.size⟩, k3⟩
  · intro g n u hg b hb hm
    rcases tksplit g n u hg with ⟨h1, h2⟩ | ⟨h1, h2⟩
    · rcases List.mem_append.1 hm with h3 | h3
      · exact hr.tkbx g n u h2 b hb h3
      · have := (hr.toklt h2 hb).2
        have := hcb b h3
        omega
    · rcases List.mem_append.1 hm with h3 | h3
      · have := (hc.toklt h2 hb).1
        have := hr.boxlt h3
        simp only at *
        omega
      · exact hc.tkbx _ n u h2 b hb h3
  · intro g g' n n' u u' hg hg' hne b hb hb'
    rcases tksplit g n u hg with ⟨h1, h2⟩ | ⟨h1, h2⟩
    · rcases tksplit g' n' u' hg' with ⟨k1, k2⟩ | ⟨k1, k2⟩
      · exact hr.tknd g g' n n' u u' h2 k2 hne b hb hb'
      · have := (hr.toklt h2 hb).2
        have := (hc.toklt k2 hb').1
        simp only at *
        omega
    · rcases tksplit g' n' u' hg' with ⟨k1, k2⟩ | ⟨k1, k2⟩
      · have := (hr.toklt k2 hb').2
        have := (hc.toklt h2 hb).1
        simp only at *
        omega
      · exact hc.tknd _ _ n n' u u' h2 k2 (by omega) b hb hb'

theorem call_start {E : Env} {G : Gh} {h : AH} {w : World} (hr : HRel E G h w) : HRel ⟨w, [], G.St⟩ ⟨G.St, [], []⟩ ⟨[], []⟩ w := by
  refine ⟨by simp, ⟨rfl, rfl, rfl, Nat.le_refl _, fun _ _ _ => rfl⟩, hr.stlt, fun _ _ h => .inl h, rfl, by simp, by simp, by simp, by simp, rfl, by simp, by simp, by simp⟩

def AFn (P : Program) (f : FuncId) (xs : List AV) (R : AV → Prop) : Prop := ACall P f xs [] (fun r bx' tk' => bx' = [] ∧ tk' = [] ∧ R r)
def AFnB (P : Program) (f : FuncId) (xs : List AV) (row : List AV) (R : AV → List AV → Prop) : Prop := ACall P f xs [row] (fun r bx' tk' => ∃ row', bx' = [row'] ∧ tk' = [] ∧ R r row')
theorem AFn.mono {P : Program} {f : FuncId} {xs : List AV} {R R' : AV → Prop} (h : AFn P f xs R) (hR : ∀ r, R r → R' r) : AFn P f xs R' := ACall.mono h fun _ _ _ ⟨h1, h2, h3⟩ => ⟨h1, h2, hR _ h3⟩

section
variable {P : Program} {ev : Operand → Option AV} {h : AH} {R : AV → AH → Prop} {d : Option Tmp} {ty : TypeId} {pos : String} {af : Array Edge} {gd : Option (Nat × Bool)} {ats : Array TypeId}
theorem upon_call {f : FuncId} {l : List Operand} {E : Env} {G : Gh} {w : World} {ec : Operand → Value} [hf : Fun P f] {fo : Operand} {caps : List Value} (hfo : ec fo = .func (.func f) #[] caps.toArray)
    (hc : Calls P f (l.map ec ++ caps).toArray w fun e w'' => match e with
      | .returned v => Fits E R G w v w''
      | _ => False) : Upon P E R G w ((execOp ec ⟨d, .call { callee := .value fo, args := l.toArray, argTypes := ats }, ty, pos, af, gd⟩).run P w) := by
  have e : (execOp ec ⟨d, .call { callee := .value fo, args := l.toArray, argTypes := ats }, ty, pos, af, gd⟩).run P w = .ok (.enter f (l.map ec ++ caps).toArray) w := by
    simp only [execOp, resolve, hfo, Deferred.ofValue, invoke, Sem.run_bind, Sem.run_pure, Result.andThen_ok, List.map_toArray]
    rw [run_callFunc hf.eq]
    simp
  rw [e]
  exact hc
theorem func_op {G : Gh} {w : World} {ec : Operand → Value} {f : FuncId} {caps : List AV} {fo : Operand} (h : rep G w (.fn f caps) (ec fo)) : ∃ cs : List Value, ec fo = .func (.func f) #[] cs.toArray ∧ repL G w caps cs := by
  simpa only [rep] using h
theorem fits_pure {E : Env} {G : Gh} {w w' : World} {R0 : AV → Prop} {v : Value} (hr : HRel E G h w) (hR : ∀ r, R0 r → R r h)
    (hx : ∃ r bx' tk' G', (bx' = [] ∧ tk' = [] ∧ R0 r) ∧ HRel ⟨w, [], G.St⟩ G' ⟨bx', tk'⟩ w' ∧ Ext ⟨G.St, [], []⟩ w G' w' ∧ rep G' w' r v) : Fits E R G w v w' := by
  obtain ⟨r, bx', tk', Gc, ⟨rfl, rfl, hR0⟩, h1, h2, h3⟩ := hx
  obtain ⟨k1, k2⟩ := call_merge hr h1 h2 rfl
  refine ⟨r, h, _, hR r hR0, by simpa using k1, k2, ?_⟩
  have e1 : Gc.bx = [] := List.eq_nil_of_length_eq_zero (by rw [h1.bxlen]; rfl)
  have e2 : Gc.tk = [] := List.eq_nil_of_length_eq_zero (by rw [h1.tklen]; rfl)
  refine rep_mono (ext_clean Gc.St (G.bx ++ Gc.bx) (G.tk ++ Gc.tk) w') _ _ ?_
  have e3 : Gc = ⟨Gc.St, [], []⟩ := by cases Gc; simp only at e1 e2; rw [e1, e2]
  rw [e3] at h3
  exact h3
theorem st_call {f : FuncId} {l : List Operand} {ys : List AV} {R0 : AV → Prop} [Fun P f] (hfo : ev (.func f) = some (.fn f [])) (ha : Args ev l ys) (hc : AFn P f ys R0) (hR : ∀ r, R0 r → R r h) : AStep P ⟨d, .call { callee := .value (.func f), args := l.toArray, argTypes := ats }, ty, pos, af, gd⟩ ev h R := by
  intro E G w ec hr he
  obtain ⟨cs, k1, k2⟩ := func_op (he (.func f) (by simp [Op.operands, Call.operands]) _ hfo)
  simp only [repL] at k2
  subst k2
  refine upon_call k1 ?_
  rw [List.append_nil]
  refine Calls.mono (hc w G.St [] _ (call_start hr) (ha.rep fun x hx av hav => he x (by simp [Op.operands, Call.operands, hx]) av hav)) ?_
  intro e w' h3
  cases e with
  | returned v => exact fits_pure hr hR h3
  | panicked c => exact h3.elim
  | outgrown => exact h3.elim
theorem st_callC {f : FuncId} {fo : Operand} {caps cy : List AV} {l : List Operand} {ys zs : List AV} {R0 : AV → Prop} [Fun P f] (hfo : ev fo = some (.fn f caps)) (ha : Args ev l ys) (hcy : clnL caps = true) (hz : ys ++ caps = zs) (hc : AFn P f zs R0) (hR : ∀ r, R0 r → R r h) : AStep P ⟨d, .call { callee := .value fo, args := l.toArray, argTypes := ats }, ty, pos, af, gd⟩ ev h R := by
  subst hz
  intro E G w ec hr he
  obtain ⟨cs, k1, k2⟩ := func_op (he fo (by simp [Op.operands, Call.operands]) _ hfo)
  refine upon_call k1 ?_
  have k3 : repL ⟨G.St, [], []⟩ w caps cs := by
    have := repL_fro (G := ⟨G.St, [], []⟩) _ _ (froL_era (G := G) _ _ k2)
    rwa [eraL_clean _ hcy] at this
  have k4 := ha.rep (G := G) (w := w) (ec := ec) fun x hx av hav => he x (by simp [Op.operands, Call.operands, hx]) av hav
  have app : ∀ (xs : List AV) (vs : List Value), repL ⟨G.St, [], []⟩ w xs vs → repL ⟨G.St, [], []⟩ w (xs ++ caps) (vs ++ cs) := by
    intro xs
    induction xs with
    | nil => intro vs hv; simp only [repL] at hv; subst hv; simpa using k3
    | cons x xs ih =>
      intro vs hv
      simp only [repL] at hv
      obtain ⟨z, zs, rfl, h1, h2⟩ := hv
      simp only [List.cons_append, repL]
      exact ⟨z, _, rfl, h1, ih zs h2⟩
  refine Calls.mono (hc w G.St [] _ (call_start hr) (app _ _ k4)) ?_
  intro e w' h3
  cases e with
  | returned v => exact fits_pure hr hR h3
  | panicked c => exact h3.elim
  | outgrown => exact h3.elim
end
end Go.Proofs.Ytaidkbnbfnaihaa
namespace Go.Proofs.Ytaidkbnbfnaihaa
open Go.RowKit

section
variable {P : Program} {N : Dim} {Q : Exit → AS → Prop} {s : AS} {K : AS → Prop} {l : List (Nat × AV)} {hh : AH} {ops : Array Oper} {rest : List Oper} {op : Op} {ty : TypeId} {pos : String} {af : Array Edge}
theorem aw_cy {c : Operand} {x y : Code} {t : Bool} (hc : evs s.sl c = some (.v (.bool t))) (ht : t = true) (h : AWp P N x Q s) : AWp P N (.cond c x y) Q s := aw_cond hc (fun _ => h) (fun e => by rw [ht] at e; cases e)
theorem aw_cn {c : Operand} {x y : Code} {t : Bool} (hc : evs s.sl c = some (.v (.bool t))) (ht : t = false) (h : AWp P N y Q s) : AWp P N (.cond c x y) Q s := aw_cond hc (fun e => by rw [ht] at e; cases e) (fun _ => h)
theorem x_then (h : K s) : AThen K Q .normal s := h
theorem x_thenR (h : Q .ret s) : AThen K Q .ret s := h
theorem x_thenE {i : Nat} (h : Q (.exit i) s) : AThen K Q (.exit i) s := h
theorem x_blockN {id : Nat} (h : Q .normal s) : ABlock id Q .normal s := h
theorem x_blockR {id : Nat} (h : Q .ret s) : ABlock id Q .ret s := h
theorem al_p {d : Nat} (hd : Nat.blt d N.n = true) (h : AStep P ⟨some d, op, ty, pos, af, none⟩ (evs (look l)) hh (fun x h' => AL P N ops Q rest ⟨look ((d, x) :: l), h'⟩)) : AL P N ops Q (⟨some d, op, ty, pos, af, none⟩ :: rest) ⟨look l, hh⟩ := al_plain (s := ⟨look l, hh⟩) rfl hd h
theorem al_p0 (h : AStep P ⟨none, op, ty, pos, af, none⟩ (evs (look l)) hh (fun _ h' => AL P N ops Q rest ⟨look l, h'⟩)) : AL P N ops Q (⟨none, op, ty, pos, af, none⟩ :: rest) ⟨look l, hh⟩ := al_plain (s := ⟨look l, hh⟩) rfl rfl h
theorem al_gn {d j : Nat} {want t : Bool} (hd : Nat.blt d N.n = true) (hy : yv ops (look l) j = some (some t)) (ht : (t == want) = false) (h : AL P N ops Q rest ⟨look ((d, .v undef) :: l), hh⟩) : AL P N ops Q (⟨some d, op, ty, pos, af, some (j, want)⟩ :: rest) ⟨look l, hh⟩ :=
  al_no (s := ⟨look l, hh⟩) (by simp only [wantedA, hy, ht]) hd h
theorem al_gu {d j : Nat} {want : Bool} (hd : Nat.blt d N.n = true) (hy : yv ops (look l) j = some none) (h : AL P N ops Q rest ⟨look ((d, .v undef) :: l), hh⟩) : AL P N ops Q (⟨some d, op, ty, pos, af, some (j, want)⟩ :: rest) ⟨look l, hh⟩ :=
  al_no (s := ⟨look l, hh⟩) (by simp only [wantedA, hy]) hd h
theorem al_gy {d j : Nat} {want t : Bool} (hd : Nat.blt d N.n = true) (hy : yv ops (look l) j = some (some t)) (ht : (t == want) = true) (h : AStep P ⟨some d, op, ty, pos, af, some (j, want)⟩ (evs (look l)) hh (fun x h' => AL P N ops Q rest ⟨look ((d, x) :: l), h'⟩)) : AL P N ops Q (⟨some d, op, ty, pos, af, some (j, want)⟩ :: rest) ⟨look l, hh⟩ :=
  al_yes (s := ⟨look l, hh⟩) (by simp only [wantedA, hy, ht]) hd h
theorem al_gs {o : Oper} {j : Nat} {t : Bool} (want : Bool) (_hg : o.guard = some (j, want)) (_hy : yv ops (look l) j = some (some t)) (h1 : t = true → AL P N ops Q (o :: rest) ⟨look l, hh⟩) (h2 : t = false → AL P N ops Q (o :: rest) ⟨look l, hh⟩) : AL P N ops Q (o :: rest) ⟨look l, hh⟩ := by
  cases t with
  | true => exact h1 rfl
  | false => exact h2 rfl
theorem beq_tt {t : Bool} (h : t = true) : (t == true) = true := by rw [h]; rfl
theorem beq_ff {t : Bool} (h : t = false) : (t == false) = true := by rw [h]; rfl
theorem beq_tf {t : Bool} (h : t = true) : (t == false) = false := by rw [h]; rfl
theorem beq_ft {t : Bool} (h : t = false) : (t == true) = false := by rw [h]; rfl
end
section
variable {P : Program} {ev : Operand → Option AV} {bx : List (List AV)} {tk : List Tok} {R : AV → AH → Prop} {d : Option Tmp} {ty : TypeId} {pos : String} {af : Array Edge} {gd : Option (Nat × Bool)} {ats : Array TypeId}
theorem s_store {T : TypeId} {x y : Operand} {sz i o : Nat} {ag : Bool} {av : AV} {row row' : List AV} {bx' : List (List AV)} [ht : Typ P T sz ag] (hx : ev x = some (.bp i o)) (hy : ev y = some av) (hb : bx[i]? = some row)
    (h1 : onesA (cellsA av) = true) (hl : Nat.beq (cellsA av).length sz = true) (hpos : Nat.blt 0 sz = true) (hs : SetAt row o (cellsA av) row') (hset : SetAt bx i [row'] bx') (hR : R (.v undef) ⟨bx', tk⟩) : AStep P ⟨d, .store T x y, ty, pos, af, gd⟩ ev ⟨bx, tk⟩ R := st_store (h := ⟨bx, tk⟩) hx hy hb h1 hl hpos hs hset hR
theorem s_box {T : TypeId} {x : Operand} {n : Nat} {av : AV} {bx' : List (List AV)} (hx : ev x = some av) (h1 : onesA (cellsA av) = true) (hs : SnocAt bx (cellsA av) n bx') (hR : R (.bp n 0) ⟨bx', tk⟩) : AStep P ⟨d, .box T x, ty, pos, af, gd⟩ ev ⟨bx, tk⟩ R := st_box (h := ⟨bx, tk⟩) hx h1 hs hR
theorem s_boxA {T : TypeId} {x : Operand} {n : Nat} {cs : List AV} {bx' : List (List AV)} (hx : ev x = some (.agg cs)) (h1 : onesA cs = true) (hs : SnocAt bx cs n bx') (hR : R (.bp n 0) ⟨bx', tk⟩) : AStep P ⟨d, .box T x, ty, pos, af, gd⟩ ev ⟨bx, tk⟩ R := st_box (h := ⟨bx, tk⟩) hx h1 hs hR
theorem s_alloc {T : TypeId} {n : Nat} {row : List AV} {bx' : List (List AV)} [hz : Zer P T row] (hs : SnocAt bx row n bx') (hR : R (.bp n 0) ⟨bx', tk⟩) : AStep P ⟨d, .alloc T, ty, pos, af, gd⟩ ev ⟨bx, tk⟩ R := st_alloc (h := ⟨bx, tk⟩) hs hR
theorem s_append {T : TypeId} {s y : Operand} {T' sz bytes g : Nat} {rows new : List (List AV)} {tok : Option Nat} {tk' : List Tok} [hE : Elm P T T' sz bytes] (hs : ev s = some (.sl sz rows (some g))) (hy : ev y = some (.sl sz new tok)) (hg : tk[g]? = some (T', sz, rows))
    (hsm : rows.length + new.length ≤ 1000000) (hset : SetAt tk g [(T', sz, rows ++ new)] tk') (hR : R (.sl sz (rows ++ new) (some g)) ⟨bx, tk'⟩) : AStep P ⟨d, .call { callee := .builtin .append, args := #[s, y], argTypes := #[T, T] }, ty, pos, af, gd⟩ ev ⟨bx, tk⟩ R := st_append (h := ⟨bx, tk⟩) hs hy hg hsm hset hR
theorem s_append0 {T : TypeId} {s y : Operand} {T' sz bytes n : Nat} {new : List (List AV)} {tok : Option Nat} {tk' : List Tok} [hE : Elm P T T' sz bytes] (hs : ev s = some (.v (.slice none 0 0))) (hy : ev y = some (.sl sz new tok))
    (hsm : new.length ≤ 1000000) (hset : SnocAt tk (T', sz, new) n tk') (hR : R (.sl sz new (some n)) ⟨bx, tk'⟩) : AStep P ⟨d, .call { callee := .builtin .append, args := #[s, y], argTypes := #[T, T] }, ty, pos, af, gd⟩ ev ⟨bx, tk⟩ R := st_append0 (h := ⟨bx, tk⟩) hs hy hsm hset hR
theorem s_make0 {T : TypeId} {x y : Operand} {E sz bytes n : Nat} {c : Int} {tk' : List Tok} [hE : Elm P T E sz bytes] (hx : ev x = some (.v (.int .i64 0))) (hy : ev y = some (.v (.int .i64 c))) (hc : 0 ≤ c ∧ c ≤ 1000000)
    (hset : SnocAt tk (E, sz, []) n tk') (hR : R (.sl sz [] (some n)) ⟨bx, tk'⟩) : AStep P ⟨d, .makeSlice T x y, ty, pos, af, gd⟩ ev ⟨bx, tk⟩ R := st_make0 (h := ⟨bx, tk⟩) hx hy hc hset hR
end
theorem enter {P : Program} {f : FuncId} {fn : Func} {c : Code} {rs : List ResultVar} {xs : List AV} {bx : List (List AV)} {R : AV → List (List AV) → List Tok → Prop} {nn ni : Nat} (hf : P.funcs[f]? = some fn) (hb : fn.body = some c) (hfr : fn.results = rs.toArray) (hN : fn.ntmps = nn) (hle : Nat.ble xs.length nn = true) (hni : bx.length = ni) (n : Nat) (hn : Nat.ble ni n = true)
    (h : AWp P ⟨nn, ni⟩ c (ABody P rs n R) ⟨look (idxL 0 xs), ⟨bx, []⟩⟩) : ACall P f xs bx R := acall_of (N := ⟨nn, ni⟩) hf hb hfr hN hle hni n hn h
end Go.Proofs.Ytaidkbnbfnaihaa
namespace Go.Proofs.Ytaidkbnbfnaihaa
open Go.RowKit

section
variable {P : Program} {ev : Operand → Option AV} {h : AH} {R : AV → AH → Prop} {d : Option Tmp} {ty : TypeId} {pos : String} {af : Array Edge} {gd : Option (Nat × Bool)} {ats : Array TypeId}
theorem st_conv {S T : TypeId} {x : Operand} {k k' : IntKind} {ds : TypeDesc} {a : Int} (hx : ev x = some (.v (.int k a))) (hS : P.underlying S = some ds) (hT : P.underlying T = some (.int k')) (hR : R (.v (.int k' (k'.wrap a))) h) : AStep P ⟨d, .convert S T x, ty, pos, af, gd⟩ ev h R :=
  st_val (fun _ G w ec _ he => ⟨.int k' (k'.wrap a), by
    have h1 := he x (by simp [Op.operands]) _ hx
    simp only [rep] at h1
    simp [execOp, h1, convert, run_underlying hS, run_underlying hT, Conv.intToInt], by simp only [rep]⟩) hR
theorem st_eqlB {T yT : TypeId} {x y : Operand} {a b : Bool} (hu : P.underlying T = some .bool) (hx : ev x = some (.v (.bool a))) (hy : ev y = some (.v (.bool b))) (hR : R (.v (.bool (a == b))) h) : AStep P ⟨d, .binOp .eql T x y yT, ty, pos, af, gd⟩ ev h R :=
  st_bin hx hy (fun w => by simp [eqGuard, binOp, run_equal_bool w T a b hu]) hR
theorem st_neqB {T yT : TypeId} {x y : Operand} {a b : Bool} (hu : P.underlying T = some .bool) (hx : ev x = some (.v (.bool a))) (hy : ev y = some (.v (.bool b))) (hR : R (.v (.bool (!(a == b)))) h) : AStep P ⟨d, .binOp .neq T x y yT, ty, pos, af, gd⟩ ev h R :=
  st_bin hx hy (fun w => by simp [eqGuard, binOp, run_equal_bool w T a b hu]) hR
inductive AllV : List AV → List Value → Prop
  | nil : AllV [] []
  | cons (u : Value) (xs : List AV) (us : List Value) : AllV xs us → AllV (.v u :: xs) (u :: us)
theorem AllV.eq {xs : List AV} {us : List Value} (ha : AllV xs us) {G : Gh} {w : World} : ∀ {ys : List Value}, repL G w xs ys → ys = us := by
  induction ha with
  | nil => intro ys hy; simpa only [repL] using hy
  | cons u xs us _ ih =>
    intro ys hy
    simp only [repL] at hy
    obtain ⟨z, zs, rfl, h1, h2⟩ := hy
    simp only [rep] at h1
    rw [h1, ih h2]
theorem st_binA {op : BinOp} {T yT : TypeId} {x y : Operand} {xs ys : List AV} {us vs : List Value} {z : Value} (hx : ev x = some (.agg xs)) (hy : ev y = some (.agg ys)) (ha : AllV xs us) (hb : AllV ys vs) (hz : ∀ w, (binOp op T (.agg us.toArray) (.agg vs.toArray)).run P w = .ok z w) (hg : P.eqGuardType P.depth T = false) (hR : R (.v z) h) : AStep P ⟨d, .binOp op T x y yT, ty, pos, af, gd⟩ ev h R :=
  st_val (fun _ G w ec _ he => by
    have h1 := he x (by simp [Op.operands]) _ hx
    have h2 := he y (by simp [Op.operands]) _ hy
    simp only [rep] at h1 h2
    obtain ⟨us', e1, e2⟩ := h1
    obtain ⟨vs', e3, e4⟩ := h2
    have e5 := ha.eq e2
    have e6 := hb.eq e4
    subst e5
    subst e6
    refine ⟨z, ?_, by simp only [rep]⟩
    have hgd : (eqGuard op T x y (.agg us'.toArray) (.agg vs'.toArray)).run P w = .ok () w := by
      unfold eqGuard
      cases op <;> simp [hg]
    simp only [execOp]
    rw [e1, e3]
    simp only [Sem.run_bind, hgd, Result.andThen_ok, hz w, Sem.run_pure]) hR
end

mutual
def inA (i : Nat) : AV → AV
  | .v x => .v x
  | .agg cs => .agg (inAL i cs)
  | .tup cs => .tup (inAL i cs)
  | .sl sz rows _ => .sl sz rows none
  | .fp row => .fp row
  | .bp j o => match Nat.beq j i with
    | true => .bp 0 o
    | false => .any
  | .bs j o sz n cap => match Nat.beq j i with
    | true => .bs 0 o sz n cap
    | false => .any
  | .fn f caps => .fn f (inAL i caps)
  | .any => .any
def inAL (i : Nat) : List AV → List AV
  | [] => []
  | x :: xs => inA i x :: inAL i xs
end
section
variable {G : Gh} {w : World} {i b : Nat} (hb : G.bx[i]? = some b)
include hb
mutual
theorem rep_inA : ∀ (x : AV) (v : Value), rep G w x v → rep ⟨G.St, [b], []⟩ w (inA i x) v
  | .v _, _, h => by simpa only [rep, inA] using h
  | .agg cs, _, h => by
    simp only [rep, inA] at h ⊢
    obtain ⟨ys, h1, h2⟩ := h
    exact ⟨ys, h1, repL_inA cs ys h2⟩
  | .tup cs, _, h => by
    simp only [rep, inA] at h ⊢
    obtain ⟨ys, h1, h2⟩ := h
    exact ⟨ys, h1, repL_inA cs ys h2⟩
  | .sl sz rows none, _, h => by simpa only [rep, inA] using h
  | .sl sz rows (some g), _, h => by simp only [rep, inA] at h ⊢; exact h.1
  | .fp _, _, h => by simpa only [rep, inA] using h
  | .bp j o, v, h => by
    simp only [rep] at h
    obtain ⟨b', h1, h2⟩ := h
    simp only [inA]
    split
    · rename_i e
      have e' : j = i := Nat.eq_of_beq_eq_true e
      subst e'
      rw [hb] at h1
      injection h1 with h1
      subst h1
      simp only [rep]
      exact ⟨b, rfl, h2⟩
    · simp only [rep]
  | .bs j o sz n cap, v, h => by
    simp only [rep] at h
    obtain ⟨b', h1, h2⟩ := h
    simp only [inA]
    split
    · rename_i e
      have e' : j = i := Nat.eq_of_beq_eq_true e
      subst e'
      rw [hb] at h1
      injection h1 with h1
      subst h1
      simp only [rep]
      exact ⟨b, rfl, h2⟩
    · simp only [rep]
  | .fn f caps, _, h => by
    simp only [rep, inA] at h ⊢
    obtain ⟨ys, h1, h2⟩ := h
    exact ⟨ys, h1, repL_inA caps ys h2⟩
  | .any, _, _ => by simp only [rep, inA]
theorem repL_inA : ∀ (xs : List AV) (vs : List Value), repL G w xs vs → repL ⟨G.St, [b], []⟩ w (inAL i xs) vs
  | [], _, h => by have _ := hb; simpa only [repL, inAL] using h
  | x :: xs, _, h => by
    simp only [repL, inAL] at h ⊢
    obtain ⟨z, zs, h1, h2, h3⟩ := h
    exact ⟨z, zs, h1, rep_inA x z h2, repL_inA xs zs h3⟩
end
end
inductive ArgsB (i : Nat) (ev : Operand → Option AV) : List Operand → List AV → Prop
  | nil : ArgsB i ev [] []
  | cons (o : Operand) (x y : AV) (l : List Operand) (ys : List AV) : ev o = some x → inA i x = y → ArgsB i ev l ys → ArgsB i ev (o :: l) (y :: ys)
theorem ArgsB.rep {i b : Nat} {ev : Operand → Option AV} {l : List Operand} {ys : List AV} (h : ArgsB i ev l ys) {G : Gh} {w : World} {ec : Operand → Value} (hb : G.bx[i]? = some b) (he : ∀ x ∈ l, ∀ av, ev x = some av → rep G w av (ec x)) : repL ⟨G.St, [b], []⟩ w ys (l.map ec) := by
  induction h with
  | nil => simp only [List.map_nil, repL]
  | cons o x y l ys h1 h2 _ ih =>
    simp only [List.map_cons, repL]
    subst h2
    exact ⟨_, _, rfl, rep_inA hb _ _ (he o (by simp) _ h1), ih fun x hx => he x (by simp [hx])⟩
theorem callB_start {E : Env} {G : Gh} {h : AH} {w : World} (hr : HRel E G h w) {i b : Nat} {row : List AV} (hb : G.bx[i]? = some b) (hrow : h.bx[i]? = some row) (hcl : bpLtL 0 0 row = true) : HRel ⟨w, [b], G.St⟩ ⟨G.St, [b], []⟩ ⟨[row], []⟩ w := by
  have hm := List.mem_of_getElem? hb
  refine ⟨fun _ _ h => h, ⟨rfl, rfl, rfl, Nat.le_refl _, fun _ _ _ => rfl⟩, hr.stlt, fun _ _ h => .inl h, rfl, by simp, fun b' hb' => by simp at hb'; subst hb'; exact hr.bxst _ hm, fun b' hb' => .inr hb', ?_, rfl, by simp, by simp, by simp⟩
  intro j b' row' hj hrow'
  cases j with
  | succ j => simp at hj
  | zero =>
    simp at hj hrow'
    subst hj
    subst hrow'
    obtain ⟨us, T, h1, h2, h3⟩ := hr.box i b row hb hrow
    refine ⟨us, T, h1, ?_, h3⟩
    have := repL_trunc 0 0 _ _ hcl h2
    refine repL_mono (ext_clean G.St [b] [] w) _ _ ?_
    simpa using this
theorem callB_merge {E : Env} {G : Gh} {h : AH} {w w' : World} (hr : HRel E G h w) {i b : Nat} {row' : List AV} {Gc : Gh} (hb : G.bx[i]? = some b) (hc : HRel ⟨w, [b], G.St⟩ Gc ⟨[row'], []⟩ w') (he : Ext ⟨G.St, [b], []⟩ w Gc w') (hcl : bpLtL 0 0 row' = true) :
    HRel E ⟨Gc.St, G.bx, G.tk⟩ ⟨h.bx.set i row', h.tk⟩ w' ∧ Ext G w ⟨Gc.St, G.bx, G.tk⟩ w' := by
  have hm := List.mem_of_getElem? hb
  have hblk : ∀ k, k < w.heap.size → k ≠ b → w'.heap[k]? = w.heap[k]? := fun k hk hne => hc.kept.block k hk (by simpa using hne)
  have hsz : w.heap.size ≤ w'.heap.size := hc.kept.size
  have hext : Ext G w ⟨Gc.St, G.bx, G.tk⟩ w' := ⟨fun b o hs => he.st b o hs, fun _ _ h => h, fun g n u hg => ⟨n, u, hg, Nat.le_refl _, fun _ => rfl⟩⟩
  have hstc : ∀ b o, Gc.St b o → b < w.heap.size → G.St b o := fun b o hs hb => (hc.stnew b o hs).resolve_right (by simp only; omega)
  have hcb : Gc.bx = [b] := by
    have h1 := hc.inpre 0 b rfl
    have h2 := hc.bxlen
    match hg : Gc.bx, h2 with
    | [c], _ => rw [hg] at h1; simp at h1; rw [h1]
  refine ⟨⟨hr.inpre, ?_, hc.stlt, ?_, by simp [hr.bxlen], hr.bxnd, ?_, hr.bxown, ?_, hr.tklen, ?_, hr.tkbx, hr.tknd⟩, hext⟩
  · have k := hr.kept
    have k' := hc.kept
    refine ⟨k'.os.trans k.os, k'.tape.trans k.tape, k'.output.trans k.output, Nat.le_trans k.size hsz, fun j hj hn => (hblk j (Nat.lt_of_lt_of_le hj k.size) (fun e => ?_)).trans (k.block j hj hn)⟩
    subst e
    rcases hr.bxown j hm with e | e
    · omega
    · exact hn e
  · intro b' o hs
    rcases hc.stnew b' o hs with h1 | h1
    · exact hr.stnew b' o h1
    · exact .inr (Nat.le_trans hr.kept.size h1)
  · intro b' hb' o hs
    exact hr.bxst b' hb' o (hstc b' o hs (hr.boxlt hb'))
  · intro j b' row hj hrow
    have hmj := List.mem_of_getElem? hj
    by_cases hji : j = i
    · subst hji
      rw [hb] at hj
      injection hj with hj
      subst hj
      have hlt : j < h.bx.length := by rw [← hr.bxlen]; exact (List.getElem?_eq_some_iff.1 hb).1
      simp only at hrow
      rw [List.getElem?_set_self hlt] at hrow
      injection hrow with hrow
      subst hrow
      obtain ⟨us, T, h1, h2, h3⟩ := hc.box 0 b row' (by rw [hcb]; rfl) rfl
      refine ⟨us, T, h1, ?_, h3⟩
      have := repL_trunc 0 0 _ _ hcl h2
      refine repL_mono (ext_clean Gc.St G.bx G.tk w') _ _ ?_
      simpa using this
    · simp only at hrow
      rw [List.getElem?_set_ne (Ne.symm hji)] at hrow
      obtain ⟨us, T, h1, h2, h3⟩ := hr.box j b' row hj hrow
      have hne : b' ≠ b := by
        intro e
        subst e
        obtain ⟨l1, e1⟩ := List.getElem?_eq_some_iff.1 hb
        obtain ⟨l2, e2⟩ := List.getElem?_eq_some_iff.1 hj
        exact hji ((List.getElem_inj hr.bxnd).1 (e2.trans e1.symm))
      exact ⟨us, T, (hblk b' (hr.boxlt hmj) hne).trans h1, repL_mono hext _ _ h2, h3⟩
  · intro g n u T sz rows hg ht
    obtain ⟨k1, ⟨xs, k2⟩, k3⟩ := hr.tok g n u T sz rows hg ht
    refine ⟨k1, ⟨xs, World.ownsRow.kept k2 (w' := w') (row := some b) ⟨hc.kept.os, hc.kept.tape, hc.kept.output, hsz, fun k hk hne => hblk k hk (fun e => hne (by rw [e]))⟩ (.inr fun e => hr.tkbx g n u hg b e hm)⟩, fun b' hb' o ho hs => ?_⟩
    exact k3 b' hb' o ho (hstc b' o hs (hr.toklt hg hb').2)
section
variable {P : Program} {ev : Operand → Option AV} {bx : List (List AV)} {tk : List Tok} {R : AV → AH → Prop} {d : Option Tmp} {ty : TypeId} {pos : String} {af : Array Edge} {gd : Option (Nat × Bool)} {ats : Array TypeId}
theorem s_callB {f : FuncId} {l : List Operand} {ys : List AV} {row : List AV} {R0 : AV → List AV → Prop} (i : Nat) [Fun P f] (hfo : ev (.func f) = some (.fn f [])) (ha : ArgsB i ev l ys) (hrow : bx[i]? = some row) (hcl : bpLtL 0 0 row = true) (hc : AFnB P f ys row R0)
    (hR : ∀ r row', R0 r row' → bpLtL 0 0 row' = true ∧ bpLt 0 0 r = true ∧ ∃ bx', SetAt bx i [row'] bx' ∧ R r ⟨bx', tk⟩) : AStep P ⟨d, .call { callee := .value (.func f), args := l.toArray, argTypes := ats }, ty, pos, af, gd⟩ ev ⟨bx, tk⟩ R := by
  intro E G w ec hr he
  obtain ⟨cs, k1, k2⟩ := func_op (he (.func f) (by simp [Op.operands, Call.operands]) _ hfo)
  simp only [repL] at k2
  subst k2
  have hlt : i < G.bx.length := by rw [hr.bxlen]; exact (List.getElem?_eq_some_iff.1 hrow).1
  have hb : G.bx[i]? = some G.bx[i] := List.getElem?_eq_getElem hlt
  generalize G.bx[i] = b at hb
  refine upon_call k1 ?_
  rw [List.append_nil]
  refine Calls.mono (hc w G.St [b] _ (callB_start hr hb hrow hcl) (ha.rep hb fun x hx av hav => he x (by simp [Op.operands, Call.operands, hx]) av hav)) ?_
  intro e w' h3
  cases e with
  | returned v =>
    obtain ⟨r, bx', tk', Gc, ⟨row', rfl, rfl, hR0⟩, h1, h2, h3⟩ := h3
    obtain ⟨q1, q2, bx2, q3, q4⟩ := hR r row' hR0
    obtain ⟨m1, m2⟩ := callB_merge hr hb h1 h2 q1
    obtain ⟨_, e⟩ := SetAt.one q3
    subst e
    refine ⟨r, _, _, q4, m1, m2, ?_⟩
    have := rep_trunc 0 0 _ _ q2 h3
    refine rep_mono (ext_clean Gc.St G.bx G.tk w') _ _ ?_
    simpa using this
  | panicked c => exact h3.elim
  | outgrown => exact h3.elim
end
end Go.Proofs.Ytaidkbnbfnaihaa
namespace Go.Proofs.Ytaidkbnbfnaihaa
open Go.RowKit

theorem froL_froC {St : Nat → Nat → Prop} {w : World} {b : Nat} (hst : ∀ o, St b o) : ∀ {xs : List AV} {us : List Value} {off : Nat}, froL St w xs us → (∀ u ∈ us, u.oneCell' = true) → (∀ j u, us[j]? = some u → w.cell? ⟨b, off + j, none⟩ = some u) → froC St w b xs off
  | [], _, _, _, _, _ => by simp only [froC]
  | x :: xs, _, off, h, h1, h2 => by
    simp only [froL] at h
    obtain ⟨z, zs, rfl, h3, h4⟩ := h
    simp only [froC]
    refine ⟨⟨hst off, z, by simpa using h2 0 z rfl, h1 z (by simp), h3⟩, froL_froC hst h4 (fun u hu => h1 u (by simp [hu])) fun j u hj => ?_⟩
    have := h2 (j + 1) u (by simpa using hj)
    rwa [show off + (j + 1) = off + 1 + j by omega] at this
mutual
def plnA : AV → Bool
  | .v _ => true
  | .agg cs => plnL cs
  | .tup cs => plnL cs
  | _ => false
def plnL : List AV → Bool
  | [] => true
  | x :: xs => plnA x && plnL xs
end
mutual
theorem rep_pln {G G' : Gh} {w w' : World} : ∀ (x : AV) (v : Value), plnA x = true → rep G w x v → rep G' w' x v
  | .v _, _, _, h => by simpa only [rep] using h
  | .agg cs, _, hp, h => by
    simp only [plnA] at hp
    simp only [rep] at h ⊢
    obtain ⟨ys, h1, h2⟩ := h
    exact ⟨ys, h1, repL_pln cs ys hp h2⟩
  | .tup cs, _, hp, h => by
    simp only [plnA] at hp
    simp only [rep] at h ⊢
    obtain ⟨ys, h1, h2⟩ := h
    exact ⟨ys, h1, repL_pln cs ys hp h2⟩
  | .sl _ _ _, _, hp, _ => by simp [plnA] at hp
  | .fp _, _, hp, _ => by simp [plnA] at hp
  | .bp _ _, _, hp, _ => by simp [plnA] at hp
  | .bs _ _ _ _ _, _, hp, _ => by simp [plnA] at hp
  | .fn _ _, _, hp, _ => by simp [plnA] at hp
  | .any, _, hp, _ => by simp [plnA] at hp
theorem repL_pln {G G' : Gh} {w w' : World} : ∀ (xs : List AV) (vs : List Value), plnL xs = true → repL G w xs vs → repL G' w' xs vs
  | [], _, _, h => by simpa only [repL] using h
  | x :: xs, _, hp, h => by
    simp only [plnL, Bool.and_eq_true] at hp
    simp only [repL] at h ⊢
    obtain ⟨z, zs, h1, h2, h3⟩ := h
    exact ⟨z, zs, h1, rep_pln x z hp.1 h2, repL_pln xs zs hp.2 h3⟩
end
end Go.Proofs.Ytaidkbnbfnaihaa
namespace Go.Proofs.Ytaidkbnbfnaihaa
open Go.RowKit

def notI (k : IntKind) (a b : Int) : Int := k.wrap ((BitVec.ofInt k.bits a &&& ~~~ BitVec.ofInt k.bits b).toNat)
theorem st_andNot {P : Program} {ev : Operand → Option AV} {h : AH} {R : AV → AH → Prop} {d : Option Tmp} {ty : TypeId} {pos : String} {af : Array Edge} {gd : Option (Nat × Bool)} {T yT : TypeId} {x y : Operand} {k : IntKind} {a b : Int} (hx : ev x = some (.v (.int k a))) (hy : ev y = some (.v (.int k b))) (hR : R (.v (.int k (notI k a b))) h) : AStep P ⟨d, .binOp .andNot T x y yT, ty, pos, af, gd⟩ ev h R :=
  st_bin hx hy (fun w => by simp [eqGuard, binOp, Op.intBits, notI]) hR
theorem repL_vals {G : Gh} {w : World} : ∀ {us vs : List Value}, repL G w (us.map AV.v) vs → vs = us
  | [], _, h => by simpa only [List.map_nil, repL] using h
  | u :: us, _, h => by
    simp only [List.map_cons, repL] at h
    obtain ⟨z, zs, rfl, h1, h2⟩ := h
    simp only [rep] at h1
    rw [h1, repL_vals h2]
theorem afn_of {P : Program} {f : FuncId} {us : List Value} {z : Value} (h : ∀ w, Calls P f us.toArray w fun e w' => e = .returned z ∧ Below w.heap.size w w') : AFn P f (us.map AV.v) (fun r => r = .v z) := by
  intro w St bl vs hr hv
  obtain rfl := repL_vals hv
  refine (h w).mono ?_
  rintro e w' ⟨rfl, hb⟩
  obtain ⟨h1, h2⟩ := hr.below hb
  exact ⟨_, _, _, _, ⟨rfl, rfl, rfl⟩, h1, h2, by simp only [rep]⟩
theorem argOk_le {x y : AV} (h : cln x = true) (hl : LeA x y) : ArgOk x y := fun G w v hv => hl _ w v (argOk_clean h G w v hv)
theorem st_le {P : Program} {ev : Operand → Option AV} {h : AH} {R : AV → AH → Prop} {o : Oper} {x y : AV} (hs : AStep P o ev h fun r h' => r = x ∧ h' = h) (hl : LeA x y) (hR : R y h) : AStep P o ev h R := by
  have step : ∀ {E : Env} {G : Gh} {w w' : World} {v : Value}, Fits E (fun r h' => r = x ∧ h' = h) G w v w' → Fits E R G w v w' := by
    rintro E G w w' v ⟨r, h', G', ⟨rfl, rfl⟩, k2, k3, k4⟩
    exact ⟨_, _, G', hR, k2, k3, hl _ _ _ k4⟩
  intro E G w ec hr he
  have hu := hs E G w ec hr he
  revert hu
  generalize (execOp ec o).run P w = z
  intro hu
  unfold Upon at hu ⊢
  split at hu
  · exact step hu
  · exact step hu
  · refine Calls.mono hu ?_
    intro e w'' h3
    cases e with
    | returned v => exact step h3
    | panicked c => exact h3.elim
    | outgrown => exact h3.elim
  · exact hu.elim
end Go.Proofs.Ytaidkbnbfnaihaa
namespace Go.Proofs.Ytaidkbnbfnaihaa
open Go.RowKit

theorem hrel_start {w : World} {St : Nat → Nat → Prop} (hst : ∀ b o, St b o → b < w.heap.size) : HRel ⟨w, [], St⟩ ⟨St, [], []⟩ ⟨[], []⟩ w :=
  ⟨fun i b h => by simp at h, ⟨rfl, rfl, rfl, Nat.le_refl _, fun _ _ _ => rfl⟩, hst, fun _ _ h => .inl h, rfl, List.nodup_nil, fun b h => by simp at h, fun b h => by simp at h, fun i b row h => by simp at h, rfl, fun g n u T sz rows h => by simp at h, fun g n u h => by simp at h, fun g g' n n' u u' h => by simp at h⟩
theorem calls_of {P : Program} {f : FuncId} {xs : List AV} {z : Value} (h : AFn P f xs fun r => r = .v z) {w : World} (St : Nat → Nat → Prop) (hst : ∀ b o, St b o → b < w.heap.size) {vs : List Value} (hv : repL ⟨St, [], []⟩ w xs vs) :
    Calls P f vs.toArray w fun e w' => e = .returned z ∧ Below w.heap.size w w' := by
  refine Calls.mono (h w St [] vs (hrel_start hst) hv) ?_
  intro e w' h3
  cases e with
  | returned v =>
    obtain ⟨r, b, t, G', ⟨_, _, rfl⟩, k2, _, k4⟩ := h3
    simp only [rep] at k4
    subst k4
    have k := k2.kept
    exact ⟨rfl, ⟨k.os, k.tape, k.output, k.size, fun i hi => k.block i hi (by simp)⟩⟩
  | panicked c => exact h3.elim
  | outgrown => exact h3.elim
theorem repL_v {G : Gh} {w : World} : ∀ (us : List Value), repL G w (us.map AV.v) us
  | [] => by simp only [List.map_nil, repL]
  | u :: us => by simp only [List.map_cons, repL]; exact ⟨u, us, rfl, by simp only [rep], repL_v us⟩
theorem calls_vals {P : Program} {f : FuncId} (us : List Value) {z : Value} (h : AFn P f (us.map AV.v) fun r => r = .v z) (w : World) : Calls P f us.toArray w fun e w' => e = .returned z ∧ Below w.heap.size w w' :=
  calls_of h (fun _ _ => False) (fun _ _ h => h.elim) (repL_v us)
end Go.Proofs.Ytaidkbnbfnaihaa
namespace Go.Proofs.Ytaidkbnbfnaihaa
open Go.RowKit

class BP (b v : Bool) (p : outParam Prop) : Prop where
  imp : b = v → p
instance (priority := low) bp_any (b v : Bool) : BP b v (b = v) := ⟨fun h => h⟩
instance bp_t (p : Prop) [Decidable p] : BP (decide p) true p := ⟨of_decide_eq_true⟩
instance bp_f (p : Prop) [Decidable p] : BP (decide p) false (¬ p) := ⟨of_decide_eq_false⟩
instance bp_nt (b : Bool) (p : Prop) [h : BP b false p] : BP (!b) true p := ⟨fun e => h.imp (by cases b <;> simp_all)⟩
instance bp_nf (b : Bool) (p : Prop) [h : BP b true p] : BP (!b) false p := ⟨fun e => h.imp (by cases b <;> simp_all)⟩
theorem bp {b v : Bool} {p : Prop} [h : BP b v p] (e : b = v) : p := h.imp e
section
variable {P : Program} {N : Dim} {Q : Exit → AS → Prop} {ops : Array Oper} {rest : List Oper} {l : List (Nat × AV)} {hh : AH} {op : Op} {ty : TypeId} {pos : String} {af : Array Edge}
theorem g_y {d j : Nat} {want t : Bool} (h : AStep P ⟨some d, op, ty, pos, af, some (j, want)⟩ (evs (look l)) hh (fun x h' => AL P N ops Q rest ⟨look ((d, x) :: l), h'⟩)) (hd : Nat.blt d N.n = true := by rfl) (hy : yv ops (look l) j = some (some t) := by rfl) (ht : (t == want) = true := by first | rfl | exact beq_tt ‹_› | exact beq_ff ‹_› | simp [*]) : AL P N ops Q (⟨some d, op, ty, pos, af, some (j, want)⟩ :: rest) ⟨look l, hh⟩ := al_gy hd hy ht h
end
section
variable {P : Program} {rs : List ResultVar} {R0 : AV → Prop} {s : AS} {xs : List AV}
theorem e_ret (h : R0 (reT none (tupA xs))) (h1 : ResA P s rs xs := by repeat (first | exact ResA.nil | (apply ResA.tmp; (focus exact rfl)) | (apply ResA.cellN; (focus exact inferInstance); (focus exact rfl); (focus exact rfl); (focus exact rfl)) | (apply ResA.cell1; (focus exact inferInstance); (focus exact rfl); (focus exact rfl); (focus exact rfl)))) (h3 : bpLt 0 1 (reT none (tupA xs)) = true := by rfl) : ABody P rs 0 (fun r bx' tk' => bx' = [] ∧ tk' = [] ∧ R0 r) .ret s := abody_ret none h1 rfl h3 rfl (LeA.refl _) ⟨rfl, rfl, h⟩
end
section
variable {P : Program} {ev : Operand → Option AV} {h : AH} {R : AV → AH → Prop} {d : Option Tmp} {ty : TypeId} {pos : String} {af : Array Edge} {gd : Option (Nat × Bool)} {ats : Array TypeId}
theorem p_t {c a b : Operand} {t : Bool} {av : AV} (hR : R av h) (hc : ev c = some (.v (.bool t)) := by rfl) (ht : t = true := by first | rfl | assumption | simp [*]) (hx : ev a = some av := by rfl) : AStep P ⟨d, .pick c a b, ty, pos, af, gd⟩ ev h R := st_pick_t hc ht hx hR
theorem p_f {c a b : Operand} {t : Bool} {av : AV} (hR : R av h) (hc : ev c = some (.v (.bool t)) := by rfl) (ht : t = false := by first | rfl | assumption | simp [*]) (hx : ev b = some av := by rfl) : AStep P ⟨d, .pick c a b, ty, pos, af, gd⟩ ev h R := st_pick_f hc ht hx hR
theorem q_call {f : FuncId} {l : List Operand} {ys : List AV} {R0 : AV → Prop} [Fun P f] (hc : AFn P f ys R0) (hR : ∀ r, R0 r → R r h) (hfo : ev (.func f) = some (.fn f []) := by rfl) (ha : Args ev l ys := by repeat (first | exact Args.nil | refine Args.cons _ _ _ _ _ rfl (argOk_clean rfl) ?_ | refine Args.cons _ _ _ _ _ rfl (argOk_nil _) ?_ | refine Args.cons _ _ _ _ _ rfl (argOk_era _) ?_ | refine Args.cons _ _ _ _ _ rfl (argOk_le rfl (by repeat (first | exact LeA.refl _ | exact LeA.nil _ | exact LeL.refl _ | refine LeA.agg ?_ | refine LeA.tup ?_ | exact LeL.nil | refine LeL.cons ?_ ?_ | exact LeA.any _))) ?_)) : AStep P ⟨d, .call { callee := .value (.func f), args := l.toArray, argTypes := ats }, ty, pos, af, gd⟩ ev h R := st_call hfo ha hc hR
end
theorem wk {f : Nat → Option AV} {bx : List (List AV)} {tk : List (Nat × Nat × List (List AV))} {l : List (Nat × AV)} {N : Dim} (n m : Nat) {bx' : List (List AV)} {tk' : List (Nat × Nat × List (List AV))} (hn : Nat.ble N.ni n = true := by rfl) (hb : bx.take n = bx' := by rfl) (ht : tk.take m = tk' := by rfl) (hbp : bpLtB n m bx' = true := by rfl) (hl : Sub n m f l := by repeat (first | exact Sub.nil | refine Sub.cons _ _ _ rfl rfl ?_ | refine Sub.any _ _ ?_ | refine Sub.sl _ _ _ _ _ rfl ?_ | refine Sub.slnil _ _ _ rfl ?_)) : Weak N ⟨f, ⟨bx, tk⟩⟩ ⟨look l, ⟨bx', tk'⟩⟩ := weak_of n m hn hb ht hbp hl
end Go.Proofs.Ytaidkbnbfnaihaa
namespace Go.Proofs.Ytaidkbnbfnaihaa
open Go.RowKit

theorem aw_midI {P : Program} {N : Dim} {Q : Exit → AS → Prop} {s : AS} {x y : Code} (I : AS → Prop) (h1 : AWp P N x (AThen (fun s' => ∃ s0, I s0 ∧ Weak N s' s0) Q) s) (h2 : ∀ s0, I s0 → AWp P N y Q s0) : AWp P N (.seq x y) Q s := by
  intro E a w hr
  refine wp_seq (wp_mono (h1 E a w hr) ?_)
  rintro e a' w' ⟨s', hq, hr'⟩
  cases e with
  | normal => obtain ⟨s0, k1, k2⟩ := hq; exact h2 s0 k1 E a' w' (k2 E a' w' hr')
  | exit id => exact ⟨s', hq, hr'⟩
  | goto l => exact ⟨s', hq, hr'⟩
  | ret => exact ⟨s', hq, hr'⟩
  | panic c => exact ⟨s', hq, hr'⟩
  | outgrown => exact ⟨s', hq, hr'⟩
theorem HRel.boxLe {E : Env} {G : Gh} {h : AH} {w : World} (hr : HRel E G h w) {i : Nat} {row row' : List AV} (hi : h.bx[i]? = some row) (hle : ∀ us, repL G w row us → repL G w row' us) : HRel E G ⟨h.bx.set i row', h.tk⟩ w := by
  refine ⟨hr.inpre, hr.kept, hr.stlt, hr.stnew, by simp [hr.bxlen], hr.bxnd, hr.bxst, hr.bxown, ?_, hr.tklen, hr.tok, hr.tkbx, hr.tknd⟩
  intro j b row1 hj hrow
  have hlt : i < h.bx.length := (List.getElem?_eq_some_iff.1 hi).1
  by_cases e : i = j
  · subst e
    rw [List.getElem?_set_self hlt] at hrow
    injection hrow with hrow
    subst hrow
    obtain ⟨us, T, k1, k2, k3⟩ := hr.box i b row hj hi
    exact ⟨us, T, k1, hle us k2, k3⟩
  · rw [List.getElem?_set_ne e] at hrow
    exact hr.box j b row1 hj hrow
theorem repL_set {G : Gh} {w : World} {x y : AV} (h : ∀ v, rep G w x v → rep G w y v) : ∀ {row : List AV} {o : Nat} {us : List Value}, row[o]? = some x → repL G w row us → repL G w (row.set o y) us
  | [], o, _, hx, _ => by simp at hx
  | z :: zs, 0, _, hx, hr => by
    simp at hx
    subst hx
    simp only [repL, List.set_cons_zero] at hr ⊢
    obtain ⟨a, as', h1, h2, h3⟩ := hr
    exact ⟨a, as', h1, h a h2, h3⟩
  | z :: zs, o + 1, _, hx, hr => by
    simp only [repL, List.set_cons_succ] at hr ⊢
    obtain ⟨a, as', h1, h2, h3⟩ := hr
    exact ⟨a, as', h1, h2, repL_set h (by simpa using hx) h3⟩
theorem aw_nilTokB {P : Program} {N : Dim} {Q : Exit → AS → Prop} {c : Code} {f : Nat → Option AV} {bx bx' : List (List AV)} {tk tk' : List Tok} (i o T sz : Nat) {g : Nat} {row row' : List AV} (hb : bx[i]? = some row) (ht : row[o]? = some (.v (.slice none 0 0))) (hs : SnocAt tk (T, sz, []) g tk')
    (hrow : SetAt row o [.sl sz [] (some g)] row') (hbx : SetAt bx i [row'] bx') (h : AWp P N c Q ⟨f, ⟨bx', tk'⟩⟩) : AWp P N c Q ⟨f, ⟨bx, tk⟩⟩ := by
  rintro E a w ⟨G, h1, h2, h3⟩
  obtain ⟨e1, e2⟩ := hs.eq
  subst e1
  subst e2
  have e3 := (SetAt.one hrow).2
  have e4 := (SetAt.one hbx).2
  subst e3
  subst e4
  obtain ⟨k1, k2, k3⟩ := nil_tok h1 T sz
  refine h E a w ⟨_, k1.boxLe (i := i) hb (fun us hu => repL_set (x := .v (.slice none 0 0)) (fun v hv => ?_) ht hu), fun t' x hx => rep_mono k2 _ _ (h2 t' x hx), h3⟩
  simp only [rep] at hv
  rw [hv]
  exact k3

end Go.Proofs.Ytaidkbnbfnaihaa
namespace Go.Proofs.Ytaidkbnbfnaihaa
open Go.RowKit

section
variable {P : Program} {ev : Operand → Option AV} {h : AH} {R : AV → AH → Prop} {d : Option Tmp} {ty : TypeId} {pos : String} {af : Array Edge} {gd : Option (Nat × Bool)}
theorem st_indexS {T : TypeId} {x ix : Operand} {E sz bytes i off n cap m : Nat} {k : IntKind} {iv : Int} [hE : Elm P T E sz bytes]
    (hx : ev x = some (.bs i off sz n cap)) (hi : ev ix = some (.v (.int k iv))) (hn : iv = (m : Int)) (hlt : m < n) (hR : R (.bp i (off + m * sz)) h) : AStep P ⟨d, .indexAddr T x ix, ty, pos, af, gd⟩ ev h R := by
  refine st_val (fun _ G w ec _ he => ?_) hR
  have h1 := he x (by simp [Op.operands]) _ hx
  have h2 := he ix (by simp [Op.operands]) _ hi
  simp only [rep] at h1 h2
  obtain ⟨b, h3, h4, _, _⟩ := h1
  obtain ⟨hu, inf, z, hinf, _, _, hs, _, _⟩ := elm_spec hE.eq
  subst hn
  refine ⟨.pointer (some ⟨b, off + m * sz, none⟩), ?_, by simp only [rep]; exact ⟨b, h3, rfl⟩⟩
  simp [execOp, h2, h4, Instr.indexAt, asIntOf, run_underlying hu, hlt, sizeOf, typeInfo, hinf, hs, Addr.add_mid]
end

theorem SetAt.put1 {α : Type} {x : α} : ∀ {row : List α} {o : Nat}, o < row.length → SetAt row o [x] (row.set o x)
  | [], _, h => by simp at h
  | y :: ys, 0, _ => SetAt.here y x ys [] ys (SetAt.nil ys 0)
  | y :: ys, o + 1, h => SetAt.there y x ys [] (ys.set o x) o (SetAt.put1 (by simpa using h))
theorem snoc_ex {α : Type} (x : α) : ∀ (l : List α), SnocAt l x l.length (l ++ [x])
  | [] => SnocAt.nil x
  | y :: ys => SnocAt.cons y x ys _ _ (snoc_ex x ys)
theorem zero_one {P : Program} {T : Nat} {zrow : List AV} (hz : Zer P T zrow) {inf : TypeInfo} {z : Value} (hi : P.info? T = some inf) (hzr : inf.zero = some z) {k : Nat} {u : Value} (hu : u ∈ Builtin.zeroCells z.cells k) : u.oneCell' = true := by
  obtain ⟨zs, h1, _, h2⟩ := hz.eq
  obtain ⟨i, z', k1, k2, k3⟩ := zer_spec h1
  rw [hi] at k1
  injection k1 with k1
  subst k1
  rw [hzr] at k2
  injection k2 with k2
  subst k2
  rw [k3] at hu
  simp only [Builtin.zeroCells, Array.mem_map, Array.mem_range] at hu
  obtain ⟨i, hi2, rfl⟩ := hu
  have hpos : 0 < zs.toArray.size := by
    rcases Nat.eq_zero_or_pos zs.toArray.size with e | e
    · rw [e] at hi2; simp at hi2
    · exact e
  have hlt : i % zs.toArray.size < zs.toArray.size := Nat.mod_lt _ hpos
  rw [getElem!_pos zs.toArray _ hlt]
  exact List.all_eq_true.1 h2 _ (by simp)

theorem flat_len {α : Type} {sz : Nat} : ∀ {rows : List (List α)}, (∀ r ∈ rows, r.length = sz) → rows.flatten.length = rows.length * sz
  | [], _ => by simp
  | r :: rs, h => by
    rw [List.flatten_cons, List.length_append, flat_len (fun x hx => h x (by simp [hx])), h r (by simp), List.length_cons, Nat.add_mul]
    omega
theorem flat_getT {α : Type} {sz : Nat} : ∀ {rows : List (List α)} {q k : Nat}, (∀ r ∈ rows, r.length = sz) → k < sz → rows.flatten[q * sz + k]? = (rows[q]?).bind (fun r => r[k]?)
  | [], _, _, _, _ => by simp
  | r :: rs, 0, k, h, hk => by
    have := h r (by simp)
    rw [List.flatten_cons, Nat.zero_mul, Nat.zero_add, List.getElem?_append_left (by omega)]
    rfl
  | r :: rs, q + 1, k, h, hk => by
    have hr := h r (by simp)
    rw [List.flatten_cons, List.getElem?_append_right (by rw [hr, Nat.add_mul]; omega), show (q + 1) * sz + k - r.length = q * sz + k by rw [hr, Nat.add_mul]; omega, flat_getT (fun x hx => h x (by simp [hx])) hk]
    rfl
theorem SetAt.left {α : Type} {l xs l' : List α} {n : Nat} (h : SetAt l n xs l') (b : List α) : SetAt (l ++ b) n xs (l' ++ b) := by
  induction h with
  | nil l n => exact SetAt.nil _ _
  | here a x l xs l' _ ih => exact SetAt.here a x _ xs _ ih
  | there a x l xs l' n _ ih => exact SetAt.there a x _ xs _ n ih
theorem SetAt.right {α : Type} {l xs l' : List α} {n : Nat} (h : SetAt l n xs l') : ∀ (a : List α), xs ≠ [] → SetAt (a ++ l) (a.length + n) xs (a ++ l')
  | [], _ => by simpa using h
  | y :: ys, hne => by
    have := SetAt.right h ys hne
    cases xs with
    | nil => exact absurd rfl hne
    | cons x xs =>
      rw [show (y :: ys).length + n = (ys.length + n) + 1 by simp; omega]
      exact SetAt.there y x _ xs _ _ this
theorem SetAt.whole {α : Type} : ∀ {xs l b : List α}, xs.length = l.length → SetAt (l ++ b) 0 xs (xs ++ b)
  | [], [], b, _ => SetAt.nil _ _
  | [], _ :: _, _, h => by simp at h
  | _ :: _, [], _, h => by simp at h
  | x :: xs, y :: ys, b, h => SetAt.here y x _ xs _ (SetAt.whole (by simpa using h))
theorem flat_set {α : Type} {sz : Nat} {rows : List (List α)} {q k : Nat} {r r' cs : List α} (h : ∀ r ∈ rows, r.length = sz) (hq : rows[q]? = some r) (hs : SetAt r k cs r') (hne : cs ≠ []) : SetAt rows.flatten (q * sz + k) cs (rows.set q r').flatten := by
  obtain ⟨hlt, e⟩ := List.getElem?_eq_some_iff.1 hq
  have e1 : rows = rows.take q ++ r :: rows.drop (q + 1) := by
    rw [← e, ← List.drop_eq_getElem_cons hlt, List.take_append_drop]
  have e2 : rows.set q r' = rows.take q ++ r' :: rows.drop (q + 1) := by rw [List.set_eq_take_append_cons_drop, if_pos hlt]
  have hl : (rows.take q).flatten.length = q * sz := by
    rw [flat_len (sz := sz) (fun x hx => h x (List.mem_of_mem_take hx)), List.length_take, Nat.min_eq_left (by omega)]
  have key := SetAt.right (hs.left (rows.drop (q + 1)).flatten) (rows.take q).flatten hne
  rw [hl] at key
  rw [e2]
  conv => arg 1; rw [e1]
  simpa using key
theorem repL_of {G : Gh} {w : World} : ∀ {xs : List AV} {us : List Value}, xs.length = us.length → (∀ (i : Nat) (x : AV), xs[i]? = some x → ∃ u, us[i]? = some u ∧ rep G w x u) → repL G w xs us
  | [], [], _, _ => by simp only [repL]
  | [], _ :: _, h, _ => by simp at h
  | _ :: _, [], h, _ => by simp at h
  | x :: xs, u :: us, h, hx => by
    simp only [repL]
    obtain ⟨u', h1, h2⟩ := hx 0 x rfl
    simp at h1
    subst h1
    exact ⟨u, us, rfl, h2, repL_of (by simpa using h) fun i y hy => by simpa using hx (i + 1) y (by simpa using hy)⟩
theorem FlatR.rep {G : Gh} {w : World} {sz : Nat} {rows : List (List AV)} {us : List Value} (h : FlatR G.St w sz rows us) (hs : 0 < sz) : repL G w rows.flatten us := by
  obtain ⟨h1, h2, h3, h4⟩ := h
  refine repL_of (by rw [flat_len h2, h1]) fun i x hx => ?_
  have hi : i = i / sz * sz + i % sz := by rw [Nat.mul_comm]; exact (Nat.div_add_mod i sz).symm
  have hk : i % sz < sz := Nat.mod_lt _ hs
  rw [hi, flat_getT h2 hk] at hx
  cases hq : rows[i / sz]? with
  | none => rw [hq] at hx; simp at hx
  | some r =>
    rw [hq] at hx
    obtain ⟨u, k1, k2⟩ := h4 (i / sz) r (i % sz) x hq hx
    rw [← hi] at k1
    exact ⟨u, k1, rep_fro _ _ k2⟩
inductive SrcA (h : AH) (sz : Nat) : AV → Nat → List AV → Prop
  | sl (rows : List (List AV)) (tok : Option Nat) : SrcA h sz (.sl sz rows tok) rows.length rows.flatten
  | bs (i off n cap : Nat) (row : List AV) : h.bx[i]? = some row → off + n * sz ≤ row.length → SrcA h sz (.bs i off sz n cap) n ((row.drop off).take (n * sz))
theorem SrcA.run {h : AH} {sz m : Nat} {y : AV} {cs : List AV} (hs : SrcA h sz y m cs) {E : Env} {G : Gh} {w : World} (hr : HRel E G h w) {v : Value} (hy : rep G w y v) (hp : 0 < sz) (hm : 0 < m) :
    ∃ ad c us, v = .slice (some ad) m c ∧ us.length = m * sz ∧ repL G w cs us ∧ (∀ u ∈ us, u.oneCell' = true) ∧ ∀ j u, us[j]? = some u → w.cell? (ad.add j) = some u := by
  cases hs with
  | sl rows tok =>
    have k := fro_era _ _ hy
    simp only [era] at k
    obtain ⟨A, cap, us, e1, e2, e3, e4, e5⟩ := fro_flat k
    obtain ⟨b, off, rfl, e6⟩ := e5 (fun e => by rw [e] at hm; simp at hm)
    exact ⟨_, cap, us, e1, e4.1, e4.rep hp, e4.2.2.1, fun j u hj => by rw [Addr.add_mid]; exact e6 j u hj⟩
  | bs i off n cap row hb hf =>
    simp only [Go.Proofs.Ytaidkbnbfnaihaa.rep] at hy
    obtain ⟨b, k1, k2, _, _⟩ := hy
    obtain ⟨us, T, q1, q2, q3⟩ := hr.boxAt k1 hb
    have hlen := repL_length q2
    refine ⟨_, cap, (us.drop off).take (m * sz), k2, by simp; omega, repL_take (repL_drop q2 off) _, fun u hu => q3 u (List.mem_of_mem_drop (List.mem_of_mem_take hu)), fun j u hj => ?_⟩
    rw [Addr.add_mid]
    simp only [World.cell?, q1]
    rw [List.getElem?_take] at hj
    split at hj
    · rw [List.getElem?_drop] at hj
      simpa using hj
    · cases hj
section
variable {P : Program} {ev : Operand → Option AV} {h : AH} {R : AV → AH → Prop} {d : Option Tmp} {ty : TypeId} {pos : String} {af : Array Edge} {gd : Option (Nat × Bool)}
theorem repL_anys {G : Gh} {w : World} : ∀ (us : List Value), repL G w (List.replicate us.length .any) us
  | [] => by simp only [List.length_nil, List.replicate_zero, repL]
  | u :: us => by simp only [List.length_cons, List.replicate_succ, repL]; exact ⟨u, us, rfl, by simp only [rep], repL_anys us⟩
theorem repL_app {G : Gh} {w : World} : ∀ {xs ys : List AV} {us vs : List Value}, repL G w xs us → repL G w ys vs → repL G w (xs ++ ys) (us ++ vs)
  | [], _, _, _, h, k => by simp only [repL] at h; subst h; simpa using k
  | x :: xs, _, _, _, h, k => by
    simp only [repL] at h
    obtain ⟨z, zs, rfl, h1, h2⟩ := h
    simp only [List.cons_append, repL]
    exact ⟨z, _, rfl, h1, repL_app h2 k⟩
theorem HRel.drew {E : Env} {G : Gh} {w : World} (hr : HRel E G h w) : HRel E G h w.drew ∧ Ext G w G w.drew := by
  have := hr.grow (w' := w.drew) ⟨rfl, rfl, rfl, Nat.le_refl _, fun _ _ => rfl⟩ (fun _ _ => False) (fun _ _ h => h.elim)
  simpa using this
theorem st_appendB {T : TypeId} {s y : Operand} {T' sz bytes i off n cap m : Nat} {row cs : List AV} {av : AV} {zrow : List AV} [hE : Elm P T T' sz bytes] [hzr : Zer P T' zrow] (hs : ev s = some (.bs i off sz n cap)) (hy : ev y = some av) (hb : h.bx[i]? = some row) (hfit : off + cap * sz ≤ row.length) (hsrc : SrcA h sz av m cs) (hm : 0 < m) (hsm : n + m ≤ 1000000)
    (room : n + m ≤ cap → ∀ row' bx', SetAt row (off + n * sz) cs row' → SetAt h.bx i [row'] bx' → R (.bs i off sz (n + m) cap) ⟨bx', h.tk⟩)
    (grow : cap < n + m → ∀ cap' k bx', n + m ≤ cap' → SnocAt h.bx ((row.drop off).take (n * sz) ++ cs ++ List.replicate ((cap' - (n + m)) * sz) .any) k bx' → R (.bs k 0 sz (n + m) cap') ⟨bx', h.tk⟩) : AStep P ⟨d, .call { callee := .builtin .append, args := #[s, y], argTypes := #[T, T] }, ty, pos, af, gd⟩ ev h R := by
  intro E G w ec hr he
  have k1 := he s (by simp [Op.operands, Call.operands]) _ hs
  have k2 := he y (by simp [Op.operands, Call.operands]) _ hy
  obtain ⟨hu, inf, z, hinf, hz, hzs, hsz, hbts, hp⟩ := elm_spec hE.eq
  obtain ⟨ad, c, us, e1, e2, e3, e4, e5⟩ := hsrc.run hr k2 hp hm
  simp only [rep] at k1
  obtain ⟨b, k3, k4, k5, k6⟩ := k1
  obtain ⟨vs, Tb, q1, q2, q3⟩ := hr.boxAt k3 hb
  have hlen := repL_length q2
  have hvl := repL_length e3
  have hi : i < h.bx.length := (List.getElem?_eq_some_iff.1 hb).1
  by_cases hroom : n + m ≤ cap
  · have hfit2 : off + n * sz + us.length ≤ vs.length := by
      have : n * sz + m * sz ≤ cap * sz := by rw [← Nat.add_mul]; exact Nat.mul_le_mul_right _ hroom
      omega
    have hrun := run_append_room_cells (P := P) w T ty T' inf hu hinf b off n cap ad m c us (by rw [hsz]; exact e2) e5 e4 hroom (fun j hj => by
      have hj2 : off + n * sz + j < vs.length := by omega
      rw [hsz]; simp only [World.cell?, q1]; simp [hj2]) (fun j hj => by simp [World.frozen?, q1])
    rw [hsz] at hrun
    obtain ⟨r1, r2, r3, r4, r5, r6⟩ := setCells_heap b Tb us (off + n * sz) vs w q1
    have hpos : 0 < m * sz := Nat.mul_pos hm hp
    have hcs : cs ≠ [] := fun e => by rw [e, List.length_nil] at hvl; omega
    have hset : ∃ row', SetAt row (off + n * sz) cs row' := by
      have hrow : ∀ k, row = row.take k ++ ((row.drop k).take cs.length ++ row.drop (k + cs.length)) := fun k => by
        rw [← List.drop_drop, List.take_append_drop, List.take_append_drop]
      have hl0 : (row.take (off + n * sz)).length = off + n * sz := by rw [List.length_take, Nat.min_eq_left (by omega)]
      have key := SetAt.right (SetAt.whole (xs := cs) (l := (row.drop (off + n * sz)).take cs.length) (b := row.drop (off + n * sz + cs.length)) (by simp; omega)) (row.take (off + n * sz)) hcs
      rw [hl0, Nat.add_zero, ← hrow] at key
      exact ⟨_, key⟩
    obtain ⟨row', hset⟩ := hset
    obtain ⟨m1, _⟩ := hset.rep q2 e3
    obtain ⟨t1, t2⟩ := hr.setBox (w' := w.setCells b (off + n * sz) us) (row := row') k3 r4 r5 r6 r3 r2 ⟨_, Tb, r1, m1, fun u hu => by
      rcases setL_mem us vs _ u hu with e | e
      · exact q3 u e
      · exact e4 u e⟩
    simp only [execOp, resolve, invoke, builtin, Sem.run_bind, Sem.run_pure, Result.andThen_ok, List.map_toArray, List.map_cons, List.map_nil, k4, e1, hrun]
    exact ⟨_, _, G, room hroom row' (h.bx.set i row') hset (SetAt.put1 hi), t1, t2, by simp only [rep]; exact ⟨b, k3, rfl, by omega, k6⟩⟩
  · have hold : ∀ j u, ((vs.drop off).take (n * sz))[j]? = some u → w.cell? ((⟨b, off, none⟩ : Addr).add j) = some u := by
      intro j u hj
      rw [Addr.add_mid]
      simp only [World.cell?, q1]
      rw [List.getElem?_take] at hj
      split at hj
      · rw [List.getElem?_drop] at hj; simpa using hj
      · cases hj
    have hnf : n * sz ≤ cap * sz := Nat.mul_le_mul_right _ k5
    have hol : ((vs.drop off).take (n * sz)).length = n * sz := by simp; omega
    have h63 : n + m ≤ maxLen := by unfold maxLen; omega
    have hby := hE.few
    have hbb : (n + m) * bytes ≤ 1000000 * 100000 := Nat.mul_le_mul hsm hby
    have hrun := run_append_grow (P := P) w T ty T' inf z hu hinf hz ⟨b, off, none⟩ n cap ((vs.drop off).take (n * sz)) (by rw [hsz]; exact hol) hold ad m c us (by rw [hsz]; exact e2) e5 (by omega) (by omega) (growslice_fits (by omega) (by rw [hbts]; omega))
    have hge := grownCap_ge w (n + m) cap T'
    have hcm : grownCap w (n + m) cap T' ≤ maxLen := grownCap_le_maxLen w (n + m) cap T' h63
    generalize hgc : grownCap w (n + m) cap T' = cap' at hrun hge hcm
    obtain ⟨d1, d2⟩ := hr.drew
    obtain ⟨zs, hzc⟩ : ∃ zs : List Value, Builtin.zeroCells z.cells (cap' - (n + m)) = zs.toArray := ⟨(Builtin.zeroCells z.cells (cap' - (n + m))).toList, by simp⟩
    have hzl : zs.length = (cap' - (n + m)) * sz := by
      have := size_zeroCells z.cells (cap' - (n + m))
      rw [hzc, hzs] at this
      simpa using this
    have hone : ∀ u ∈ zs, u.oneCell' = true := by
      intro u hu
      have : u ∈ Builtin.zeroCells z.cells (cap' - (n + m)) := by rw [hzc]; simpa using hu
      exact zero_one hzr hinf hz this
    have hrep : repL G w.drew ((row.drop off).take (n * sz) ++ cs ++ List.replicate ((cap' - (n + m)) * sz) .any) ((vs.drop off).take (n * sz) ++ us ++ zs) := by
      refine repL_app (repL_app (repL_mono d2 _ _ (repL_take (repL_drop q2 off) _)) (repL_mono d2 _ _ e3)) ?_
      rw [← hzl]
      exact repL_anys zs
    obtain ⟨k, bx', hsn⟩ : ∃ k bx', SnocAt h.bx ((row.drop off).take (n * sz) ++ cs ++ List.replicate ((cap' - (n + m)) * sz) .any) k bx' := ⟨_, _, snoc_ex _ _⟩
    obtain ⟨G', s1, s2, s3⟩ := new_box (T := T') d1 hrep (by
      intro u hu
      rcases List.mem_append.1 hu with hu | hu
      · rcases List.mem_append.1 hu with hu | hu
        · exact q3 u (List.mem_of_mem_drop (List.mem_of_mem_take hu))
        · exact e4 u hu
      · exact hone u hu) hsn
    rw [hzc] at hrun
    have hcells : ((vs.drop off).take (n * sz)).toArray ++ us.toArray ++ zs.toArray = ((vs.drop off).take (n * sz) ++ us ++ zs).toArray := by simp
    rw [hcells] at hrun
    simp only [rep] at s3
    obtain ⟨b', s4, s5⟩ := s3
    simp only [execOp, resolve, invoke, builtin, Sem.run_bind, Sem.run_pure, Result.andThen_ok, List.map_toArray, List.map_cons, List.map_nil, k4, e1, hrun]
    refine ⟨_, _, G', grow (by omega) cap' k bx' hge hsn, s1, d2.trans s2, ?_⟩
    simp only [rep]
    injection s5 with s5
    injection s5 with s5
    injection s5 with s5
    subst s5
    exact ⟨_, s4, rfl, hge, hcm⟩
end
end Go.Proofs.Ytaidkbnbfnaihaa
