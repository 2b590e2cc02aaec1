/-
  More rules: a state in between with a fact, and-not, contracts of the older form.
-/
import Derived.Test.YtokaaebbmcldaaaGreatDoorAvN
import Derived.Laws.Cover3
namespace Go.Proofs.YtokaaebbmcldaaaGreatDoor
open Go.RowKit

/-- A state in between, and a fact. -/
theorem aw_midP {P : Program} {N : Dim} {Q : Exit → AS → Prop} {s : AS} {x y : Code} (S0 : AS) (φ : Prop) (h1 : AWp P N x (AThen (fun s' => φ ∧ Weak N s' S0) Q) s) (h2 : φ → AWp P N y Q S0) : AWp P N (.seq x y) Q s := by
  intro E a w hr
  refine wp_seq (wp_mono (h1 E a w hr) ?_)
  rintro e a' w' ⟨s', hq, hr'⟩
  cases e with
  | normal => exact h2 hq.1 E a' w' (hq.2 E a' w' hr')
  | exit id => exact ⟨s', hq, hr'⟩
  | goto l => exact ⟨s', hq, hr'⟩
  | ret => exact ⟨s', hq, hr'⟩
  | panic c => exact ⟨s', hq, hr'⟩
  | outgrown => exact ⟨s', hq, hr'⟩
def notI (k : IntKind) (a b : Int) : Int := k.wrap ((BitVec.ofInt k.bits a &&& ~~~ BitVec.ofInt k.bits b).toNat)
theorem st_andNot {P : Program} {ev : Operand → Option AV} {h : AH} {R : AV → AH → Prop} {d : Option Tmp} {ty : TypeId} {pos : String} {af : Array Edge} {gd : Option (Nat × Bool)} {T yT : TypeId} {x y : Operand} {k : IntKind} {a b : Int} (hx : ev x = some (.v (.int k a))) (hy : ev y = some (.v (.int k b))) (hR : R (.v (.int k (notI k a b))) h) : AStep P ⟨d, .binOp .andNot T x y yT, ty, pos, af, gd⟩ ev h R :=
  st_bin hx hy (fun w => by simp [eqGuard, binOp, Op.intBits, notI]) hR
theorem repL_vals {G : Gh} {w : World} : ∀ {us vs : List Value}, repL G w (us.map AV.v) vs → vs = us
  | [], _, h => by simpa only [List.map_nil, repL] using h
  | u :: us, _, h => by
    simp only [List.map_cons, repL] at h
    obtain ⟨z, zs, rfl, h1, h2⟩ := h
    simp only [rep] at h1
    rw [h1, repL_vals h2]
/-- A contract of the older form: plain values in, a plain value out, new memory alone. -/
theorem afn_of {P : Program} {f : FuncId} {us : List Value} {z : Value} (h : ∀ w, Calls P f us.toArray w fun e w' => e = .returned z ∧ Below w.heap.size w w') : AFn P f (us.map AV.v) (fun r => r = .v z) := by
  intro w St bl vs hr hv
  obtain rfl := repL_vals hv
  refine (h w).mono ?_
  rintro e w' ⟨rfl, hb⟩
  obtain ⟨h1, h2⟩ := hr.below hb
  exact ⟨_, _, _, _, ⟨rfl, rfl, rfl⟩, h1, h2, by simp only [rep]⟩
/-- Is a slice nil? That is known of one that holds something alone. -/
theorem st_eqNil {P : Program} {ev : Operand → Option AV} {h : AH} {R : AV → AH → Prop} {d : Option Tmp} {ty : TypeId} {pos : String} {af : Array Edge} {gd : Option (Nat × Bool)} {T yT : TypeId} {x y : Operand} {sz E bytes : Nat} {rows : List (List AV)} {tok : Option Nat} [hE : Elm P T E sz bytes]
    (hx : ev x = some (.sl sz rows tok)) (hy : ev y = some (.v (.slice none 0 0))) (hR : ∀ b : Bool, (b = true → rows = []) → R (.v (.bool b)) h) : AStep P ⟨d, .binOp .eql T x y yT, ty, pos, af, gd⟩ ev h R := by
  intro En G w ec hr he
  have h1 := fro_era _ _ (he x (by simp [Op.operands]) _ hx)
  have h2 := he y (by simp [Op.operands]) _ hy
  simp only [era, fro] at h1
  simp only [rep] at h2
  obtain ⟨_, A, cap, h3, _, _, h4⟩ := h1
  have e : (execOp ec ⟨d, .binOp .eql T x y yT, ty, pos, af, gd⟩).run P w = .ok (.value (.bool A.isNone)) w := by
    have := run_equal_slice_nil (P := P) w T E A rows.length cap (elm_spec hE.eq).1
    simp [execOp, h2, h3, eqGuard, binOp, this]
  rw [e]
  refine ⟨_, h, G, hR A.isNone (fun hb => ?_), hr, Ext.refl G w, by simp only [rep]⟩
  rcases h4 with h4 | ⟨b, off, h4, _⟩
  · exact h4
  · rw [h4] at hb; cases hb
/-- '[]T{}', a list that may grow. -/
theorem st_slit0 {P : Program} {ev : Operand → Option AV} {h : AH} {R : AV → AH → Prop} {d : Option Tmp} {ty : TypeId} {pos : String} {af : Array Edge} {gd : Option (Nat × Bool)} {T : TypeId} {E sz bytes n : Nat} {tk' : List (Nat × Nat × List (List AV))} [hE : Elm P T E sz bytes]
    (hset : SnocAt h.tk (E, sz, []) n tk') (hR : R (.sl sz [] (some n)) ⟨h.bx, tk'⟩) : AStep P ⟨d, .buildSlice T 0 #[], ty, pos, af, gd⟩ ev h R := by
  intro E' G w ec hr he
  obtain ⟨hu, inf, z, hinf, hz, hzs, hs, hby, hp⟩ := elm_spec hE.eq
  have c2 : (Instr.buildSlice T 0 #[]).run P w = .ok (.slice (some ⟨w.heap.size, 0, none⟩) 0 0) (w.alloc (.cells #[] E)) := by
    simp [Instr.buildSlice, run_underlying hu, sizeOf, typeInfo, hinf, Instr.fill, newRow]
    rw [show Array.map (fun _ => (default : Value)) (Array.range 0) = #[] from Array.eq_empty_of_size_eq_zero (by simp)]
  obtain ⟨q1, q2⟩ := hr.below (w' := w.alloc (.cells #[] E)) ((Below.refl _ _).alloc (Nat.le_refl _) _)
  obtain ⟨e1, e2⟩ := hset.eq
  subst e1
  subst e2
  have hown : (w.alloc (.cells #[] E)).ownsRow E'.w0.heap.size E sz (.slice (some ⟨w.heap.size, 0, none⟩) 0 0) 0 [] :=
    ⟨by simp, .inr ⟨w.heap.size, 0, #[], rfl, hr.kept.size, heap_alloc_self _ _, Nat.le_refl _, by unfold maxLen; omega, by simp, by simp⟩⟩
  obtain ⟨r1, r2⟩ := q1.addTok (T := E) (sz := sz) (n := 0) (u := .slice (some ⟨w.heap.size, 0, none⟩) 0 0) (rows := []) ⟨rfl, ⟨[], hown⟩, fun b hb o ho => by
      simp [Value.ownBlock] at hb
      subst hb
      intro hs
      have := hr.stlt _ _ hs
      omega⟩ (fun b hb => by
      simp [Value.ownBlock] at hb
      subst hb
      exact fun hm => by have := hr.boxlt hm; omega) (fun g n' u' hg b hb => by
      simp [Value.ownBlock] at hb
      subst hb
      exact fun e => by have := (hr.toklt hg e).2; omega)
  have c3 : (Instr.buildSlice T 0 ((#[] : Array (Nat × Operand)).map fun x => (x.1, ec x.2))).run P w = .ok (.slice (some ⟨w.heap.size, 0, none⟩) 0 0) (w.alloc (.cells #[] E)) := by rw [Array.map_empty]; exact c2
  simp only [execOp, Sem.run_bind, c3, Result.andThen_ok, Sem.run_pure]
  refine ⟨_, _, _, hR, r1, q2.trans r2, ?_⟩
  simp only [rep, fro]
  refine ⟨⟨trivial, _, 0, rfl, Nat.zero_le _, by unfold maxLen; omega, .inl trivial⟩, 0, _, ?_, Nat.le_refl _, fun _ => rfl⟩
  rw [← hr.tklen]
  simp
theorem s_slit0 {P : Program} {ev : Operand → Option AV} {bx : List (List AV)} {tk : List Tok} {R : AV → AH → Prop} {d : Option Tmp} {ty : TypeId} {pos : String} {af : Array Edge} {gd : Option (Nat × Bool)} {T : TypeId} {E sz bytes n : Nat} {tk' : List Tok} [hE : Elm P T E sz bytes]
    (hset : SnocAt tk (E, sz, []) n tk') (hR : R (.sl sz [] (some n)) ⟨bx, tk'⟩) : AStep P ⟨d, .buildSlice T 0 #[], ty, pos, af, gd⟩ ev ⟨bx, tk⟩ R := st_slit0 (h := ⟨bx, tk⟩) hset hR
theorem argOk_le {x y : AV} (h : cln x = true) (hl : LeA x y) : ArgOk x y := fun G w v hv => hl _ w v (argOk_clean h G w v hv)
/-- A value, taken for less. -/
theorem st_le {P : Program} {ev : Operand → Option AV} {h : AH} {R : AV → AH → Prop} {o : Oper} {x y : AV} (hs : AStep P o ev h fun r h' => r = x ∧ h' = h) (hl : LeA x y) (hR : R y h) : AStep P o ev h R := by
  have step : ∀ {E : Env} {G : Gh} {w w' : World} {v : Value}, Fits E (fun r h' => r = x ∧ h' = h) G w v w' → Fits E R G w v w' := by
    rintro E G w w' v ⟨r, h', G', ⟨rfl, rfl⟩, k2, k3, k4⟩
    exact ⟨_, _, G', hR, k2, k3, hl _ _ _ k4⟩
  intro E G w ec hr he
  have hu := hs E G w ec hr he
  revert hu
  generalize (execOp ec o).run P w = z
  intro hu
  unfold Upon at hu ⊢
  split at hu
  · exact step hu
  · exact step hu
  · refine Calls.mono hu ?_
    intro e w'' h3
    cases e with
    | returned v => exact step h3
    | panicked c => exact h3.elim
    | outgrown => exact h3.elim
  · exact hu.elim
/-- A number as a character. -/
theorem st_convRS {P : Program} {ev : Operand → Option AV} {h : AH} {R : AV → AH → Prop} {d : Option Tmp} {ty : TypeId} {pos : String} {af : Array Edge} {gd : Option (Nat × Bool)} {S T : TypeId} {x : Operand} {k : IntKind} {ds : TypeDesc} {a : Int} (hx : ev x = some (.v (.int k a))) (hS : P.underlying S = some ds) (hT : P.underlying T = some .string) (hR : R (.v (.string (Utf8.encode a))) h) : AStep P ⟨d, .convert S T x, ty, pos, af, gd⟩ ev h R :=
  st_val (fun _ G w ec _ he => ⟨.string (Utf8.encode a), by
    have h1 := he x (by simp [Op.operands]) _ hx
    simp only [rep] at h1
    simp [execOp, h1, convert, run_underlying hS, run_underlying hT, Conv.intToString], by simp only [rep]⟩) hR
end Go.Proofs.YtokaaebbmcldaaaGreatDoor
