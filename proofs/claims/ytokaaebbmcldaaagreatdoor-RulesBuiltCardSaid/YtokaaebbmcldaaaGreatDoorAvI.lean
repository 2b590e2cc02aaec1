/-
  The operations, one by one: append, make, parts of slices; what is known told in other words.
-/
import Derived.Test.YtokaaebbmcldaaaGreatDoorAvH
namespace Go.Proofs.YtokaaebbmcldaaaGreatDoor
open Go.RowKit

section
variable {P : Program} {ev : Operand → Option AV} {h : AH} {R : AV → AH → Prop} {d : Option Tmp} {ty : TypeId} {pos : String} {af : Array Edge} {gd : Option (Nat × Bool)}
theorem st_append {T : TypeId} {s y : Operand} {T' sz bytes g : Nat} {rows new : List (List AV)} {tok : Option Nat} {tk' : List (Nat × Nat × List (List AV))} [hE : Elm P T T' sz bytes] (hs : ev s = some (.sl sz rows (some g))) (hy : ev y = some (.sl sz new tok)) (hg : h.tk[g]? = some (T', sz, rows))
    (hsm : rows.length + new.length ≤ 1000000) (hset : SetAt h.tk g [(T', sz, rows ++ new)] tk') (hR : R (.sl sz (rows ++ new) (some g)) ⟨h.bx, tk'⟩) : AStep P ⟨d, .call { callee := .builtin .append, args := #[s, y], argTypes := #[T, T] }, ty, pos, af, gd⟩ ev h R := by
  intro E G w ec hr he
  have k1 := he s (by simp [Op.operands, Call.operands]) _ hs
  have k2 := fro_era _ _ (he y (by simp [Op.operands, Call.operands]) _ hy)
  simp only [era] at k2
  obtain ⟨v', w', G', m1, m2, m3, m4⟩ := append_tok hr hE.eq hE.few hg k1 k2 hsm ty
  obtain ⟨_, e⟩ := SetAt.one hset
  subst e
  simp only [execOp, resolve, invoke, builtin, Sem.run_bind, Sem.run_pure, Result.andThen_ok, List.map_toArray, List.map_cons, List.map_nil, m1]
  exact ⟨_, _, G', hR, m2, m3, m4⟩
/-- Nothing is a list that may grow. -/
theorem nil_tok {E : Env} {G : Gh} {w : World} (hr : HRel E G h w) (T sz : Nat) : HRel E ⟨G.St, G.bx, G.tk ++ [(0, .slice none 0 0)]⟩ ⟨h.bx, h.tk ++ [(T, sz, [])]⟩ w ∧ Ext G w ⟨G.St, G.bx, G.tk ++ [(0, .slice none 0 0)]⟩ w ∧
    rep ⟨G.St, G.bx, G.tk ++ [(0, .slice none 0 0)]⟩ w (.sl sz [] (some h.tk.length)) (.slice none 0 0) := by
  obtain ⟨k1, k2⟩ := hr.addTok (T := T) (sz := sz) (n := 0) (u := .slice none 0 0) (rows := []) ⟨rfl, ⟨[], World.ownsRow_nil w _ T sz⟩, fun b hb => by simp [Value.ownBlock] at hb⟩ (fun b hb => by simp [Value.ownBlock] at hb) (fun _ _ _ _ b hb => by simp [Value.ownBlock] at hb)
  refine ⟨k1, k2, ?_⟩
  simp only [rep, fro]
  exact ⟨⟨trivial, none, 0, rfl, Nat.le_refl _, Nat.zero_le _, .inl trivial⟩, 0, .slice none 0 0, by rw [← hr.tklen]; simp, Nat.le_refl _, fun _ => rfl⟩
theorem st_append0 {T : TypeId} {s y : Operand} {T' sz bytes n : Nat} {new : List (List AV)} {tok : Option Nat} {tk' : List (Nat × Nat × List (List AV))} [hE : Elm P T T' sz bytes] (hs : ev s = some (.v (.slice none 0 0))) (hy : ev y = some (.sl sz new tok))
    (hsm : new.length ≤ 1000000) (hset : SnocAt h.tk (T', sz, new) n tk') (hR : R (.sl sz new (some n)) ⟨h.bx, tk'⟩) : AStep P ⟨d, .call { callee := .builtin .append, args := #[s, y], argTypes := #[T, T] }, ty, pos, af, gd⟩ ev h R := by
  intro E G w ec hr he
  have k1 := he s (by simp [Op.operands, Call.operands]) _ hs
  have k2 := fro_era _ _ (he y (by simp [Op.operands, Call.operands]) _ hy)
  simp only [era] at k2
  simp only [rep] at k1
  obtain ⟨q1, q2, q3⟩ := nil_tok hr T' sz
  obtain ⟨v', w', G', m1, m2, m3, m4⟩ := append_tok (y := ec y) q1 hE.eq hE.few (g := h.tk.length) (rows := []) (new := new) (by simp) q3 k2 (by simpa using hsm) ty
  obtain ⟨e1, e2⟩ := hset.eq
  subst e1
  subst e2
  simp only [execOp, resolve, invoke, builtin, Sem.run_bind, Sem.run_pure, Result.andThen_ok, List.map_toArray, List.map_cons, List.map_nil, k1, m1]
  refine ⟨_, _, G', hR, ?_, q2.trans m3, ?_⟩
  · simpa using m2
  · simpa using m4
/-- A slice literal that may grow. -/
theorem st_slitT {T : TypeId} {len E sz bytes n : Nat} {l : List (Nat × Operand)} {rows : List (List AV)} {tk' : List (Nat × Nat × List (List AV))} [hE : Elm P T E sz bytes] (hd : DenseA sz ev 0 l rows) (hl : Nat.beq l.length len = true) (hsm : Nat.ble len 1000 = true) (hpos : Nat.blt 0 len = true) (hsz : Nat.ble sz 100 = true)
    (hset : SnocAt h.tk (E, sz, rows) n tk') (hR : R (.sl sz rows (some n)) ⟨h.bx, tk'⟩) : AStep P ⟨d, .buildSlice T len l.toArray, ty, pos, af, gd⟩ ev h R := by
  intro E' G w ec hr he
  obtain ⟨us, m2, hrl, hsm', hrun⟩ := run_slit hE.eq hd hl hsm hpos hsz hr he
  have hml : len ≤ maxLen := by unfold maxLen; omega
  obtain ⟨G', q1, q2, q3, q4, q5, q6⟩ := new_rows (T := E) hr m2 (by rw [hrl]; exact hml)
  obtain ⟨e1, e2⟩ := hset.eq
  subst e1
  subst e2
  have hown : (w.alloc (.cells us.toArray E)).ownsRow E'.w0.heap.size E sz (.slice (some ⟨w.heap.size, 0, none⟩) len len) len us := by
    have hul : us.length = len * sz := by rw [m2.1, hrl]
    refine ⟨hul, .inr ⟨w.heap.size, len, us.toArray, rfl, hr.kept.size, heap_alloc_self _ _, Nat.le_refl _, hml, by simp [hul], ?_⟩⟩
    simp [← hul]
  obtain ⟨r1, r2⟩ := q1.addTok (T := E) (sz := sz) (n := len) (u := .slice (some ⟨w.heap.size, 0, none⟩) len len) (rows := rows) ⟨hrl.symm, ⟨us, hown⟩, fun b hb o ho => by
      simp [Value.ownBlock] at hb
      subst hb
      intro hs
      have := q4 o hs
      rw [m2.1, hrl] at this
      omega⟩ (fun b hb => by
      simp [Value.ownBlock] at hb
      subst hb
      rw [q5]
      exact fun hm => by have := hr.boxlt hm; omega) (fun g n' u' hg b hb => by
      simp [Value.ownBlock] at hb
      subst hb
      rw [q6] at hg
      exact fun e => by have := (hr.toklt hg e).2; omega)
  simp only [execOp, Sem.run_bind, hrun, Result.andThen_ok, Sem.run_pure]
  refine ⟨_, _, _, hR, r1, q2.trans r2, ?_⟩
  simp only [rep]
  rw [hrl] at q3
  refine ⟨fro_mono r2.st _ _ q3, len, _, ?_, by rw [hrl]; exact Nat.le_refl _, fun _ => rfl⟩
  have := q1.tklen
  rw [← this]
  simp
/-- 'make([]T, 0, c)'. -/
theorem st_make0 {T : TypeId} {x y : Operand} {E sz bytes n : Nat} {c : Int} {tk' : List (Nat × Nat × List (List AV))} [hE : Elm P T E sz bytes] (hx : ev x = some (.v (.int .i64 0))) (hy : ev y = some (.v (.int .i64 c))) (hc : 0 ≤ c ∧ c ≤ 1000000)
    (hset : SnocAt h.tk (E, sz, []) n tk') (hR : R (.sl sz [] (some n)) ⟨h.bx, tk'⟩) : AStep P ⟨d, .makeSlice T x y, ty, pos, af, gd⟩ ev h R := by
  intro E' G w ec hr he
  have k1 := he x (by simp [Op.operands]) _ hx
  have k2 := he y (by simp [Op.operands]) _ hy
  simp only [rep] at k1 k2
  obtain ⟨hu, inf, z, hinf, hz, hzs, hs, hby, hp⟩ := elm_spec hE.eq
  obtain ⟨m, rfl⟩ := Int.eq_ofNat_of_zero_le hc.1
  have hm : m ≤ 1000000 := by omega
  have hw : IntKind.i64.wrap (m : Int) = m := IntWalk.i64_in _ (by omega)
  have hw0 : IntKind.i64.wrap 0 = 0 := by decide
  have hbig : ¬ (inf.bytes : Int) * (m : Int) > 2 ^ 48 := by
    have h1 : inf.bytes * m ≤ 100000 * 1000000 := Nat.mul_le_mul (by rw [hby]; exact hE.few) hm
    have h2 : ((inf.bytes * m : Nat) : Int) ≤ 100000000000 := by omega
    rw [Int.natCast_mul] at h2
    omega
  have hneg : ¬ ((m : Int) < 0) := by omega
  have hrun : ∃ cells : Array Value, cells.size = m * sz ∧ (Instr.makeSlice T (.int .i64 0) (.int .i64 m)).run P w = .ok (.slice (some ⟨w.heap.size, 0, none⟩) 0 m) (w.alloc (.cells cells E)) := by
    refine ⟨(Array.range (m * sz)).map ((if m * sz = 0 then #[] else z.cells)[· % (if m * sz = 0 then #[] else z.cells : Array Value).size]!), by simp, ?_⟩
    by_cases h0 : m * sz = 0
    · simp [Instr.makeSlice, run_underlying hu, asInt, asIntOf, typeInfo, hinf, hw, hw0, hneg, sizeOf, hs, h0, newRow]; exact fun hh => absurd hh hbig
    · simp [Instr.makeSlice, run_underlying hu, asInt, asIntOf, typeInfo, hinf, hw, hw0, hneg, sizeOf, hs, h0, newRow, zeroValue, hz]; exact fun hh => absurd hh hbig
  obtain ⟨cells, c1, c2⟩ := hrun
  obtain ⟨q1, q2⟩ := hr.below (w' := w.alloc (.cells cells E)) ((Below.refl _ _).alloc (Nat.le_refl _) _)
  obtain ⟨e1, e2⟩ := hset.eq
  subst e1
  subst e2
  have hown : (w.alloc (.cells cells E)).ownsRow E'.w0.heap.size E sz (.slice (some ⟨w.heap.size, 0, none⟩) 0 m) 0 [] :=
    ⟨by simp, .inr ⟨w.heap.size, m, cells, rfl, hr.kept.size, heap_alloc_self _ _, Nat.zero_le _, by unfold maxLen; omega, c1, by simp⟩⟩
  obtain ⟨r1, r2⟩ := q1.addTok (T := E) (sz := sz) (n := 0) (u := .slice (some ⟨w.heap.size, 0, none⟩) 0 m) (rows := []) ⟨rfl, ⟨[], hown⟩, fun b hb o ho => by
      simp [Value.ownBlock] at hb
      subst hb
      intro hs
      have := hr.stlt _ _ hs
      omega⟩ (fun b hb => by
      simp [Value.ownBlock] at hb
      subst hb
      exact fun hm => by have := hr.boxlt hm; omega) (fun g n' u' hg b hb => by
      simp [Value.ownBlock] at hb
      subst hb
      exact fun e => by have := (hr.toklt hg e).2; omega)
  simp only [execOp, k1, k2, Sem.run_bind, c2, Result.andThen_ok, Sem.run_pure]
  refine ⟨_, _, _, hR, r1, q2.trans r2, ?_⟩
  simp only [rep, fro]
  refine ⟨⟨trivial, _, m, rfl, Nat.zero_le _, by unfold maxLen; omega, .inl trivial⟩, 0, _, ?_, Nat.le_refl _, fun _ => rfl⟩
  rw [← hr.tklen]
  simp

/-! Parts of a slice. -/
theorem fro_part {St : Nat → Nat → Prop} {w : World} {sz : Nat} {rows : List (List AV)} {y : Value} (hy : fro St w (.sl sz rows none) y) {l k : Nat} (hk : k ≤ rows.length) (hl : l ≤ k) :
    ∃ A cap, y = .slice A rows.length cap ∧ rows.length ≤ cap ∧ fro St w (.sl sz ((rows.take k).drop l) none) (.slice (if cap = l then A else A.map (·.add (l * sz))) (k - l) (cap - l)) := by
  simp only [fro] at hy
  obtain ⟨_, A, cap, h1, h2, h3, h4⟩ := hy
  refine ⟨A, cap, h1, h2, ?_⟩
  simp only [fro]
  have hlen : ((rows.take k).drop l).length = k - l := by simp; omega
  refine ⟨trivial, _, _, by rw [hlen], by rw [hlen]; omega, by omega, ?_⟩
  by_cases h0 : (rows.take k).drop l = []
  · exact .inl h0
  · have hlk : l < k := by
      rcases Nat.lt_or_ge l k with h' | h'
      · exact h'
      · exact absurd (List.eq_nil_of_length_eq_zero (by rw [hlen]; omega)) h0
    rcases h4 with h4 | ⟨b, off, h5, h6⟩
    · subst h4; simp at h0
    · refine .inr ⟨b, off + l * sz, ?_, froR_of fun i r hi => ?_⟩
      · rw [if_neg (by omega), h5, Option.map_some, Addr.add_mid]
      · rw [List.getElem?_drop, List.getElem?_take] at hi
        split at hi
        · obtain ⟨a1, a2⟩ := froR_get h6 hi
          rw [Nat.add_mul, ← Nat.add_assoc] at a2
          exact ⟨a1, a2⟩
        · cases hi
theorem st_sliceHi {T : TypeId} {x hi : Operand} {E sz bytes k : Nat} {i : Int} {rows : List (List AV)} {tok : Option Nat} [hE : Elm P T E sz bytes] (hx : ev x = some (.sl sz rows tok)) (hh : ev hi = some (.v (.int .i64 i))) (hi' : i = (k : Int)) (hk : k ≤ rows.length) (hR : R (.sl sz (rows.take k) none) h) :
    AStep P ⟨d, .slice T x none (some hi) none, ty, pos, af, gd⟩ ev h R := by
  refine st_val (fun _ G w ec _ he => ?_) hR
  have k1 := fro_era _ _ (he x (by simp [Op.operands]) _ hx)
  have k2 := he hi (by simp [Op.operands]) _ hh
  simp only [era] at k1
  simp only [rep] at k2
  obtain ⟨hu, inf, z, hinf, hz, hzs, hs, hby, hp⟩ := elm_spec hE.eq
  obtain ⟨A, cap, e1, e2, e3⟩ := fro_part k1 (l := 0) hk (Nat.zero_le _)
  subst hi'
  have hle : k ≤ cap := by omega
  refine ⟨_, ?_, by simp only [rep]; simpa using e3⟩
  simp [execOp, e1, k2, Instr.sliceAt, Instr.slice, Instr.sliceBounds, Instr.sliceBound, asIntOf, run_underlying hu, sizeOf, typeInfo, hinf, hs, hle]
theorem st_sliceLo {T : TypeId} {x lo : Operand} {E sz bytes l : Nat} {i : Int} {rows : List (List AV)} {tok : Option Nat} [hE : Elm P T E sz bytes] (hx : ev x = some (.sl sz rows tok)) (hh : ev lo = some (.v (.int .i64 i))) (hi' : i = (l : Int)) (hk : l ≤ rows.length) (hR : R (.sl sz (rows.drop l) none) h) :
    AStep P ⟨d, .slice T x (some lo) none none, ty, pos, af, gd⟩ ev h R := by
  refine st_val (fun _ G w ec _ he => ?_) hR
  have k1 := fro_era _ _ (he x (by simp [Op.operands]) _ hx)
  have k2 := he lo (by simp [Op.operands]) _ hh
  simp only [era] at k1
  simp only [rep] at k2
  obtain ⟨hu, inf, z, hinf, hz, hzs, hs, hby, hp⟩ := elm_spec hE.eq
  obtain ⟨A, cap, e1, e2, e3⟩ := fro_part k1 (k := rows.length) (Nat.le_refl _) hk
  subst hi'
  refine ⟨_, ?_, by simp only [rep]; rw [List.take_length] at e3; exact e3⟩
  simp [execOp, e1, k2, Instr.sliceAt, Instr.slice, Instr.sliceBounds, Instr.sliceBound, asIntOf, run_underlying hu, sizeOf, typeInfo, hinf, hs, hk]
end

/-! What is known, told in other words. -/
mutual
def bpLt (n m : Nat) : AV → Bool
  | .v _ => true
  | .agg cs => bpLtL n m cs
  | .tup cs => bpLtL n m cs
  | .sl _ _ none => true
  | .sl _ _ (some g) => Nat.blt g m
  | .fp _ => true
  | .bp i _ => Nat.blt i n
  | .fn _ caps => bpLtL n m caps
  | .any => true
def bpLtL (n m : Nat) : List AV → Bool
  | [] => true
  | x :: xs => bpLt n m x && bpLtL n m xs
end
mutual
theorem rep_trunc {G : Gh} {w : World} (n m : Nat) : ∀ (x : AV) (y : Value), bpLt n m x = true → rep G w x y → rep ⟨G.St, G.bx.take n, G.tk.take m⟩ w x y
  | .v _, _, _, h => by simpa only [rep] using h
  | .agg cs, _, hb, h => by
    simp only [bpLt] at hb
    simp only [rep] at h ⊢
    obtain ⟨ys, h1, h2⟩ := h
    exact ⟨ys, h1, repL_trunc n m cs ys hb h2⟩
  | .tup cs, _, hb, h => by
    simp only [bpLt] at hb
    simp only [rep] at h ⊢
    obtain ⟨ys, h1, h2⟩ := h
    exact ⟨ys, h1, repL_trunc n m cs ys hb h2⟩
  | .sl sz rows none, _, _, h => by simpa only [rep] using h
  | .sl sz rows (some g), _, hb, h => by
    simp only [bpLt] at hb
    simp only [rep] at h ⊢
    obtain ⟨h0, n', u, h1, h2⟩ := h
    refine ⟨h0, n', u, ?_, h2⟩
    rw [List.getElem?_take, if_pos (show g < m from Nat.le_of_ble_eq_true hb)]
    exact h1
  | .fp _, _, _, h => by simpa only [rep] using h
  | .bp i off, _, hb, h => by
    simp only [bpLt] at hb
    simp only [rep] at h ⊢
    obtain ⟨b, h1, h2⟩ := h
    refine ⟨b, ?_, h2⟩
    rw [List.getElem?_take, if_pos (show i < n from Nat.le_of_ble_eq_true hb)]
    exact h1
  | .fn _ caps, _, hb, h => by
    simp only [bpLt] at hb
    simp only [rep] at h ⊢
    obtain ⟨ys, h1, h2⟩ := h
    exact ⟨ys, h1, repL_trunc n m caps ys hb h2⟩
  | .any, _, _, _ => by simp only [rep]
theorem repL_trunc {G : Gh} {w : World} (n m : Nat) : ∀ (xs : List AV) (ys : List Value), bpLtL n m xs = true → repL G w xs ys → repL ⟨G.St, G.bx.take n, G.tk.take m⟩ w xs ys
  | [], _, _, h => by simpa only [repL] using h
  | x :: xs, _, hb, h => by
    simp only [bpLtL, Bool.and_eq_true] at hb
    simp only [repL] at h ⊢
    obtain ⟨z, zs, h1, h2, h3⟩ := h
    exact ⟨z, zs, h1, rep_trunc n m x z hb.1 h2, repL_trunc n m xs zs hb.2 h3⟩
end
def bpLtB (n m : Nat) : List (List AV) → Bool
  | [] => true
  | x :: xs => bpLtL n m x && bpLtB n m xs
theorem bpLtB_get {n m : Nat} : ∀ {l : List (List AV)}, bpLtB n m l = true → ∀ {i : Nat} {row : List AV}, l[i]? = some row → bpLtL n m row = true
  | [], _, i, row, hi => by simp at hi
  | x :: l, h, i, row, hi => by
    simp only [bpLtB, Bool.and_eq_true] at h
    cases i with
    | zero => simp at hi; subst hi; exact h.1
    | succ i => exact bpLtB_get h.2 (by simpa using hi)
/-- Some boxes and lists are forgotten. -/
theorem HRel.trunc {E : Env} {G : Gh} {h : AH} {w : World} (hr : HRel E G h w) (n m : Nat) (hn : E.ins.length ≤ n) (hb : bpLtB n m (h.bx.take n) = true) : HRel E ⟨G.St, G.bx.take n, G.tk.take m⟩ ⟨h.bx.take n, h.tk.take m⟩ w := by
  have tkget : ∀ (g n' : Nat) (u : Value), (G.tk.take m)[g]? = some (n', u) → G.tk[g]? = some (n', u) := fun g n' u hg => by
    rw [List.getElem?_take] at hg
    split at hg
    · exact hg
    · cases hg
  refine ⟨fun i b hi => by rw [List.getElem?_take, if_pos (Nat.lt_of_lt_of_le (List.getElem?_eq_some_iff.1 hi).1 hn)]; exact hr.inpre i b hi, hr.kept, hr.stlt, hr.stnew, by simp [hr.bxlen], List.Nodup.sublist (List.take_sublist n G.bx) hr.bxnd, fun b hb => hr.bxst b (List.mem_of_mem_take hb), fun b hb => hr.bxown b (List.mem_of_mem_take hb), ?_, by simp [hr.tklen], ?_, ?_, ?_⟩
  · intro i b row hi hrow
    simp only at hi hrow
    have hbp := bpLtB_get hb hrow
    rw [List.getElem?_take] at hi hrow
    split at hi
    · rename_i hlt
      rw [if_pos hlt] at hrow
      obtain ⟨us, T, h1, h2, h3⟩ := hr.box i b row hi hrow
      exact ⟨us, T, h1, repL_trunc n m row us hbp h2, h3⟩
    · cases hi
  · intro g n' u T sz rows hg ht
    refine hr.tok g n' u T sz rows (tkget g n' u hg) ?_
    simp only at ht
    rw [List.getElem?_take] at ht
    split at ht
    · exact ht
    · cases ht
  · exact fun g n' u hg b hb hm => hr.tkbx g n' u (tkget g n' u hg) b hb (List.mem_of_mem_take hm)
  · exact fun g g' n1 n2 u1 u2 hg hg' hne => hr.tknd g g' n1 n2 u1 u2 (tkget _ _ _ hg) (tkget _ _ _ hg') hne
/-- The same, or less. -/
def Weak (N : Dim) (s s' : AS) : Prop := ∀ (E : Env) (a : Act) (w : World), Rel N E s a w → Rel N E s' a w
inductive Sub (n m : Nat) (f : Nat → Option AV) : List (Nat × AV) → Prop
  | nil : Sub n m f []
  | cons (t : Nat) (x : AV) (l : List (Nat × AV)) : f t = some x → bpLt n m x = true → Sub n m f l → Sub n m f ((t, x) :: l)
  | any (t : Nat) (l : List (Nat × AV)) : Sub n m f l → Sub n m f ((t, .any) :: l)
  | sl (t : Nat) (sz : Nat) (rows : List (List AV)) (g : Nat) (l : List (Nat × AV)) : f t = some (.sl sz rows (some g)) → Sub n m f l → Sub n m f ((t, .sl sz rows none) :: l)
  | slnil (t : Nat) (sz : Nat) (l : List (Nat × AV)) : f t = some (.v (.slice none 0 0)) → Sub n m f l → Sub n m f ((t, .sl sz [] none) :: l)
  | of (t : Nat) (y x : AV) (l : List (Nat × AV)) : f t = some y → (∀ (G : Gh) (w : World) (v : Value), rep G w y v → rep G w x v) → bpLt n m x = true → Sub n m f l → Sub n m f ((t, x) :: l)
theorem Sub.look {n m : Nat} {f : Nat → Option AV} {l : List (Nat × AV)} (h : Sub n m f l) {t : Nat} {x : AV} (ht : Go.Proofs.YtokaaebbmcldaaaGreatDoor.look l t = some x) {G : Gh} {w : World} {a : Act} (hs : SlotsR G w f a) : rep ⟨G.St, G.bx.take n, G.tk.take m⟩ w x (a.tmps.getD t undef) := by
  induction h with
  | nil => cases ht
  | cons t' x' l h1 h2 _ ih =>
    rw [← put_look, put_some] at ht
    split at ht
    · rename_i e; subst e; injection ht with ht; subst ht
      exact rep_trunc n m _ _ h2 (hs _ _ h1)
    · exact ih ht
  | any t' l _ ih =>
    rw [← put_look, put_some] at ht
    split at ht
    · injection ht with ht; subst ht; simp only [rep]
    · exact ih ht
  | sl t' sz rows g l h1 _ ih =>
    rw [← put_look, put_some] at ht
    split at ht
    · rename_i e; subst e; injection ht with ht; subst ht
      have := hs _ _ h1
      simp only [rep] at this ⊢
      exact this.1
    · exact ih ht
  | slnil t' sz l h1 _ ih =>
    rw [← put_look, put_some] at ht
    split at ht
    · rename_i e; subst e; injection ht with ht; subst ht
      have := hs _ _ h1
      simp only [rep] at this ⊢
      rw [this]
      simp only [fro]
      exact ⟨trivial, none, 0, rfl, Nat.le_refl _, Nat.zero_le _, .inl trivial⟩
    · exact ih ht
  | of t' y x' l h1 h2 h3 _ ih =>
    rw [← put_look, put_some] at ht
    split at ht
    · rename_i e; subst e; injection ht with ht; subst ht
      exact rep_trunc n m _ _ h3 (h2 _ _ _ (hs _ _ h1))
    · exact ih ht
theorem weak_of {f : Nat → Option AV} {bx : List (List AV)} {tk : List (Nat × Nat × List (List AV))} {l : List (Nat × AV)} {N : Dim} (n m : Nat) {bx' : List (List AV)} {tk' : List (Nat × Nat × List (List AV))} (hn : Nat.ble N.ni n = true) (hb : bx.take n = bx') (ht : tk.take m = tk') (hbp : bpLtB n m bx' = true) (hl : Sub n m f l) : Weak N ⟨f, ⟨bx, tk⟩⟩ ⟨look l, ⟨bx', tk'⟩⟩ := by
  rintro E a w ⟨G, h1, h2, h3, h4, h5⟩
  subst hb
  subst ht
  exact ⟨_, h1.trunc n m (by rw [h5]; exact Nat.le_of_ble_eq_true hn) hbp, fun t x hx => hl.look hx h2, h3, h4, h5⟩
theorem Weak.refl (N : Dim) (s : AS) : Weak N s s := fun _ _ _ h => h
theorem Weak.trans {N : Dim} {s s' s'' : AS} (h : Weak N s s') (k : Weak N s' s'') : Weak N s s'' := fun E a w r => k E a w (h E a w r)
section
variable {P : Program} {N : Dim} {Q : Exit → AS → Prop} {s : AS}
theorem aw_weak {c : Code} {s' : AS} (hw : Weak N s s') (h : AWp P N c Q s') : AWp P N c Q s := fun E a w hr => h E a w (hw E a w hr)
/-- A loop, by what is known at its head. -/
theorem aw_loopW {c : Code} (I : Nat → AS → Prop) (n : Nat) {s0 : AS} (hw : Weak N s s0) (h0 : I n s0) (round : ∀ n s, I n s → AWp P N c (AThen (fun s' => ∃ m s'', m < n ∧ I m s'' ∧ Weak N s' s'') Q) s) : AWp P N (.loop c) Q s := by
  refine aw_loop (fun n s => ∃ s', I n s' ∧ Weak N s s') n ⟨s0, h0, hw⟩ ?_
  rintro n s ⟨s', h1, h2⟩
  refine aw_weak h2 ?_
  intro E a w hr
  refine wp_mono (round n s' h1 E a w hr) ?_
  rintro e a' w' ⟨s1, hq, hr'⟩
  refine ⟨s1, ?_, hr'⟩
  cases e with
  | normal => obtain ⟨m, s'', q1, q2, q3⟩ := hq; exact ⟨m, q1, s'', q2, q3⟩
  | exit id => exact hq
  | goto l => exact hq
  | ret => exact hq
  | panic c => exact hq
  | outgrown => exact hq
/-- A state in between. -/
theorem aw_mid {x y : Code} (S0 : AS) (h1 : AWp P N x (AThen (fun s' => Weak N s' S0) Q) s) (h2 : AWp P N y Q S0) : AWp P N (.seq x y) Q s := by
  intro E a w hr
  refine wp_seq (wp_mono (h1 E a w hr) ?_)
  rintro e a' w' ⟨s', hq, hr'⟩
  cases e with
  | normal => exact h2 E a' w' (hq E a' w' hr')
  | exit id => exact ⟨s', hq, hr'⟩
  | goto l => exact ⟨s', hq, hr'⟩
  | ret => exact ⟨s', hq, hr'⟩
  | panic c => exact ⟨s', hq, hr'⟩
  | outgrown => exact ⟨s', hq, hr'⟩
/-- Nothing is a list that may grow. -/
theorem aw_nilTok {c : Code} {f : Nat → Option AV} {bx : List (List AV)} {tk tk' : List (Nat × Nat × List (List AV))} (t T sz : Nat) {g : Nat} (ht : f t = some (.v (.slice none 0 0))) (hs : SnocAt tk (T, sz, []) g tk') (h : AWp P N c Q ⟨put (some t) (.sl sz [] (some g)) f, ⟨bx, tk'⟩⟩) : AWp P N c Q ⟨f, ⟨bx, tk⟩⟩ := by
  rintro E a w ⟨G, h1, h2, h3⟩
  obtain ⟨e1, e2⟩ := hs.eq
  subst e1
  subst e2
  obtain ⟨k1, k2, k3⟩ := nil_tok h1 T sz
  refine h E a w ⟨_, k1, fun t' x hx => ?_, h3⟩
  simp only at hx
  rw [put_some] at hx
  split at hx
  · rename_i e
    subst e
    injection hx with hx
    subst hx
    have := h2 _ _ ht
    simp only [rep] at this
    rw [this]
    exact k3
  · exact rep_mono k2 _ _ (h2 t' x hx)
/-- How long a slice may be. -/
theorem aw_lenle {c : Code} {f : Nat → Option AV} {hh : AH} {t sz : Nat} {rows : List (List AV)} {tok : Option Nat} (ht : f t = some (.sl sz rows tok)) (h : rows.length ≤ maxLen → AWp P N c Q ⟨f, hh⟩) : AWp P N c Q ⟨f, hh⟩ := by
  intro E a w hr
  refine h ?_ E a w hr
  obtain ⟨G, _, h2, _⟩ := hr
  have := fro_era _ _ (h2 _ _ ht)
  simp only [era, fro] at this
  obtain ⟨_, A, cap, _, h4, h5, _⟩ := this
  omega
end
end Go.Proofs.YtokaaebbmcldaaaGreatDoor
