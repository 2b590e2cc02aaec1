/-
  The operations, one by one: new variables, stores, numbers and strings.
-/
import Derived.Test.YtokaaebbmcldaaaGreatDoorAvE
import Derived.Lib.Strings
namespace Go.Proofs.YtokaaebbmcldaaaGreatDoor
open Go.RowKit

/-! Lists with some places set, written out. -/
inductive SetAt {α : Type} : List α → Nat → List α → List α → Prop
  | nil (l : List α) (n : Nat) : SetAt l n [] l
  | here (a x : α) (l xs l' : List α) : SetAt l 0 xs l' → SetAt (a :: l) 0 (x :: xs) (x :: l')
  | there (a x : α) (l xs l' : List α) (n : Nat) : SetAt l n (x :: xs) l' → SetAt (a :: l) (n + 1) (x :: xs) (a :: l')
inductive SnocAt {α : Type} : List α → α → Nat → List α → Prop
  | nil (x : α) : SnocAt [] x 0 [x]
  | cons (a x : α) (l l' : List α) (n : Nat) : SnocAt l x n l' → SnocAt (a :: l) x (n + 1) (a :: l')
theorem SnocAt.eq {α : Type} {l l' : List α} {x : α} {n : Nat} (h : SnocAt l x n l') : n = l.length ∧ l' = l ++ [x] := by
  induction h with
  | nil x => exact ⟨rfl, rfl⟩
  | cons a x l l' n _ ih => exact ⟨by simp [ih.1], by simp [ih.2]⟩
theorem SetAt.one_ {α : Type} {l xs l' : List α} {n : Nat} (h : SetAt l n xs l') : ∀ x, xs = [x] → n < l.length ∧ l' = l.set n x := by
  induction h with
  | nil l n => intro x h; cases h
  | here a x l xs l' h ih =>
    intro y hy
    injection hy with h1 h2
    subst h1
    subst h2
    cases h
    exact ⟨by simp, by simp⟩
  | there a x l xs l' n h ih =>
    intro y hy
    obtain ⟨h1, h2⟩ := ih y hy
    exact ⟨by simp; omega, by simp [h2]⟩
theorem SetAt.one {α : Type} {l l' : List α} {n : Nat} {x : α} (h : SetAt l n [x] l') : n < l.length ∧ l' = l.set n x := h.one_ x rfl
def setL : List Value → Nat → List Value → List Value
  | us, _, [] => us
  | us, o, v :: vs => setL (us.set o v) (o + 1) vs
theorem setL_succ : ∀ (vs : List Value) (u : Value) (us : List Value) (n : Nat), setL (u :: us) (n + 1) vs = u :: setL us n vs
  | [], _, _, _ => rfl
  | v :: vs, u, us, n => by simp only [setL, List.set_cons_succ]; exact setL_succ vs u (us.set n v) (n + 1)
theorem setL_length : ∀ (vs us : List Value) (n : Nat), (setL us n vs).length = us.length
  | [], _, _ => rfl
  | v :: vs, us, n => by simp only [setL]; rw [setL_length vs]; simp
theorem setL_mem : ∀ (vs us : List Value) (n : Nat) (y : Value), y ∈ setL us n vs → y ∈ us ∨ y ∈ vs
  | [], _, _, _, h => .inl h
  | v :: vs, us, n, y, h => by
    simp only [setL] at h
    rcases setL_mem vs _ _ y h with h1 | h1
    · rcases List.mem_or_eq_of_mem_set h1 with h2 | h2
      · exact .inl h2
      · exact .inr (by simp [h2])
    · exact .inr (by simp [h1])
theorem SetAt.rep {G : Gh} {w : World} {row xs row' : List AV} {o : Nat} (h : SetAt row o xs row') : ∀ {us vs : List Value}, repL G w row us → repL G w xs vs → repL G w row' (setL us o vs) ∧ o + (if xs = [] then 0 else xs.length) ≤ max o us.length := by
  induction h with
  | nil l n => intro us vs h1 h2; simp only [repL] at h2; subst h2; exact ⟨h1, by simp; omega⟩
  | here a x l xs l' _ ih =>
    intro us vs h1 h2
    simp only [repL] at h1 h2
    obtain ⟨z, zs, rfl, h3, h4⟩ := h1
    obtain ⟨y, ys, rfl, h5, h6⟩ := h2
    obtain ⟨k1, k2⟩ := ih h4 h6
    refine ⟨?_, ?_⟩
    · simp only [setL, List.set_cons_zero]
      rw [setL_succ]
      simp only [repL]
      exact ⟨y, _, rfl, h5, k1⟩
    · simp only [reduceCtorEq, if_false, List.length_cons] at k2 ⊢
      split at k2
      · rename_i e; subst e; simp
      · omega
  | there a x l xs l' n _ ih =>
    intro us vs h1 h2
    simp only [repL] at h1
    obtain ⟨z, zs, rfl, h3, h4⟩ := h1
    obtain ⟨k1, k2⟩ := ih h4 h2
    refine ⟨?_, ?_⟩
    · rw [setL_succ]
      simp only [repL]
      exact ⟨z, _, rfl, h3, k1⟩
    · simp only [reduceCtorEq, if_false, List.length_cons] at k2 ⊢
      omega

def cellsA : AV → List AV
  | .agg cs => cs
  | x => [x]
def oneA : AV → Bool
  | .v x => x.oneCell'
  | .agg _ | .tup _ | .any => false
  | _ => true
def onesA : List AV → Bool
  | [] => true
  | x :: xs => oneA x && onesA xs
theorem rep_one {G : Gh} {w : World} {x : AV} {v : Value} (h : rep G w x v) (h1 : oneA x = true) : v.oneCell' = true := by
  cases x with
  | v y => simp only [rep] at h; subst h; exact h1
  | agg cs => cases h1
  | tup cs => cases h1
  | any => cases h1
  | sl sz rows tok =>
    have := fro_era _ _ h
    simp only [era, fro] at this
    obtain ⟨_, A, cap, rfl, _⟩ := this
    rfl
  | fp row => simp only [rep] at h; obtain ⟨b, o, rfl, _⟩ := h; rfl
  | bp i o => simp only [rep] at h; obtain ⟨b, _, rfl⟩ := h; rfl
  | fn f caps => simp only [rep] at h; obtain ⟨ys, rfl, _⟩ := h; rfl
theorem repL_ones {G : Gh} {w : World} : ∀ {xs : List AV} {vs : List Value}, repL G w xs vs → onesA xs = true → ∀ u ∈ vs, u.oneCell' = true
  | [], _, h, _ => by simp only [repL] at h; subst h; simp
  | x :: xs, _, h, h1 => by
    simp only [repL] at h
    obtain ⟨z, zs, rfl, h2, h3⟩ := h
    simp only [onesA, Bool.and_eq_true] at h1
    intro u hu
    rcases List.mem_cons.1 hu with e | e
    · rw [e]; exact rep_one h2 h1.1
    · exact repL_ones h3 h1.2 u e
/-- A value's cells. -/
theorem rep_cells {G : Gh} {w : World} {x : AV} {v : Value} (h : rep G w x v) (h1 : onesA (cellsA x) = true) : ∃ vs : List Value, v.cells = vs.toArray ∧ repL G w (cellsA x) vs := by
  have key : oneA x = true → cellsA x = [x] → ∃ vs : List Value, v.cells = vs.toArray ∧ repL G w (cellsA x) vs := fun h2 h3 => by
    refine ⟨[v], ?_, by rw [h3]; simp only [repL]; exact ⟨v, [], rfl, h, rfl⟩⟩
    have := rep_one h h2
    cases v <;> first | rfl | cases this
  cases x with
  | agg cs =>
    simp only [rep] at h
    obtain ⟨ys, rfl, h2⟩ := h
    exact ⟨ys, rfl, h2⟩
  | _ => exact key (by simpa [cellsA, onesA] using h1) rfl

section
variable {P : Program}
theorem setCells_heap (b : Nat) (T : TypeId) : ∀ (vs : List Value) (o : Nat) (us : List Value) (w : World), w.heap[b]? = some (.cells us.toArray T (0, 0)) →
    (w.setCells b o vs).heap[b]? = some (.cells (setL us o vs).toArray T (0, 0)) ∧ (∀ k, k ≠ b → (w.setCells b o vs).heap[k]? = w.heap[k]?) ∧ (w.setCells b o vs).heap.size = w.heap.size ∧ (w.setCells b o vs).os = w.os ∧ (w.setCells b o vs).tape = w.tape ∧ (w.setCells b o vs).output = w.output
  | [], o, us, w, h => ⟨h, fun _ _ => rfl, rfl, rfl, rfl, rfl⟩
  | v :: vs, o, us, w, h => by
    have h1 : (w.setCell ⟨b, o, none⟩ v).heap[b]? = some (.cells (us.set o v).toArray T (0, 0)) := by
      simp only [World.setCell, Array.getElem?_modify, if_true, h, Option.map_some]
      simp
    obtain ⟨k1, k2, k3, k4, k5, k6⟩ := setCells_heap b T vs (o + 1) (us.set o v) (w.setCell ⟨b, o, none⟩ v) h1
    refine ⟨k1, fun k hk => (k2 k hk).trans (Below.heap_setCell w _ _ k hk), k3.trans (by simp [World.setCell]), k4, k5, k6⟩
theorem run_storeN {T sz : Nat} {ag : Bool} (ht : typOf P T = some (sz, ag)) {b o : Nat} {w : World} {us vs : List Value} {T' : TypeId} (hb : w.heap[b]? = some (.cells us.toArray T' (0, 0))) {v : Value} (hv : v.cells = vs.toArray) (hl : vs.length = sz)
    (hfit : o + vs.length ≤ us.length) (h1 : ∀ u ∈ vs, u.oneCell' = true) : (Instr.storeAt T (.pointer (some ⟨b, o, none⟩)) v).run P w = .ok () (w.setCells b o vs) := by
  obtain ⟨dsc, i, hu, hi, hs, _⟩ := typ_spec ht
  have := run_storeCells_cells (P := P) b o vs 0 w (fun j hj => by simp only [World.cell?, hb]; simp; omega) (fun j hj => by simp [World.frozen?, hb]) h1
  simp only [Nat.add_zero] at this
  simp [Instr.storeAt, Instr.sureAddr, storeVar, sizeOf, typeInfo, hi, hv, hl, hs, this]
end

section
variable {P : Program} {ev : Operand → Option AV} {h : AH} {R : AV → AH → Prop} {d : Option Tmp} {ty : TypeId} {pos : String} {af : Array Edge} {gd : Option (Nat × Bool)}
theorem st_store {T : TypeId} {x y : Operand} {sz i o : Nat} {ag : Bool} {av : AV} {row row' : List AV} {bx' : List (List AV)} [ht : Typ P T sz ag] (hx : ev x = some (.bp i o)) (hy : ev y = some av) (hb : h.bx[i]? = some row)
    (h1 : onesA (cellsA av) = true) (hl : Nat.beq (cellsA av).length sz = true) (hpos : Nat.blt 0 sz = true) (hs : SetAt row o (cellsA av) row') (hset : SetAt h.bx i [row'] bx') (hR : R (.v undef) ⟨bx', h.tk⟩) : AStep P ⟨d, .store T x y, ty, pos, af, gd⟩ ev h R := by
  intro E G w ec hr he
  have k1 := he x (by simp [Op.operands]) _ hx
  have k2 := he y (by simp [Op.operands]) _ hy
  simp only [rep] at k1
  obtain ⟨b, k3, k4⟩ := k1
  obtain ⟨us, T', k5, k6, k7⟩ := hr.boxAt k3 hb
  obtain ⟨vs, k8, k9⟩ := rep_cells k2 h1
  obtain ⟨m1, m2⟩ := hs.rep k6 k9
  have hl' := Nat.eq_of_beq_eq_true hl
  have hp : 0 < sz := Nat.le_of_ble_eq_true hpos
  have hvl := repL_length k9
  have hne : cellsA av ≠ [] := fun e => by rw [e] at hl'; simp at hl'; omega
  rw [if_neg hne] at m2
  obtain ⟨q1, q2, q3, q4, q5, q6⟩ := setCells_heap b T' vs o us w k5
  have hrun := run_storeN (P := P) ht.eq (o := o) k5 k8 (by omega) (by omega) (repL_ones k9 h1)
  obtain ⟨r1, r2⟩ := hr.setBox (w' := w.setCells b o vs) (row := row') k3 q4 q5 q6 q3 q2 ⟨_, T', q1, m1, fun u hu => by
    rcases setL_mem vs us o u hu with e | e
    · exact k7 u e
    · exact repL_ones k9 h1 u e⟩
  have hbx := (SetAt.one hset).2
  subst hbx
  simp only [execOp, k4, Sem.run_bind, hrun, Result.andThen_ok, Sem.run_pure]
  exact ⟨.v undef, _, G, hR, r1, r2, by simp only [rep]⟩
theorem heap_alloc_self (w : World) (o : Obj) : (w.alloc o).heap[w.heap.size]? = some o := by show (w.heap.push o)[w.heap.size]? = _; simp
/-- A new box. -/
theorem new_box {E : Env} {G : Gh} {w : World} (hr : HRel E G h w) {us : List Value} {row : List AV} {T : TypeId} (hrep : repL G w row us) (h1 : ∀ u ∈ us, u.oneCell' = true) {n : Nat} {bx' : List (List AV)} (hs : SnocAt h.bx row n bx') :
    ∃ G', HRel E G' ⟨bx', h.tk⟩ (w.alloc (.cells us.toArray T)) ∧ Ext G w G' (w.alloc (.cells us.toArray T)) ∧ rep G' (w.alloc (.cells us.toArray T)) (.bp n 0) (.pointer (some ⟨w.heap.size, 0, none⟩)) := by
  obtain ⟨e1, e2⟩ := hs.eq
  subst e1
  subst e2
  obtain ⟨k1, k2⟩ := hr.below (w' := w.alloc (.cells us.toArray T)) ((Below.refl _ _).alloc (Nat.le_refl _) _)
  have hnb : w.heap.size ∉ G.bx := fun hm => by have := hr.boxlt hm; omega
  have hst : ∀ o, ¬ G.St w.heap.size o := fun o hs => by have := hr.stlt _ _ hs; omega
  obtain ⟨q1, q2⟩ := k1.addBox (b := w.heap.size) (row := row) hnb hr.kept.size hst (fun g n u hg hu => by have := (hr.toklt hg hu).2; omega) ⟨us, T, heap_alloc_self _ _, repL_mono k2 _ _ hrep, h1⟩
  refine ⟨_, q1, k2.trans q2, ?_⟩
  simp only [rep]
  refine ⟨w.heap.size, ?_, rfl⟩
  rw [← hr.bxlen]
  simp
theorem st_box {T : TypeId} {x : Operand} {n : Nat} {av : AV} {bx' : List (List AV)} (hx : ev x = some av) (h1 : onesA (cellsA av) = true) (hs : SnocAt h.bx (cellsA av) n bx') (hR : R (.bp n 0) ⟨bx', h.tk⟩) : AStep P ⟨d, .box T x, ty, pos, af, gd⟩ ev h R := by
  intro E G w ec hr he
  obtain ⟨vs, k8, k9⟩ := rep_cells (he x (by simp [Op.operands]) _ hx) h1
  obtain ⟨G', q1, q2, q3⟩ := new_box (T := T) hr k9 (repL_ones k9 h1) hs
  have hrun : (Instr.box T (ec x)).run P w = .ok (.pointer (some ⟨w.heap.size, 0, none⟩)) (w.alloc (.cells vs.toArray T)) := by
    simp [Instr.box, newVar, newRow, k8]
  simp only [execOp, Sem.run_bind, hrun, Result.andThen_ok, Sem.run_pure]
  exact ⟨_, _, G', hR, q1, q2, q3⟩
theorem repL_vs {G : Gh} {w : World} : ∀ (us : List Value), repL G w (us.map AV.v) us
  | [] => by simp only [List.map_nil, repL]
  | u :: us => by simp only [List.map_cons, repL]; exact ⟨u, us, rfl, by simp only [rep], repL_vs us⟩
theorem zer_spec {T : Nat} {zs : List Value} (hz : zerOf P T = some zs) : ∃ i z, P.info? T = some i ∧ i.zero = some z ∧ z.cells = zs.toArray := by
  unfold zerOf at hz
  cases hi : P.info? T with
  | none => simp [hi] at hz
  | some i =>
    cases hq : i.zero with
    | none => simp [hi, hq] at hz
    | some z =>
      simp [hi, hq] at hz
      exact ⟨i, z, rfl, hq, by rw [← hz]⟩
theorem st_alloc {T : TypeId} {n : Nat} {row : List AV} {bx' : List (List AV)} [hz : Zer P T row] (hs : SnocAt h.bx row n bx') (hR : R (.bp n 0) ⟨bx', h.tk⟩) : AStep P ⟨d, .alloc T, ty, pos, af, gd⟩ ev h R := by
  intro E G w ec hr he
  obtain ⟨zs, hz1, hrow, hz2⟩ := hz.eq
  obtain ⟨i, z, k1, k2, k3⟩ := zer_spec hz1
  have hone : ∀ u ∈ zs, u.oneCell' = true := List.all_eq_true.1 hz2
  obtain ⟨G', q1, q2, q3⟩ := new_box (T := T) hr (hrow ▸ repL_vs zs) hone hs
  have hrun : (Instr.alloc T true (.tuple #[])).run P w = .ok (.pointer (some ⟨w.heap.size, 0, none⟩)) (w.alloc (.cells zs.toArray T)) := by
    simp [Instr.alloc, zeroValue, typeInfo, k1, k2, newVar, newRow, k3]
  simp only [execOp, Sem.run_bind, hrun, Result.andThen_ok, Sem.run_pure]
  exact ⟨_, _, G', hR, q1, q2, q3⟩

/-! Numbers, strings. -/
theorem st_bin {op : BinOp} {T yT : TypeId} {x y : Operand} {a b z : Value} (hx : ev x = some (.v a)) (hy : ev y = some (.v b)) (hz : ∀ w, (do eqGuard op T x y a b; binOp op T a b : Sem Value).run P w = .ok z w) (hR : R (.v z) h) : AStep P ⟨d, .binOp op T x y yT, ty, pos, af, gd⟩ ev h R :=
  st_val (fun _ G w ec _ he => ⟨z, by
    have h1 := he x (by simp [Op.operands]) _ hx
    have h2 := he y (by simp [Op.operands]) _ hy
    simp only [rep] at h1 h2
    simp only [execOp]
    rw [h1, h2, Sem.run_bind, hz w]
    rfl, by simp only [rep]⟩) hR
theorem st_add {T yT : TypeId} {x y : Operand} {k : IntKind} {a b : Int} (hx : ev x = some (.v (.int k a))) (hy : ev y = some (.v (.int k b))) (hR : R (.v (.int k (k.wrap (a + b)))) h) : AStep P ⟨d, .binOp .add T x y yT, ty, pos, af, gd⟩ ev h R :=
  st_bin hx hy (fun w => by simp [eqGuard, binOp, Op.intArith]) hR
theorem st_sub {T yT : TypeId} {x y : Operand} {k : IntKind} {a b : Int} (hx : ev x = some (.v (.int k a))) (hy : ev y = some (.v (.int k b))) (hR : R (.v (.int k (k.wrap (a - b)))) h) : AStep P ⟨d, .binOp .sub T x y yT, ty, pos, af, gd⟩ ev h R :=
  st_bin hx hy (fun w => by simp [eqGuard, binOp, Op.intArith]) hR
theorem st_mul {T yT : TypeId} {x y : Operand} {k : IntKind} {a b : Int} (hx : ev x = some (.v (.int k a))) (hy : ev y = some (.v (.int k b))) (hR : R (.v (.int k (k.wrap (a * b)))) h) : AStep P ⟨d, .binOp .mul T x y yT, ty, pos, af, gd⟩ ev h R :=
  st_bin hx hy (fun w => by simp [eqGuard, binOp, Op.intArith]) hR
theorem st_add64 {T yT : TypeId} {x y : Operand} {a b : Int} (hx : ev x = some (.v (.int .i64 a))) (hy : ev y = some (.v (.int .i64 b))) (hb : -9223372036854775808 ≤ a + b ∧ a + b ≤ 9223372036854775807) (hR : R (.v (.int .i64 (a + b))) h) : AStep P ⟨d, .binOp .add T x y yT, ty, pos, af, gd⟩ ev h R :=
  st_add hx hy (by rw [IntWalk.i64_in _ (by omega)]; exact hR)
theorem st_sub64 {T yT : TypeId} {x y : Operand} {a b : Int} (hx : ev x = some (.v (.int .i64 a))) (hy : ev y = some (.v (.int .i64 b))) (hb : -9223372036854775808 ≤ a - b ∧ a - b ≤ 9223372036854775807) (hR : R (.v (.int .i64 (a - b))) h) : AStep P ⟨d, .binOp .sub T x y yT, ty, pos, af, gd⟩ ev h R :=
  st_sub hx hy (by rw [IntWalk.i64_in _ (by omega)]; exact hR)
theorem st_rem {T yT : TypeId} {x y : Operand} {k : IntKind} {a b : Int} (hx : ev x = some (.v (.int k a))) (hy : ev y = some (.v (.int k b))) (hb : b ≠ 0) (hR : R (.v (.int k (a.tmod b))) h) : AStep P ⟨d, .binOp .rem T x y yT, ty, pos, af, gd⟩ ev h R :=
  st_bin hx hy (fun w => by simp [eqGuard, binOp, Op.intDiv, hb]) hR
theorem st_quo {T yT : TypeId} {x y : Operand} {k : IntKind} {a b : Int} (hx : ev x = some (.v (.int k a))) (hy : ev y = some (.v (.int k b))) (hb : b ≠ 0) (hR : R (.v (.int k (k.wrap (a.tdiv b)))) h) : AStep P ⟨d, .binOp .quo T x y yT, ty, pos, af, gd⟩ ev h R :=
  st_bin hx hy (fun w => by simp [eqGuard, binOp, Op.intDiv, hb]) hR
theorem beq_dec (a b : Int) : (a == b) = decide (a = b) := by rw [Bool.eq_iff_iff, beq_iff_eq, decide_eq_true_iff]
theorem st_eql {T yT : TypeId} {x y : Operand} {k : IntKind} {a b : Int} (hx : ev x = some (.v (.int k a))) (hy : ev y = some (.v (.int k b))) (hR : R (.v (.bool (decide (a = b)))) h) : AStep P ⟨d, .binOp .eql T x y yT, ty, pos, af, gd⟩ ev h R :=
  st_bin hx hy (fun w => by simp [eqGuard, binOp, Op.intCmp, beq_dec]) hR
theorem st_neq {T yT : TypeId} {x y : Operand} {k : IntKind} {a b : Int} (hx : ev x = some (.v (.int k a))) (hy : ev y = some (.v (.int k b))) (hR : R (.v (.bool (!decide (a = b)))) h) : AStep P ⟨d, .binOp .neq T x y yT, ty, pos, af, gd⟩ ev h R :=
  st_bin hx hy (fun w => by simp [eqGuard, binOp, Op.intCmp, bne, beq_dec]) hR
theorem st_lss {T yT : TypeId} {x y : Operand} {k : IntKind} {a b : Int} (hx : ev x = some (.v (.int k a))) (hy : ev y = some (.v (.int k b))) (hR : R (.v (.bool (decide (a < b)))) h) : AStep P ⟨d, .binOp .lss T x y yT, ty, pos, af, gd⟩ ev h R :=
  st_bin hx hy (fun w => by simp [eqGuard, binOp, Op.intCmp]) hR
theorem st_leq {T yT : TypeId} {x y : Operand} {k : IntKind} {a b : Int} (hx : ev x = some (.v (.int k a))) (hy : ev y = some (.v (.int k b))) (hR : R (.v (.bool (decide (a ≤ b)))) h) : AStep P ⟨d, .binOp .leq T x y yT, ty, pos, af, gd⟩ ev h R :=
  st_bin hx hy (fun w => by simp [eqGuard, binOp, Op.intCmp]) hR
theorem st_gtr {T yT : TypeId} {x y : Operand} {k : IntKind} {a b : Int} (hx : ev x = some (.v (.int k a))) (hy : ev y = some (.v (.int k b))) (hR : R (.v (.bool (decide (b < a)))) h) : AStep P ⟨d, .binOp .gtr T x y yT, ty, pos, af, gd⟩ ev h R :=
  st_bin hx hy (fun w => by simp [eqGuard, binOp, Op.intCmp]) hR
theorem st_geq {T yT : TypeId} {x y : Operand} {k : IntKind} {a b : Int} (hx : ev x = some (.v (.int k a))) (hy : ev y = some (.v (.int k b))) (hR : R (.v (.bool (decide (b ≤ a)))) h) : AStep P ⟨d, .binOp .geq T x y yT, ty, pos, af, gd⟩ ev h R :=
  st_bin hx hy (fun w => by simp [eqGuard, binOp, Op.intCmp]) hR
theorem bytes_beq (a b : ByteArray) : (a.toList == b.toList) = decide (a = b) := by
  rw [Bool.eq_iff_iff, beq_iff_eq, decide_eq_true_iff]
  constructor
  · intro h1
    rw [Lib.toList_data, Lib.toList_data] at h1
    exact ByteArray.ext (Array.toList_inj.1 h1)
  · intro h1; rw [h1]
theorem st_eqlS {T yT : TypeId} {x y : Operand} {a b : ByteArray} (hx : ev x = some (.v (.string a))) (hy : ev y = some (.v (.string b))) (hR : R (.v (.bool (decide (a = b)))) h) : AStep P ⟨d, .binOp .eql T x y yT, ty, pos, af, gd⟩ ev h R :=
  st_bin hx hy (fun w => by simp [eqGuard, binOp, Op.stringOp, bytes_beq]) hR
theorem st_neqS {T yT : TypeId} {x y : Operand} {a b : ByteArray} (hx : ev x = some (.v (.string a))) (hy : ev y = some (.v (.string b))) (hR : R (.v (.bool (!decide (a = b)))) h) : AStep P ⟨d, .binOp .neq T x y yT, ty, pos, af, gd⟩ ev h R :=
  st_bin hx hy (fun w => by simp [eqGuard, binOp, Op.stringOp, bytes_beq]) hR
theorem st_lssS {T yT : TypeId} {x y : Operand} {a b : ByteArray} (hx : ev x = some (.v (.string a))) (hy : ev y = some (.v (.string b))) (hR : R (.v (.bool (Op.bytesLess a.toList b.toList))) h) : AStep P ⟨d, .binOp .lss T x y yT, ty, pos, af, gd⟩ ev h R :=
  st_bin hx hy (fun w => by simp [eqGuard, binOp, Op.stringOp]) hR
theorem st_geqS {T yT : TypeId} {x y : Operand} {a b : ByteArray} (hx : ev x = some (.v (.string a))) (hy : ev y = some (.v (.string b))) (hR : R (.v (.bool (!Op.bytesLess a.toList b.toList))) h) : AStep P ⟨d, .binOp .geq T x y yT, ty, pos, af, gd⟩ ev h R :=
  st_bin hx hy (fun w => by simp [eqGuard, binOp, Op.stringOp]) hR
theorem st_addS {T yT : TypeId} {x y : Operand} {a b : ByteArray} (hx : ev x = some (.v (.string a))) (hy : ev y = some (.v (.string b))) (hb : a.size + b.size ≤ 9223372036854775807) (hR : R (.v (.string (a ++ b))) h) : AStep P ⟨d, .binOp .add T x y yT, ty, pos, af, gd⟩ ev h R :=
  st_bin hx hy (fun w => by
    have : ¬ ((a.size + b.size : Nat) : Int) > IntKind.i64.max := by
      have e : IntKind.i64.max = 9223372036854775807 := by decide
      rw [e]; omega
    simp only [eqGuard, binOp, Op.stringOp, if_neg this]
    simp) hR
theorem st_not {T : TypeId} {x : Operand} {b : Bool} (hx : ev x = some (.v (.bool b))) (hR : R (.v (.bool (!b))) h) : AStep P ⟨d, .unOp .not T x, ty, pos, af, gd⟩ ev h R :=
  st_val (fun _ G w ec _ he => ⟨.bool (!b), by
    have h1 := he x (by simp [Op.operands]) _ hx
    simp only [rep] at h1
    simp [execOp, h1, Op.unary], by simp only [rep]⟩) hR
/-- An operation on plain values, by its run. -/
def valOf (ev : Operand → Option AV) (x : Operand) : Value :=
  match ev x with
  | some (.v y) => y
  | _ => undef
def isV : Option AV → Bool
  | some (.v _) => true
  | _ => false
theorem st_run {o : Oper} {z : Value} (hall : o.op.operands.toList.all (fun x => isV (ev x)) = true) (hsel : ∀ cs b, o.op ≠ .select cs b) (hrun : ∀ w, (execOp (valOf ev) o).run P w = .ok (.value z) w) (hR : R (.v z) h) : AStep P o ev h R :=
  st_val (fun _ G w ec _ he => by
    refine ⟨z, ?_, by simp only [rep]⟩
    have e : execOp ec o = execOp (valOf ev) o := by
      refine execOp_congr o hsel fun x hx => ?_
      have h1 := List.all_eq_true.1 hall x (by simpa using hx)
      unfold valOf
      cases hev : ev x with
      | none => rw [hev] at h1; cases h1
      | some av =>
        rw [hev] at h1
        cases av with
        | v y => simpa only [rep] using he x hx _ hev
        | _ => cases h1
    rw [e]
    exact hrun w) hR
theorem st_lenS {T : TypeId} {x : Operand} {s : ByteArray} (hu : P.underlying T = some .string) (hx : ev x = some (.v (.string s))) (hR : R (.v (.int .i64 s.size)) h) : AStep P ⟨d, .call { callee := .builtin .len, args := #[x], argTypes := #[T] }, ty, pos, af, gd⟩ ev h R :=
  st_val (fun _ G w ec _ he => ⟨.int .i64 s.size, by
    have h1 := he x (by simp [Op.operands, Call.operands]) _ hx
    simp only [rep] at h1
    simp [execOp, resolve, invoke, builtin, Builtin.len_, run_underlying hu, h1, goInt], by simp only [rep]⟩) hR
theorem st_len {T : TypeId} {x : Operand} {E sz bytes : Nat} {rows : List (List AV)} {tok : Option Nat} [hE : Elm P T E sz bytes] (hx : ev x = some (.sl sz rows tok)) (hR : R (.v (.int .i64 rows.length)) h) : AStep P ⟨d, .call { callee := .builtin .len, args := #[x], argTypes := #[T] }, ty, pos, af, gd⟩ ev h R :=
  st_val (fun _ G w ec _ he => ⟨.int .i64 rows.length, by
    have h1 := fro_era _ _ (he x (by simp [Op.operands, Call.operands]) _ hx)
    simp only [era, fro] at h1
    obtain ⟨_, A, cap, h2, _⟩ := h1
    simp [execOp, resolve, invoke, builtin, Builtin.len_, run_underlying (elm_spec hE.eq).1, h2, goInt], by simp only [rep]⟩) hR
theorem st_len0 {T : TypeId} {x : Operand} {E sz bytes : Nat} [hE : Elm P T E sz bytes] (hx : ev x = some (.v (.slice none 0 0))) (hR : R (.v (.int .i64 0)) h) : AStep P ⟨d, .call { callee := .builtin .len, args := #[x], argTypes := #[T] }, ty, pos, af, gd⟩ ev h R :=
  st_val (fun _ G w ec _ he => ⟨.int .i64 0, by
    have h1 := he x (by simp [Op.operands, Call.operands]) _ hx
    simp only [rep] at h1
    simp [execOp, resolve, invoke, builtin, Builtin.len_, run_underlying (elm_spec hE.eq).1, h1, goInt], by simp only [rep]⟩) hR
end
end Go.Proofs.YtokaaebbmcldaaaGreatDoor
