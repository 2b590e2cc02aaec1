/-
  Part 2 of the proof of LookupLoopsP: what the statement's proof uses of the texts in wip/tpl.
-/
import Derived.Lib.Strings
import Derived.Test.YtaidkbnbfnaihaaLl1
namespace Go.Proofs.Ytaidkbnbfnaihaa
open Go.RowKit

inductive SetAt {α : Type} : List α → Nat → List α → List α → Prop
  | nil (l : List α) (n : Nat) : SetAt l n [] l
  | here (a x : α) (l xs l' : List α) : SetAt l 0 xs l' → SetAt (a :: l) 0 (x :: xs) (x :: l')
  | there (a x : α) (l xs l' : List α) (n : Nat) : SetAt l n (x :: xs) l' → SetAt (a :: l) (n + 1) (x :: xs) (a :: l')
inductive SnocAt {α : Type} : List α → α → Nat → List α → Prop
  | nil (x : α) : SnocAt [] x 0 [x]
  | cons (a x : α) (l l' : List α) (n : Nat) : SnocAt l x n l' → SnocAt (a :: l) x (n + 1) (a :: l')
theorem SnocAt.eq {α : Type} {l l' : List α} {x : α} {n : Nat} (h : SnocAt l x n l') : n = l.length ∧ l' = l ++ [x] := by
  induction h with
  | nil x => exact ⟨rfl, rfl⟩
  | cons a x l l' n _ ih => exact ⟨by simp [ih.1], by simp [ih.2]⟩
theorem SetAt.one_ {α : Type} {l xs l' : List α} {n : Nat} (h : SetAt l n xs l') : ∀ x, xs = [x] → n < l.length ∧ l' = l.set n x := by
  induction h with
  | nil l n => intro x h; cases h
  | here a x l xs l' h ih =>
    intro y hy
    injection hy with h1 h2
    subst h1
    subst h2
    cases h
    exact ⟨by simp, by simp⟩
  | there a x l xs l' n h ih =>
    intro y hy
    obtain ⟨h1, h2⟩ := ih y hy
    exact ⟨by simp; omega, by simp [h2]⟩
theorem SetAt.one {α : Type} {l l' : List α} {n : Nat} {x : α} (h : SetAt l n [x] l') : n < l.length ∧ l' = l.set n x := h.one_ x rfl
def setL : List Value → Nat → List Value → List Value
  | us, _, [] => us
  | us, o, v :: vs => setL (us.set o v) (o + 1) vs
theorem setL_succ : ∀ (vs : List Value) (u : Value) (us : List Value) (n : Nat), setL (u :: us) (n + 1) vs = u :: setL us n vs
  | [], _, _, _ => rfl
  | v :: vs, u, us, n => by simp only [setL, List.set_cons_succ]; exact setL_succ vs u (us.set n v) (n + 1)
theorem setL_mem : ∀ (vs us : List Value) (n : Nat) (y : Value), y ∈ setL us n vs → y ∈ us ∨ y ∈ vs
  | [], _, _, _, h => .inl h
  | v :: vs, us, n, y, h => by
    simp only [setL] at h
    rcases setL_mem vs _ _ y h with h1 | h1
    · rcases List.mem_or_eq_of_mem_set h1 with h2 | h2
      · exact .inl h2
      · exact .inr (by simp [h2])
    · exact .inr (by simp [h1])
theorem SetAt.rep {G : Gh} {w : World} {row xs row' : List AV} {o : Nat} (h : SetAt row o xs row') : ∀ {us vs : List Value}, repL G w row us → repL G w xs vs → repL G w row' (setL us o vs) ∧ o + (if xs = [] then 0 else xs.length) ≤ max o us.length := by
  induction h with
  | nil l n => intro us vs h1 h2; simp only [repL] at h2; subst h2; exact ⟨h1, by simp; omega⟩
  | here a x l xs l' _ ih =>
    intro us vs h1 h2
    simp only [repL] at h1 h2
    obtain ⟨z, zs, rfl, h3, h4⟩ := h1
    obtain ⟨y, ys, rfl, h5, h6⟩ := h2
    obtain ⟨k1, k2⟩ := ih h4 h6
    refine ⟨?_, ?_⟩
    · simp only [setL, List.set_cons_zero]
      rw [setL_succ]
      simp only [repL]
      exact ⟨y, _, rfl, h5, k1⟩
    · simp only [reduceCtorEq, if_false, List.length_cons] at k2 ⊢
      split at k2
      · rename_i e; subst e; simp
      · omega
  | there a x l xs l' n _ ih =>
    intro us vs h1 h2
    simp only [repL] at h1
    obtain ⟨z, zs, rfl, h3, h4⟩ := h1
    obtain ⟨k1, k2⟩ := ih h4 h2
    refine ⟨?_, ?_⟩
    · rw [setL_succ]
      simp only [repL]
      exact ⟨z, _, rfl, h3, k1⟩
    · simp only [reduceCtorEq, if_false, List.length_cons] at k2 ⊢
      omega

def cellsA : AV → List AV
  | .agg cs => cs
  | x => [x]
def oneA : AV → Bool
  | .v x => x.oneCell'
  | .agg _ | .tup _ | .any => false
  | _ => true
def onesA : List AV → Bool
  | [] => true
  | x :: xs => oneA x && onesA xs
theorem rep_one {G : Gh} {w : World} {x : AV} {v : Value} (h : rep G w x v) (h1 : oneA x = true) : v.oneCell' = true := by
  cases x with
  | v y => simp only [rep] at h; subst h; exact h1
  | agg cs => cases h1
  | tup cs => cases h1
  | any => cases h1
  | sl sz rows tok =>
    have := fro_era _ _ h
    simp only [era, fro] at this
    obtain ⟨_, A, cap, rfl, _⟩ := this
    rfl
  | fp row => simp only [rep] at h; obtain ⟨b, o, rfl, _⟩ := h; rfl
  | bp i o => simp only [rep] at h; obtain ⟨b, _, rfl⟩ := h; rfl
  | bs i o sz n cap => simp only [rep] at h; obtain ⟨b, _, rfl, _⟩ := h; rfl
  | fn f caps => simp only [rep] at h; obtain ⟨ys, rfl, _⟩ := h; rfl
theorem repL_ones {G : Gh} {w : World} : ∀ {xs : List AV} {vs : List Value}, repL G w xs vs → onesA xs = true → ∀ u ∈ vs, u.oneCell' = true
  | [], _, h, _ => by simp only [repL] at h; subst h; simp
  | x :: xs, _, h, h1 => by
    simp only [repL] at h
    obtain ⟨z, zs, rfl, h2, h3⟩ := h
    simp only [onesA, Bool.and_eq_true] at h1
    intro u hu
    rcases List.mem_cons.1 hu with e | e
    · rw [e]; exact rep_one h2 h1.1
    · exact repL_ones h3 h1.2 u e
theorem rep_cells {G : Gh} {w : World} {x : AV} {v : Value} (h : rep G w x v) (h1 : onesA (cellsA x) = true) : ∃ vs : List Value, v.cells = vs.toArray ∧ repL G w (cellsA x) vs := by
  have key : oneA x = true → cellsA x = [x] → ∃ vs : List Value, v.cells = vs.toArray ∧ repL G w (cellsA x) vs := fun h2 h3 => by
    refine ⟨[v], ?_, by rw [h3]; simp only [repL]; exact ⟨v, [], rfl, h, rfl⟩⟩
    have := rep_one h h2
    cases v <;> first | rfl | cases this
  cases x with
  | agg cs =>
    simp only [rep] at h
    obtain ⟨ys, rfl, h2⟩ := h
    exact ⟨ys, rfl, h2⟩
  | _ => exact key (by simpa [cellsA, onesA] using h1) rfl

section
variable {P : Program}
theorem setCells_heap (b : Nat) (T : TypeId) : ∀ (vs : List Value) (o : Nat) (us : List Value) (w : World), w.heap[b]? = some (.cells us.toArray T (0, 0)) →
    (w.setCells b o vs).heap[b]? = some (.cells (setL us o vs).toArray T (0, 0)) ∧ (∀ k, k ≠ b → (w.setCells b o vs).heap[k]? = w.heap[k]?) ∧ (w.setCells b o vs).heap.size = w.heap.size ∧ (w.setCells b o vs).os = w.os ∧ (w.setCells b o vs).tape = w.tape ∧ (w.setCells b o vs).output = w.output
  | [], o, us, w, h => ⟨h, fun _ _ => rfl, rfl, rfl, rfl, rfl⟩
  | v :: vs, o, us, w, h => by
    have h1 : (w.setCell ⟨b, o, none⟩ v).heap[b]? = some (.cells (us.set o v).toArray T (0, 0)) := by
      simp only [World.setCell, Array.getElem?_modify, if_true, h, Option.map_some]
      simp
    obtain ⟨k1, k2, k3, k4, k5, k6⟩ := setCells_heap b T vs (o + 1) (us.set o v) (w.setCell ⟨b, o, none⟩ v) h1
    refine ⟨k1, fun k hk => (k2 k hk).trans (Below.heap_setCell w _ _ k hk), k3.trans (by simp [World.setCell]), k4, k5, k6⟩
theorem run_storeN {T sz : Nat} {ag : Bool} (ht : typOf P T = some (sz, ag)) {b o : Nat} {w : World} {us vs : List Value} {T' : TypeId} (hb : w.heap[b]? = some (.cells us.toArray T' (0, 0))) {v : Value} (hv : v.cells = vs.toArray) (hl : vs.length = sz)
    (hfit : o + vs.length ≤ us.length) (h1 : ∀ u ∈ vs, u.oneCell' = true) : (Instr.storeAt T (.pointer (some ⟨b, o, none⟩)) v).run P w = .ok () (w.setCells b o vs) := by
  obtain ⟨dsc, i, hu, hi, hs, _⟩ := typ_spec ht
  have := run_storeCells_cells (P := P) b o vs 0 w (fun j hj => by simp only [World.cell?, hb]; simp; omega) (fun j hj => by simp [World.frozen?, hb]) h1
  simp only [Nat.add_zero] at this
  simp [Instr.storeAt, Instr.sureAddr, storeVar, sizeOf, typeInfo, hi, hv, hl, hs, this]
end

section
variable {P : Program} {ev : Operand → Option AV} {h : AH} {R : AV → AH → Prop} {d : Option Tmp} {ty : TypeId} {pos : String} {af : Array Edge} {gd : Option (Nat × Bool)}
theorem st_store {T : TypeId} {x y : Operand} {sz i o : Nat} {ag : Bool} {av : AV} {row row' : List AV} {bx' : List (List AV)} [ht : Typ P T sz ag] (hx : ev x = some (.bp i o)) (hy : ev y = some av) (hb : h.bx[i]? = some row)
    (h1 : onesA (cellsA av) = true) (hl : Nat.beq (cellsA av).length sz = true) (hpos : Nat.blt 0 sz = true) (hs : SetAt row o (cellsA av) row') (hset : SetAt h.bx i [row'] bx') (hR : R (.v undef) ⟨bx', h.tk⟩) : AStep P ⟨d, .store T x y, ty, pos, af, gd⟩ ev h R := by
  intro E G w ec hr he
  have k1 := he x (by simp [Op.operands]) _ hx
  have k2 := he y (by simp [Op.operands]) _ hy
  simp only [rep] at k1
  obtain ⟨b, k3, k4⟩ := k1
  obtain ⟨us, T', k5, k6, k7⟩ := hr.boxAt k3 hb
  obtain ⟨vs, k8, k9⟩ := rep_cells k2 h1
  obtain ⟨m1, m2⟩ := hs.rep k6 k9
  have hl' := Nat.eq_of_beq_eq_true hl
  have hp : 0 < sz := Nat.le_of_ble_eq_true hpos
  have hvl := repL_length k9
  have hne : cellsA av ≠ [] := fun e => by rw [e] at hl'; simp at hl'; omega
  rw [if_neg hne] at m2
  obtain ⟨q1, q2, q3, q4, q5, q6⟩ := setCells_heap b T' vs o us w k5
  have hrun := run_storeN (P := P) ht.eq (o := o) k5 k8 (by omega) (by omega) (repL_ones k9 h1)
  obtain ⟨r1, r2⟩ := hr.setBox (w' := w.setCells b o vs) (row := row') k3 q4 q5 q6 q3 q2 ⟨_, T', q1, m1, fun u hu => by
    rcases setL_mem vs us o u hu with e | e
    · exact k7 u e
    · exact repL_ones k9 h1 u e⟩
  have hbx := (SetAt.one hset).2
  subst hbx
  simp only [execOp, k4, Sem.run_bind, hrun, Result.andThen_ok, Sem.run_pure]
  exact ⟨.v undef, _, G, hR, r1, r2, by simp only [rep]⟩
theorem heap_alloc_self (w : World) (o : Obj) : (w.alloc o).heap[w.heap.size]? = some o := by show (w.heap.push o)[w.heap.size]? = _; simp
theorem new_box {E : Env} {G : Gh} {w : World} (hr : HRel E G h w) {us : List Value} {row : List AV} {T : TypeId} (hrep : repL G w row us) (h1 : ∀ u ∈ us, u.oneCell' = true) {n : Nat} {bx' : List (List AV)} (hs : SnocAt h.bx row n bx') :
    ∃ G', HRel E G' ⟨bx', h.tk⟩ (w.alloc (.cells us.toArray T)) ∧ Ext G w G' (w.alloc (.cells us.toArray T)) ∧ rep G' (w.alloc (.cells us.toArray T)) (.bp n 0) (.pointer (some ⟨w.heap.size, 0, none⟩)) := by
  obtain ⟨e1, e2⟩ := hs.eq
  subst e1
  subst e2
  obtain ⟨k1, k2⟩ := hr.below (w' := w.alloc (.cells us.toArray T)) ((Below.refl _ _).alloc (Nat.le_refl _) _)
  have hnb : w.heap.size ∉ G.bx := fun hm => by have := hr.boxlt hm; omega
  have hst : ∀ o, ¬ G.St w.heap.size o := fun o hs => by have := hr.stlt _ _ hs; omega
  obtain ⟨q1, q2⟩ := k1.addBox (b := w.heap.size) (row := row) hnb hr.kept.size hst (fun g n u hg hu => by have := (hr.toklt hg hu).2; omega) ⟨us, T, heap_alloc_self _ _, repL_mono k2 _ _ hrep, h1⟩
  refine ⟨_, q1, k2.trans q2, ?_⟩
  simp only [rep]
  refine ⟨w.heap.size, ?_, rfl⟩
  rw [← hr.bxlen]
  simp
theorem st_box {T : TypeId} {x : Operand} {n : Nat} {av : AV} {bx' : List (List AV)} (hx : ev x = some av) (h1 : onesA (cellsA av) = true) (hs : SnocAt h.bx (cellsA av) n bx') (hR : R (.bp n 0) ⟨bx', h.tk⟩) : AStep P ⟨d, .box T x, ty, pos, af, gd⟩ ev h R := by
  intro E G w ec hr he
  obtain ⟨vs, k8, k9⟩ := rep_cells (he x (by simp [Op.operands]) _ hx) h1
  obtain ⟨G', q1, q2, q3⟩ := new_box (T := T) hr k9 (repL_ones k9 h1) hs
  have hrun : (Instr.box T (ec x)).run P w = .ok (.pointer (some ⟨w.heap.size, 0, none⟩)) (w.alloc (.cells vs.toArray T)) := by
    simp [Instr.box, newVar, newRow, k8]
  simp only [execOp, Sem.run_bind, hrun, Result.andThen_ok, Sem.run_pure]
  exact ⟨_, _, G', hR, q1, q2, q3⟩
theorem repL_vs {G : Gh} {w : World} : ∀ (us : List Value), repL G w (us.map AV.v) us
  | [] => by simp only [List.map_nil, repL]
  | u :: us => by simp only [List.map_cons, repL]; exact ⟨u, us, rfl, by simp only [rep], repL_vs us⟩
theorem zer_spec {T : Nat} {zs : List Value} (hz : zerOf P T = some zs) : ∃ i z, P.info? T = some i ∧ i.zero = some z ∧ z.cells = zs.toArray := by
  unfold zerOf at hz
  cases hi : P.info? T with
  | none => simp [hi] at hz
  | some i =>
    cases hq : i.zero with
    | none => simp [hi, hq] at hz
    | some z =>
      simp [hi, hq] at hz
      exact ⟨i, z, rfl, hq, by rw [← hz]⟩
theorem st_alloc {T : TypeId} {n : Nat} {row : List AV} {bx' : List (List AV)} [hz : Zer P T row] (hs : SnocAt h.bx row n bx') (hR : R (.bp n 0) ⟨bx', h.tk⟩) : AStep P ⟨d, .alloc T, ty, pos, af, gd⟩ ev h R := by
  intro E G w ec hr he
  obtain ⟨zs, hz1, hrow, hz2⟩ := hz.eq
  obtain ⟨i, z, k1, k2, k3⟩ := zer_spec hz1
  have hone : ∀ u ∈ zs, u.oneCell' = true := List.all_eq_true.1 hz2
  obtain ⟨G', q1, q2, q3⟩ := new_box (T := T) hr (hrow ▸ repL_vs zs) hone hs
  have hrun : (Instr.alloc T true (.tuple #[])).run P w = .ok (.pointer (some ⟨w.heap.size, 0, none⟩)) (w.alloc (.cells zs.toArray T)) := by
    simp [Instr.alloc, zeroValue, typeInfo, k1, k2, newVar, newRow, k3]
  simp only [execOp, Sem.run_bind, hrun, Result.andThen_ok, Sem.run_pure]
  exact ⟨_, _, G', hR, q1, q2, q3⟩

theorem st_bin {op : BinOp} {T yT : TypeId} {x y : Operand} {a b z : Value} (hx : ev x = some (.v a)) (hy : ev y = some (.v b)) (hz : ∀ w, (do eqGuard op T x y a b; binOp op T a b : Sem Value).run P w = .ok z w) (hR : R (.v z) h) : AStep P ⟨d, .binOp op T x y yT, ty, pos, af, gd⟩ ev h R :=
  st_val (fun _ G w ec _ he => ⟨z, by
    have h1 := he x (by simp [Op.operands]) _ hx
    have h2 := he y (by simp [Op.operands]) _ hy
    simp only [rep] at h1 h2
    simp only [execOp]
    rw [h1, h2, Sem.run_bind, hz w]
    rfl, by simp only [rep]⟩) hR
theorem st_add {T yT : TypeId} {x y : Operand} {k : IntKind} {a b : Int} (hx : ev x = some (.v (.int k a))) (hy : ev y = some (.v (.int k b))) (hR : R (.v (.int k (k.wrap (a + b)))) h) : AStep P ⟨d, .binOp .add T x y yT, ty, pos, af, gd⟩ ev h R :=
  st_bin hx hy (fun w => by simp [eqGuard, binOp, Op.intArith]) hR
theorem st_add64 {T yT : TypeId} {x y : Operand} {a b : Int} (hx : ev x = some (.v (.int .i64 a))) (hy : ev y = some (.v (.int .i64 b))) (hb : -9223372036854775808 ≤ a + b ∧ a + b ≤ 9223372036854775807) (hR : R (.v (.int .i64 (a + b))) h) : AStep P ⟨d, .binOp .add T x y yT, ty, pos, af, gd⟩ ev h R :=
  st_add hx hy (by rw [IntWalk.i64_in _ (by omega)]; exact hR)
theorem st_rem {T yT : TypeId} {x y : Operand} {k : IntKind} {a b : Int} (hx : ev x = some (.v (.int k a))) (hy : ev y = some (.v (.int k b))) (hb : b ≠ 0) (hR : R (.v (.int k (a.tmod b))) h) : AStep P ⟨d, .binOp .rem T x y yT, ty, pos, af, gd⟩ ev h R :=
  st_bin hx hy (fun w => by simp [eqGuard, binOp, Op.intDiv, hb]) hR
theorem beq_dec (a b : Int) : (a == b) = decide (a = b) := by rw [Bool.eq_iff_iff, beq_iff_eq, decide_eq_true_iff]
theorem st_eql {T yT : TypeId} {x y : Operand} {k : IntKind} {a b : Int} (hx : ev x = some (.v (.int k a))) (hy : ev y = some (.v (.int k b))) (hR : R (.v (.bool (decide (a = b)))) h) : AStep P ⟨d, .binOp .eql T x y yT, ty, pos, af, gd⟩ ev h R :=
  st_bin hx hy (fun w => by simp [eqGuard, binOp, Op.intCmp, beq_dec]) hR
theorem st_neq {T yT : TypeId} {x y : Operand} {k : IntKind} {a b : Int} (hx : ev x = some (.v (.int k a))) (hy : ev y = some (.v (.int k b))) (hR : R (.v (.bool (!decide (a = b)))) h) : AStep P ⟨d, .binOp .neq T x y yT, ty, pos, af, gd⟩ ev h R :=
  st_bin hx hy (fun w => by simp [eqGuard, binOp, Op.intCmp, bne, beq_dec]) hR
theorem st_lss {T yT : TypeId} {x y : Operand} {k : IntKind} {a b : Int} (hx : ev x = some (.v (.int k a))) (hy : ev y = some (.v (.int k b))) (hR : R (.v (.bool (decide (a < b)))) h) : AStep P ⟨d, .binOp .lss T x y yT, ty, pos, af, gd⟩ ev h R :=
  st_bin hx hy (fun w => by simp [eqGuard, binOp, Op.intCmp]) hR
theorem st_leq {T yT : TypeId} {x y : Operand} {k : IntKind} {a b : Int} (hx : ev x = some (.v (.int k a))) (hy : ev y = some (.v (.int k b))) (hR : R (.v (.bool (decide (a ≤ b)))) h) : AStep P ⟨d, .binOp .leq T x y yT, ty, pos, af, gd⟩ ev h R :=
  st_bin hx hy (fun w => by simp [eqGuard, binOp, Op.intCmp]) hR
theorem st_gtr {T yT : TypeId} {x y : Operand} {k : IntKind} {a b : Int} (hx : ev x = some (.v (.int k a))) (hy : ev y = some (.v (.int k b))) (hR : R (.v (.bool (decide (b < a)))) h) : AStep P ⟨d, .binOp .gtr T x y yT, ty, pos, af, gd⟩ ev h R :=
  st_bin hx hy (fun w => by simp [eqGuard, binOp, Op.intCmp]) hR
theorem st_geq {T yT : TypeId} {x y : Operand} {k : IntKind} {a b : Int} (hx : ev x = some (.v (.int k a))) (hy : ev y = some (.v (.int k b))) (hR : R (.v (.bool (decide (b ≤ a)))) h) : AStep P ⟨d, .binOp .geq T x y yT, ty, pos, af, gd⟩ ev h R :=
  st_bin hx hy (fun w => by simp [eqGuard, binOp, Op.intCmp]) hR
theorem bytes_beq (a b : ByteArray) : (a.toList == b.toList) = decide (a = b) := by
  rw [Bool.eq_iff_iff, beq_iff_eq, decide_eq_true_iff]
  constructor
  · intro h1
    rw [Lib.toList_data, Lib.toList_data] at h1
    exact ByteArray.ext (Array.toList_inj.1 h1)
  · intro h1; rw [h1]
theorem st_eqlS {T yT : TypeId} {x y : Operand} {a b : ByteArray} (hx : ev x = some (.v (.string a))) (hy : ev y = some (.v (.string b))) (hR : R (.v (.bool (decide (a = b)))) h) : AStep P ⟨d, .binOp .eql T x y yT, ty, pos, af, gd⟩ ev h R :=
  st_bin hx hy (fun w => by simp [eqGuard, binOp, Op.stringOp, bytes_beq]) hR
theorem st_neqS {T yT : TypeId} {x y : Operand} {a b : ByteArray} (hx : ev x = some (.v (.string a))) (hy : ev y = some (.v (.string b))) (hR : R (.v (.bool (!decide (a = b)))) h) : AStep P ⟨d, .binOp .neq T x y yT, ty, pos, af, gd⟩ ev h R :=
  st_bin hx hy (fun w => by simp [eqGuard, binOp, Op.stringOp, bytes_beq]) hR
theorem st_lssS {T yT : TypeId} {x y : Operand} {a b : ByteArray} (hx : ev x = some (.v (.string a))) (hy : ev y = some (.v (.string b))) (hR : R (.v (.bool (Op.bytesLess a.toList b.toList))) h) : AStep P ⟨d, .binOp .lss T x y yT, ty, pos, af, gd⟩ ev h R :=
  st_bin hx hy (fun w => by simp [eqGuard, binOp, Op.stringOp]) hR
theorem st_geqS {T yT : TypeId} {x y : Operand} {a b : ByteArray} (hx : ev x = some (.v (.string a))) (hy : ev y = some (.v (.string b))) (hR : R (.v (.bool (!Op.bytesLess a.toList b.toList))) h) : AStep P ⟨d, .binOp .geq T x y yT, ty, pos, af, gd⟩ ev h R :=
  st_bin hx hy (fun w => by simp [eqGuard, binOp, Op.stringOp]) hR
theorem st_addS {T yT : TypeId} {x y : Operand} {a b : ByteArray} (hx : ev x = some (.v (.string a))) (hy : ev y = some (.v (.string b))) (hb : a.size + b.size ≤ 9223372036854775807) (hR : R (.v (.string (a ++ b))) h) : AStep P ⟨d, .binOp .add T x y yT, ty, pos, af, gd⟩ ev h R :=
  st_bin hx hy (fun w => by
    have : ¬ ((a.size + b.size : Nat) : Int) > IntKind.i64.max := by
      have e : IntKind.i64.max = 9223372036854775807 := by decide
      rw [e]; omega
    simp only [eqGuard, binOp, Op.stringOp, if_neg this]
    simp) hR
theorem st_not {T : TypeId} {x : Operand} {b : Bool} (hx : ev x = some (.v (.bool b))) (hR : R (.v (.bool (!b))) h) : AStep P ⟨d, .unOp .not T x, ty, pos, af, gd⟩ ev h R :=
  st_val (fun _ G w ec _ he => ⟨.bool (!b), by
    have h1 := he x (by simp [Op.operands]) _ hx
    simp only [rep] at h1
    simp [execOp, h1, Op.unary], by simp only [rep]⟩) hR
theorem st_lenS {T : TypeId} {x : Operand} {s : ByteArray} (hu : P.underlying T = some .string) (hx : ev x = some (.v (.string s))) (hR : R (.v (.int .i64 s.size)) h) : AStep P ⟨d, .call { callee := .builtin .len, args := #[x], argTypes := #[T] }, ty, pos, af, gd⟩ ev h R :=
  st_val (fun _ G w ec _ he => ⟨.int .i64 s.size, by
    have h1 := he x (by simp [Op.operands, Call.operands]) _ hx
    simp only [rep] at h1
    simp [execOp, resolve, invoke, builtin, Builtin.len_, run_underlying hu, h1, goInt], by simp only [rep]⟩) hR
theorem st_len {T : TypeId} {x : Operand} {E sz bytes : Nat} {rows : List (List AV)} {tok : Option Nat} [hE : Elm P T E sz bytes] (hx : ev x = some (.sl sz rows tok)) (hR : R (.v (.int .i64 rows.length)) h) : AStep P ⟨d, .call { callee := .builtin .len, args := #[x], argTypes := #[T] }, ty, pos, af, gd⟩ ev h R :=
  st_val (fun _ G w ec _ he => ⟨.int .i64 rows.length, by
    have h1 := fro_era _ _ (he x (by simp [Op.operands, Call.operands]) _ hx)
    simp only [era, fro] at h1
    obtain ⟨_, A, cap, h2, _⟩ := h1
    simp [execOp, resolve, invoke, builtin, Builtin.len_, run_underlying (elm_spec hE.eq).1, h2, goInt], by simp only [rep]⟩) hR
theorem st_len0 {T : TypeId} {x : Operand} {E sz bytes : Nat} [hE : Elm P T E sz bytes] (hx : ev x = some (.v (.slice none 0 0))) (hR : R (.v (.int .i64 0)) h) : AStep P ⟨d, .call { callee := .builtin .len, args := #[x], argTypes := #[T] }, ty, pos, af, gd⟩ ev h R :=
  st_val (fun _ G w ec _ he => ⟨.int .i64 0, by
    have h1 := he x (by simp [Op.operands, Call.operands]) _ hx
    simp only [rep] at h1
    simp [execOp, resolve, invoke, builtin, Builtin.len_, run_underlying (elm_spec hE.eq).1, h1, goInt], by simp only [rep]⟩) hR
end
end Go.Proofs.Ytaidkbnbfnaihaa
namespace Go.Proofs.Ytaidkbnbfnaihaa
open Go.RowKit

inductive FillA (pl : List (Nat × Nat)) (ev : Operand → Option AV) : List AV → List (Nat × Operand) → List AV → Prop
  | nil (cs : List AV) : FillA pl ev cs [] cs
  | cons (cs cs' cs'' : List AV) (i : Nat) (o : Operand) (ps : List (Nat × Operand)) (x : AV) (off sz : Nat) : ev o = some x → pl[i]? = some (off, sz) → onesA (cellsA x) = true → Nat.beq (cellsA x).length sz = true → Nat.blt 0 sz = true →
      SetAt cs off (cellsA x) cs' → FillA pl ev cs' ps cs'' → FillA pl ev cs ((i, o) :: ps) cs''
theorem foldl_setL (off : Nat) : ∀ (vs : List Value) (s : Nat) (us : List Value), (vs.zipIdx s).foldl (fun cs (x : Value × Nat) => cs.setIfInBounds (off + x.2) x.1) us.toArray = (setL us (off + s) vs).toArray
  | [], _, _ => rfl
  | v :: vs, s, us => by
    simp only [List.zipIdx_cons, List.foldl_cons, List.setIfInBounds_toArray, setL]
    exact foldl_setL off vs (s + 1) (us.set (off + s) v)
theorem FillA.run {pl : List (Nat × Nat)} {ev : Operand → Option AV} {G : Gh} {w : World} {ec : Operand → Value} {place : Nat → Option (Nat × Nat)} {cs : List AV} {ps : List (Nat × Operand)} {cs' : List AV} (hf : FillA pl ev cs ps cs')
    (hpl : ∀ i p, pl[i]? = some p → place i = some p) (he : ∀ p ∈ ps, ∀ av, ev p.2 = some av → rep G w av (ec p.2)) : ∀ {us : List Value}, repL G w cs us → (∀ u ∈ us, u.oneCell' = true) →
      ∃ us', Instr.fill place us.toArray (ps.map fun p => (p.1, ec p.2)) = some us'.toArray ∧ repL G w cs' us' ∧ ∀ u ∈ us', u.oneCell' = true := by
  induction hf with
  | nil cs => intro us h1 h2; exact ⟨us, rfl, h1, h2⟩
  | cons cs cs' cs'' i o ps x off sz h1 h2 h3 h4 h5 h6 _ ih =>
    intro us k1 k2
    obtain ⟨vs, m1, m2⟩ := rep_cells (he (i, o) (by simp) _ h1) h3
    obtain ⟨q1, q2⟩ := h6.rep k1 m2
    have hl := Nat.eq_of_beq_eq_true h4
    have hp : 0 < sz := Nat.le_of_ble_eq_true h5
    have hvl := repL_length m2
    have hne : cellsA x ≠ [] := fun e => by rw [e] at hl; simp at hl; omega
    rw [if_neg hne] at q2
    obtain ⟨us', r1, r2, r3⟩ := ih (fun p hp => he p (by simp [hp])) q1 (fun u hu => by
      rcases setL_mem vs us off u hu with e | e
      · exact k2 u e
      · exact repL_ones m2 h3 u e)
    refine ⟨us', ?_, r2, r3⟩
    simp only [List.map_cons, Instr.fill, hpl i _ h2]
    rw [if_neg (by simp only [m1, List.size_toArray, Bool.or_eq_true, decide_eq_true_eq, not_or]; simp; omega)]
    rw [← r1, m1]
    congr 1
    have := foldl_setL off vs 0 us
    rw [Nat.add_zero] at this
    rw [← this, ← Array.foldl_toList]
    simp
theorem FillA.idx {pl : List (Nat × Nat)} {ev : Operand → Option AV} {cs : List AV} {ps : List (Nat × Operand)} {cs' : List AV} (hf : FillA pl ev cs ps cs') : ∀ p ∈ ps, ∃ q, pl[p.1]? = some q := by
  induction hf with
  | nil => simp
  | cons cs cs' cs'' i o ps x off sz h1 h2 _ _ _ _ _ ih =>
    intro p hq
    rcases List.mem_cons.1 hq with e | e
    · subst e; exact ⟨_, h2⟩
    · exact ih p e
section
variable {P : Program} {ev : Operand → Option AV} {h : AH} {R : AV → AH → Prop} {d : Option Tmp} {ty : TypeId} {pos : String} {af : Array Edge} {gd : Option (Nat × Bool)}
theorem run_buildA {T : Nat} {pl : List (Nat × Nat)} {zs : List Value} (hp : plcOf P T = some pl) (hz : zerOf P T = some zs) {place : Nat → Option (Nat × Nat)} {parts : List (Nat × Value)} {cells : List Value} (hall : ∀ p ∈ parts, ∃ q, pl[p.1]? = some q)
    (hf : ∀ place : Nat → Option (Nat × Nat), (∀ i p, pl[i]? = some p → place i = some p) → Instr.fill place zs.toArray parts = some cells.toArray) (w : World) : (Instr.build T parts.toArray).run P w = .ok (.agg cells.toArray) w := by
  refine run_build w T _ cells.toArray ?_
  obtain ⟨i, z, k1, k2, k3⟩ := zer_spec hz
  unfold plcOf at hp
  unfold Program.built
  rw [k1]
  cases hu : P.underlying T with
  | none => simp [hu] at hp
  | some dsc =>
    cases dsc <;> try (simp [hu] at hp; done)
    case array n e =>
      cases hi : P.info? e with
      | none => simp [hu, hi] at hp
      | some ie =>
        simp only [hu, hi, Option.map_some, Option.some.injEq] at hp
        simp only [k2, hi, k3]
        refine hf _ fun i p hi => ?_
        subst hp
        rw [List.getElem?_map] at hi
        cases hr : (List.range n)[i]? with
        | none => rw [hr] at hi; cases hi
        | some k =>
          rw [hr] at hi
          have : k = i := by
            obtain ⟨h1, h2⟩ := List.getElem?_eq_some_iff.1 hr
            simp at h2
            exact h2.symm
          subst this
          simpa using hi
    case struct fs =>
      simp only [hu] at hp
      simp only [k2, hp, k3]
      exact hf _ fun i p hi => by simpa using hi
theorem st_build {T : TypeId} {l : List (Nat × Operand)} {pl : List (Nat × Nat)} {row cs : List AV} [hp : Plc P T pl] [hz : Zer P T row] (hf : FillA pl ev row l cs) (hR : R (.agg cs) h) : AStep P ⟨d, .build T l.toArray, ty, pos, af, gd⟩ ev h R := by
  refine st_val (fun _ G w ec _ he => ?_) hR
  obtain ⟨zs, hz1, hrow, hz2⟩ := hz.eq
  have hrep : repL G w row zs := hrow ▸ repL_vs zs
  have hev : ∀ p ∈ l, ∀ av, ev p.2 = some av → rep G w av (ec p.2) := fun p hp av hav => he p.2 (by simp only [Op.operands]; simp; exact ⟨p.1, hp⟩) av hav
  obtain ⟨us', k1, k2, k3⟩ := hf.run (place := fun i => pl[i]?) (fun i p h => h) hev hrep (List.all_eq_true.1 hz2)
  have hrun := run_buildA (P := P) hp.eq hz1 (place := fun i => pl[i]?) (parts := l.map fun p => (p.1, ec p.2)) (cells := us') (fun p hp => by
    obtain ⟨q, hq, rfl⟩ := List.mem_map.1 hp
    exact hf.idx q hq) (fun place hpl => by
    obtain ⟨us'', m1, m2, _⟩ := hf.run (place := place) hpl hev hrep (List.all_eq_true.1 hz2)
    have key : ∀ (ps : List (Nat × Value)) (cells : Array Value), (∀ p ∈ ps, ∃ q, pl[p.1]? = some q) → Instr.fill place cells ps = Instr.fill (fun i => pl[i]?) cells ps := by
      intro ps
      induction ps with
      | nil => intro cells _; rfl
      | cons p ps ih =>
        intro cells hq
        obtain ⟨q, hq1⟩ := hq p (by simp)
        obtain ⟨i, v⟩ := p
        simp only [Instr.fill, hpl i q hq1, hq1]
        split
        · rfl
        · exact ih _ (fun p hp => hq p (by simp [hp]))
    rw [key _ _ (fun p hp => by
      obtain ⟨q, hq, rfl⟩ := List.mem_map.1 hp
      exact hf.idx q hq)]
    exact k1) w
  refine ⟨.agg us'.toArray, ?_, by simp only [rep]; exact ⟨us', rfl, k2⟩⟩
  simp only [execOp, Sem.run_bind, List.map_toArray, hrun, Result.andThen_ok, Sem.run_pure]
end

def FlatR (St : Nat → Nat → Prop) (w : World) (sz : Nat) (rows : List (List AV)) (us : List Value) : Prop :=
  us.length = rows.length * sz ∧ (∀ r ∈ rows, r.length = sz) ∧ (∀ u ∈ us, u.oneCell' = true) ∧ ∀ (i : Nat) (r : List AV) (k : Nat) (x : AV), rows[i]? = some r → r[k]? = some x → ∃ u, us[i * sz + k]? = some u ∧ fro St w x u
theorem FlatR.nil (St : Nat → Nat → Prop) (w : World) (sz : Nat) : FlatR St w sz [] [] := ⟨by simp, by simp, by simp, by simp⟩
theorem FlatR.append {St : Nat → Nat → Prop} {w : World} {sz : Nat} {rows rows' : List (List AV)} {us us' : List Value} (h : FlatR St w sz rows us) (h' : FlatR St w sz rows' us') : FlatR St w sz (rows ++ rows') (us ++ us') := by
  obtain ⟨a1, a2, a3, a4⟩ := h
  obtain ⟨b1, b2, b3, b4⟩ := h'
  refine ⟨by simp [a1, b1, Nat.add_mul], ?_, ?_, ?_⟩
  · intro r hr
    rcases List.mem_append.1 hr with e | e
    · exact a2 r e
    · exact b2 r e
  · intro r hr
    rcases List.mem_append.1 hr with e | e
    · exact a3 r e
    · exact b3 r e
  · intro i r k x hi hk
    rcases Nat.lt_or_ge i rows.length with hlt | hge
    · rw [List.getElem?_append_left hlt] at hi
      obtain ⟨u, h1, h2⟩ := a4 i r k x hi hk
      exact ⟨u, by rw [List.getElem?_append_left (List.getElem?_eq_some_iff.1 h1).1]; exact h1, h2⟩
    · rw [List.getElem?_append_right hge] at hi
      obtain ⟨u, h1, h2⟩ := b4 _ r k x hi hk
      refine ⟨u, ?_, h2⟩
      have e : i * sz + k = us.length + ((i - rows.length) * sz + k) := by
        rw [a1, Nat.sub_mul]
        have : rows.length * sz ≤ i * sz := Nat.mul_le_mul_right sz hge
        omega
      rw [e, List.getElem?_append_right (by omega)]
      simpa using h1
theorem FlatR.mono {St St' : Nat → Nat → Prop} {w w' : World} {sz : Nat} {rows : List (List AV)} {us : List Value} (h : FlatR St w sz rows us) (hst : ∀ b o, St b o → St' b o ∧ w'.cell? ⟨b, o, none⟩ = w.cell? ⟨b, o, none⟩) : FlatR St' w' sz rows us :=
  ⟨h.1, h.2.1, h.2.2.1, fun i r k x hi hk => let ⟨u, h1, h2⟩ := h.2.2.2 i r k x hi hk; ⟨u, h1, fro_mono hst x u h2⟩⟩
theorem FlatR.froR {St : Nat → Nat → Prop} {w : World} {sz b off : Nat} {rows : List (List AV)} {us : List Value} (h : FlatR St w sz rows us) (hc : ∀ j u, us[j]? = some u → St b (off + j) ∧ w.cell? ⟨b, off + j, none⟩ = some u) : froR St w b sz rows off := by
  refine froR_of fun i r hi => ⟨h.2.1 r (List.mem_of_getElem? hi), froC_of fun k x hk => ?_⟩
  obtain ⟨u, h1, h2⟩ := h.2.2.2 i r k x hi hk
  obtain ⟨c1, c2⟩ := hc _ u h1
  rw [← Nat.add_assoc] at c1 c2
  exact ⟨c1, u, c2, h.2.2.1 u (List.mem_of_getElem? h1), h2⟩
theorem froC_flat {St : Nat → Nat → Prop} {w : World} {b : Nat} {r : List AV} {off : Nat} (hc : froC St w b r off) : ∃ us : List Value, us.length = r.length ∧ froL St w r us ∧ (∀ u ∈ us, u.oneCell' = true) ∧ ∀ j u, us[j]? = some u → w.cell? ⟨b, off + j, none⟩ = some u := by
  obtain ⟨us, h1, h2, h3⟩ := froC_cells hc
  exact ⟨us, froL_length h1, h1, h2, h3⟩
theorem froL_get {St : Nat → Nat → Prop} {w : World} : ∀ {xs : List AV} {ys : List Value}, froL St w xs ys → ∀ {i : Nat} {x : AV}, xs[i]? = some x → ∃ y, ys[i]? = some y ∧ fro St w x y
  | [], _, _, i, x, hi => by simp at hi
  | x :: xs, _, h, i, x', hi => by
    simp only [froL] at h
    obtain ⟨z, zs, rfl, h2, h3⟩ := h
    cases i with
    | zero => simp at hi; subst hi; exact ⟨z, by simp, h2⟩
    | succ i => simp only [List.getElem?_cons_succ] at hi ⊢; exact froL_get h3 hi
theorem FlatR.one {St : Nat → Nat → Prop} {w : World} {sz : Nat} {r : List AV} {us : List Value} (hl : r.length = sz) (hf : froL St w r us) (h1 : ∀ u ∈ us, u.oneCell' = true) : FlatR St w sz [r] us := by
  refine ⟨by simp [froL_length hf, hl], by simp [hl], h1, fun i r' k x hi hk => ?_⟩
  cases i with
  | zero => simp at hi; subst hi; obtain ⟨y, h1, h2⟩ := froL_get hf hk; exact ⟨y, by simpa using h1, h2⟩
  | succ i => simp at hi
theorem froR_flat {St : Nat → Nat → Prop} {w : World} {b sz : Nat} : ∀ {rs : List (List AV)} {off : Nat}, froR St w b sz rs off → ∃ us : List Value, FlatR St w sz rs us ∧ ∀ j u, us[j]? = some u → w.cell? ⟨b, off + j, none⟩ = some u
  | [], _, _ => ⟨[], FlatR.nil _ _ _, by simp⟩
  | r :: rs, off, h => by
    simp only [Go.Proofs.Ytaidkbnbfnaihaa.froR] at h
    obtain ⟨us, a1, a2, a3, a4⟩ := froC_flat h.1.2
    obtain ⟨vs, b1, b2⟩ := froR_flat h.2
    refine ⟨us ++ vs, FlatR.append (FlatR.one h.1.1 a2 a3) b1, fun j u hj => ?_⟩
    rcases Nat.lt_or_ge j us.length with hlt | hge
    · rw [List.getElem?_append_left hlt] at hj
      exact a4 j u hj
    · rw [List.getElem?_append_right hge] at hj
      have := b2 _ u hj
      rwa [show off + sz + (j - us.length) = off + j by rw [a1, h.1.1] at hge ⊢; omega] at this
theorem fro_flat {St : Nat → Nat → Prop} {w : World} {sz : Nat} {rows : List (List AV)} {y : Value} (h : fro St w (.sl sz rows none) y) : ∃ A cap us, y = .slice A rows.length cap ∧ rows.length ≤ cap ∧ cap ≤ maxLen ∧ FlatR St w sz rows us ∧
    (rows ≠ [] → ∃ b off, A = some ⟨b, off, none⟩ ∧ ∀ j u, us[j]? = some u → w.cell? ⟨b, off + j, none⟩ = some u) := by
  simp only [fro] at h
  obtain ⟨_, A, cap, h1, h2, h3, h4⟩ := h
  rcases h4 with h4 | ⟨b, off, h5, h6⟩
  · subst h4
    exact ⟨A, cap, [], h1, h2, h3, FlatR.nil _ _ _, fun h => absurd rfl h⟩
  · obtain ⟨us, k1, k2⟩ := froR_flat h6
    exact ⟨A, cap, us, h1, h2, h3, k1, fun _ => ⟨b, off, h5, k2⟩⟩
end Go.Proofs.Ytaidkbnbfnaihaa
namespace Go.Proofs.Ytaidkbnbfnaihaa
open Go.RowKit

mutual
def cln : AV → Bool
  | .v _ => true
  | .agg cs => clnL cs
  | .tup cs => clnL cs
  | .sl _ _ none => true
  | .sl _ _ (some _) => false
  | .fp _ => true
  | .bp _ _ => false
  | .bs _ _ _ _ _ => false
  | .fn _ caps => clnL caps
  | .any => true
def clnL : List AV → Bool
  | [] => true
  | x :: xs => cln x && clnL xs
end
mutual
theorem era_clean : ∀ (x : AV), cln x = true → era x = x
  | .v _, _ => by simp only [era]
  | .agg cs, h => by simp only [cln] at h; simp only [era, eraL_clean cs h]
  | .tup cs, h => by simp only [cln] at h; simp only [era, eraL_clean cs h]
  | .sl _ _ none, _ => by simp only [era]
  | .sl _ _ (some _), h => by simp [cln] at h
  | .fp _, _ => by simp only [era]
  | .bp _ _, h => by simp [cln] at h
  | .bs _ _ _ _ _, h => by simp [cln] at h
  | .fn _ caps, h => by simp only [cln] at h; simp only [era, eraL_clean caps h]
  | .any, _ => by simp only [era]
theorem eraL_clean : ∀ (xs : List AV), clnL xs = true → eraL xs = xs
  | [], _ => by simp only [eraL]
  | x :: xs, h => by
    simp only [clnL, Bool.and_eq_true] at h
    simp only [eraL, era_clean x h.1, eraL_clean xs h.2]
end
inductive DenseA (sz : Nat) (ev : Operand → Option AV) : Nat → List (Nat × Operand) → List (List AV) → Prop
  | nil (i : Nat) : DenseA sz ev i [] []
  | cons (i : Nat) (o : Operand) (ps : List (Nat × Operand)) (x : AV) (rows : List (List AV)) : ev o = some x → onesA (cellsA x) = true → Nat.beq (cellsA x).length sz = true → clnL (cellsA x) = true → DenseA sz ev (i + 1) ps rows → DenseA sz ev i ((i, o) :: ps) (cellsA x :: rows)
  | consE (i : Nat) (o : Operand) (ps : List (Nat × Operand)) (x : AV) (rows : List (List AV)) : ev o = some x → onesA (cellsA x) = true → Nat.beq (cellsA x).length sz = true → DenseA sz ev (i + 1) ps rows → DenseA sz ev i ((i, o) :: ps) (eraL (cellsA x) :: rows)
def RowsV (St : Nat → Nat → Prop) (w : World) (sz : Nat) : List (List AV) → List Value → Prop
  | [], vs => vs = []
  | r :: rs, vs => ∃ v vs', vs = v :: vs' ∧ r.length = sz ∧ (∃ us : List Value, v.cells = us.toArray ∧ froL St w r us ∧ ∀ u ∈ us, u.oneCell' = true) ∧ RowsV St w sz rs vs'
theorem eraL_length : ∀ (xs : List AV), (eraL xs).length = xs.length
  | [] => rfl
  | x :: xs => by simp only [eraL, List.length_cons, eraL_length xs]
theorem DenseA.vals {sz : Nat} {ev : Operand → Option AV} {G : Gh} {w : World} {ec : Operand → Value} {i : Nat} {ps : List (Nat × Operand)} {rows : List (List AV)} (hd : DenseA sz ev i ps rows) (he : ∀ p ∈ ps, ∀ av, ev p.2 = some av → rep G w av (ec p.2)) :
    ∃ vs, RowsV G.St w sz rows vs ∧ ps.map (fun p => (p.1, ec p.2)) = (vs.zipIdx i).map (fun x => (x.2, x.1)) ∧ vs.length = rows.length := by
  induction hd with
  | nil i => exact ⟨[], by simp only [RowsV], rfl, rfl⟩
  | cons i o ps x rows h1 h2 h3 h4 _ ih =>
    obtain ⟨vs, k1, k2, k3⟩ := ih (fun p hp => he p (by simp [hp]))
    obtain ⟨us, m1, m2⟩ := rep_cells (he (i, o) (by simp) _ h1) h2
    refine ⟨ec o :: vs, ?_, by simp [k2], by simp [k3]⟩
    simp only [RowsV]
    have := froL_era _ _ m2
    rw [eraL_clean _ h4] at this
    exact ⟨_, _, rfl, Nat.eq_of_beq_eq_true h3, ⟨us, m1, this, repL_ones m2 h2⟩, k1⟩
  | consE i o ps x rows h1 h2 h3 _ ih =>
    obtain ⟨vs, k1, k2, k3⟩ := ih (fun p hp => he p (by simp [hp]))
    obtain ⟨us, m1, m2⟩ := rep_cells (he (i, o) (by simp) _ h1) h2
    refine ⟨ec o :: vs, ?_, by simp [k2], by simp [k3]⟩
    simp only [RowsV]
    exact ⟨_, _, rfl, by rw [eraL_length]; exact Nat.eq_of_beq_eq_true h3, ⟨us, m1, froL_era _ _ m2, repL_ones m2 h2⟩, k1⟩
theorem RowsV.sizes {St : Nat → Nat → Prop} {w : World} {sz : Nat} : ∀ {rows : List (List AV)} {vs : List Value}, RowsV St w sz rows vs → (∀ v ∈ vs, v.cells.size = sz) ∧ vs.length = rows.length
  | [], _, h => by simp only [RowsV] at h; subst h; simp
  | r :: rs, _, h => by
    simp only [RowsV] at h
    obtain ⟨v, vs, rfl, h1, ⟨us, h2, h3, _⟩, h4⟩ := h
    obtain ⟨k1, k2⟩ := RowsV.sizes h4
    refine ⟨?_, by simp [k2]⟩
    intro y hy
    rcases List.mem_cons.1 hy with e | e
    · rw [e, h2]; simp [froL_length h3, h1]
    · exact k1 y e
theorem RowsV.get {St : Nat → Nat → Prop} {w : World} {sz : Nat} : ∀ {rows : List (List AV)} {vs : List Value}, RowsV St w sz rows vs → ∀ {i : Nat} {r : List AV}, rows[i]? = some r → r.length = sz ∧ ∃ v us, vs[i]? = some v ∧ v.cells = List.toArray us ∧ froL St w r us ∧ ∀ u ∈ us, u.oneCell' = true
  | [], _, _, i, r, hi => by simp at hi
  | r :: rs, _, h, i, r', hi => by
    simp only [RowsV] at h
    obtain ⟨v, vs, rfl, h1, ⟨us, h2, h3, h3'⟩, h4⟩ := h
    cases i with
    | zero => simp at hi; subst hi; exact ⟨h1, v, us, by simp, h2, h3, h3'⟩
    | succ i => simp only [List.getElem?_cons_succ] at hi ⊢; exact RowsV.get h4 hi
theorem RowsV.fill {St : Nat → Nat → Prop} {w : World} {sz : Nat} {rows : List (List AV)} {vs : List Value} (h : RowsV St w sz rows vs) (hs : 0 < sz) (cells : Array Value) (hc : cells.size = rows.length * sz) :
    ∃ us : List Value, Instr.fill (fun i => some (i * sz, sz)) cells ((vs.zipIdx 0).map fun x => (x.2, x.1)) = some us.toArray ∧ FlatR St w sz rows us := by
  obtain ⟨k1, k2⟩ := h.sizes
  obtain ⟨r, h1, h2, h3⟩ := Great.fill_dense hs vs 0 cells k1 (by rw [Nat.zero_add, k2, hc]; exact Nat.le_refl _)
  have key : ∀ (i : Nat) (row : List AV) (k : Nat), rows[i]? = some row → k < sz → ∃ us : List Value, froL St w row us ∧ (∀ u ∈ us, u.oneCell' = true) ∧ r[i * sz + k]? = us[k]? := by
    intro i row k hi hk
    obtain ⟨q1, v, us, q2, q3, q4, q5⟩ := h.get hi
    refine ⟨us, q4, q5, ?_⟩
    have hilt : i < vs.length := (List.getElem?_eq_some_iff.1 q2).1
    have hle : (i + 1) * sz ≤ vs.length * sz := Nat.mul_le_mul_right sz hilt
    rw [Nat.add_mul] at hle
    rw [h3, if_pos ⟨by simp, by rw [Nat.zero_add]; omega⟩]
    have e1 : (i * sz + k) / sz = i := by rw [Nat.add_comm, Nat.mul_comm, Nat.add_mul_div_left _ _ hs, Nat.div_eq_of_lt hk, Nat.zero_add]
    have e2 : (i * sz + k) % sz = k := by rw [Nat.add_comm, Nat.mul_comm, Nat.add_mul_mod_self_left, Nat.mod_eq_of_lt hk]
    rw [e1, e2, Nat.sub_zero, q2, Option.bind_some, q3]
    simp
  refine ⟨r.toList, by rw [h1], ?_, ?_, ?_, ?_⟩
  · rw [Array.length_toList, h2, hc]
  · intro row hrow
    obtain ⟨i, hi⟩ := List.mem_iff_getElem?.1 hrow
    exact (h.get hi).1
  · intro u hu
    obtain ⟨j, hj⟩ := List.mem_iff_getElem?.1 hu
    have hjl : j < rows.length * sz := by
      have := (List.getElem?_eq_some_iff.1 hj).1
      rwa [Array.length_toList, h2, hc] at this
    have hq : j / sz < rows.length := (Nat.div_lt_iff_lt_mul hs).2 hjl
    obtain ⟨us, _, m2, m3⟩ := key (j / sz) _ (j % sz) (List.getElem?_eq_getElem hq) (Nat.mod_lt _ hs)
    have e : j / sz * sz + j % sz = j := by have := Nat.div_add_mod j sz; rw [Nat.mul_comm] at this; exact this
    rw [e] at m3
    rw [Array.getElem?_toList, m3] at hj
    exact m2 u (List.mem_of_getElem? hj)
  · intro i row k x hi hk
    have hkl : k < sz := by
      have := (List.getElem?_eq_some_iff.1 hk).1
      rwa [(h.get hi).1] at this
    obtain ⟨us, m1, _, m3⟩ := key i row k hi hkl
    obtain ⟨y, n1, n2⟩ := froL_get m1 hk
    exact ⟨y, by rw [Array.getElem?_toList, m3]; exact n1, n2⟩
theorem new_rows {E : Env} {G : Gh} {h : AH} {w : World} (hr : HRel E G h w) {sz : Nat} {rows : List (List AV)} {us : List Value} {T : TypeId} (hf : FlatR G.St w sz rows us) (hlen : rows.length ≤ maxLen) :
    ∃ G', HRel E G' h (w.alloc (.cells us.toArray T)) ∧ Ext G w G' (w.alloc (.cells us.toArray T)) ∧ fro G'.St (w.alloc (.cells us.toArray T)) (.sl sz rows none) (.slice (some ⟨w.heap.size, 0, none⟩) rows.length rows.length) ∧
      (∀ o, G'.St w.heap.size o → o < us.length) ∧ G'.bx = G.bx ∧ G'.tk = G.tk := by
  obtain ⟨k1, k2⟩ := hr.grow (w' := w.alloc (.cells us.toArray T)) ((Below.refl _ _).alloc (Nat.le_refl _) _) (fun b o => b = w.heap.size ∧ o < us.length) (fun b o hb => by simp [hb.1])
  refine ⟨_, k1, k2, ?_, ?_, rfl, rfl⟩
  · simp only [fro]
    refine ⟨trivial, _, _, rfl, Nat.le_refl _, hlen, ?_⟩
    by_cases h0 : rows = []
    · exact .inl h0
    · refine .inr ⟨w.heap.size, 0, rfl, (hf.mono k2.st).froR fun j u hj => ?_⟩
      rw [Nat.zero_add]
      refine ⟨.inr ⟨rfl, (List.getElem?_eq_some_iff.1 hj).1⟩, ?_⟩
      simp only [World.cell?, heap_alloc_self]
      simpa using hj
  · rintro o (hs | hs)
    · have := hr.stlt _ _ hs
      omega
    · exact hs.2
section
variable {P : Program} {ev : Operand → Option AV} {h : AH} {R : AV → AH → Prop} {d : Option Tmp} {ty : TypeId} {pos : String} {af : Array Edge} {gd : Option (Nat × Bool)}
theorem run_slit {T len E sz bytes : Nat} {l : List (Nat × Operand)} {rows : List (List AV)} (hE : elmOf P T = some (E, sz, bytes)) (hd : DenseA sz ev 0 l rows) (hl : Nat.beq l.length len = true) (hsm : Nat.ble len 1000 = true) (hpos : Nat.blt 0 len = true) (hsz : Nat.ble sz 100 = true)
    {Ev : Env} {G : Gh} {w : World} {ec : Operand → Value} (_hr : HRel Ev G h w) (he : ∀ x ∈ (Op.buildSlice T len l.toArray).operands, ∀ av, ev x = some av → rep G w av (ec x)) :
    ∃ us : List Value, FlatR G.St w sz rows us ∧ rows.length = len ∧ len ≤ 1000 ∧ (Instr.buildSlice T len (l.toArray.map fun p => (p.1, ec p.2))).run P w = .ok (.slice (some ⟨w.heap.size, 0, none⟩) len len) (w.alloc (.cells us.toArray E)) := by
  obtain ⟨hu, inf, z, hinf, hz, hzs, hs, hby, hp⟩ := elm_spec hE
  have hev : ∀ p ∈ l, ∀ av, ev p.2 = some av → rep G w av (ec p.2) := fun p hp av hav => he p.2 (by simp only [Op.operands]; simp; exact ⟨p.1, hp⟩) av hav
  obtain ⟨vs, k1, k2, k3⟩ := hd.vals hev
  have hl' : l.length = len := Nat.eq_of_beq_eq_true hl
  have hsm' : len ≤ 1000 := Nat.le_of_ble_eq_true hsm
  have hpos' : 0 < len := Nat.le_of_ble_eq_true hpos
  have hsz' : sz ≤ 100 := Nat.le_of_ble_eq_true hsz
  have hrl : rows.length = len := by
    have := congrArg List.length k2
    simp at this
    omega
  obtain ⟨us, m1, m2⟩ := k1.fill hp ((Array.range (len * inf.size)).map (z.cells[· % z.cells.size]!)) (by simp [hs, hrl])
  refine ⟨us, m2, hrl, hsm', ?_⟩
  refine run_buildSlice w T E len _ us.toArray inf z hu hinf hz (by
    rw [hs]
    have : len * sz ≤ 1000 * 100 := Nat.mul_le_mul hsm' hsz'
    omega) (by rw [hs]; exact Nat.ne_of_gt (Nat.mul_pos hpos' hp)) ?_
  rw [hs] at m1 ⊢
  simp only [List.map_toArray]
  rw [k2]
  exact m1
theorem st_slit {T : TypeId} {len E sz bytes : Nat} {l : List (Nat × Operand)} {rows : List (List AV)} [hE : Elm P T E sz bytes] (hd : DenseA sz ev 0 l rows) (hl : Nat.beq l.length len = true) (hsm : Nat.ble len 1000 = true) (hpos : Nat.blt 0 len = true) (hsz : Nat.ble sz 100 = true) (hR : R (.sl sz rows none) h) :
    AStep P ⟨d, .buildSlice T len l.toArray, ty, pos, af, gd⟩ ev h R := by
  intro E' G w ec hr he
  obtain ⟨us, m2, hrl, hsm', hrun⟩ := run_slit hE.eq hd hl hsm hpos hsz hr he
  obtain ⟨G', q1, q2, q3, _⟩ := new_rows (T := E) hr m2 (by rw [hrl]; unfold maxLen; omega)
  simp only [execOp, Sem.run_bind, hrun, Result.andThen_ok, Sem.run_pure]
  refine ⟨_, _, G', hR, q1, q2, ?_⟩
  simp only [rep]
  rw [hrl] at q3
  exact q3

theorem HRel.addTok {E : Env} {G : Gh} {w : World} (hr : HRel E G h w) {T sz n : Nat} {u : Value} {rows : List (List AV)} (ht : TokAt E.w0.heap.size G w n u T sz rows) (hbx : ∀ b, u.ownBlock = some b → b ∉ G.bx) (htk : ∀ (g n' : Nat) (u' : Value), G.tk[g]? = some (n', u') → ∀ b, u.ownBlock = some b → u'.ownBlock ≠ some b) :
    HRel E ⟨G.St, G.bx, G.tk ++ [(n, u)]⟩ ⟨h.bx, h.tk ++ [(T, sz, rows)]⟩ w ∧ Ext G w ⟨G.St, G.bx, G.tk ++ [(n, u)]⟩ w := by
  have he : Ext G w ⟨G.St, G.bx, G.tk ++ [(n, u)]⟩ w := ⟨fun _ _ h => ⟨h, rfl⟩, fun _ _ h => h, fun g n' u' hg => ⟨n', u', by rw [List.getElem?_append_left (List.getElem?_eq_some_iff.1 hg).1]; exact hg, Nat.le_refl _, fun _ => rfl⟩⟩
  have split : ∀ (g n' : Nat) (u' : Value), (G.tk ++ [(n, u)])[g]? = some (n', u') → G.tk[g]? = some (n', u') ∨ (g = G.tk.length ∧ n' = n ∧ u' = u) := by
    intro g n' u' hg
    rcases Nat.lt_or_ge g G.tk.length with hlt | hge
    · rw [List.getElem?_append_left hlt] at hg; exact .inl hg
    · rw [List.getElem?_append_right hge] at hg
      have h0 : g - G.tk.length = 0 := by have := (List.getElem?_eq_some_iff.1 hg).1; simp at this; omega
      rw [h0] at hg
      simp at hg
      exact .inr ⟨by omega, hg.1.symm, hg.2.symm⟩
  refine ⟨⟨hr.inpre, hr.kept, hr.stlt, hr.stnew, hr.bxlen, hr.bxnd, hr.bxst, hr.bxown, ?_, by simp [hr.tklen], ?_, ?_, ?_⟩, he⟩
  · intro i b row hi hrow
    obtain ⟨us, T', h1, h2, h3⟩ := hr.box i b row hi hrow
    exact ⟨us, T', h1, repL_mono he _ _ h2, h3⟩
  · intro g n' u' T' sz' rows' hg ht'
    rcases split g n' u' hg with h1 | ⟨h1, h2, h3⟩
    · have hlt : g < h.tk.length := by rw [← hr.tklen]; exact (List.getElem?_eq_some_iff.1 h1).1
      simp only at ht'
      rw [List.getElem?_append_left hlt] at ht'
      exact hr.tok g n' u' T' sz' rows' h1 ht'
    · subst h1; subst h2; subst h3
      simp only [hr.tklen] at ht'
      simp at ht'
      obtain ⟨rfl, rfl, rfl⟩ := ht'
      exact ht
  · intro g n' u' hg b hb
    rcases split g n' u' hg with h1 | ⟨h1, h2, h3⟩
    · exact hr.tkbx g n' u' h1 b hb
    · subst h3; exact hbx b hb
  · intro g g' n1 n2 u1 u2 hg hg' hne b hb
    rcases split g n1 u1 hg with h1 | ⟨h1, h2, h3⟩
    · rcases split g' n2 u2 hg' with k1 | ⟨k1, k2, k3⟩
      · exact hr.tknd g g' n1 n2 u1 u2 h1 k1 hne b hb
      · subst k3; exact fun e => htk g n1 u1 h1 b e hb
    · rcases split g' n2 u2 hg' with k1 | ⟨k1, k2, k3⟩
      · subst h3; exact htk g' n2 u2 k1 b hb
      · exact absurd (h1.trans k1.symm) hne
theorem append_tok {E : Env} {G : Gh} {w : World} (hr : HRel E G h w) {T T' sz bytes : Nat} (hE : elmOf P T = some (T', sz, bytes)) (hby : bytes ≤ 100000) {g : Nat} {rows new : List (List AV)} {y s : Value} (hg : h.tk[g]? = some (T', sz, rows))
    (hs : rep G w (.sl sz rows (some g)) s) (hy : fro G.St w (.sl sz new none) y) (hsm : rows.length + new.length ≤ 1000000) (rt : TypeId) :
    ∃ v' w' G', (Builtin.append_ #[T, T] rt #[s, y]).run P w = .ok v' w' ∧ HRel E G' ⟨h.bx, h.tk.set g (T', sz, rows ++ new)⟩ w' ∧ Ext G w G' w' ∧ rep G' w' (.sl sz (rows ++ new) (some g)) v' := by
  obtain ⟨hu, inf, z, hinf, hz, hzs, hsz, hbts, hp⟩ := elm_spec hE
  simp only [rep] at hs
  obtain ⟨hs0, n, u, hn1, hn2, hn3⟩ := hs
  obtain ⟨tn, ⟨xs, town⟩, tsp⟩ := hr.tok g n u T' sz rows hn1 hg
  have hsu : s = u := hn3 tn.symm
  subst hsu
  subst tn
  obtain ⟨A, cap, vs, e1, e2, e3, e4, e5⟩ := fro_flat hy
  obtain ⟨A0, cap0, us0, f1, f2, f3, f4, f5⟩ := fro_flat hs0
  have hb0 : E.w0.heap.size ≤ w.heap.size := hr.kept.size
  -- the cells of what is there are xs
  have hxs : FlatR G.St w sz rows xs := by
    by_cases h0 : rows = []
    · subst h0
      have : xs = [] := List.eq_nil_of_length_eq_zero (by simpa using town.1)
      subst this
      exact FlatR.nil _ _ _
    · obtain ⟨b, off, q1, q2⟩ := f5 h0
      have : us0 = xs := by
        refine List.ext_getElem? fun j => ?_
        rcases Nat.lt_or_ge j (rows.length * sz) with hj | hj
        · have hj1 : j < us0.length := by rw [f4.1]; exact hj
          have hj2 : j < xs.length := by rw [town.1]; exact hj
          have a1 := q2 j _ (List.getElem?_eq_getElem hj1)
          rcases town.2 with ⟨c1, c2⟩ | ⟨gb, cp, cur, c1, c2, c3, c4, c5, c6, c7⟩
          · exact absurd c2 (by simp [h0])
          · rw [f1, q1] at c1
            injection c1 with c1 c1' c1''
            injection c1 with c1
            injection c1 with c1 c1o
            subst c1
            subst c1o
            have a2 : w.cell? ⟨b, 0 + j, none⟩ = cur[j]? := by simp only [World.cell?, c3]; simp
            rw [a2] at a1
            rw [List.getElem?_eq_getElem hj1, ← a1, ← c7, List.getElem?_take, if_pos hj, Array.getElem?_toList]
        · rw [List.getElem?_eq_none (by rw [f4.1]; exact hj), List.getElem?_eq_none (by rw [town.1]; exact hj)]
      rw [← this]
      exact f4
  -- the run
  have hrun : ∃ v' w', (Builtin.append_ #[T, T] rt #[s, y]).run P w = .ok v' w' ∧ w'.ownsRow E.w0.heap.size T' sz v' (rows.length + new.length) (xs ++ vs) ∧ w.grownBy w' s.ownBlock ∧ (v'.ownBlock = s.ownBlock ∨ (v'.ownBlock = some w.heap.size ∧ ∀ k, k < w.heap.size → w'.heap[k]? = w.heap[k]?)) := by
    by_cases h0 : new = []
    · subst h0
      have hv : vs = [] := List.eq_nil_of_length_eq_zero (by simpa using e4.1)
      subst hv
      rcases A with _ | ad
      · refine ⟨s, w, ?_, by simpa using town, World.grownBy.refl w _, .inl rfl⟩
        rw [e1]
        rcases town.2 with ⟨c1, c2⟩ | ⟨gb, cp, cur, c1, c2, c3, c4, c5, c6, c7⟩
        · simp [Builtin.append_, run_underlying hu, sizeOf, typeInfo, hinf, Builtin.lenOf, Builtin.firstCells, c1]
        · simp [Builtin.append_, run_underlying hu, sizeOf, typeInfo, hinf, Builtin.lenOf, Builtin.firstCells, c1, c4, storeCells]
      · rw [e1]
        obtain ⟨v', w', r1, r2, r3, r4, r5⟩ := run_append_own_at (P := P) w E.w0.heap.size T rt T' inf z sz bytes hu hinf hz hsz hbts hzs hp s rows.length xs town ad 0 cap [] (by simp) (by simp) (by simp) (by unfold maxLen; omega) (by
          have : (rows.length + 0) * bytes ≤ 1000000 * 100000 := Nat.mul_le_mul (by omega) hby
          omega) hb0
        refine ⟨v', w', r1, by simpa using r2, r3, .inl ?_⟩
        rcases town.2 with ⟨c1, c2⟩ | ⟨gb, cp, cur, c1, c2, c3, c4, c5, c6, c7⟩
        · rw [r4.2 ⟨c1, rfl⟩, c1]
        · have hroom := run_append_room (P := P) w T rt T' inf hu hinf gb rows.length cp cur c3 ad 0 cap [] (by simp) (by simp) (by simp) (by omega) (by rw [c6, hsz]; simp; exact Nat.mul_le_mul_right _ c4)
          rw [← c1, r1] at hroom
          injection hroom with e _
          rw [e, c1]
          simp [Value.ownBlock]
    · obtain ⟨b, off, q1, q2⟩ := e5 h0
      subst q1
      rw [e1]
      have hnl : 0 < new.length := by cases new with | nil => exact absurd rfl h0 | cons => simp
      have hnews : ∀ j u, vs[j]? = some u → w.cell? ((⟨b, off, none⟩ : Addr).add j) = some u := fun j u hj => by rw [Addr.add_mid]; exact q2 j u hj
      have hbt : (rows.length + new.length) * bytes ≤ 140737488355328 := by
        have : (rows.length + new.length) * bytes ≤ 1000000 * 100000 := Nat.mul_le_mul hsm hby
        omega
      obtain ⟨v', w', r1, r2, r3, r4, r5⟩ := run_append_own_at (P := P) w E.w0.heap.size T rt T' inf z sz bytes hu hinf hz hsz hbts hzs hp s rows.length xs town ⟨b, off, none⟩ new.length cap vs (by rw [e4.1]) hnews e4.2.2.1 (by unfold maxLen; omega) hbt hb0
      refine ⟨v', w', r1, r2, r3, ?_⟩
      rcases town.2 with ⟨c1, c2⟩ | ⟨gb, cp, cur, c1, c2, c3, c4, c5, c6, c7⟩
      · rcases r5 with r5 | r5
        · exact .inl r5
        · exact .inr ⟨r5, fun k hk => r3.block k hk (by rw [c1]; simp [Value.ownBlock])⟩
      · by_cases hroom : rows.length + new.length ≤ cp
        · refine .inl ?_
          have hh := run_append_room (P := P) w T rt T' inf hu hinf gb rows.length cp cur c3 ⟨b, off, none⟩ new.length cap vs (by rw [e4.1, hsz]) hnews e4.2.2.1 hroom (by rw [e4.1, c6, hsz, ← Nat.add_mul]; exact Nat.mul_le_mul_right _ hroom)
          rw [← c1, r1] at hh
          injection hh with e _
          rw [e, c1]
          simp [Value.ownBlock]
        · refine .inr ?_
          have holds : ∀ j u, xs[j]? = some u → w.cell? ((⟨gb, 0, none⟩ : Addr).add j) = some u := town.cells (g := gb) (by rw [c1]; rfl)
          have hh := run_append_grow (P := P) w T rt T' inf z hu hinf hz ⟨gb, 0, none⟩ rows.length cp xs (by rw [town.1, hsz]) holds ⟨b, off, none⟩ new.length cap vs (by rw [e4.1, hsz]) hnews (by omega) (by omega) (growslice_fits (by omega) (by rw [hbts]; exact hbt))
          rw [← c1, r1] at hh
          injection hh with ea eb
          refine ⟨by rw [ea]; simp [Value.ownBlock], fun k hk => ?_⟩
          rw [eb]
          exact Below.heap_alloc w.drew _ k hk
  obtain ⟨v', w', r1, r2, r3, r5⟩ := hrun
  -- what stays now
  refine ⟨v', w', ⟨fun b o => G.St b o ∨ (v'.ownBlock = some b ∧ o < (rows.length + new.length) * sz), G.bx, G.tk.set g (rows.length + new.length, v')⟩, r1, ?_⟩
  have hvlt := World.ownsRow.lt r2
  have hold : ∀ b, s.ownBlock = some b → E.w0.heap.size ≤ b ∧ b < w.heap.size := fun b hb => hr.toklt hn1 hb
  have hcells : ∀ b o u, v'.ownBlock = some b → (xs ++ vs)[o]? = some u → w'.cell? ⟨b, o, none⟩ = some u := by
    intro b o u hb ho
    rcases r2.2 with ⟨c1, c2⟩ | ⟨gb, cp, cur, c1, c2, c3, c4, c5, c6, c7⟩
    · rw [c1] at hb; simp [Value.ownBlock] at hb
    · rw [c1] at hb
      simp [Value.ownBlock] at hb
      subst hb
      have hlt : o < (rows.length + new.length) * sz := by
        have := (List.getElem?_eq_some_iff.1 ho).1
        rwa [r2.1] at this
      simp only [World.cell?, c3]
      rw [← c7, List.getElem?_take, if_pos hlt, Array.getElem?_toList] at ho
      simpa using ho
  have hst : ∀ b o, G.St b o → (G.St b o ∨ (v'.ownBlock = some b ∧ o < (rows.length + new.length) * sz)) ∧ w'.cell? ⟨b, o, none⟩ = w.cell? ⟨b, o, none⟩ := by
    intro b o hb
    refine ⟨.inl hb, ?_⟩
    by_cases hbs : s.ownBlock = some b
    · have hlt : o < rows.length * sz := Nat.lt_of_not_le fun hle => tsp b hbs o hle hb
      rcases r5 with r5 | ⟨r5, r6⟩
      · have ho : o < xs.length := by rw [town.1]; exact hlt
        have c := hcells b o xs[o] (by rw [r5]; exact hbs) (by rw [List.getElem?_append_left ho]; exact List.getElem?_eq_getElem ho)
        rw [c]
        rcases town.2 with ⟨c1, c2⟩ | ⟨gb, cp, cur, c1, c2, c3, c4, c5, c6, c7⟩
        · rw [c1] at hbs; simp [Value.ownBlock] at hbs
        · rw [c1] at hbs
          simp [Value.ownBlock] at hbs
          subst hbs
          have hx : xs[o]? = cur[o]? := by rw [← c7, List.getElem?_take, if_pos hlt, Array.getElem?_toList]
          rw [List.getElem?_eq_getElem ho] at hx
          simp only [World.cell?, c3]
          simpa using hx
      · exact World.cell?_of_block (w := w) (a := ⟨b, o, none⟩) (r6 b (hold b hbs).2)
    · exact World.cell?_of_block (w := w) (a := ⟨b, o, none⟩) (r3.block b (hr.stlt b o hb) (fun e => hbs e.symm))
  have hgl : g < G.tk.length := (List.getElem?_eq_some_iff.1 hn1).1
  have hext : Ext G w ⟨fun b o => G.St b o ∨ (v'.ownBlock = some b ∧ o < (rows.length + new.length) * sz), G.bx, G.tk.set g (rows.length + new.length, v')⟩ w' := by
    refine ⟨hst, fun _ _ h => h, fun g' n' u' hg' => ?_⟩
    by_cases hgg : g = g'
    · subst hgg
      rw [hn1] at hg'
      injection hg' with hg'
      injection hg' with e1' e2'
      subst e1'
      subst e2'
      refine ⟨_, _, List.getElem?_set_self hgl, by omega, fun e => ?_⟩
      have hnew : new = [] := List.eq_nil_of_length_eq_zero (by omega)
      subst hnew
      have : v' = s := by
        rcases A with _ | ad
        · rw [e1] at r1
          rcases town.2 with ⟨c1, c2⟩ | ⟨gb, cp, cur, c1, c2, c3, c4, c5, c6, c7⟩
          · simp [Builtin.append_, run_underlying hu, sizeOf, typeInfo, hinf, Builtin.lenOf, Builtin.firstCells, c1] at r1
            rw [← r1.1, c1]
          · simp [Builtin.append_, run_underlying hu, sizeOf, typeInfo, hinf, Builtin.lenOf, Builtin.firstCells, c1, c4, storeCells] at r1
            rw [← r1.1, c1]
        · rw [e1] at r1
          rcases town.2 with ⟨c1, c2⟩ | ⟨gb, cp, cur, c1, c2, c3, c4, c5, c6, c7⟩
          · simp [Builtin.append_, run_underlying hu, sizeOf, typeInfo, hinf, Builtin.lenOf, Builtin.firstCells, c1, loadCells, loadCellsFrom] at r1
            rw [← r1.1, c1]
          · simp [Builtin.append_, run_underlying hu, sizeOf, typeInfo, hinf, Builtin.lenOf, Builtin.firstCells, c1, c4, storeCells, loadCells, loadCellsFrom] at r1
            rw [← r1.1, c1]
      exact this.symm
    · exact ⟨n', u', by rw [List.getElem?_set_ne hgg]; exact hg', Nat.le_refl _, fun _ => rfl⟩
  have hvb : ∀ b, v'.ownBlock = some b → s.ownBlock = some b ∨ b = w.heap.size := by
    intro b hb
    rcases r5 with r5 | ⟨r5, _⟩
    · exact .inl (by rw [← r5]; exact hb)
    · rw [r5] at hb; injection hb with hb; exact .inr hb.symm
  refine ⟨⟨hr.inpre, ?_, ?_, ?_, hr.bxlen, hr.bxnd, ?_, hr.bxown, ?_, by simp [hr.tklen], ?_, ?_, ?_⟩, hext, ?_⟩
  · have k := hr.kept
    refine ⟨r3.os.trans k.os, r3.tape.trans k.tape, r3.output.trans k.output, Nat.le_trans k.size r3.size, fun i hi hn => (r3.block i (Nat.lt_of_lt_of_le hi k.size) (fun e => ?_)).trans (k.block i hi hn)⟩
    have := (hold i e.symm).1
    omega
  · rintro b o (hb | ⟨hb, _⟩)
    · exact Nat.lt_of_lt_of_le (hr.stlt b o hb) r3.size
    · exact (hvlt b hb).2
  · rintro b o (hb | ⟨hb, _⟩)
    · exact hr.stnew b o hb
    · exact .inr (hvlt b hb).1
  · rintro b hbx o (hb | ⟨hb, _⟩)
    · exact hr.bxst b hbx o hb
    · rcases hvb b hb with e | e
      · exact hr.tkbx g _ _ hn1 b e hbx
      · have := hr.boxlt hbx; omega
  · intro i b row hi hrow
    obtain ⟨us, T'', h1, h2, h3⟩ := hr.box i b row hi hrow
    have hmem : b ∈ G.bx := List.mem_of_getElem? hi
    exact ⟨us, T'', (r3.block b (hr.boxlt hmem) (fun e => hr.tkbx g _ _ hn1 b e.symm hmem)).trans h1, repL_mono hext _ _ h2, h3⟩
  · intro g' n' u' T'' sz' rows' hg' ht'
    by_cases hgg : g = g'
    · subst hgg
      simp only at hg' ht'
      rw [List.getElem?_set_self hgl] at hg'
      rw [List.getElem?_set_self (by rw [← hr.tklen]; exact hgl)] at ht'
      injection hg' with hg'
      injection hg' with a1 a2
      injection ht' with ht'
      injection ht' with b1 b2
      injection b2 with b2 b3
      subst a1; subst a2; subst b1; subst b2; subst b3
      refine ⟨by simp, ⟨_, r2⟩, fun b hb o ho => ?_⟩
      rintro (hs' | ⟨_, hs'⟩)
      · rcases hvb b hb with e | e
        · have hlt : o < rows.length * sz := Nat.lt_of_not_le fun hle => tsp b e o hle hs'
          have : rows.length * sz ≤ (rows.length + new.length) * sz := Nat.mul_le_mul_right sz (by omega)
          omega
        · have := hr.stlt b o hs'; omega
      · omega
    · simp only at hg' ht'
      rw [List.getElem?_set_ne hgg] at hg' ht'
      obtain ⟨h1, ⟨xs', h2⟩, h3⟩ := hr.tok g' n' u' T'' sz' rows' hg' ht'
      have hne : u'.ownBlock = none ∨ u'.ownBlock ≠ s.ownBlock := by
        cases hu' : u'.ownBlock with
        | none => exact .inl rfl
        | some b => exact .inr fun e => hr.tknd g g' _ _ _ _ hn1 hg' hgg b e.symm hu'
      refine ⟨h1, ⟨xs', World.ownsRow.kept h2 r3 hne⟩, fun b hb o ho => ?_⟩
      rintro (hs' | ⟨hs', _⟩)
      · exact h3 b hb o ho hs'
      · rcases hvb b hs' with e | e
        · exact hr.tknd g g' _ _ _ _ hn1 hg' hgg b e hb
        · have := (hr.toklt hg' hb).2; omega
  · intro g' n' u' hg' b hb hbx
    by_cases hgg : g = g'
    · subst hgg
      simp only at hg'
      rw [List.getElem?_set_self hgl] at hg'
      injection hg' with hg'
      injection hg' with a1 a2
      subst a2
      rcases hvb b hb with e | e
      · exact hr.tkbx g _ _ hn1 b e hbx
      · have := hr.boxlt hbx; omega
    · simp only at hg'
      rw [List.getElem?_set_ne hgg] at hg'
      exact hr.tkbx g' n' u' hg' b hb hbx
  · intro g1 g2 n1 n2 u1 u2 hg1 hg2 hne b hb hb2
    simp only at hg1 hg2
    by_cases h1 : g = g1
    · subst h1
      rw [List.getElem?_set_self hgl] at hg1
      injection hg1 with hg1
      injection hg1 with a1 a2
      subst a2
      rw [List.getElem?_set_ne hne] at hg2
      rcases hvb b hb with e | e
      · exact hr.tknd g g2 _ _ _ _ hn1 hg2 hne b e hb2
      · have := (hr.toklt hg2 hb2).2; omega
    · rw [List.getElem?_set_ne h1] at hg1
      by_cases h2 : g = g2
      · subst h2
        rw [List.getElem?_set_self hgl] at hg2
        injection hg2 with hg2
        injection hg2 with a1 a2
        subst a2
        rcases hvb b hb2 with e | e
        · exact hr.tknd g1 g _ _ _ _ hg1 hn1 hne b hb e
        · have := (hr.toklt hg1 hb).2; omega
      · rw [List.getElem?_set_ne h2] at hg2
        exact hr.tknd g1 g2 _ _ _ _ hg1 hg2 hne b hb hb2
  · simp only [rep]
    refine ⟨?_, _, _, List.getElem?_set_self hgl, by simp, fun _ => rfl⟩
    simp only [fro]
    refine ⟨trivial, ?_⟩
    have hflat := (hxs.append e4).mono hst
    rcases r2.2 with ⟨c1, c2⟩ | ⟨gb, cp, cur, c1, c2, c3, c4, c5, c6, c7⟩
    · have hz0 : (rows ++ new).length = 0 := by rw [List.length_append]; exact c2
      exact ⟨none, 0, by rw [c1, hz0], by rw [hz0]; exact Nat.le_refl _, by simp, .inl (List.eq_nil_of_length_eq_zero hz0)⟩
    · refine ⟨_, cp, by rw [c1]; simp, by simpa using c4, c5, .inr ⟨gb, 0, rfl, hflat.froR fun j u hj => ?_⟩⟩
      rw [Nat.zero_add]
      have hlt : j < (rows.length + new.length) * sz := by
        have := (List.getElem?_eq_some_iff.1 hj).1
        rwa [r2.1] at this
      have hob : v'.ownBlock = some gb := by rw [c1]; simp [Value.ownBlock]
      exact ⟨.inr ⟨hob, hlt⟩, hcells gb j u hob hj⟩
end
end Go.Proofs.Ytaidkbnbfnaihaa
namespace Go.Proofs.Ytaidkbnbfnaihaa
open Go.RowKit

section
variable {P : Program} {ev : Operand → Option AV} {h : AH} {R : AV → AH → Prop} {d : Option Tmp} {ty : TypeId} {pos : String} {af : Array Edge} {gd : Option (Nat × Bool)}
theorem st_append {T : TypeId} {s y : Operand} {T' sz bytes g : Nat} {rows new : List (List AV)} {tok : Option Nat} {tk' : List (Nat × Nat × List (List AV))} [hE : Elm P T T' sz bytes] (hs : ev s = some (.sl sz rows (some g))) (hy : ev y = some (.sl sz new tok)) (hg : h.tk[g]? = some (T', sz, rows))
    (hsm : rows.length + new.length ≤ 1000000) (hset : SetAt h.tk g [(T', sz, rows ++ new)] tk') (hR : R (.sl sz (rows ++ new) (some g)) ⟨h.bx, tk'⟩) : AStep P ⟨d, .call { callee := .builtin .append, args := #[s, y], argTypes := #[T, T] }, ty, pos, af, gd⟩ ev h R := by
  intro E G w ec hr he
  have k1 := he s (by simp [Op.operands, Call.operands]) _ hs
  have k2 := fro_era _ _ (he y (by simp [Op.operands, Call.operands]) _ hy)
  simp only [era] at k2
  obtain ⟨v', w', G', m1, m2, m3, m4⟩ := append_tok hr hE.eq hE.few hg k1 k2 hsm ty
  obtain ⟨_, e⟩ := SetAt.one hset
  subst e
  simp only [execOp, resolve, invoke, builtin, Sem.run_bind, Sem.run_pure, Result.andThen_ok, List.map_toArray, List.map_cons, List.map_nil, m1]
  exact ⟨_, _, G', hR, m2, m3, m4⟩
theorem nil_tok {E : Env} {G : Gh} {w : World} (hr : HRel E G h w) (T sz : Nat) : HRel E ⟨G.St, G.bx, G.tk ++ [(0, .slice none 0 0)]⟩ ⟨h.bx, h.tk ++ [(T, sz, [])]⟩ w ∧ Ext G w ⟨G.St, G.bx, G.tk ++ [(0, .slice none 0 0)]⟩ w ∧
    rep ⟨G.St, G.bx, G.tk ++ [(0, .slice none 0 0)]⟩ w (.sl sz [] (some h.tk.length)) (.slice none 0 0) := by
  obtain ⟨k1, k2⟩ := hr.addTok (T := T) (sz := sz) (n := 0) (u := .slice none 0 0) (rows := []) ⟨rfl, ⟨[], World.ownsRow_nil w _ T sz⟩, fun b hb => by simp [Value.ownBlock] at hb⟩ (fun b hb => by simp [Value.ownBlock] at hb) (fun _ _ _ _ b hb => by simp [Value.ownBlock] at hb)
  refine ⟨k1, k2, ?_⟩
  simp only [rep, fro]
  exact ⟨⟨trivial, none, 0, rfl, Nat.le_refl _, Nat.zero_le _, .inl trivial⟩, 0, .slice none 0 0, by rw [← hr.tklen]; simp, Nat.le_refl _, fun _ => rfl⟩
theorem st_append0 {T : TypeId} {s y : Operand} {T' sz bytes n : Nat} {new : List (List AV)} {tok : Option Nat} {tk' : List (Nat × Nat × List (List AV))} [hE : Elm P T T' sz bytes] (hs : ev s = some (.v (.slice none 0 0))) (hy : ev y = some (.sl sz new tok))
    (hsm : new.length ≤ 1000000) (hset : SnocAt h.tk (T', sz, new) n tk') (hR : R (.sl sz new (some n)) ⟨h.bx, tk'⟩) : AStep P ⟨d, .call { callee := .builtin .append, args := #[s, y], argTypes := #[T, T] }, ty, pos, af, gd⟩ ev h R := by
  intro E G w ec hr he
  have k1 := he s (by simp [Op.operands, Call.operands]) _ hs
  have k2 := fro_era _ _ (he y (by simp [Op.operands, Call.operands]) _ hy)
  simp only [era] at k2
  simp only [rep] at k1
  obtain ⟨q1, q2, q3⟩ := nil_tok hr T' sz
  obtain ⟨v', w', G', m1, m2, m3, m4⟩ := append_tok (y := ec y) q1 hE.eq hE.few (g := h.tk.length) (rows := []) (new := new) (by simp) q3 k2 (by simpa using hsm) ty
  obtain ⟨e1, e2⟩ := hset.eq
  subst e1
  subst e2
  simp only [execOp, resolve, invoke, builtin, Sem.run_bind, Sem.run_pure, Result.andThen_ok, List.map_toArray, List.map_cons, List.map_nil, k1, m1]
  refine ⟨_, _, G', hR, ?_, q2.trans m3, ?_⟩
  · simpa using m2
  · simpa using m4
theorem st_make0 {T : TypeId} {x y : Operand} {E sz bytes n : Nat} {c : Int} {tk' : List (Nat × Nat × List (List AV))} [hE : Elm P T E sz bytes] (hx : ev x = some (.v (.int .i64 0))) (hy : ev y = some (.v (.int .i64 c))) (hc : 0 ≤ c ∧ c ≤ 1000000)
    (hset : SnocAt h.tk (E, sz, []) n tk') (hR : R (.sl sz [] (some n)) ⟨h.bx, tk'⟩) : AStep P ⟨d, .makeSlice T x y, ty, pos, af, gd⟩ ev h R := by
  intro E' G w ec hr he
  have k1 := he x (by simp [Op.operands]) _ hx
  have k2 := he y (by simp [Op.operands]) _ hy
  simp only [rep] at k1 k2
  obtain ⟨hu, inf, z, hinf, hz, hzs, hs, hby, hp⟩ := elm_spec hE.eq
  obtain ⟨m, rfl⟩ := Int.eq_ofNat_of_zero_le hc.1
  have hm : m ≤ 1000000 := by omega
  have hw : IntKind.i64.wrap (m : Int) = m := IntWalk.i64_in _ (by omega)
  have hw0 : IntKind.i64.wrap 0 = 0 := by decide
  have hbig : ¬ (inf.bytes : Int) * (m : Int) > 2 ^ 48 := by
    have h1 : inf.bytes * m ≤ 100000 * 1000000 := Nat.mul_le_mul (by rw [hby]; exact hE.few) hm
    have h2 : ((inf.bytes * m : Nat) : Int) ≤ 100000000000 := by omega
    rw [Int.natCast_mul] at h2
    omega
  have hneg : ¬ ((m : Int) < 0) := by omega
  have hrun : ∃ cells : Array Value, cells.size = m * sz ∧ (Instr.makeSlice T (.int .i64 0) (.int .i64 m)).run P w = .ok (.slice (some ⟨w.heap.size, 0, none⟩) 0 m) (w.alloc (.cells cells E)) := by
    refine ⟨(Array.range (m * sz)).map ((if m * sz = 0 then #[] else z.cells)[· % (if m * sz = 0 then #[] else z.cells : Array Value).size]!), by simp, ?_⟩
    by_cases h0 : m * sz = 0
    · simp [Instr.makeSlice, run_underlying hu, asInt, asIntOf, typeInfo, hinf, hw, hw0, hneg, sizeOf, hs, h0, newRow]; exact fun hh => absurd hh hbig
    · simp [Instr.makeSlice, run_underlying hu, asInt, asIntOf, typeInfo, hinf, hw, hw0, hneg, sizeOf, hs, h0, newRow, zeroValue, hz]; exact fun hh => absurd hh hbig
  obtain ⟨cells, c1, c2⟩ := hrun
  obtain ⟨q1, q2⟩ := hr.below (w' := w.alloc (.cells cells E)) ((Below.refl _ _).alloc (Nat.le_refl _) _)
  obtain ⟨e1, e2⟩ := hset.eq
  subst e1
  subst e2
  have hown : (w.alloc (.cells cells E)).ownsRow E'.w0.heap.size E sz (.slice (some ⟨w.heap.size, 0, none⟩) 0 m) 0 [] :=
    ⟨by simp, .inr ⟨w.heap.size, m, cells, rfl, hr.kept.size, heap_alloc_self _ _, Nat.zero_le _, by unfold maxLen; omega, c1, by simp⟩⟩
  obtain ⟨r1, r2⟩ := q1.addTok (T := E) (sz := sz) (n := 0) (u := .slice (some ⟨w.heap.size, 0, none⟩) 0 m) (rows := []) ⟨rfl, ⟨[], hown⟩, fun b hb o ho => by
      simp [Value.ownBlock] at hb
      subst hb
      intro hs
      have := hr.stlt _ _ hs
      omega⟩ (fun b hb => by
      simp [Value.ownBlock] at hb
      subst hb
      exact fun hm => by have := hr.boxlt hm; omega) (fun g n' u' hg b hb => by
      simp [Value.ownBlock] at hb
      subst hb
      exact fun e => by have := (hr.toklt hg e).2; omega)
  simp only [execOp, k1, k2, Sem.run_bind, c2, Result.andThen_ok, Sem.run_pure]
  refine ⟨_, _, _, hR, r1, q2.trans r2, ?_⟩
  simp only [rep, fro]
  refine ⟨⟨trivial, _, m, rfl, Nat.zero_le _, by unfold maxLen; omega, .inl trivial⟩, 0, _, ?_, Nat.le_refl _, fun _ => rfl⟩
  rw [← hr.tklen]
  simp

theorem fro_part {St : Nat → Nat → Prop} {w : World} {sz : Nat} {rows : List (List AV)} {y : Value} (hy : fro St w (.sl sz rows none) y) {l k : Nat} (hk : k ≤ rows.length) (hl : l ≤ k) :
    ∃ A cap, y = .slice A rows.length cap ∧ rows.length ≤ cap ∧ fro St w (.sl sz ((rows.take k).drop l) none) (.slice (if cap = l then A else A.map (·.add (l * sz))) (k - l) (cap - l)) := by
  simp only [fro] at hy
  obtain ⟨_, A, cap, h1, h2, h3, h4⟩ := hy
  refine ⟨A, cap, h1, h2, ?_⟩
  simp only [fro]
  have hlen : ((rows.take k).drop l).length = k - l := by simp; omega
  refine ⟨trivial, _, _, by rw [hlen], by rw [hlen]; omega, by omega, ?_⟩
  by_cases h0 : (rows.take k).drop l = []
  · exact .inl h0
  · have hlk : l < k := by
      rcases Nat.lt_or_ge l k with h' | h'
      · exact h'
      · exact absurd (List.eq_nil_of_length_eq_zero (by rw [hlen]; omega)) h0
    rcases h4 with h4 | ⟨b, off, h5, h6⟩
    · subst h4; simp at h0
    · refine .inr ⟨b, off + l * sz, ?_, froR_of fun i r hi => ?_⟩
      · rw [if_neg (by omega), h5, Option.map_some, Addr.add_mid]
      · rw [List.getElem?_drop, List.getElem?_take] at hi
        split at hi
        · obtain ⟨a1, a2⟩ := froR_get h6 hi
          rw [Nat.add_mul, ← Nat.add_assoc] at a2
          exact ⟨a1, a2⟩
        · cases hi
theorem st_sliceLo {T : TypeId} {x lo : Operand} {E sz bytes l : Nat} {i : Int} {rows : List (List AV)} {tok : Option Nat} [hE : Elm P T E sz bytes] (hx : ev x = some (.sl sz rows tok)) (hh : ev lo = some (.v (.int .i64 i))) (hi' : i = (l : Int)) (hk : l ≤ rows.length) (hR : R (.sl sz (rows.drop l) none) h) :
    AStep P ⟨d, .slice T x (some lo) none none, ty, pos, af, gd⟩ ev h R := by
  refine st_val (fun _ G w ec _ he => ?_) hR
  have k1 := fro_era _ _ (he x (by simp [Op.operands]) _ hx)
  have k2 := he lo (by simp [Op.operands]) _ hh
  simp only [era] at k1
  simp only [rep] at k2
  obtain ⟨hu, inf, z, hinf, hz, hzs, hs, hby, hp⟩ := elm_spec hE.eq
  obtain ⟨A, cap, e1, e2, e3⟩ := fro_part k1 (k := rows.length) (Nat.le_refl _) hk
  subst hi'
  refine ⟨_, ?_, by simp only [rep]; rw [List.take_length] at e3; exact e3⟩
  simp [execOp, e1, k2, Instr.sliceAt, Instr.slice, Instr.sliceBounds, Instr.sliceBound, asIntOf, run_underlying hu, sizeOf, typeInfo, hinf, hs, hk]
end

mutual
def bpLt (n m : Nat) : AV → Bool
  | .v _ => true
  | .agg cs => bpLtL n m cs
  | .tup cs => bpLtL n m cs
  | .sl _ _ none => true
  | .sl _ _ (some g) => Nat.blt g m
  | .fp _ => true
  | .bp i _ => Nat.blt i n
  | .bs i _ _ _ _ => Nat.blt i n
  | .fn _ caps => bpLtL n m caps
  | .any => true
def bpLtL (n m : Nat) : List AV → Bool
  | [] => true
  | x :: xs => bpLt n m x && bpLtL n m xs
end
mutual
theorem rep_trunc {G : Gh} {w : World} (n m : Nat) : ∀ (x : AV) (y : Value), bpLt n m x = true → rep G w x y → rep ⟨G.St, G.bx.take n, G.tk.take m⟩ w x y
  | .v _, _, _, h => by simpa only [rep] using h
  | .agg cs, _, hb, h => by
    simp only [bpLt] at hb
    simp only [rep] at h ⊢
    obtain ⟨ys, h1, h2⟩ := h
    exact ⟨ys, h1, repL_trunc n m cs ys hb h2⟩
  | .tup cs, _, hb, h => by
    simp only [bpLt] at hb
    simp only [rep] at h ⊢
    obtain ⟨ys, h1, h2⟩ := h
    exact ⟨ys, h1, repL_trunc n m cs ys hb h2⟩
  | .sl sz rows none, _, _, h => by simpa only [rep] using h
  | .sl sz rows (some g), _, hb, h => by
    simp only [bpLt] at hb
    simp only [rep] at h ⊢
    obtain ⟨h0, n', u, h1, h2⟩ := h
    refine ⟨h0, n', u, ?_, h2⟩
    rw [List.getElem?_take, if_pos (show g < m from Nat.le_of_ble_eq_true hb)]
    exact h1
  | .fp _, _, _, h => by simpa only [rep] using h
  | .bs i off _ _ _, _, hb, h => by
    simp only [bpLt] at hb
    simp only [rep] at h ⊢
    obtain ⟨b, h1, h2⟩ := h
    refine ⟨b, ?_, h2⟩
    rw [List.getElem?_take, if_pos (show i < n from Nat.le_of_ble_eq_true hb)]
    exact h1
  | .bp i off, _, hb, h => by
    simp only [bpLt] at hb
    simp only [rep] at h ⊢
    obtain ⟨b, h1, h2⟩ := h
    refine ⟨b, ?_, h2⟩
    rw [List.getElem?_take, if_pos (show i < n from Nat.le_of_ble_eq_true hb)]
    exact h1
  | .fn _ caps, _, hb, h => by
    simp only [bpLt] at hb
    simp only [rep] at h ⊢
    obtain ⟨ys, h1, h2⟩ := h
    exact ⟨ys, h1, repL_trunc n m caps ys hb h2⟩
  | .any, _, _, _ => by simp only [rep]
theorem repL_trunc {G : Gh} {w : World} (n m : Nat) : ∀ (xs : List AV) (ys : List Value), bpLtL n m xs = true → repL G w xs ys → repL ⟨G.St, G.bx.take n, G.tk.take m⟩ w xs ys
  | [], _, _, h => by simpa only [repL] using h
  | x :: xs, _, hb, h => by
    simp only [bpLtL, Bool.and_eq_true] at hb
    simp only [repL] at h ⊢
    obtain ⟨z, zs, h1, h2, h3⟩ := h
    exact ⟨z, zs, h1, rep_trunc n m x z hb.1 h2, repL_trunc n m xs zs hb.2 h3⟩
end
def bpLtB (n m : Nat) : List (List AV) → Bool
  | [] => true
  | x :: xs => bpLtL n m x && bpLtB n m xs
theorem bpLtB_get {n m : Nat} : ∀ {l : List (List AV)}, bpLtB n m l = true → ∀ {i : Nat} {row : List AV}, l[i]? = some row → bpLtL n m row = true
  | [], _, i, row, hi => by simp at hi
  | x :: l, h, i, row, hi => by
    simp only [bpLtB, Bool.and_eq_true] at h
    cases i with
    | zero => simp at hi; subst hi; exact h.1
    | succ i => exact bpLtB_get h.2 (by simpa using hi)
theorem HRel.trunc {E : Env} {G : Gh} {h : AH} {w : World} (hr : HRel E G h w) (n m : Nat) (hn : E.ins.length ≤ n) (hb : bpLtB n m (h.bx.take n) = true) : HRel E ⟨G.St, G.bx.take n, G.tk.take m⟩ ⟨h.bx.take n, h.tk.take m⟩ w := by
  have tkget : ∀ (g n' : Nat) (u : Value), (G.tk.take m)[g]? = some (n', u) → G.tk[g]? = some (n', u) := fun g n' u hg => by
    rw [List.getElem?_take] at hg
    split at hg
    · exact hg
    · cases hg
  refine ⟨fun i b hi => by rw [List.getElem?_take, if_pos (Nat.lt_of_lt_of_le (List.getElem?_eq_some_iff.1 hi).1 hn)]; exact hr.inpre i b hi, hr.kept, hr.stlt, hr.stnew, by simp [hr.bxlen], List.Nodup.sublist (List.take_sublist n G.bx) hr.bxnd, fun b hb => hr.bxst b (List.mem_of_mem_take hb), fun b hb => hr.bxown b (List.mem_of_mem_take hb), ?_, by simp [hr.tklen], ?_, ?_, ?_⟩
  · intro i b row hi hrow
    simp only at hi hrow
    have hbp := bpLtB_get hb hrow
    rw [List.getElem?_take] at hi hrow
    split at hi
    · rename_i hlt
      rw [if_pos hlt] at hrow
      obtain ⟨us, T, h1, h2, h3⟩ := hr.box i b row hi hrow
      exact ⟨us, T, h1, repL_trunc n m row us hbp h2, h3⟩
    · cases hi
  · intro g n' u T sz rows hg ht
    refine hr.tok g n' u T sz rows (tkget g n' u hg) ?_
    simp only at ht
    rw [List.getElem?_take] at ht
    split at ht
    · exact ht
    · cases ht
  · exact fun g n' u hg b hb hm => hr.tkbx g n' u (tkget g n' u hg) b hb (List.mem_of_mem_take hm)
  · exact fun g g' n1 n2 u1 u2 hg hg' hne => hr.tknd g g' n1 n2 u1 u2 (tkget _ _ _ hg) (tkget _ _ _ hg') hne
def Weak (N : Dim) (s s' : AS) : Prop := ∀ (E : Env) (a : Act) (w : World), Rel N E s a w → Rel N E s' a w
inductive Sub (n m : Nat) (f : Nat → Option AV) : List (Nat × AV) → Prop
  | nil : Sub n m f []
  | cons (t : Nat) (x : AV) (l : List (Nat × AV)) : f t = some x → bpLt n m x = true → Sub n m f l → Sub n m f ((t, x) :: l)
  | any (t : Nat) (l : List (Nat × AV)) : Sub n m f l → Sub n m f ((t, .any) :: l)
  | sl (t : Nat) (sz : Nat) (rows : List (List AV)) (g : Nat) (l : List (Nat × AV)) : f t = some (.sl sz rows (some g)) → Sub n m f l → Sub n m f ((t, .sl sz rows none) :: l)
  | slnil (t : Nat) (sz : Nat) (l : List (Nat × AV)) : f t = some (.v (.slice none 0 0)) → Sub n m f l → Sub n m f ((t, .sl sz [] none) :: l)
  | of (t : Nat) (y x : AV) (l : List (Nat × AV)) : f t = some y → (∀ (G : Gh) (w : World) (v : Value), rep G w y v → rep G w x v) → bpLt n m x = true → Sub n m f l → Sub n m f ((t, x) :: l)
theorem Sub.look {n m : Nat} {f : Nat → Option AV} {l : List (Nat × AV)} (h : Sub n m f l) {t : Nat} {x : AV} (ht : Go.Proofs.Ytaidkbnbfnaihaa.look l t = some x) {G : Gh} {w : World} {a : Act} (hs : SlotsR G w f a) : rep ⟨G.St, G.bx.take n, G.tk.take m⟩ w x (a.tmps.getD t undef) := by
  induction h with
  | nil => cases ht
  | cons t' x' l h1 h2 _ ih =>
    rw [← put_look, put_some] at ht
    split at ht
    · rename_i e; subst e; injection ht with ht; subst ht
      exact rep_trunc n m _ _ h2 (hs _ _ h1)
    · exact ih ht
  | any t' l _ ih =>
    rw [← put_look, put_some] at ht
    split at ht
    · injection ht with ht; subst ht; simp only [rep]
    · exact ih ht
  | sl t' sz rows g l h1 _ ih =>
    rw [← put_look, put_some] at ht
    split at ht
    · rename_i e; subst e; injection ht with ht; subst ht
      have := hs _ _ h1
      simp only [rep] at this ⊢
      exact this.1
    · exact ih ht
  | slnil t' sz l h1 _ ih =>
    rw [← put_look, put_some] at ht
    split at ht
    · rename_i e; subst e; injection ht with ht; subst ht
      have := hs _ _ h1
      simp only [rep] at this ⊢
      rw [this]
      simp only [fro]
      exact ⟨trivial, none, 0, rfl, Nat.le_refl _, Nat.zero_le _, .inl trivial⟩
    · exact ih ht
  | of t' y x' l h1 h2 h3 _ ih =>
    rw [← put_look, put_some] at ht
    split at ht
    · rename_i e; subst e; injection ht with ht; subst ht
      exact rep_trunc n m _ _ h3 (h2 _ _ _ (hs _ _ h1))
    · exact ih ht
theorem weak_of {f : Nat → Option AV} {bx : List (List AV)} {tk : List (Nat × Nat × List (List AV))} {l : List (Nat × AV)} {N : Dim} (n m : Nat) {bx' : List (List AV)} {tk' : List (Nat × Nat × List (List AV))} (hn : Nat.ble N.ni n = true) (hb : bx.take n = bx') (ht : tk.take m = tk') (hbp : bpLtB n m bx' = true) (hl : Sub n m f l) : Weak N ⟨f, ⟨bx, tk⟩⟩ ⟨look l, ⟨bx', tk'⟩⟩ := by
  rintro E a w ⟨G, h1, h2, h3, h4, h5⟩
  subst hb
  subst ht
  exact ⟨_, h1.trunc n m (by rw [h5]; exact Nat.le_of_ble_eq_true hn) hbp, fun t x hx => hl.look hx h2, h3, h4, h5⟩
section
variable {P : Program} {N : Dim} {Q : Exit → AS → Prop} {s : AS}
theorem aw_weak {c : Code} {s' : AS} (hw : Weak N s s') (h : AWp P N c Q s') : AWp P N c Q s := fun E a w hr => h E a w (hw E a w hr)
theorem aw_loopW {c : Code} (I : Nat → AS → Prop) (n : Nat) {s0 : AS} (hw : Weak N s s0) (h0 : I n s0) (round : ∀ n s, I n s → AWp P N c (AThen (fun s' => ∃ m s'', m < n ∧ I m s'' ∧ Weak N s' s'') Q) s) : AWp P N (.loop c) Q s := by
  refine aw_loop (fun n s => ∃ s', I n s' ∧ Weak N s s') n ⟨s0, h0, hw⟩ ?_
  rintro n s ⟨s', h1, h2⟩
  refine aw_weak h2 ?_
  intro E a w hr
  refine wp_mono (round n s' h1 E a w hr) ?_
  rintro e a' w' ⟨s1, hq, hr'⟩
  refine ⟨s1, ?_, hr'⟩
  cases e with
  | normal => obtain ⟨m, s'', q1, q2, q3⟩ := hq; exact ⟨m, q1, s'', q2, q3⟩
  | exit id => exact hq
  | goto l => exact hq
  | ret => exact hq
  | panic c => exact hq
  | outgrown => exact hq
theorem aw_mid {x y : Code} (S0 : AS) (h1 : AWp P N x (AThen (fun s' => Weak N s' S0) Q) s) (h2 : AWp P N y Q S0) : AWp P N (.seq x y) Q s := by
  intro E a w hr
  refine wp_seq (wp_mono (h1 E a w hr) ?_)
  rintro e a' w' ⟨s', hq, hr'⟩
  cases e with
  | normal => exact h2 E a' w' (hq E a' w' hr')
  | exit id => exact ⟨s', hq, hr'⟩
  | goto l => exact ⟨s', hq, hr'⟩
  | ret => exact ⟨s', hq, hr'⟩
  | panic c => exact ⟨s', hq, hr'⟩
  | outgrown => exact ⟨s', hq, hr'⟩
theorem aw_nilTok {c : Code} {f : Nat → Option AV} {bx : List (List AV)} {tk tk' : List (Nat × Nat × List (List AV))} (t T sz : Nat) {g : Nat} (ht : f t = some (.v (.slice none 0 0))) (hs : SnocAt tk (T, sz, []) g tk') (h : AWp P N c Q ⟨put (some t) (.sl sz [] (some g)) f, ⟨bx, tk'⟩⟩) : AWp P N c Q ⟨f, ⟨bx, tk⟩⟩ := by
  rintro E a w ⟨G, h1, h2, h3⟩
  obtain ⟨e1, e2⟩ := hs.eq
  subst e1
  subst e2
  obtain ⟨k1, k2, k3⟩ := nil_tok h1 T sz
  refine h E a w ⟨_, k1, fun t' x hx => ?_, h3⟩
  simp only at hx
  rw [put_some] at hx
  split at hx
  · rename_i e
    subst e
    injection hx with hx
    subst hx
    have := h2 _ _ ht
    simp only [rep] at this
    rw [this]
    exact k3
  · exact rep_mono k2 _ _ (h2 t' x hx)
end
end Go.Proofs.Ytaidkbnbfnaihaa
