/-
  Slices that a call has made itself: lists of elements of several cells; append.
-/
import Derived.Test.YtokaaebbmcldaaaGreatDoorRep
import Derived.Maps.AppendAt
import Derived.OwnWalk
namespace Go.Proofs.YtokaaebbmcldaaaGreatDoor
open Go.RowKit

/-- The cells of a list of elements. -/
def flat {α : Type} (sz : Nat) (cell : α → Nat → Value) (xs : List α) : List Value := xs.flatMap fun x => (List.range sz).map (cell x)

section
variable {α : Type} {sz : Nat} {cell : α → Nat → Value}
theorem flat_length (xs : List α) : (flat sz cell xs).length = xs.length * sz := by
  induction xs with
  | nil => simp [flat]
  | cons x xs ih =>
    unfold flat at ih ⊢
    rw [List.flatMap_cons, List.length_append, ih]
    simp [Nat.add_mul, Nat.add_comm]
theorem flat_append (xs ys : List α) : flat sz cell (xs ++ ys) = flat sz cell xs ++ flat sz cell ys := by simp [flat]
theorem flat_get (xs : List α) : ∀ (i j : Nat) (x : α), xs[i]? = some x → j < sz → (flat sz cell xs)[i * sz + j]? = some (cell x j) := by
  induction xs with
  | nil => intro i j x h; simp at h
  | cons y ys ih =>
    intro i j x h hj
    have e : flat sz cell (y :: ys) = (List.range sz).map (cell y) ++ flat sz cell ys := by simp [flat]
    rw [e]
    cases i with
    | zero =>
      simp at h
      subst h
      rw [List.getElem?_append_left (by simpa using hj)]
      simp [hj]
    | succ i =>
      rw [List.getElem?_append_right (by simp [Nat.add_mul]; omega)]
      simp only [List.getElem?_cons_succ] at h
      have := ih i j x h hj
      rw [← this]
      congr 1
      simp [Nat.add_mul]
      omega
theorem flat_get_inv (xs : List α) (hsz : 0 < sz) {k : Nat} {u : Value} (h : (flat sz cell xs)[k]? = some u) : ∃ x, xs[k / sz]? = some x ∧ u = cell x (k % sz) := by
  have hk : k < xs.length * sz := by
    have := (List.getElem?_eq_some_iff.1 h).1
    rwa [flat_length] at this
  have hq : k / sz < xs.length := (Nat.div_lt_iff_lt_mul hsz).2 hk
  have hx : xs[k / sz]? = some xs[k / sz] := List.getElem?_eq_getElem hq
  have := flat_get (cell := cell) xs (k / sz) (k % sz) _ hx (Nat.mod_lt _ hsz)
  rw [Nat.mul_comm, Nat.div_add_mod, h] at this
  injection this with this
  exact ⟨_, hx, this⟩

/-- A slice of the call's own (its block is from base on) that holds a list. -/
def OwnL (sz : Nat) (cell : α → Nat → Value) (E : TypeId) (w : World) (base : Nat) (v : Value) (xs : List α) : Prop :=
  w.ownsRow base E sz v xs.length (flat sz cell xs)

theorem OwnL.nil_ (E : TypeId) (w : World) (base : Nat) : OwnL sz cell E w base (.slice none 0 0) [] := World.ownsRow_nil w base E sz
theorem OwnL.kept {E : TypeId} {w w' : World} {base : Nat} {v : Value} {xs : List α} (h : OwnL sz cell E w base v xs) {row : Option Nat} (hg : w.grownBy w' row) (hne : v.ownBlock = none ∨ v.ownBlock ≠ row) : OwnL sz cell E w' base v xs := World.ownsRow.kept h hg hne
theorem OwnL.alloc {E : TypeId} {w : World} {base : Nat} {v : Value} {xs : List α} (h : OwnL sz cell E w base v xs) (o : Obj) : OwnL sz cell E (w.alloc o) base v xs := World.ownsRow.alloc h o
theorem OwnL.drewN {E : TypeId} {w : World} {base : Nat} {v : Value} {xs : List α} (h : OwnL sz cell E w base v xs) (n : Nat) : OwnL sz cell E (w.drewN n) base v xs := h
/-- What a call that makes memory alone leaves of it. -/
theorem OwnL.below {E : TypeId} {w w' : World} {base : Nat} {v : Value} {xs : List α} (h : OwnL sz cell E w base v xs) (hb : Below w.heap.size w w') : OwnL sz cell E w' base v xs :=
  h.kept (grown_of_below hb none) (by cases v.ownBlock <;> simp)
/-- A store elsewhere leaves it. -/
theorem OwnL.set_ {E : TypeId} {w : World} {base : Nat} {v : Value} {xs : List α} (h : OwnL sz cell E w base v xs) {p : Addr} (hp : v.ownBlock ≠ some p.block) (u : Value) : OwnL sz cell E (w.setCell p u) base v xs :=
  h.kept (row := some p.block) ⟨rfl, rfl, rfl, by simp [World.setCell], fun k _ hne => Below.heap_setCell w p u k (fun e => hne (by rw [e]))⟩ (.inr hp)
theorem OwnL.setb {E : TypeId} {w : World} {base : Nat} {v : Value} {xs : List α} (h : OwnL sz cell E w base v xs) {p : Addr} (hp : p.block < base) (u : Value) : OwnL sz cell E (w.setCell p u) base v xs := ownsRow_setCell_below h hp u
theorem OwnL.lt {E : TypeId} {w : World} {base : Nat} {v : Value} {xs : List α} (h : OwnL sz cell E w base v xs) : ∀ k, v.ownBlock = some k → base ≤ k ∧ k < w.heap.size := World.ownsRow.lt h
/-- It differs from a block of another element type. -/
theorem OwnL.ne_ {E : TypeId} {w : World} {base : Nat} {v : Value} {xs : List α} (h : OwnL sz cell E w base v xs) {g : Nat} {t : TypeId} {cs : Array Value} (hg : w.heap[g]? = some (.cells cs t (0, 0))) (hne : E ≠ t) : v.ownBlock ≠ some g := by
  rcases h.2 with ⟨rfl, _⟩ | ⟨g', cap, cur, rfl, _, hh, _⟩
  · simp [Value.ownBlock]
  · intro he
    have : g' = g := by simpa [Value.ownBlock] using he
    subst this
    rw [hg] at hh
    injection hh with hh
    injection hh with _ ht
    exact hne ht.symm
theorem OwnL.form {E : TypeId} {w : World} {base : Nat} {v : Value} {xs : List α} (h : OwnL sz cell E w base v xs) : ∃ A c, v = .slice A xs.length c := by
  rcases h.2 with ⟨rfl, hn⟩ | ⟨g, cap, cur, rfl, _⟩
  · exact ⟨none, 0, by rw [hn]⟩
  · exact ⟨_, _, rfl⟩
/-- It can be read. -/
theorem OwnL.list {E : TypeId} {w : World} {base : Nat} {v : Value} {xs : List α} (h : OwnL sz cell E w base v xs) (hf : xs.length ≤ few) {D : Nat → Prop} (hD : ∀ b, base ≤ b → b < w.heap.size → D b) : ListR sz cell w D v xs := by
  rcases h.2 with ⟨rfl, hn⟩ | ⟨g, cap, cur, rfl, hb, hg, hnc, _, hcs, htake⟩
  · obtain rfl : xs = [] := List.eq_nil_of_length_eq_zero hn
    exact ListR.nil_
  · refine ⟨_, _, rfl, hnc, hf, fun _ => ⟨g, 0, rfl, hD g hb (Array.getElem?_eq_some_iff.1 hg).1, fun i x j hi hj => ?_⟩⟩
    have hlt : i * sz + j < xs.length * sz := by
      have h1 := (List.getElem?_eq_some_iff.1 hi).1
      have h2 : (i + 1) * sz ≤ xs.length * sz := Nat.mul_le_mul_right sz h1
      rw [Nat.add_mul] at h2
      omega
    rw [Nat.zero_add, cell_of_row w g _ cur E (0, 0) hg, ← flat_get xs i j x hi hj, ← htake, List.getElem?_take, if_pos hlt]
    simp
end

/-- What the program's table says of a slice type T of elements E: sz cells, so many bytes. -/
def ElemOK (T E sz bytes : Nat) : Prop := Tryz.prog.underlying T = some (.slice E) ∧ ∃ i z, Tryz.prog.info? E = some i ∧ i.zero = some z ∧ i.size = sz ∧ i.bytes = bytes ∧ z.cells.size = sz
theorem elem_of {T E sz bytes : Nat} {z : Value} (hT : Tryz.prog.underlying T = some (.slice E)) (h : (Tryz.prog.info? E).map (fun i => (i.zero, i.size, i.bytes)) = some (some z, sz, bytes)) (hz : z.cells.size = sz) : ElemOK T E sz bytes := by
  refine ⟨hT, ?_⟩
  cases hi : Tryz.prog.info? E with
  | none => rw [hi] at h; cases h
  | some i =>
    rw [hi] at h
    simp only [Option.map_some, Option.some.injEq, Prod.mk.injEq] at h
    exact ⟨i, z, rfl, h.1, h.2.1, h.2.2, hz⟩

theorem run_append_nilsrc {P : Program} {w : World} {base : Nat} {t ty e : TypeId} {i : TypeInfo} {size : Nat} (ht : P.underlying t = some (.slice e)) (hi : P.info? e = some i)
    {v : Value} {n : Nat} {xs : List Value} (hown : w.ownsRow base e size v n xs) (c : Nat) : (Builtin.append_ #[t, t] ty #[v, .slice none 0 c]).run P w = .ok v w := by
  rcases hown.2 with ⟨rfl, rfl⟩ | ⟨g, cap, cur, rfl, _, _, hnc, _⟩
  · simp [Builtin.append_, run_underlying ht, sizeOf, typeInfo, hi, Builtin.lenOf, Builtin.firstCells]
  · simp [Builtin.append_, run_underlying ht, sizeOf, typeInfo, hi, Builtin.lenOf, Builtin.firstCells, hnc, storeCells]

section
variable {α : Type} {sz : Nat} {cell : α → Nat → Value}
/-- 'append(v, ys...)' onto a slice of the call's own. -/
theorem run_append_L {w : World} {T E bytes ty : Nat} (hE : ElemOK T E sz bytes) (hsz : 0 < sz) (hby : bytes ≤ 100000) {base : Nat} {v sv : Value} {xs ys : List α} {D : Nat → Prop} (hown : OwnL sz cell E w base v xs) (hr : ListR sz cell w D sv ys)
    (h1 : ∀ y ∈ ys, ∀ j, j < sz → (cell y j).oneCell' = true) (hf : xs.length ≤ 1000000) (hbase : base ≤ w.heap.size) :
    ∃ v' w', (Builtin.append_ #[T, T] ty #[v, sv]).run Tryz.prog w = .ok v' w' ∧ OwnL sz cell E w' base v' (xs ++ ys) ∧ w.grownBy w' v.ownBlock ∧ (v'.ownBlock = v.ownBlock ∨ v'.ownBlock = some w.heap.size) := by
  obtain ⟨ht, i, z, hi, hz, hs, hb, hzs⟩ := hE
  obtain ⟨A, c, rfl, hlc, hfew, hrow⟩ := hr
  unfold few at hfew
  rcases Nat.eq_zero_or_pos ys.length with h0 | h0
  · have hy : ys = [] := List.eq_nil_of_length_eq_zero h0
    subst hy
    rcases A with _ | ad
    · exact ⟨v, w, run_append_nilsrc ht hi hown c, by simpa using hown, World.grownBy.refl w _, .inl rfl⟩
    · obtain ⟨v', w', hrun, h2, h3, _, h5⟩ := run_append_own_at (P := Tryz.prog) w base T ty E i z sz bytes ht hi hz hs hb hzs hsz v xs.length _ hown ad 0 c [] (by simp) (by simp) (by simp) (by unfold maxLen; omega) (by
        have : (xs.length + 0) * bytes ≤ 1000000 * 100000 := Nat.mul_le_mul (by omega) hby
        omega) hbase
      exact ⟨v', w', hrun, by simpa [OwnL] using h2, h3, h5⟩
  · obtain ⟨b, off, rfl, _, hcell⟩ := hrow h0
    obtain ⟨v', w', hrun, h2, h3, _, h5⟩ := run_append_own_at (P := Tryz.prog) w base T ty E i z sz bytes ht hi hz hs hb hzs hsz v xs.length _ hown ⟨b, off, none⟩ ys.length c (flat sz cell ys) (flat_length ys) (by
      intro j u hu
      obtain ⟨x, hx, rfl⟩ := flat_get_inv ys hsz hu
      have hcl := hcell _ x (j % sz) hx (Nat.mod_lt _ hsz)
      have hm : off + j / sz * sz + j % sz = off + j := by
        have := Nat.div_add_mod j sz
        rw [Nat.mul_comm] at this
        omega
      rw [hm] at hcl
      rw [Addr.add_lit]
      exact hcl) (by
      intro u hu
      obtain ⟨k, hk⟩ := List.mem_iff_getElem?.1 hu
      obtain ⟨x, hx, rfl⟩ := flat_get_inv ys hsz hk
      exact h1 x (List.mem_of_getElem? hx) _ (Nat.mod_lt _ hsz)) (by unfold maxLen; omega) (by
        have : (xs.length + ys.length) * bytes ≤ 1100000 * 100000 := Nat.mul_le_mul (by omega) hby
        omega) hbase
    exact ⟨v', w', hrun, by unfold OwnL; rw [flat_append, List.length_append]; exact h2, h3, h5⟩

theorem wp_append_L {w : World} {o : Oper} {a : Act} {K : Act → World → Prop} {Q : Exit → Act → World → Prop} (s x : Operand) (T : TypeId)
    (ho : o.op = .call { callee := .builtin .append, args := #[s, x], argTypes := #[T, T] }) {E bytes : Nat} (hE : ElemOK T E sz bytes) (hsz : 0 < sz) (hby : bytes ≤ 100000)
    {base : Nat} {v sv : Value} {xs ys : List α} {D : Nat → Prop} (hs : a.eval s = v) (hx : a.eval x = sv) (hown : OwnL sz cell E w base v xs) (hr : ListR sz cell w D sv ys)
    (h1 : ∀ y ∈ ys, ∀ j, j < sz → (cell y j).oneCell' = true) (hf : xs.length ≤ 1000000) (hbase : base ≤ w.heap.size)
    (h : ∀ v' w', OwnL sz cell E w' base v' (xs ++ ys) → w.grownBy w' v.ownBlock → (v'.ownBlock = v.ownBlock ∨ v'.ownBlock = some w.heap.size) → K (a.put o.dst v') w') : o.wp Tryz.prog a w K Q := by
  obtain ⟨v', w', hrun, h2, h3, h4⟩ := run_append_L (ty := o.type) hE hsz hby hown hr h1 hf hbase
  unfold Oper.wp execOp
  simp only [ho, resolve, invoke, builtin, Sem.run_bind, Sem.run_pure, Result.andThen_ok, List.map_toArray, List.map_cons, List.map_nil, hs, hx, hrun]
  exact h v' w' h2 h3 h4
theorem wpList_append_L {w : World} {ops : Array Oper} {rest : List Oper} {o : Oper} {a : Act} {Q : Exit → Act → World → Prop} (hgd : o.guard = none) (s x : Operand) (T : TypeId)
    (ho : o.op = .call { callee := .builtin .append, args := #[s, x], argTypes := #[T, T] }) {E bytes : Nat} (hE : ElemOK T E sz bytes) (hsz : 0 < sz) (hby : bytes ≤ 100000)
    {base : Nat} {v sv : Value} {xs ys : List α} {D : Nat → Prop} (hs : a.eval s = v) (hx : a.eval x = sv) (hown : OwnL sz cell E w base v xs) (hr : ListR sz cell w D sv ys)
    (h1 : ∀ y ∈ ys, ∀ j, j < sz → (cell y j).oneCell' = true) (hf : xs.length ≤ 1000000) (hbase : base ≤ w.heap.size)
    (h : ∀ v' w', OwnL sz cell E w' base v' (xs ++ ys) → w.grownBy w' v.ownBlock → (v'.ownBlock = v.ownBlock ∨ v'.ownBlock = some w.heap.size) → wpList Tryz.prog ops Q rest (a.put o.dst v') w') : wpList Tryz.prog ops Q (o :: rest) a w :=
  wpList_plain hgd fun _ hK => wp_append_L s x T ho hE hsz hby hs hx hown hr h1 hf hbase fun v' w' h2 h3 h4 => hK _ _ (h v' w' h2 h3 h4)
theorem OwnL.mono {E : TypeId} {w : World} {base base' : Nat} {v : Value} {xs : List α} (h : OwnL sz cell E w base v xs) (hb : base' ≤ base) : OwnL sz cell E w base' v xs := by
  refine ⟨h.1, ?_⟩
  rcases h.2 with h' | ⟨g, cap, cur, hv, hg, r⟩
  · exact .inl h'
  · exact .inr ⟨g, cap, cur, hv, Nat.le_trans hb hg, r⟩
/-- 'append([]T(nil), ys...)': a copy in new memory. -/
theorem wpList_clone_L {w : World} {ops : Array Oper} {rest : List Oper} {o : Oper} {a : Act} {Q : Exit → Act → World → Prop} (hgd : o.guard = none) (s x : Operand) (T : TypeId)
    (ho : o.op = .call { callee := .builtin .append, args := #[s, x], argTypes := #[T, T] }) {E bytes : Nat} (hE : ElemOK T E sz bytes) (hsz : 0 < sz) (hby : bytes ≤ 100000)
    (sv : Value) (ys : List α) {D : Nat → Prop} (hs : a.eval s = .slice none 0 0) (hx : a.eval x = sv) (hr : ListR sz cell w D sv ys)
    (h1 : ∀ y ∈ ys, ∀ j, j < sz → (cell y j).oneCell' = true)
    (h : ∀ A c w', OwnL sz cell E w' w.heap.size (.slice A ys.length c) ys → Below w.heap.size w w' → wpList Tryz.prog ops Q rest (a.put o.dst (.slice A ys.length c)) w') : wpList Tryz.prog ops Q (o :: rest) a w :=
  wpList_append_L hgd s x T ho hE hsz hby hs hx (OwnL.nil_ E w w.heap.size) hr h1 (by simp) (Nat.le_refl _) fun v' w' h2 h3 _ => by
    rw [List.nil_append] at h2
    obtain ⟨A, c, rfl⟩ := h2.form
    exact h A c w' h2 ⟨h3.os, h3.tape, h3.output, h3.size, fun k hk => h3.block k hk (by simp [Value.ownBlock])⟩
/-- One element that was just laid. -/
theorem listR_one {w : World} {cs : Array Value} {t : TypeId} {x : α} {B : Nat} (hB : B = w.heap.size) (hcs : ∀ j, j < sz → cs[j]? = some (cell x j)) {D : Nat → Prop} (hD : D w.heap.size) : ListR sz cell (w.alloc (.cells cs t)) D (.slice (some ⟨B, 0, none⟩) 1 1) [x] := by
  subst hB
  refine ⟨_, 1, rfl, Nat.le_refl _, by unfold few; simp, fun _ => ⟨_, _, rfl, hD, fun i y j hi hj => ?_⟩⟩
  cases i with
  | succ i => simp at hi
  | zero =>
    simp at hi
    subst hi
    rw [cell_of_row (w.alloc (.cells cs t)) w.heap.size _ cs t (0, 0) (heap_alloc_new w _)]
    simp [hcs j hj]
end

theorem elemStr : ElemOK 33 9 1 16 := elem_of (z := .string ⟨#[]⟩) (by kernel_rfl) (by kernel_rfl) rfl

end Go.Proofs.YtokaaebbmcldaaaGreatDoor
