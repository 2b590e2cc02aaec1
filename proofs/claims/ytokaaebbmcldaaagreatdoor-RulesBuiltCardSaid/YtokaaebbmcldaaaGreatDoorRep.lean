/-
  How plain data lie in the model's memory.
-/
import Derived.Test.YtokaaebbmcldaaaGreatDoorProg
import Derived.Test.YtokaaebbmcldaaaGreatDoorPure
import Derived.WalkKit
import Derived.WalkSpells
import Derived.WalkLawsBesides
import Derived.Deep.QuietTactic
import Derived.BigQuiet
import Derived.Lib.Hide
import Derived.Outline
namespace Go.Proofs.YtokaaebbmcldaaaGreatDoor
open Go.RowKit

/-- What lies in the blocks of D is the same in both worlds. -/
def SameOn (D : Nat → Prop) (w w' : World) : Prop := ∀ b, D b → w'.heap[b]? = w.heap[b]?
/-- The blocks that are there. -/
def Old (w : World) : Nat → Prop := fun b => b < w.heap.size
/-- The blocks that are there, but for one. -/
def Av (g : Nat) (w : World) : Nat → Prop := fun b => b < w.heap.size ∧ b ≠ g
/-- The blocks that have been made between two worlds. -/
def Fresh (w w' : World) : Nat → Prop := fun b => w.heap.size ≤ b ∧ b < w'.heap.size
/-- The largest length of a list that is spoken of here. -/
def few : Nat := 65536

theorem below_drewN {B : Nat} {a w : World} (h : Below B a w) (n : Nat) : Below B a (w.drewN n) := ⟨h.os, h.tape, h.output, h.size, h.block⟩
theorem sameOn_below {D : Nat → Prop} {w w' : World} {B : Nat} (hD : ∀ b, D b → b < B) (h : Below B w w') : SameOn D w w' := fun b hb => h.block b (hD b hb)
theorem sameOn_old {w w' : World} (h : Below w.heap.size w w') : SameOn (Old w) w w' := fun b hb => h.block b hb
theorem old_mono {w w' : World} (h : Below w.heap.size w w') : ∀ b, Old w b → Old w' b := fun b hb => by have := h.size; unfold Old at *; omega
theorem av_old (g : Nat) (w : World) : ∀ b, Av g w b → Old w b := fun _ h => h.1
theorem fresh_old (w w' : World) : ∀ b, Fresh w w' b → Old w' b := fun _ h => h.2
theorem fresh_av {w w' : World} {g : Nat} (hg : g < w.heap.size) : ∀ b, Fresh w w' b → Av g w' b := fun _ h => ⟨h.2, by have := h.1; omega⟩
theorem sameOn_av {w w' : World} {g : Nat} (h : w.grownBy w' (some g)) : SameOn (Av g w) w w' := fun b hb => h.block b hb.1 (fun e => hb.2 (by injection e))
theorem av_mono {w w' : World} {g : Nat} (h : w.grownBy w' (some g)) : ∀ b, Av g w b → Av g w' b := fun _ hb => ⟨Nat.lt_of_lt_of_le hb.1 h.size, hb.2⟩
theorem grown_of_below {w w' : World} (h : Below w.heap.size w w') (g : Option Nat) : w.grownBy w' g := ⟨h.os, h.tape, h.output, h.size, fun k hk _ => h.block k hk⟩

/-- Rows of sz cells lie one behind the other, one for each element; the block meets D. -/
def RowL {α : Type} (sz : Nat) (cell : α → Nat → Value) (w : World) (D : Nat → Prop) (A : Option Addr) (xs : List α) : Prop :=
  0 < xs.length → ∃ b off, A = some ⟨b, off, none⟩ ∧ D b ∧ ∀ i x j, xs[i]? = some x → j < sz → w.cell? ⟨b, off + i * sz + j, none⟩ = some (cell x j)
/-- A slice that holds a list. -/
def ListR {α : Type} (sz : Nat) (cell : α → Nat → Value) (w : World) (D : Nat → Prop) (v : Value) (xs : List α) : Prop :=
  ∃ A c, v = .slice A xs.length c ∧ xs.length ≤ c ∧ xs.length ≤ few ∧ RowL sz cell w D A xs

section
variable {α : Type} {sz : Nat} {cell : α → Nat → Value} {w w' : World} {D D' : Nat → Prop} {A : Option Addr} {v : Value} {xs : List α}
theorem RowL.keep (h : RowL sz cell w D A xs) (hs : SameOn D w w') : RowL sz cell w' D A xs := by
  intro hn
  obtain ⟨b, off, rfl, hb, hc⟩ := h hn
  exact ⟨b, off, rfl, hb, fun i x j hi hj => (World.cell?_of_block (w := w) (a := ⟨b, off + i * sz + j, none⟩) (hs b hb)).trans (hc i x j hi hj)⟩
theorem RowL.dom (h : RowL sz cell w D A xs) (hs : ∀ b, D b → D' b) : RowL sz cell w D' A xs := by
  intro hn
  obtain ⟨b, off, rfl, hb, hc⟩ := h hn
  exact ⟨b, off, rfl, hs b hb, hc⟩
theorem ListR.keep (h : ListR sz cell w D v xs) (hs : SameOn D w w') : ListR sz cell w' D v xs := by
  obtain ⟨A, c, rfl, h1, h2, h3⟩ := h
  exact ⟨A, c, rfl, h1, h2, h3.keep hs⟩
theorem ListR.dom (h : ListR sz cell w D v xs) (hs : ∀ b, D b → D' b) : ListR sz cell w D' v xs := by
  obtain ⟨A, c, rfl, h1, h2, h3⟩ := h
  exact ⟨A, c, rfl, h1, h2, h3.dom hs⟩
theorem ListR.nil_ : ListR sz cell w D (.slice none 0 0) [] := ⟨none, 0, rfl, Nat.le_refl _, Nat.zero_le _, fun h => absurd h (by simp)⟩
end

def filCell (e : Fil) : Nat → Value
  | 0 => .int .i64 e.1
  | _ => .int .i64 e.2
def entCell (e : Ent) : Nat → Value
  | 0 => .string e.1
  | _ => .int .i64 e.2
def nodCell (n : Nod × Value) : Nat → Value
  | 0 => .int .i64 n.1.ino
  | 1 => .int .i64 n.1.kind
  | 2 => .int .i64 n.1.mode
  | 3 => .int .i64 n.1.uid
  | 4 => .int .i64 n.1.gid
  | 5 => .int .i64 n.1.parent
  | 6 => .string n.1.target
  | _ => n.2
def dvcCell (d : Dvc × Value) : Nat → Value
  | 0 => .int .i64 d.1.next
  | _ => d.2
def mntCell (m : Mnt) : Nat → Value
  | 0 => .int .i64 m.1
  | 1 => .int .i64 m.2.1
  | _ => .int .i64 m.2.2
def chgCell (m : Chg) : Nat → Value
  | 0 => .int .i64 m.1.1
  | 1 => .int .i64 m.1.2
  | 2 => .string m.2.1
  | 3 => .int .i64 m.2.2.1.1
  | 4 => .int .i64 m.2.2.1.2
  | 5 => .int .i64 m.2.2.2.1
  | _ => .int .i64 m.2.2.2.2
def strCell (s : Str) : Nat → Value
  | _ => .string s
def intCell (n : Int) : Nat → Value
  | _ => .int .i64 n

abbrev EntsR := ListR 2 entCell
abbrev MntsR := ListR 3 mntCell
abbrev FilsR := ListR 2 filCell
abbrev ChgsR := ListR 7 chgCell
abbrev StrsR := ListR 1 strCell
abbrev IntsR := ListR 1 intCell
def FilV (at_ : Fil) : Value := .agg #[.int .i64 at_.1, .int .i64 at_.2]
def NodV (n : Nod) (e : Value) : Value := .agg #[.int .i64 n.ino, .int .i64 n.kind, .int .i64 n.mode, .int .i64 n.uid, .int .i64 n.gid, .int .i64 n.parent, .string n.target, e]

/-- A slice that holds nodes: each with the slice that holds its entries. -/
def NodsR (w : World) (D : Nat → Prop) (v : Value) (ns : List Nod) : Prop :=
  ∃ xs : List (Nod × Value), xs.map (·.1) = ns ∧ ListR 8 nodCell w D v xs ∧ ∀ x ∈ xs, EntsR w D x.2 x.1.entries
def DvcsR (w : World) (D : Nat → Prop) (v : Value) (f : Fls) : Prop :=
  ∃ xs : List (Dvc × Value), xs.map (·.1) = f ∧ ListR 2 dvcCell w D v xs ∧ ∀ x ∈ xs, NodsR w D x.2 x.1.nodes
def FlsR (w : World) (D : Nat → Prop) (v : Value) (f : Fls) : Prop := ∃ d, v = .agg #[d] ∧ DvcsR w D d f
def SpcR (w : World) (D : Nat → Prop) (v : Value) (s : Spc) : Prop := ∃ d m, v = .agg #[d, m] ∧ DvcsR w D d s.files ∧ MntsR w D m s.mounts
def NodR (w : World) (D : Nat → Prop) (v : Value) (n : Nod) : Prop := ∃ e, v = NodV n e ∧ EntsR w D e n.entries

section
variable {w w' : World} {D D' : Nat → Prop} {v : Value}
theorem NodsR.keep {ns : List Nod} (h : NodsR w D v ns) (hs : SameOn D w w') : NodsR w' D v ns := by
  obtain ⟨xs, h1, h2, h3⟩ := h
  exact ⟨xs, h1, h2.keep hs, fun x hx => (h3 x hx).keep hs⟩
theorem NodsR.dom {ns : List Nod} (h : NodsR w D v ns) (hs : ∀ b, D b → D' b) : NodsR w D' v ns := by
  obtain ⟨xs, h1, h2, h3⟩ := h
  exact ⟨xs, h1, h2.dom hs, fun x hx => (h3 x hx).dom hs⟩
theorem DvcsR.keep {f : Fls} (h : DvcsR w D v f) (hs : SameOn D w w') : DvcsR w' D v f := by
  obtain ⟨xs, h1, h2, h3⟩ := h
  exact ⟨xs, h1, h2.keep hs, fun x hx => (h3 x hx).keep hs⟩
theorem DvcsR.dom {f : Fls} (h : DvcsR w D v f) (hs : ∀ b, D b → D' b) : DvcsR w D' v f := by
  obtain ⟨xs, h1, h2, h3⟩ := h
  exact ⟨xs, h1, h2.dom hs, fun x hx => (h3 x hx).dom hs⟩
theorem FlsR.keep {f : Fls} (h : FlsR w D v f) (hs : SameOn D w w') : FlsR w' D v f := by
  obtain ⟨d, rfl, h⟩ := h
  exact ⟨d, rfl, h.keep hs⟩
theorem FlsR.dom {f : Fls} (h : FlsR w D v f) (hs : ∀ b, D b → D' b) : FlsR w D' v f := by
  obtain ⟨d, rfl, h⟩ := h
  exact ⟨d, rfl, h.dom hs⟩
theorem SpcR.keep {f : Spc} (h : SpcR w D v f) (hs : SameOn D w w') : SpcR w' D v f := by
  obtain ⟨d, m, rfl, h, h'⟩ := h
  exact ⟨d, m, rfl, h.keep hs, h'.keep hs⟩
theorem SpcR.dom {f : Spc} (h : SpcR w D v f) (hs : ∀ b, D b → D' b) : SpcR w D' v f := by
  obtain ⟨d, m, rfl, h, h'⟩ := h
  exact ⟨d, m, rfl, h.dom hs, h'.dom hs⟩
theorem NodR.keep {n : Nod} (h : NodR w D v n) (hs : SameOn D w w') : NodR w' D v n := by
  obtain ⟨e, rfl, h⟩ := h
  exact ⟨e, rfl, h.keep hs⟩
theorem NodR.dom {n : Nod} (h : NodR w D v n) (hs : ∀ b, D b → D' b) : NodR w D' v n := by
  obtain ⟨e, rfl, h⟩ := h
  exact ⟨e, rfl, h.dom hs⟩
end

theorem ret_int {k : IntKind} {a b : Int} (h : a = b) : Ending.returned (.int k a) = .returned (.int k b) := by rw [h]
theorem ret_bool {a b : Bool} (h : a = b) : Ending.returned (.bool a) = .returned (.bool b) := by rw [h]
theorem map_some {α β : Type} {g : α → β} {xs : List α} {ys : List β} (h : xs.map g = ys) {i : Nat} {y : β} (hy : ys[i]? = some y) : ∃ x, xs[i]? = some x ∧ g x = y := by
  subst h
  simpa using hy
theorem map_len {α β : Type} {g : α → β} {xs : List α} {ys : List β} (h : xs.map g = ys) : xs.length = ys.length := by
  subst h
  simp

theorem cell_of {w : World} {g : Nat} {cs : Array Value} {t : TypeId} {fz : Nat × Nat} (h : w.heap[g]? = some (.cells cs t fz)) (i : Nat) : w.cell? ⟨g, i, none⟩ = cs[i]? := by
  simp [World.cell?, h]
theorem frozen_of {w : World} {g : Nat} {cs : Array Value} {t : TypeId} (h : w.heap[g]? = some (.cells cs t (0, 0))) (i : Nat) : w.frozen? ⟨g, i, none⟩ = false := by
  simp [World.frozen?, h]

theorem grown_trans {a b c : World} {g : Option Nat} (h : a.grownBy b g) (k : b.grownBy c g) : a.grownBy c g :=
  ⟨k.os.trans h.os, k.tape.trans h.tape, k.output.trans h.output, Nat.le_trans h.size k.size, fun i hi hne => (k.block i (Nat.lt_of_lt_of_le hi h.size) hne).trans (h.block i hi hne)⟩
theorem grown_alloc {a b : World} {g : Option Nat} (h : a.grownBy b g) (o : Obj) : a.grownBy (b.alloc o) g := grown_trans h (World.grownBy_alloc b o g)
theorem grown_set {a b : World} {g : Nat} (h : a.grownBy b (some g)) {p : Addr} (hp : a.heap.size ≤ p.block) (u : Value) : a.grownBy (b.setCell p u) (some g) :=
  ⟨h.os, h.tape, h.output, by simpa [World.setCell] using h.size, fun i hi hne => (Below.heap_setCell b p u i (by omega)).trans (h.block i hi hne)⟩
theorem grown_drewN {a b : World} {g : Option Nat} (h : a.grownBy b g) (n : Nat) : a.grownBy (b.drewN n) g := ⟨h.os, h.tape, h.output, h.size, h.block⟩
theorem blk_grown {w w' : World} {b g : Nat} {o : Obj} (h : w.heap[b]? = some o) (hg : w.grownBy w' (some g)) (hne : b ≠ g) : w'.heap[b]? = some o := by
  have hb : b < w.heap.size := by
    rcases Nat.lt_or_ge b w.heap.size with hlt | hge
    · exact hlt
    · rw [Array.getElem?_eq_none hge] at h; cases h
  exact (hg.block b hb (fun e => hne (by injection e))).trans h
theorem blk_grown' {w w' : World} {b : Nat} {row : Option Nat} {o : Obj} (h : w.heap[b]? = some o) (hg : w.grownBy w' row) (hne : some b ≠ row) : w'.heap[b]? = some o := by
  have hb : b < w.heap.size := by
    rcases Nat.lt_or_ge b w.heap.size with hlt | hge
    · exact hlt
    · rw [Array.getElem?_eq_none hge] at h; cases h
  exact (hg.block b hb hne).trans h
theorem blk_alloc {w : World} {b : Nat} {o : Obj} (h : w.heap[b]? = some o) (o' : Obj) : (w.alloc o').heap[b]? = some o := by
  have hb : b < w.heap.size := by
    rcases Nat.lt_or_ge b w.heap.size with hlt | hge
    · exact hlt
    · rw [Array.getElem?_eq_none hge] at h; cases h
  exact (Below.heap_alloc w o' b hb).trans h
theorem cells_of {w : World} {g : Nat} {cs : Array Value} {t : TypeId} (h : w.heap[g]? = some (.cells cs t (0, 0))) : (∀ i, w.cell? ⟨g, i, none⟩ = cs[i]?) ∧ (∀ i, w.frozen? ⟨g, i, none⟩ = false) :=
  ⟨fun i => cell_of h i, fun i => frozen_of h i⟩
theorem blk_set {w : World} {b : Nat} {cs : Array Value} {t : TypeId} {fz : Nat × Nat} (h : w.heap[b]? = some (.cells cs t fz)) (i : Nat) (u : Value) : (w.setCell ⟨b, i, none⟩ u).heap[b]? = some (.cells (cs.setIfInBounds i u) t fz) := by
  simp [World.setCell, Array.getElem?_modify, h]
theorem blk_far {w : World} {b : Nat} {o : Obj} (h : w.heap[b]? = some o) {p : Addr} (hp : b ≠ p.block) (u : Value) : (w.setCell p u).heap[b]? = some o := (Below.heap_setCell w p u b hp).trans h
theorem cell_new (w : World) (cs : Array Value) (t : TypeId) (i : Nat) : (w.alloc (.cells cs t)).cell? ⟨w.heap.size, i, none⟩ = cs[i]? :=
  cell_of (t := t) (fz := (0, 0)) (heap_alloc_new w _) i

theorem blk_below {w w' : World} {b B : Nat} {o : Obj} (h : w.heap[b]? = some o) (hg : Below B w w') (hb : b < B) : w'.heap[b]? = some o := (hg.block b hb).trans h


theorem below_a1 (w : World) (o1 : Obj) : Below w.heap.size w (w.alloc o1) := by
  exact (Below.refl _ w).alloc (Nat.le_refl _) _
theorem size_a1 (w : World) (o1 : Obj) : (w.alloc o1).heap.size = w.heap.size + 1 := by simp
theorem blk_a1_0 (w : World) (o1 : Obj) : (w.alloc o1).heap[w.heap.size]? = some o1 := (by have := heap_alloc_new w o1; simpa using this)
theorem after1 {w w1 : World} {o1 : Obj} (h : Below (w.alloc o1).heap.size (w.alloc o1) w1) : Below w.heap.size w w1 ∧ w.heap.size + 1 ≤ w1.heap.size ∧ w1.heap[w.heap.size]? = some o1 := by
  have hs := h.size
  rw [size_a1] at hs
  exact ⟨(below_a1 w o1).trans (h.mono (by simp <;> omega)), hs, blk_below (blk_a1_0 w o1) h (by simp)⟩
theorem afterg1 {w w1 : World} {g : Nat} {o1 : Obj} (hg : g < w.heap.size) (h : (w.alloc o1).grownBy w1 (some g)) : w.grownBy w1 (some g) ∧ w.heap.size + 1 ≤ w1.heap.size ∧ w1.heap[w.heap.size]? = some o1 := by
  have hs := h.size
  rw [size_a1] at hs
  exact ⟨grown_trans (grown_of_below (below_a1 w o1) _) h, hs, blk_grown (blk_a1_0 w o1) h (by omega)⟩
theorem below_a2 (w : World) (o1 o2 : Obj) : Below w.heap.size w ((w.alloc o1).alloc o2) := by
  exact (below_a1 w o1).alloc (by simp <;> omega) _
theorem size_a2 (w : World) (o1 o2 : Obj) : ((w.alloc o1).alloc o2).heap.size = w.heap.size + 2 := by simp
theorem blk_a2_0 (w : World) (o1 o2 : Obj) : ((w.alloc o1).alloc o2).heap[w.heap.size]? = some o1 := blk_alloc (blk_a1_0 w o1) _
theorem blk_a2_1 (w : World) (o1 o2 : Obj) : ((w.alloc o1).alloc o2).heap[w.heap.size + 1]? = some o2 := (by have := heap_alloc_new (w.alloc o1) o2; simpa using this)
theorem after2 {w w1 : World} {o1 o2 : Obj} (h : Below ((w.alloc o1).alloc o2).heap.size ((w.alloc o1).alloc o2) w1) : Below w.heap.size w w1 ∧ w.heap.size + 2 ≤ w1.heap.size ∧ w1.heap[w.heap.size]? = some o1 ∧ w1.heap[w.heap.size + 1]? = some o2 := by
  have hs := h.size
  rw [size_a2] at hs
  exact ⟨(below_a2 w o1 o2).trans (h.mono (by simp <;> omega)), hs, blk_below (blk_a2_0 w o1 o2) h (by simp <;> omega), blk_below (blk_a2_1 w o1 o2) h (by simp)⟩
theorem afterg2 {w w1 : World} {g : Nat} {o1 o2 : Obj} (hg : g < w.heap.size) (h : ((w.alloc o1).alloc o2).grownBy w1 (some g)) : w.grownBy w1 (some g) ∧ w.heap.size + 2 ≤ w1.heap.size ∧ w1.heap[w.heap.size]? = some o1 ∧ w1.heap[w.heap.size + 1]? = some o2 := by
  have hs := h.size
  rw [size_a2] at hs
  exact ⟨grown_trans (grown_of_below (below_a2 w o1 o2) _) h, hs, blk_grown (blk_a2_0 w o1 o2) h (by omega), blk_grown (blk_a2_1 w o1 o2) h (by omega)⟩
theorem below_a3 (w : World) (o1 o2 o3 : Obj) : Below w.heap.size w (((w.alloc o1).alloc o2).alloc o3) := by
  exact (below_a2 w o1 o2).alloc (by simp <;> omega) _
theorem size_a3 (w : World) (o1 o2 o3 : Obj) : (((w.alloc o1).alloc o2).alloc o3).heap.size = w.heap.size + 3 := by simp
theorem blk_a3_0 (w : World) (o1 o2 o3 : Obj) : (((w.alloc o1).alloc o2).alloc o3).heap[w.heap.size]? = some o1 := blk_alloc (blk_a2_0 w o1 o2) _
theorem blk_a3_1 (w : World) (o1 o2 o3 : Obj) : (((w.alloc o1).alloc o2).alloc o3).heap[w.heap.size + 1]? = some o2 := blk_alloc (blk_a2_1 w o1 o2) _
theorem blk_a3_2 (w : World) (o1 o2 o3 : Obj) : (((w.alloc o1).alloc o2).alloc o3).heap[w.heap.size + 1 + 1]? = some o3 := (by have := heap_alloc_new ((w.alloc o1).alloc o2) o3; simpa using this)
theorem after3 {w w1 : World} {o1 o2 o3 : Obj} (h : Below (((w.alloc o1).alloc o2).alloc o3).heap.size (((w.alloc o1).alloc o2).alloc o3) w1) : Below w.heap.size w w1 ∧ w.heap.size + 3 ≤ w1.heap.size ∧ w1.heap[w.heap.size]? = some o1 ∧ w1.heap[w.heap.size + 1]? = some o2 ∧ w1.heap[w.heap.size + 1 + 1]? = some o3 := by
  have hs := h.size
  rw [size_a3] at hs
  exact ⟨(below_a3 w o1 o2 o3).trans (h.mono (by simp <;> omega)), hs, blk_below (blk_a3_0 w o1 o2 o3) h (by simp <;> omega), blk_below (blk_a3_1 w o1 o2 o3) h (by simp <;> omega), blk_below (blk_a3_2 w o1 o2 o3) h (by simp)⟩
theorem afterg3 {w w1 : World} {g : Nat} {o1 o2 o3 : Obj} (hg : g < w.heap.size) (h : (((w.alloc o1).alloc o2).alloc o3).grownBy w1 (some g)) : w.grownBy w1 (some g) ∧ w.heap.size + 3 ≤ w1.heap.size ∧ w1.heap[w.heap.size]? = some o1 ∧ w1.heap[w.heap.size + 1]? = some o2 ∧ w1.heap[w.heap.size + 1 + 1]? = some o3 := by
  have hs := h.size
  rw [size_a3] at hs
  exact ⟨grown_trans (grown_of_below (below_a3 w o1 o2 o3) _) h, hs, blk_grown (blk_a3_0 w o1 o2 o3) h (by omega), blk_grown (blk_a3_1 w o1 o2 o3) h (by omega), blk_grown (blk_a3_2 w o1 o2 o3) h (by omega)⟩
theorem below_a4 (w : World) (o1 o2 o3 o4 : Obj) : Below w.heap.size w ((((w.alloc o1).alloc o2).alloc o3).alloc o4) := by
  exact (below_a3 w o1 o2 o3).alloc (by simp <;> omega) _
theorem size_a4 (w : World) (o1 o2 o3 o4 : Obj) : ((((w.alloc o1).alloc o2).alloc o3).alloc o4).heap.size = w.heap.size + 4 := by simp
theorem blk_a4_0 (w : World) (o1 o2 o3 o4 : Obj) : ((((w.alloc o1).alloc o2).alloc o3).alloc o4).heap[w.heap.size]? = some o1 := blk_alloc (blk_a3_0 w o1 o2 o3) _
theorem blk_a4_1 (w : World) (o1 o2 o3 o4 : Obj) : ((((w.alloc o1).alloc o2).alloc o3).alloc o4).heap[w.heap.size + 1]? = some o2 := blk_alloc (blk_a3_1 w o1 o2 o3) _
theorem blk_a4_2 (w : World) (o1 o2 o3 o4 : Obj) : ((((w.alloc o1).alloc o2).alloc o3).alloc o4).heap[w.heap.size + 1 + 1]? = some o3 := blk_alloc (blk_a3_2 w o1 o2 o3) _
theorem blk_a4_3 (w : World) (o1 o2 o3 o4 : Obj) : ((((w.alloc o1).alloc o2).alloc o3).alloc o4).heap[w.heap.size + 1 + 1 + 1]? = some o4 := (by have := heap_alloc_new (((w.alloc o1).alloc o2).alloc o3) o4; simpa using this)
theorem after4 {w w1 : World} {o1 o2 o3 o4 : Obj} (h : Below ((((w.alloc o1).alloc o2).alloc o3).alloc o4).heap.size ((((w.alloc o1).alloc o2).alloc o3).alloc o4) w1) : Below w.heap.size w w1 ∧ w.heap.size + 4 ≤ w1.heap.size ∧ w1.heap[w.heap.size]? = some o1 ∧ w1.heap[w.heap.size + 1]? = some o2 ∧ w1.heap[w.heap.size + 1 + 1]? = some o3 ∧ w1.heap[w.heap.size + 1 + 1 + 1]? = some o4 := by
  have hs := h.size
  rw [size_a4] at hs
  exact ⟨(below_a4 w o1 o2 o3 o4).trans (h.mono (by simp <;> omega)), hs, blk_below (blk_a4_0 w o1 o2 o3 o4) h (by simp <;> omega), blk_below (blk_a4_1 w o1 o2 o3 o4) h (by simp <;> omega), blk_below (blk_a4_2 w o1 o2 o3 o4) h (by simp <;> omega), blk_below (blk_a4_3 w o1 o2 o3 o4) h (by simp)⟩
theorem afterg4 {w w1 : World} {g : Nat} {o1 o2 o3 o4 : Obj} (hg : g < w.heap.size) (h : ((((w.alloc o1).alloc o2).alloc o3).alloc o4).grownBy w1 (some g)) : w.grownBy w1 (some g) ∧ w.heap.size + 4 ≤ w1.heap.size ∧ w1.heap[w.heap.size]? = some o1 ∧ w1.heap[w.heap.size + 1]? = some o2 ∧ w1.heap[w.heap.size + 1 + 1]? = some o3 ∧ w1.heap[w.heap.size + 1 + 1 + 1]? = some o4 := by
  have hs := h.size
  rw [size_a4] at hs
  exact ⟨grown_trans (grown_of_below (below_a4 w o1 o2 o3 o4) _) h, hs, blk_grown (blk_a4_0 w o1 o2 o3 o4) h (by omega), blk_grown (blk_a4_1 w o1 o2 o3 o4) h (by omega), blk_grown (blk_a4_2 w o1 o2 o3 o4) h (by omega), blk_grown (blk_a4_3 w o1 o2 o3 o4) h (by omega)⟩
theorem below_a5 (w : World) (o1 o2 o3 o4 o5 : Obj) : Below w.heap.size w (((((w.alloc o1).alloc o2).alloc o3).alloc o4).alloc o5) := by
  exact (below_a4 w o1 o2 o3 o4).alloc (by simp <;> omega) _
theorem size_a5 (w : World) (o1 o2 o3 o4 o5 : Obj) : (((((w.alloc o1).alloc o2).alloc o3).alloc o4).alloc o5).heap.size = w.heap.size + 5 := by simp
theorem blk_a5_0 (w : World) (o1 o2 o3 o4 o5 : Obj) : (((((w.alloc o1).alloc o2).alloc o3).alloc o4).alloc o5).heap[w.heap.size]? = some o1 := blk_alloc (blk_a4_0 w o1 o2 o3 o4) _
theorem blk_a5_1 (w : World) (o1 o2 o3 o4 o5 : Obj) : (((((w.alloc o1).alloc o2).alloc o3).alloc o4).alloc o5).heap[w.heap.size + 1]? = some o2 := blk_alloc (blk_a4_1 w o1 o2 o3 o4) _
theorem blk_a5_2 (w : World) (o1 o2 o3 o4 o5 : Obj) : (((((w.alloc o1).alloc o2).alloc o3).alloc o4).alloc o5).heap[w.heap.size + 1 + 1]? = some o3 := blk_alloc (blk_a4_2 w o1 o2 o3 o4) _
theorem blk_a5_3 (w : World) (o1 o2 o3 o4 o5 : Obj) : (((((w.alloc o1).alloc o2).alloc o3).alloc o4).alloc o5).heap[w.heap.size + 1 + 1 + 1]? = some o4 := blk_alloc (blk_a4_3 w o1 o2 o3 o4) _
theorem blk_a5_4 (w : World) (o1 o2 o3 o4 o5 : Obj) : (((((w.alloc o1).alloc o2).alloc o3).alloc o4).alloc o5).heap[w.heap.size + 1 + 1 + 1 + 1]? = some o5 := (by have := heap_alloc_new ((((w.alloc o1).alloc o2).alloc o3).alloc o4) o5; simpa using this)
theorem after5 {w w1 : World} {o1 o2 o3 o4 o5 : Obj} (h : Below (((((w.alloc o1).alloc o2).alloc o3).alloc o4).alloc o5).heap.size (((((w.alloc o1).alloc o2).alloc o3).alloc o4).alloc o5) w1) : Below w.heap.size w w1 ∧ w.heap.size + 5 ≤ w1.heap.size ∧ w1.heap[w.heap.size]? = some o1 ∧ w1.heap[w.heap.size + 1]? = some o2 ∧ w1.heap[w.heap.size + 1 + 1]? = some o3 ∧ w1.heap[w.heap.size + 1 + 1 + 1]? = some o4 ∧ w1.heap[w.heap.size + 1 + 1 + 1 + 1]? = some o5 := by
  have hs := h.size
  rw [size_a5] at hs
  exact ⟨(below_a5 w o1 o2 o3 o4 o5).trans (h.mono (by simp <;> omega)), hs, blk_below (blk_a5_0 w o1 o2 o3 o4 o5) h (by simp <;> omega), blk_below (blk_a5_1 w o1 o2 o3 o4 o5) h (by simp <;> omega), blk_below (blk_a5_2 w o1 o2 o3 o4 o5) h (by simp <;> omega), blk_below (blk_a5_3 w o1 o2 o3 o4 o5) h (by simp <;> omega), blk_below (blk_a5_4 w o1 o2 o3 o4 o5) h (by simp)⟩
theorem afterg5 {w w1 : World} {g : Nat} {o1 o2 o3 o4 o5 : Obj} (hg : g < w.heap.size) (h : (((((w.alloc o1).alloc o2).alloc o3).alloc o4).alloc o5).grownBy w1 (some g)) : w.grownBy w1 (some g) ∧ w.heap.size + 5 ≤ w1.heap.size ∧ w1.heap[w.heap.size]? = some o1 ∧ w1.heap[w.heap.size + 1]? = some o2 ∧ w1.heap[w.heap.size + 1 + 1]? = some o3 ∧ w1.heap[w.heap.size + 1 + 1 + 1]? = some o4 ∧ w1.heap[w.heap.size + 1 + 1 + 1 + 1]? = some o5 := by
  have hs := h.size
  rw [size_a5] at hs
  exact ⟨grown_trans (grown_of_below (below_a5 w o1 o2 o3 o4 o5) _) h, hs, blk_grown (blk_a5_0 w o1 o2 o3 o4 o5) h (by omega), blk_grown (blk_a5_1 w o1 o2 o3 o4 o5) h (by omega), blk_grown (blk_a5_2 w o1 o2 o3 o4 o5) h (by omega), blk_grown (blk_a5_3 w o1 o2 o3 o4 o5) h (by omega), blk_grown (blk_a5_4 w o1 o2 o3 o4 o5) h (by omega)⟩
theorem below_a6 (w : World) (o1 o2 o3 o4 o5 o6 : Obj) : Below w.heap.size w ((((((w.alloc o1).alloc o2).alloc o3).alloc o4).alloc o5).alloc o6) := by
  exact (below_a5 w o1 o2 o3 o4 o5).alloc (by simp <;> omega) _
theorem size_a6 (w : World) (o1 o2 o3 o4 o5 o6 : Obj) : ((((((w.alloc o1).alloc o2).alloc o3).alloc o4).alloc o5).alloc o6).heap.size = w.heap.size + 6 := by simp
theorem blk_a6_0 (w : World) (o1 o2 o3 o4 o5 o6 : Obj) : ((((((w.alloc o1).alloc o2).alloc o3).alloc o4).alloc o5).alloc o6).heap[w.heap.size]? = some o1 := blk_alloc (blk_a5_0 w o1 o2 o3 o4 o5) _
theorem blk_a6_1 (w : World) (o1 o2 o3 o4 o5 o6 : Obj) : ((((((w.alloc o1).alloc o2).alloc o3).alloc o4).alloc o5).alloc o6).heap[w.heap.size + 1]? = some o2 := blk_alloc (blk_a5_1 w o1 o2 o3 o4 o5) _
theorem blk_a6_2 (w : World) (o1 o2 o3 o4 o5 o6 : Obj) : ((((((w.alloc o1).alloc o2).alloc o3).alloc o4).alloc o5).alloc o6).heap[w.heap.size + 1 + 1]? = some o3 := blk_alloc (blk_a5_2 w o1 o2 o3 o4 o5) _
theorem blk_a6_3 (w : World) (o1 o2 o3 o4 o5 o6 : Obj) : ((((((w.alloc o1).alloc o2).alloc o3).alloc o4).alloc o5).alloc o6).heap[w.heap.size + 1 + 1 + 1]? = some o4 := blk_alloc (blk_a5_3 w o1 o2 o3 o4 o5) _
theorem blk_a6_4 (w : World) (o1 o2 o3 o4 o5 o6 : Obj) : ((((((w.alloc o1).alloc o2).alloc o3).alloc o4).alloc o5).alloc o6).heap[w.heap.size + 1 + 1 + 1 + 1]? = some o5 := blk_alloc (blk_a5_4 w o1 o2 o3 o4 o5) _
theorem blk_a6_5 (w : World) (o1 o2 o3 o4 o5 o6 : Obj) : ((((((w.alloc o1).alloc o2).alloc o3).alloc o4).alloc o5).alloc o6).heap[w.heap.size + 1 + 1 + 1 + 1 + 1]? = some o6 := (by have := heap_alloc_new (((((w.alloc o1).alloc o2).alloc o3).alloc o4).alloc o5) o6; simpa using this)
theorem after6 {w w1 : World} {o1 o2 o3 o4 o5 o6 : Obj} (h : Below ((((((w.alloc o1).alloc o2).alloc o3).alloc o4).alloc o5).alloc o6).heap.size ((((((w.alloc o1).alloc o2).alloc o3).alloc o4).alloc o5).alloc o6) w1) : Below w.heap.size w w1 ∧ w.heap.size + 6 ≤ w1.heap.size ∧ w1.heap[w.heap.size]? = some o1 ∧ w1.heap[w.heap.size + 1]? = some o2 ∧ w1.heap[w.heap.size + 1 + 1]? = some o3 ∧ w1.heap[w.heap.size + 1 + 1 + 1]? = some o4 ∧ w1.heap[w.heap.size + 1 + 1 + 1 + 1]? = some o5 ∧ w1.heap[w.heap.size + 1 + 1 + 1 + 1 + 1]? = some o6 := by
  have hs := h.size
  rw [size_a6] at hs
  exact ⟨(below_a6 w o1 o2 o3 o4 o5 o6).trans (h.mono (by simp <;> omega)), hs, blk_below (blk_a6_0 w o1 o2 o3 o4 o5 o6) h (by simp <;> omega), blk_below (blk_a6_1 w o1 o2 o3 o4 o5 o6) h (by simp <;> omega), blk_below (blk_a6_2 w o1 o2 o3 o4 o5 o6) h (by simp <;> omega), blk_below (blk_a6_3 w o1 o2 o3 o4 o5 o6) h (by simp <;> omega), blk_below (blk_a6_4 w o1 o2 o3 o4 o5 o6) h (by simp <;> omega), blk_below (blk_a6_5 w o1 o2 o3 o4 o5 o6) h (by simp)⟩
theorem afterg6 {w w1 : World} {g : Nat} {o1 o2 o3 o4 o5 o6 : Obj} (hg : g < w.heap.size) (h : ((((((w.alloc o1).alloc o2).alloc o3).alloc o4).alloc o5).alloc o6).grownBy w1 (some g)) : w.grownBy w1 (some g) ∧ w.heap.size + 6 ≤ w1.heap.size ∧ w1.heap[w.heap.size]? = some o1 ∧ w1.heap[w.heap.size + 1]? = some o2 ∧ w1.heap[w.heap.size + 1 + 1]? = some o3 ∧ w1.heap[w.heap.size + 1 + 1 + 1]? = some o4 ∧ w1.heap[w.heap.size + 1 + 1 + 1 + 1]? = some o5 ∧ w1.heap[w.heap.size + 1 + 1 + 1 + 1 + 1]? = some o6 := by
  have hs := h.size
  rw [size_a6] at hs
  exact ⟨grown_trans (grown_of_below (below_a6 w o1 o2 o3 o4 o5 o6) _) h, hs, blk_grown (blk_a6_0 w o1 o2 o3 o4 o5 o6) h (by omega), blk_grown (blk_a6_1 w o1 o2 o3 o4 o5 o6) h (by omega), blk_grown (blk_a6_2 w o1 o2 o3 o4 o5 o6) h (by omega), blk_grown (blk_a6_3 w o1 o2 o3 o4 o5 o6) h (by omega), blk_grown (blk_a6_4 w o1 o2 o3 o4 o5 o6) h (by omega), blk_grown (blk_a6_5 w o1 o2 o3 o4 o5 o6) h (by omega)⟩
theorem below_a7 (w : World) (o1 o2 o3 o4 o5 o6 o7 : Obj) : Below w.heap.size w (((((((w.alloc o1).alloc o2).alloc o3).alloc o4).alloc o5).alloc o6).alloc o7) := by
  exact (below_a6 w o1 o2 o3 o4 o5 o6).alloc (by simp <;> omega) _
theorem size_a7 (w : World) (o1 o2 o3 o4 o5 o6 o7 : Obj) : (((((((w.alloc o1).alloc o2).alloc o3).alloc o4).alloc o5).alloc o6).alloc o7).heap.size = w.heap.size + 7 := by simp
theorem blk_a7_0 (w : World) (o1 o2 o3 o4 o5 o6 o7 : Obj) : (((((((w.alloc o1).alloc o2).alloc o3).alloc o4).alloc o5).alloc o6).alloc o7).heap[w.heap.size]? = some o1 := blk_alloc (blk_a6_0 w o1 o2 o3 o4 o5 o6) _
theorem blk_a7_1 (w : World) (o1 o2 o3 o4 o5 o6 o7 : Obj) : (((((((w.alloc o1).alloc o2).alloc o3).alloc o4).alloc o5).alloc o6).alloc o7).heap[w.heap.size + 1]? = some o2 := blk_alloc (blk_a6_1 w o1 o2 o3 o4 o5 o6) _
theorem blk_a7_2 (w : World) (o1 o2 o3 o4 o5 o6 o7 : Obj) : (((((((w.alloc o1).alloc o2).alloc o3).alloc o4).alloc o5).alloc o6).alloc o7).heap[w.heap.size + 1 + 1]? = some o3 := blk_alloc (blk_a6_2 w o1 o2 o3 o4 o5 o6) _
theorem blk_a7_3 (w : World) (o1 o2 o3 o4 o5 o6 o7 : Obj) : (((((((w.alloc o1).alloc o2).alloc o3).alloc o4).alloc o5).alloc o6).alloc o7).heap[w.heap.size + 1 + 1 + 1]? = some o4 := blk_alloc (blk_a6_3 w o1 o2 o3 o4 o5 o6) _
theorem blk_a7_4 (w : World) (o1 o2 o3 o4 o5 o6 o7 : Obj) : (((((((w.alloc o1).alloc o2).alloc o3).alloc o4).alloc o5).alloc o6).alloc o7).heap[w.heap.size + 1 + 1 + 1 + 1]? = some o5 := blk_alloc (blk_a6_4 w o1 o2 o3 o4 o5 o6) _
theorem blk_a7_5 (w : World) (o1 o2 o3 o4 o5 o6 o7 : Obj) : (((((((w.alloc o1).alloc o2).alloc o3).alloc o4).alloc o5).alloc o6).alloc o7).heap[w.heap.size + 1 + 1 + 1 + 1 + 1]? = some o6 := blk_alloc (blk_a6_5 w o1 o2 o3 o4 o5 o6) _
theorem blk_a7_6 (w : World) (o1 o2 o3 o4 o5 o6 o7 : Obj) : (((((((w.alloc o1).alloc o2).alloc o3).alloc o4).alloc o5).alloc o6).alloc o7).heap[w.heap.size + 1 + 1 + 1 + 1 + 1 + 1]? = some o7 := (by have := heap_alloc_new ((((((w.alloc o1).alloc o2).alloc o3).alloc o4).alloc o5).alloc o6) o7; simpa using this)
theorem after7 {w w1 : World} {o1 o2 o3 o4 o5 o6 o7 : Obj} (h : Below (((((((w.alloc o1).alloc o2).alloc o3).alloc o4).alloc o5).alloc o6).alloc o7).heap.size (((((((w.alloc o1).alloc o2).alloc o3).alloc o4).alloc o5).alloc o6).alloc o7) w1) : Below w.heap.size w w1 ∧ w.heap.size + 7 ≤ w1.heap.size ∧ w1.heap[w.heap.size]? = some o1 ∧ w1.heap[w.heap.size + 1]? = some o2 ∧ w1.heap[w.heap.size + 1 + 1]? = some o3 ∧ w1.heap[w.heap.size + 1 + 1 + 1]? = some o4 ∧ w1.heap[w.heap.size + 1 + 1 + 1 + 1]? = some o5 ∧ w1.heap[w.heap.size + 1 + 1 + 1 + 1 + 1]? = some o6 ∧ w1.heap[w.heap.size + 1 + 1 + 1 + 1 + 1 + 1]? = some o7 := by
  have hs := h.size
  rw [size_a7] at hs
  exact ⟨(below_a7 w o1 o2 o3 o4 o5 o6 o7).trans (h.mono (by simp <;> omega)), hs, blk_below (blk_a7_0 w o1 o2 o3 o4 o5 o6 o7) h (by simp <;> omega), blk_below (blk_a7_1 w o1 o2 o3 o4 o5 o6 o7) h (by simp <;> omega), blk_below (blk_a7_2 w o1 o2 o3 o4 o5 o6 o7) h (by simp <;> omega), blk_below (blk_a7_3 w o1 o2 o3 o4 o5 o6 o7) h (by simp <;> omega), blk_below (blk_a7_4 w o1 o2 o3 o4 o5 o6 o7) h (by simp <;> omega), blk_below (blk_a7_5 w o1 o2 o3 o4 o5 o6 o7) h (by simp <;> omega), blk_below (blk_a7_6 w o1 o2 o3 o4 o5 o6 o7) h (by simp)⟩
theorem afterg7 {w w1 : World} {g : Nat} {o1 o2 o3 o4 o5 o6 o7 : Obj} (hg : g < w.heap.size) (h : (((((((w.alloc o1).alloc o2).alloc o3).alloc o4).alloc o5).alloc o6).alloc o7).grownBy w1 (some g)) : w.grownBy w1 (some g) ∧ w.heap.size + 7 ≤ w1.heap.size ∧ w1.heap[w.heap.size]? = some o1 ∧ w1.heap[w.heap.size + 1]? = some o2 ∧ w1.heap[w.heap.size + 1 + 1]? = some o3 ∧ w1.heap[w.heap.size + 1 + 1 + 1]? = some o4 ∧ w1.heap[w.heap.size + 1 + 1 + 1 + 1]? = some o5 ∧ w1.heap[w.heap.size + 1 + 1 + 1 + 1 + 1]? = some o6 ∧ w1.heap[w.heap.size + 1 + 1 + 1 + 1 + 1 + 1]? = some o7 := by
  have hs := h.size
  rw [size_a7] at hs
  exact ⟨grown_trans (grown_of_below (below_a7 w o1 o2 o3 o4 o5 o6 o7) _) h, hs, blk_grown (blk_a7_0 w o1 o2 o3 o4 o5 o6 o7) h (by omega), blk_grown (blk_a7_1 w o1 o2 o3 o4 o5 o6 o7) h (by omega), blk_grown (blk_a7_2 w o1 o2 o3 o4 o5 o6 o7) h (by omega), blk_grown (blk_a7_3 w o1 o2 o3 o4 o5 o6 o7) h (by omega), blk_grown (blk_a7_4 w o1 o2 o3 o4 o5 o6 o7) h (by omega), blk_grown (blk_a7_5 w o1 o2 o3 o4 o5 o6 o7) h (by omega), blk_grown (blk_a7_6 w o1 o2 o3 o4 o5 o6 o7) h (by omega)⟩

section
variable {w w' : World} {v : Value}
theorem FlsR.now {f : Fls} (h : FlsR w (Old w) v f) (hb : Below w.heap.size w w') : FlsR w' (Old w') v f := (h.keep (sameOn_old hb)).dom (old_mono hb)
theorem SpcR.now {f : Spc} (h : SpcR w (Old w) v f) (hb : Below w.heap.size w w') : SpcR w' (Old w') v f := (h.keep (sameOn_old hb)).dom (old_mono hb)
theorem NodR.now {n : Nod} (h : NodR w (Old w) v n) (hb : Below w.heap.size w w') : NodR w' (Old w') v n := (h.keep (sameOn_old hb)).dom (old_mono hb)
theorem ListR.now {α : Type} {sz : Nat} {cell : α → Nat → Value} {xs : List α} (h : ListR sz cell w (Old w) v xs) (hb : Below w.heap.size w w') : ListR sz cell w' (Old w') v xs := (h.keep (sameOn_old hb)).dom (old_mono hb)
theorem FlsR.nowAv {g : Nat} {f : Fls} (h : FlsR w (Av g w) v f) (hb : w.grownBy w' (some g)) : FlsR w' (Av g w') v f := (h.keep (sameOn_av hb)).dom (av_mono hb)
theorem SpcR.nowAv {g : Nat} {f : Spc} (h : SpcR w (Av g w) v f) (hb : w.grownBy w' (some g)) : SpcR w' (Av g w') v f := (h.keep (sameOn_av hb)).dom (av_mono hb)
theorem ListR.nowAv {g : Nat} {α : Type} {sz : Nat} {cell : α → Nat → Value} {xs : List α} (h : ListR sz cell w (Av g w) v xs) (hb : w.grownBy w' (some g)) : ListR sz cell w' (Av g w') v xs := (h.keep (sameOn_av hb)).dom (av_mono hb)
end

end Go.Proofs.YtokaaebbmcldaaaGreatDoor
