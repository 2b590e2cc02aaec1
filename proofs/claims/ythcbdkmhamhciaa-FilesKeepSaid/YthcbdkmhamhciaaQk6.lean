/-
  Part 6 of the proof of FilesKeepP: what the statement's proof uses of the texts in wip/tpl.
-/
import Derived.Test.YthcbdkmhamhciaaQk5
namespace Go.Proofs.Ythcbdkmhamhciaa.Old
open Go.RowKit
def blk (v : Value) : List Nat := v.ownBlock.toList
theorem mem_blk {v : Value} {b : Nat} : b ∈ blk v ↔ v.ownBlock = some b := by
 unfold blk
 cases v.ownBlock <;> simp [eq_comm]
section
variable {α : Type} {sz : Nat} {cell : α → Nat → Value} {E : TypeId} {w w' : World} {base : Nat} {v : Value} {xs : List α}
theorem OwnL.frame (h : OwnL sz cell E w base v xs) {row : Option Nat} (hg : w.grownBy w' row) (hne : ∀ b ∈ blk v, some b ≠ row) : OwnL sz cell E w' base v xs := by
 refine h.kept hg ?_
 cases hb : v.ownBlock with
 | none => exact .inl rfl
 | some b => exact .inr (hne b (mem_blk.2 hb))
theorem OwnL.blk_lt (h : OwnL sz cell E w base v xs) : ∀ b ∈ blk v, base ≤ b ∧ b < w.heap.size := fun b hb => h.lt b (mem_blk.1 hb)
theorem OwnL.not_mem (h : OwnL sz cell E w base v xs) {g : Nat} {t : TypeId} {cs : Array Value} (hg : w.heap[g]? = some (.cells cs t (0, 0))) (hne : E ≠ t) : g ∉ blk v := fun hm => h.ne_ hg hne (mem_blk.1 hm)
end
def fpN (v : Value) (ys : List (Nod × Value)) : List Nat := blk v ++ ys.flatMap fun y => blk y.2
def NodsAt (w : World) (base : Nat) (v : Value) (ys : List (Nod × Value)) : Prop :=
 OwnL 8 nodCell 34 w base v ys ∧ (∀ y ∈ ys, OwnL 2 entCell 101 w base y.2 y.1.entries ∧ y.1.entries.length ≤ few) ∧ (fpN v ys).Nodup
abbrev DvcL := Int × Value × List (Nod × Value)
def dvlCell (d : DvcL) : Nat → Value
 | 0 => .int .i64 d.1
 | _ => d.2.1
def fpD (v : Value) (L : List DvcL) : List Nat := blk v ++ L.flatMap fun x => fpN x.2.1 x.2.2
def DvcsAt (w : World) (base : Nat) (v : Value) (L : List DvcL) : Prop :=
 OwnL 2 dvlCell 79 w base v L ∧ (∀ x ∈ L, NodsAt w base x.2.1 x.2.2 ∧ x.2.2.length ≤ few) ∧ (fpD v L).Nodup ∧ L.length ≤ few
def dvcOf (x : DvcL) : Dvc := ⟨x.1, x.2.2.map (·.1)⟩
def flsOf (L : List DvcL) : Fls := L.map dvcOf
section
variable {w w' : World} {base : Nat} {v : Value}
theorem NodsAt.frame {ys : List (Nod × Value)} (h : NodsAt w base v ys) {row : Option Nat} (hg : w.grownBy w' row) (hne : ∀ b ∈ fpN v ys, some b ≠ row) : NodsAt w' base v ys := by
 obtain ⟨h1, h2, h3⟩ := h
 refine ⟨h1.frame hg fun b hb => hne b (List.mem_append_left _ hb), fun y hy => ⟨(h2 y hy).1.frame hg fun b hb => hne b (List.mem_append_right _ (List.mem_flatMap.2 ⟨y, hy, hb⟩)), (h2 y hy).2⟩, h3⟩
theorem NodsAt.fp_lt {ys : List (Nod × Value)} (h : NodsAt w base v ys) : ∀ b ∈ fpN v ys, base ≤ b ∧ b < w.heap.size := by
 intro b hb
 rcases List.mem_append.1 hb with hb | hb
 ·exact h.1.blk_lt b hb
 obtain ⟨y, hy, hb⟩ := List.mem_flatMap.1 hb
 exact (h.2.1 y hy).1.blk_lt b hb
theorem DvcsAt.frame {L : List DvcL} (h : DvcsAt w base v L) {row : Option Nat} (hg : w.grownBy w' row) (hne : ∀ b ∈ fpD v L, some b ≠ row) : DvcsAt w' base v L := by
 obtain ⟨h1, h2, h3, h4⟩ := h
 refine ⟨h1.frame hg fun b hb => hne b (List.mem_append_left _ hb), fun y hy => ⟨(h2 y hy).1.frame hg fun b hb => hne b (List.mem_append_right _ (List.mem_flatMap.2 ⟨y, hy, hb⟩)), (h2 y hy).2⟩, h3, h4⟩
theorem DvcsAt.fp_lt {L : List DvcL} (h : DvcsAt w base v L) : ∀ b ∈ fpD v L, base ≤ b ∧ b < w.heap.size := by
 intro b hb
 rcases List.mem_append.1 hb with hb | hb
 ·exact h.1.blk_lt b hb
 obtain ⟨y, hy, hb⟩ := List.mem_flatMap.1 hb
 exact (h.2.1 y hy).1.fp_lt b hb
theorem NodsAt.below {ys : List (Nod × Value)} (h : NodsAt w base v ys) (hb : Below w.heap.size w w') : NodsAt w' base v ys := h.frame (grown_of_below hb none) (by simp)
theorem DvcsAt.below {L : List DvcL} (h : DvcsAt w base v L) (hb : Below w.heap.size w w') : DvcsAt w' base v L := h.frame (grown_of_below hb none) (by simp)
theorem DvcsAt.set_ {L : List DvcL} (h : DvcsAt w base v L) {p : Addr} (hp : p.block ∉ fpD v L) (u : Value) : DvcsAt (w.setCell p u) base v L :=
 h.frame (row := some p.block) ⟨rfl, rfl, rfl, by simp [World.setCell], fun k _ hne => Below.heap_setCell w p u k (fun e => hne (by rw [e]))⟩ (fun b hb e => hp (by injection e with e; rwa [← e]))
theorem NodsAt.set_ {L : List (Nod × Value)} (h : NodsAt w base v L) {p : Addr} (hp : p.block ∉ fpN v L) (u : Value) : NodsAt (w.setCell p u) base v L :=
 h.frame (row := some p.block) ⟨rfl, rfl, rfl, by simp [World.setCell], fun k _ hne => Below.heap_setCell w p u k (fun e => hne (by rw [e]))⟩ (fun b hb e => hp (by injection e with e; rwa [← e]))
theorem DvcsAt.nil_ (w : World) (base : Nat) : DvcsAt w base (.slice none 0 0) [] := ⟨OwnL.nil_ _ _ _, by simp, by simp [fpD, blk, Value.ownBlock], by simp⟩
theorem NodsAt.nil_ (w : World) (base : Nat) : NodsAt w base (.slice none 0 0) [] := ⟨OwnL.nil_ _ _ _, by simp, by simp [fpN, blk, Value.ownBlock]⟩
end
end Go.Proofs.Ythcbdkmhamhciaa.Old
namespace Go.Proofs.Ythcbdkmhamhciaa.Old
open Go.RowKit
theorem cells8 {w : World} {b o : Nat} {x : Nod × Value} (h : ∀ j, j < 8 → w.cell? ⟨b, o + j, none⟩ = some (nodCell x j)) :
    w.cell? ⟨b, o, none⟩ = some (.int .i64 x.1.ino) ∧ w.cell? ⟨b, o + 1, none⟩ = some (.int .i64 x.1.kind) ∧ w.cell? ⟨b, o + 2, none⟩ = some (.int .i64 x.1.mode) ∧ w.cell? ⟨b, o + 3, none⟩ = some (.int .i64 x.1.uid) ∧
    w.cell? ⟨b, o + 4, none⟩ = some (.int .i64 x.1.gid) ∧ w.cell? ⟨b, o + 5, none⟩ = some (.int .i64 x.1.parent) ∧ w.cell? ⟨b, o + 6, none⟩ = some (.string x.1.target) ∧ w.cell? ⟨b, o + 7, none⟩ = some x.2 :=
 ⟨h 0 (by omega), h 1 (by omega), h 2 (by omega), h 3 (by omega), h 4 (by omega), h 5 (by omega), h 6 (by omega), h 7 (by omega)⟩
theorem entCell_one (y : Ent) (j : Nat) : (entCell y j).oneCell' = true := by
 unfold entCell
 split <;> rfl
end Go.Proofs.Ythcbdkmhamhciaa.Old
namespace Go.Proofs.Ythcbdkmhamhciaa.Old
open Go.RowKit
def CopyIn (w : World) (v : Value) (L : List DvcL) (dvv : Value) (S : Nat) (next : Int) (ns : List Nod) (k : Nat) (nvv : Value) (ys : List (Nod × Value)) (wr : World) : Prop :=
 ys.map (·.1) = ns.take k ∧ wr.heap[S]? = some (.cells #[.int .i64 next, nvv] 79 (0, 0)) ∧ NodsAt wr w.heap.size nvv ys ∧ DvcsAt wr w.heap.size dvv L ∧ (∀ b ∈ fpN nvv ys, b ∉ fpD dvv L ∧ b ≠ S) ∧
 wr.heap[w.heap.size]? = some (.cells #[v] 24 (0, 0)) ∧ wr.heap[w.heap.size + 1]? = some (.cells #[.slice none 0 0] 24 (0, 0)) ∧ wr.heap[w.heap.size + 1 + 1]? = some (.cells #[dvv] 24 (0, 0)) ∧
 Below w.heap.size w wr
theorem lt_of_blk {w : World} {b : Nat} {o : Obj} (h : w.heap[b]? = some o) : b < w.heap.size := by
 rcases Nat.lt_or_ge b w.heap.size with hlt | hge
 ·exact hlt
 rw [Array.getElem?_eq_none hge] at h; cases h
theorem nodup_append' {l r : List Nat} (h1 : l.Nodup) (h2 : r.Nodup) (h : ∀ b ∈ l, b ∉ r) : (l ++ r).Nodup := List.nodup_append.2 ⟨h1, h2, fun a ha _ hb e => h a ha (e ▸ hb)⟩
theorem nodup_blk (v : Value) : (blk v).Nodup := by
 unfold blk
 cases v.ownBlock <;> simp
theorem fpN_snoc (v : Value) (ys : List (Nod × Value)) (y : Nod × Value) : fpN v (ys ++ [y]) = blk v ++ (ys.flatMap (fun y => blk y.2) ++ blk y.2) := by simp [fpN]
theorem few_lt {n : Nat} (h : n ≤ few) : n ≤ 1000000 := by unfold few at h; omega
theorem copyIn_step {w : World} {v : Value} {L : List DvcL} {dvv : Value} {S : Nat} {next : Int} {ns : List Nod} {k : Nat} {nvv : Value} {ys : List (Nod × Value)} {wr W4 W5 : World} {n : Nod} {ev nvv' : Value}
    (h : CopyIn w v L dvv S next ns k nvv ys wr) (hS : S ∉ fpD dvv L) (hSB : w.heap.size + 1 + 1 < S) (hn : ns[k]? = some n) (hfew : n.entries.length ≤ few) (h4 : Below wr.heap.size wr W4) (hev : OwnL 2 entCell 101 W4 (wr.heap.size + 1) ev n.entries)
    (h5 : W4.grownBy W5 nvv.ownBlock) (hown : OwnL 8 nodCell 34 W5 w.heap.size nvv' (ys ++ [(n, ev)])) (hat : nvv'.ownBlock = nvv.ownBlock ∨ nvv'.ownBlock = some W4.heap.size) :
    CopyIn w v L dvv S next ns (k + 1) nvv' (ys ++ [(n, ev)]) (W5.setCell ⟨S, 1, none⟩ nvv') := by
 obtain ⟨e1, e2, e3, e4, e5, e6, e7, e8, e9⟩ := h
 have z := e9.size
 have z4 := h4.size
 have hSl := lt_of_blk e2
 have n4 := e3.below h4
 have d4 := e4.below h4
 have hold : ∀ b ∈ fpN nvv ys, w.heap.size ≤ b ∧ b < wr.heap.size := e3.fp_lt
 have hbn : ∀ b ∈ blk nvv, b < wr.heap.size := fun b hb => (hold b (List.mem_append_left _ hb)).2
 have hnd := e3.2.2
 have hnd' := List.nodup_append.1 hnd
 have row : ∀ b, b ∉ blk nvv → some b ≠ nvv.ownBlock := fun b hb e => hb (mem_blk.2 e.symm)
 have hevb : ∀ b ∈ blk ev, wr.heap.size + 1 ≤ b ∧ b < W4.heap.size := hev.blk_lt
 have hnew : ∀ b ∈ blk nvv', b ∈ blk nvv ∨ b = W4.heap.size := by
  intro b hb
  rw [mem_blk] at hb
  rcases hat with e | e
  ·left; rw [mem_blk, ← e]; exact hb
  right; rw [e] at hb; exact (Option.some.inj hb).symm
 have hent5 : ∀ y ∈ ys, OwnL 2 entCell 101 W5 w.heap.size y.2 y.1.entries ∧ y.1.entries.length ≤ few := fun y hy =>
  ⟨(n4.2.1 y hy).1.frame h5 fun b hb => row b fun hb' => hnd'.2.2 b hb' b (List.mem_flatMap.2 ⟨y, hy, hb⟩) rfl, (n4.2.1 y hy).2⟩
 have hev5 : OwnL 2 entCell 101 W5 w.heap.size ev n.entries := (hev.frame h5 fun b hb => row b fun hb' => by have := hbn b hb'; have := (hevb b hb).1; omega).mono (by omega)
 have hfp : ∀ b ∈ fpN nvv' (ys ++ [(n, ev)]), b ∈ fpN nvv ys ∨ wr.heap.size ≤ b := by
  intro b hb
  rw [fpN_snoc] at hb
  rcases List.mem_append.1 hb with hb | hb
  ·rcases hnew b hb with hb | hb
   ·exact .inl (List.mem_append_left _ hb)
   right; omega
  rcases List.mem_append.1 hb with hb | hb
  ·exact .inl (List.mem_append_right _ hb)
  right; have := (hevb b hb).1; omega
 have n5 : NodsAt W5 w.heap.size nvv' (ys ++ [(n, ev)]) := by
  refine ⟨hown, ?_, ?_⟩
  ·intro y hy
   rcases List.mem_append.1 hy with hy | hy
   ·exact hent5 y hy
   obtain rfl : y = (n, ev) := by simpa using hy
   exact ⟨hev5, hfew⟩
  rw [fpN_snoc]
  refine nodup_append' (nodup_blk _) (nodup_append' hnd'.2.1 (nodup_blk _) ?_) ?_
  ·intro b hb hb'
   have := (hold b (List.mem_append_right _ hb)).2
   have := (hevb b hb').1
   omega
  intro b hb hb'
  rcases hnew b hb with hb1 | hb1
  ·rcases List.mem_append.1 hb' with hb' | hb'
   ·exact hnd'.2.2 b hb1 b hb' rfl
   have := hbn b hb1; have := (hevb b hb').1; omega
  rcases List.mem_append.1 hb' with hb' | hb'
  ·have := (hold b (List.mem_append_right _ hb')).2; omega
  have := (hevb b hb').2; omega
 have d5 : DvcsAt W5 w.heap.size dvv L := d4.frame h5 fun b hb => row b fun hb' => (e5 b (List.mem_append_left _ hb')).1 hb
 have o4 : OwnL 8 nodCell 34 W4 w.heap.size nvv ys := n4.1
 have box : ∀ (b : Nat) (cs : Array Value), wr.heap[b]? = some (.cells cs 24 (0, 0)) → b ≠ S → (W5.setCell ⟨S, 1, none⟩ nvv').heap[b]? = some (.cells cs 24 (0, 0)) := fun b cs hb hbS => by
  have hb4 := blk_below hb h4 (lt_of_blk hb)
  exact blk_far (blk_grown' hb4 h5 (row b (o4.not_mem hb4 (by decide)))) hbS _
 have hfpS : S ∉ fpN nvv' (ys ++ [(n, ev)]) := fun hb => by
  rcases hfp S hb with hb | hb
  ·exact (e5 S hb).2 rfl
  omega
 refine ⟨?_, ?_, n5.set_ hfpS _, d5.set_ hS _, ?_, box _ _ e6 (by omega), box _ _ e7 (by omega), box _ _ e8 (by omega), ?_⟩
 ·rw [List.map_append, e1, List.take_add_one, hn]; rfl
 ·have hS4 := blk_below e2 h4 hSl
  exact blk_set (blk_grown' hS4 h5 (row S fun hb => (e5 S (List.mem_append_left _ hb)).2 rfl)) 1 _
 ·intro b hb
  rcases hfp b hb with hb | hb
  ·exact e5 b hb
  refine ⟨fun hd => ?_, by omega⟩
  have := (e4.fp_lt b hd).2
  omega
 exact ((e9.trans (h4.mono e9.size)).grown h5 (by omega) fun b hb => (hold b (List.mem_append_left _ (mem_blk.2 hb))).1).setCell (by show w.heap.size ≤ S; omega) _
def CopyOut (w : World) (v : Value) (f : Fls) (m : Nat) (dvv : Value) (L : List DvcL) (wr : World) : Prop :=
 flsOf L = f.take m ∧ DvcsAt wr w.heap.size dvv L ∧
 wr.heap[w.heap.size]? = some (.cells #[v] 24 (0, 0)) ∧ wr.heap[w.heap.size + 1]? = some (.cells #[.slice none 0 0] 24 (0, 0)) ∧ wr.heap[w.heap.size + 1 + 1]? = some (.cells #[dvv] 24 (0, 0)) ∧
 Below w.heap.size w wr
theorem fpD_snoc (v : Value) (L : List DvcL) (x : DvcL) : fpD v (L ++ [x]) = blk v ++ (L.flatMap (fun x => fpN x.2.1 x.2.2) ++ fpN x.2.1 x.2.2) := by simp [fpD]
theorem copyOut_in {w : World} {v : Value} {f : Fls} {m : Nat} {dvv : Value} {L : List DvcL} {wr : World} (h : CopyOut w v f m dvv L wr) (next : Int) (ns : List Nod) :
    CopyIn w v L dvv wr.heap.size next ns 0 (.slice none 0 0) [] (wr.alloc (.cells #[.int .i64 next, .slice none 0 0] 79)) ∧ wr.heap.size ∉ fpD dvv L ∧ w.heap.size + 1 + 1 < wr.heap.size := by
 obtain ⟨e1, e4, e6, e7, e8, e9⟩ := h
 refine ⟨⟨by simp, heap_alloc_new _ _, NodsAt.nil_ _ _, e4.below (below_a1 _ _), by simp [fpN, blk, Value.ownBlock], blk_alloc e6 _, blk_alloc e7 _, blk_alloc e8 _, e9.alloc e9.size _⟩, fun hb => ?_, lt_of_blk e8⟩
 have := (e4.fp_lt _ hb).2
 omega
theorem copyOut_step {w : World} {v : Value} {f : Fls} {m : Nat} {dvv : Value} {L : List DvcL} {S : Nat} {next : Int} {ns : List Nod} {nvv : Value} {ys : List (Nod × Value)} {wr W2 : World} {o : Obj} {dvv' : Value} {d : Dvc}
    (h : CopyIn w v L dvv S next ns ns.length nvv ys wr) (hf : f[m]? = some d) (hL : flsOf L = f.take m) (hnx : d.next = next) (hns : d.nodes = ns) (hfew : ns.length ≤ few) (hfl : f.length ≤ few)
    (h5 : (wr.alloc o).grownBy W2 dvv.ownBlock) (hown : OwnL 2 dvlCell 79 W2 w.heap.size dvv' (L ++ [(next, nvv, ys)])) (hat : dvv'.ownBlock = dvv.ownBlock ∨ dvv'.ownBlock = some (wr.heap.size + 1)) :
    CopyOut w v f (m + 1) dvv' (L ++ [(next, nvv, ys)]) (W2.setCell ⟨w.heap.size + 1 + 1, 0, none⟩ dvv') := by
 obtain ⟨e1, e2, e3, e4, e5, e6, e7, e8, e9⟩ := h
 have hml := (List.getElem?_eq_some_iff.1 hf).1
 have z := e9.size
 have h4 := below_a1 wr o
 have n4 := e3.below h4
 have d4 := e4.below h4
 have hyl : ys.length = ns.length := by
  have := congrArg List.length e1
  simpa using this
 have hnd' := List.nodup_append.1 e4.2.2.1
 have row : ∀ b, b ∉ blk dvv → some b ≠ dvv.ownBlock := fun b hb e => hb (mem_blk.2 e.symm)
 have hnew : ∀ b ∈ blk dvv', b ∈ blk dvv ∨ b = wr.heap.size + 1 := by
  intro b hb
  rw [mem_blk] at hb
  rcases hat with e | e
  ·left; rw [mem_blk, ← e]; exact hb
  right; rw [e] at hb; exact (Option.some.inj hb).symm
 have n5 : NodsAt W2 w.heap.size nvv ys := n4.frame h5 fun b hb => row b fun hb' => (e5 b hb).1 (List.mem_append_left _ hb')
 have l5 : ∀ x ∈ L, NodsAt W2 w.heap.size x.2.1 x.2.2 ∧ x.2.2.length ≤ few := fun x hx =>
  ⟨(d4.2.1 x hx).1.frame h5 fun b hb => row b fun hb' => hnd'.2.2 b hb' b (List.mem_flatMap.2 ⟨x, hx, hb⟩) rfl, (d4.2.1 x hx).2⟩
 have d5 : DvcsAt W2 w.heap.size dvv' (L ++ [(next, nvv, ys)]) := by
  refine ⟨hown, ?_, ?_, ?_⟩
  ·intro x hx
   rcases List.mem_append.1 hx with hx | hx
   ·exact l5 x hx
   obtain rfl : x = (next, nvv, ys) := by simpa using hx
   exact ⟨n5, by show ys.length ≤ few; omega⟩
  ·rw [fpD_snoc]
   refine nodup_append' (nodup_blk _) (nodup_append' hnd'.2.1 e3.2.2 ?_) ?_
   ·exact fun b hb hb' => (e5 b hb').1 (List.mem_append_right _ hb)
   intro b hb hb'
   rcases hnew b hb with hb1 | hb1
   ·rcases List.mem_append.1 hb' with hb' | hb'
    ·exact hnd'.2.2 b hb1 b hb' rfl
    exact (e5 b hb').1 (List.mem_append_left _ hb1)
   rcases List.mem_append.1 hb' with hb' | hb'
   ·have := (e4.fp_lt b (List.mem_append_right _ hb')).2; omega
   have := (e3.fp_lt b hb').2; omega
  have hll : L.length = m := by
   have := congrArg List.length hL
   simp [flsOf] at this
   omega
  rw [List.length_append, hll]
  show m + 1 ≤ few
  omega
 have o4 : OwnL 2 dvlCell 79 (wr.alloc o) w.heap.size dvv L := d4.1
 have box2 : ∀ (b : Nat) (cs : Array Value), wr.heap[b]? = some (.cells cs 24 (0, 0)) → W2.heap[b]? = some (.cells cs 24 (0, 0)) := fun b cs hb =>
  blk_grown' (blk_alloc hb o) h5 (row b (o4.not_mem (blk_alloc hb o) (by decide)))
 have hne : w.heap.size + 1 + 1 ∉ fpD dvv' (L ++ [(next, nvv, ys)]) := by
  intro hb
  have hb8 := box2 _ _ e8
  rcases List.mem_append.1 hb with hb | hb
  ·exact d5.1.not_mem hb8 (by decide) hb
  obtain ⟨x, hx, hb⟩ := List.mem_flatMap.1 hb
  have hx5 := (d5.2.1 x hx).1
  rcases List.mem_append.1 hb with hb | hb
  ·exact hx5.1.not_mem hb8 (by decide) hb
  obtain ⟨y, hy, hb⟩ := List.mem_flatMap.1 hb
  exact (hx5.2.1 y hy).1.not_mem hb8 (by decide) hb
 refine ⟨?_, d5.set_ hne _, blk_far (box2 _ _ e6) (by show _ ≠ w.heap.size + 1 + 1; omega) _, blk_far (box2 _ _ e7) (by show _ ≠ w.heap.size + 1 + 1; omega) _, blk_set (box2 _ _ e8) 0 _, ?_⟩
 ·have hd : dvcOf (next, nvv, ys) = d := by
     unfold dvcOf
     rw [e1, List.take_length, ← hnx, ← hns]
  unfold flsOf at hL ⊢
  rw [List.map_append, hL, List.take_add_one, hf]
  simp [hd]
 exact ((e9.trans (h4.mono e9.size)).grown h5 (by rw [World.size_alloc]; omega) fun b hb => (e4.fp_lt b (List.mem_append_left _ (mem_blk.2 hb))).1).setCell (by show w.heap.size ≤ w.heap.size + 1 + 1; omega) _
end Go.Proofs.Ythcbdkmhamhciaa.Old
namespace Go.Proofs.Ythcbdkmhamhciaa.Old
open Go.RowKit
theorem nodCell_one {y : Nod × Value} (h : y.2.oneCell' = true) (j : Nat) : (nodCell y j).oneCell' = true := by
 unfold nodCell
 split <;> first | rfl | exact h
theorem nod_one (n : Nod) (e : Value) : ∀ j, j < 8 → (#[.int .i64 n.ino, .int .i64 n.kind, .int .i64 n.mode, .int .i64 n.uid, .int .i64 n.gid, .int .i64 n.parent, .string n.target, e] : Array Value)[j]? = some (nodCell (n, e) j) := by
 intro j hj
 match j, hj with
 | 0, _ => rfl
 | 1, _ => rfl
 | 2, _ => rfl
 | 3, _ => rfl
 | 4, _ => rfl
 | 5, _ => rfl
 | 6, _ => rfl
 | 7, _ => rfl
theorem copyIn_S {w : World} {v : Value} {L : List DvcL} {dvv : Value} {S : Nat} {next : Int} {ns : List Nod} {k : Nat} {nvv : Value} {ys : List (Nod × Value)} {wr W4 W5 : World} (h : CopyIn w v L dvv S next ns k nvv ys wr) (h4 : Below wr.heap.size wr W4)
    (h5 : W4.grownBy W5 nvv.ownBlock) : W5.heap[S]? = some (.cells #[.int .i64 next, nvv] 79 (0, 0)) :=
 blk_grown' (blk_below h.2.1 h4 (lt_of_blk h.2.1)) h5 (fun e => (h.2.2.2.2.1 S (List.mem_append_left _ (mem_blk.2 e.symm))).2 rfl)
theorem formN {α : Type} {sz : Nat} {cell : α → Nat → Value} {E : TypeId} {w : World} {base : Nat} {v : Value} {xs : List α} (h : OwnL sz cell E w base v xs) {n : Nat} (hn : xs.length = n) : ∃ A c, v = .slice A n c := by
 subst hn
 exact h.form
theorem fpD_box {w : World} {base : Nat} {v : Value} {L : List DvcL} (h : DvcsAt w base v L) {b : Nat} {cs : Array Value} (hb : w.heap[b]? = some (.cells cs 24 (0, 0))) : b ∉ fpD v L := by
 intro hm
 rcases List.mem_append.1 hm with hm | hm
 ·exact h.1.not_mem hb (by decide) hm
 obtain ⟨x, hx, hm⟩ := List.mem_flatMap.1 hm
 have hx5 := (h.2.1 x hx).1
 rcases List.mem_append.1 hm with hm | hm
 ·exact hx5.1.not_mem hb (by decide) hm
 obtain ⟨y, hy, hm⟩ := List.mem_flatMap.1 hm
 exact (hx5.2.1 y hy).1.not_mem hb (by decide) hm
theorem copyIn_O {w : World} {v : Value} {L : List DvcL} {dvv : Value} {S : Nat} {next : Int} {ns : List Nod} {k : Nat} {nvv : Value} {ys : List (Nod × Value)} {wr W5 : World} {o : Obj} (h : CopyIn w v L dvv S next ns k nvv ys wr)
    (h5 : (wr.alloc o).grownBy W5 dvv.ownBlock) : W5.heap[w.heap.size + 1 + 1]? = some (.cells #[dvv] 24 (0, 0)) :=
 blk_grown' (blk_alloc h.2.2.2.2.2.2.2.1 o) h5 (fun e => fpD_box h.2.2.2.1 h.2.2.2.2.2.2.2.1 (List.mem_append_left _ (mem_blk.2 e.symm)))
theorem dvl_one (nx : Int) (v : Value) (ys : List (Nod × Value)) : ∀ j, j < 2 → (#[.int .i64 nx, v] : Array Value)[j]? = some (dvlCell (nx, v, ys) j) := by
 intro j hj
 match j, hj with
 | 0, _ => rfl
 | 1, _ => rfl
theorem dvl_oneCell (nx : Int) (A : Option Addr) (n c : Nat) (ys : List (Nod × Value)) (j : Nat) : (dvlCell (nx, .slice A n c, ys) j).oneCell' = true := by
 unfold dvlCell
 split <;> rfl
set_option maxRecDepth 100000 in
set_option maxHeartbeats 2000000 in
theorem Copy_any (v : Value) (f : Fls) (w : World) (hf : FlsR w (Old w) v f) :
    Calls Try.prog 69 #[v] w fun e w' => ∃ dv L, e = .returned (.agg #[dv]) ∧ DvcsAt w' w.heap.size dv L ∧ flsOf L = f ∧ Below w.heap.size w w' := by
 obtain ⟨d, rfl, xs, hxf, ⟨A, c, rfl, hc, hl, hr⟩, hn⟩ := hf
 have hfl : f.length = xs.length := (map_len hxf).symm
 have hlf := hl
 unfold few at hl
 go_enter Try.func69, Try.ntmps69
 go_wp2_with fail
 have HX := Lib.hid hxf
 have HFL := Lib.hid hfl
 have HN := Lib.hid hn
 clear hxf hfl hn
 go_loopw [4] (fun i wr => ∃ (m : Nat) (dvv : Value) (L : List DvcL), m ≤ xs.length ∧ i = .int .i64 m ∧ CopyOut w (.slice A xs.length c) f m dvv L wr) (fun i _ => xs.length - (intOf i).toNat)
 case atStart =>
  refine ⟨0, .slice none 0 0, [], by omega, rfl, by simp [flsOf], DvcsAt.nil_ _ _, blk_a3_0 _ _ _ _, blk_a3_1 _ _ _ _, blk_a3_2 _ _ _ _, below_a3 _ _ _ _⟩
 case round =>
  obtain ⟨m, dvv, L, hm, rfl, hout⟩ := hrel
  have hbw : Below w.heap.size w wr := hout.2.2.2.2.2
  have c0 : wr.cell? ⟨w.heap.size, 0, none⟩ = some (.slice A xs.length c) := by rw [cell_of hout.2.2.1]; rfl
  by_cases hlt : m < xs.length
  ·have hx : xs[m]? = some xs[m] := List.getElem?_eq_getElem hlt
   obtain ⟨b, off, rfl, hb, hcell⟩ := (hr.keep (sameOn_old hbw)) (by omega)
   have h0 := hcell m _ 0 hx (by omega)
   have h1 := hcell m _ 1 hx (by omega)
   obtain ⟨ys0, hy0, ⟨A1, c1, hv1, hc1, hl1, hr1⟩, hn1⟩ := HN.out _ (List.mem_of_getElem? hx)
   simp only [dvcCell, hv1, Nat.add_zero] at h0 h1
   have hdm : f[m]? = some xs[m].1 := by rw [← HX.out]; simp [hlt]
   have HD := Lib.hid hdm
   have HY := Lib.hid hy0
   have HV := Lib.hid hv1
   have HX' := Lib.hid hx
   have HN1 := Lib.hid hn1
   have hl1f := hl1
   unfold few at hl1
   unfold Old at hb
   obtain ⟨hin, hSn, hSB⟩ := copyOut_in hout xs[m].1.next (ys0.map (·.1))
   have HS := Lib.hid hSn
   have HIN := Lib.hid hin
   have HOUT := Lib.hid hout
   clear hcell hdm hy0 hv1 hx hn1 hSn hin hout
   generalize hnx : xs[m].1.next = nx at *
   have HNX := Lib.hid hnx
   clear hnx
   go_wp2_with fail
   obtain ⟨wo, hwo⟩ : ∃ wo : World, wo = wr := ⟨_, rfl⟩
   subst hwo
   go_loopw [6] (fun i wr => ∃ (k : Nat) (nvv : Value) (ys : List (Nod × Value)), k ≤ ys0.length ∧ i = .int .i64 k ∧ CopyIn w (.slice (some ⟨b, off, none⟩) xs.length c) L dvv wo.heap.size nx (ys0.map (·.1)) k nvv ys wr) (fun i _ => ys0.length - (intOf i).toNat)
   case atStart => exact ⟨0, _, _, by omega, rfl, HIN.out⟩
   case round =>
    obtain ⟨k, nvv, ys, hk, rfl, hin⟩ := hrel
    have hb2 : Below w.heap.size w wr := hin.2.2.2.2.2.2.2.2
    have c0' : wr.cell? ⟨w.heap.size, 0, none⟩ = some (.slice (some ⟨b, off, none⟩) xs.length c) := by rw [cell_of hin.2.2.2.2.2.1]; rfl
    have hcell' := hr.keep (sameOn_old hb2)
    obtain ⟨b', off', hbo, _, hcell'⟩ := hcell' (by omega)
    simp only [Option.some.injEq, Addr.mk.injEq, and_true] at hbo
    obtain ⟨rfl, rfl⟩ := hbo
    have h1' := hcell' m _ 1 HX'.out (by omega)
    simp only [dvcCell, HV.out] at h1'
    clear hcell' h0 h1 c0
    by_cases hkl : k < ys0.length
    ·have hy : ys0[k]? = some ys0[k] := List.getElem?_eq_getElem hkl
     obtain ⟨b1, off1, rfl, hb1, hcell1⟩ := (hr1.keep (sameOn_old hb2)) (by omega)
     obtain ⟨n0, n1, n2, n3, n4, n5, n6, n7⟩ := cells8 (fun j hj => hcell1 k _ j hy hj)
     have hev := HN1.out _ (List.mem_of_getElem? hy)
     have hnk : (ys0.map (·.1))[k]? = some ys0[k].1 := by simp [hkl]
     have HNK := Lib.hid hnk
     generalize ys0[k] = y at *
     obtain ⟨n, ev⟩ := y
     simp only at hev n0 n1 n2 n3 n4 n5 n6 n7
     have hlen := hev
     obtain ⟨Ae, ce, rfl, hce, hle, hre⟩ := hev
     have HE := Lib.hid hlen
     have HIN2 := Lib.hid hin
     have HB2 := Lib.hid hb2
     have hS1 : wo.heap.size < wr.heap.size := lt_of_blk hin.2.1
     have hSc : wr.cell? ⟨wo.heap.size, 1, none⟩ = some nvv := by rw [cell_of hin.2.1]; rfl
     obtain ⟨An, cn, hnv⟩ := hin.2.2.1.1.form
     subst hnv
     have hbs := hb2.size
     clear hcell1 hnk hy hlen hre hin hb2
     go_wp2_with (first
      | (at_builtin; refine wpList_clone_L (cell := entCell) (D := Old w) rfl (.const (.slice none 0 0)) (.tmp 43) _ rfl elemEnt (by omega) (by omega) (.slice Ae n.entries.length ce) n.entries rfl rfl (HE.out.keep (sameOn_old (HB2.out.alloc (by omega) _))) (fun y _ j _ => entCell_one y j) ?_; intro A2 c2 w2 hown hb2; obtain ⟨hbw2, hz2, k2⟩ := after1 hb2; obtain ⟨k2c, k2f⟩ := cells_of k2; have hSc2 := (hbw2.cell (p := ⟨wo.heap.size, 1, none⟩) hS1).trans hSc; clear hb2)
      | (at_builtin; refine wpList_append_L (cell := nodCell) (xs := ys) (ys := [(n, .slice A2 n.entries.length c2)]) (base := w.heap.size) (D := fun _ => True) (v := .slice An ys.length cn) (sv := .slice (some ⟨w2.heap.size, 0, none⟩) 1 1) rfl (.tmp 47) (.tmp 49) _ rfl elemNod (by omega) (by omega) rfl rfl (HIN2.out.2.2.1.1.below ((hbw2.setCell (p := ⟨wr.heap.size, 7, none⟩) (Nat.le_refl _) _).alloc (by simp [World.setCell]; omega) _)) (listR_one (by simp [World.setCell]) (nod_one n _) trivial) (fun y hy j _ => by obtain rfl := List.mem_singleton.1 hy; exact nodCell_one rfl j) (by have := congrArg List.length HIN2.out.1; simp at this; omega) (by simp [World.setCell]; omega) ?_; intro v5 w5 hown5 hg5 hat5; obtain ⟨A5, c5, rfl⟩ := formN hown5 (n := ys.length + 1) (by simp); obtain ⟨k5c, k5f⟩ := cells_of (copyIn_S HIN2.out (by exact (hbw2.setCell (p := ⟨wr.heap.size, 7, none⟩) (Nat.le_refl _) _).alloc (by simp [World.setCell]; omega) _) hg5); clear k2c k2f hSc hSc2))
     go_roundw
     case rel => exact ⟨k + 1, _, _, by omega, by go_num, copyIn_step HIN2.out HS.out hSB HNK.out hle (by exact (hbw2.setCell (p := ⟨wr.heap.size, 7, none⟩) (Nat.le_refl _) _).alloc (by simp [World.setCell]; omega) _) (by exact ((hown.setb (p := ⟨wr.heap.size, 7, none⟩) (by show wr.heap.size < (wr.alloc _).heap.size; simp) _).alloc _).mono (by simp)) hg5 hown5 (by simpa [World.setCell] using hat5)⟩
     case measure => simp [intOf]; omega
    have hke : k = ys0.length := by omega
    have HK := Lib.hid hke
    have HIN2 := Lib.hid hin
    have HB2 := Lib.hid hb2
    obtain ⟨hSc, hSf⟩ := cells_of hin.2.1
    have hS1 : wo.heap.size < wr.heap.size := lt_of_blk hin.2.1
    have hoc : wr.cell? ⟨w.heap.size + 1 + 1, 0, none⟩ = some dvv := by rw [cell_of hin.2.2.2.2.2.2.2.1]; rfl
    obtain ⟨An, cn, hnv⟩ := hin.2.2.1.1.form
    subst hnv
    obtain ⟨Ad, cd, hdv⟩ := hin.2.2.2.1.1.form
    subst hdv
    have hbs := hb2.size
    have hml : L.length ≤ 1000000 := few_lt hin.2.2.2.1.2.2.2
    have hz3 : w.heap.size + 1 + 1 < wr.heap.size := lt_of_blk hin.2.2.2.2.2.2.2.1
    clear hke hin hb2
    go_wp2_with (at_builtin; refine wpList_append_L (cell := dvlCell) (xs := L) (ys := [(nx, .slice An ys.length cn, ys)]) (base := w.heap.size) (D := fun _ => True) (v := .slice Ad L.length cd) (sv := .slice (some ⟨wr.heap.size, 0, none⟩) 1 1) rfl (.tmp 53) (.tmp 55) _ rfl elemDvc (by omega) (by omega) rfl rfl (HIN2.out.2.2.2.1.1.below (below_a1 _ _)) (listR_one rfl (dvl_one _ _ _) trivial) (fun y hy j _ => by obtain rfl := List.mem_singleton.1 hy; exact dvl_oneCell _ _ _ _ _ j) hml (by simp; omega) ?_; intro v5 w5 hown5 hg5 hat5; obtain ⟨A5, c5, rfl⟩ := formN hown5 (n := L.length + 1) (by simp); obtain ⟨k5c, k5f⟩ := cells_of (copyIn_O HIN2.out hg5); clear hSc hSf hoc)
    go_roundw
    case rel => exact ⟨m + 1, _, _, by omega, by go_num, copyOut_step (ns := ys0.map (·.1)) (S := wo.heap.size) (by have h := HIN2.out; rw [HK.out] at h; simpa using h) HD.out HOUT.out.1 HNX.out (by simpa using HY.out.symm) (by simpa using hl1f) (by rw [HFL.out]; exact hlf) hg5 hown5 (by simpa using hat5)⟩
    case measure => simp [intOf]; omega
  have hme : m = xs.length := by omega
  have HF : Hid (flsOf L = f) := by
   have h := hout.1
   rw [hme, ← HFL.out, List.take_length] at h
   exact h
  have hrc1 : wr.cell? ⟨w.heap.size + 1 + 1, 0, none⟩ = some dvv := by rw [cell_of hout.2.2.2.2.1]; rfl
  obtain ⟨hrc, hrf⟩ := cells_of hout.2.2.2.1
  obtain ⟨Ad, cd, hdv⟩ := hout.2.1.1.form
  subst hdv
  have HOUT := Lib.hid hout
  clear hout hme
  go_wp2_with fail
  refine bodyPost_ret (v := .agg #[.slice Ad L.length cd]) (by simp [results, Try.results69, go_sem, hrc]) rfl ?_
  refine ⟨_, L, rfl, HOUT.out.2.1.set_ ?_ _, HF.out, hbw.setCell (by show w.heap.size ≤ w.heap.size + 1; omega) _⟩
  exact fpD_box HOUT.out.2.1 HOUT.out.2.2.2.1
end Go.Proofs.Ythcbdkmhamhciaa.Old
namespace Go.Proofs.Ythcbdkmhamhciaa
open Go.RowKit
section
variable {St : Nat → Nat → Prop} {w : World} (hst : ∀ b o, St b o → b < w.heap.size)
include hst
theorem list_of_fro {α : Type} {sz : Nat} {enc : α → List AV} {cell : α × Value → Nat → Value} {Sub : α → Value → Prop} {xs : List α} {v : Value} (hsz : 0 < sz) (hfew : xs.length ≤ 1000) (h : fro St w (.sl sz (xs.map enc) none) v)
    (hrow : ∀ x ∈ xs, (enc x).length = sz → ∀ c : Nat → Option Value, (∀ j av, (enc x)[j]? = some av → ∃ u, c j = some u ∧ fro St w av u) → ∃ u, Sub x u ∧ ∀ j, j < sz → c j = some (cell (x, u) j)) :
    ∃ ys : List (α × Value), ys.map (·.1) = xs ∧ Old.ListR sz cell w (Old.Old w) v ys ∧ ∀ y ∈ ys, Sub y.1 y.2 := by
 simp only [fro] at h
 obtain ⟨_, A, cap, rfl, h2, h3, h4⟩ := h
 rw [List.length_map] at h2
 rcases Nat.eq_zero_or_pos xs.length with h0 | h0
 ·obtain rfl := List.eq_nil_of_length_eq_zero h0
  exact ⟨[], rfl, ⟨A, cap, by simp, by simp, by simp, fun h => absurd h (by simp)⟩, by simp⟩
 obtain ⟨b, off, rfl, h6⟩ := h4.resolve_left (fun e => by simp at e; subst e; simp at h0)
 have each : ∀ i (hi : i < xs.length), ∃ u, Sub xs[i] u ∧ ∀ j, j < sz → w.cell? ⟨b, off + i * sz + j, none⟩ = some (cell (xs[i], u) j) := by
  intro i hi
  have hr : (xs.map enc)[i]? = some (enc xs[i]) := by simp [hi]
  obtain ⟨k1, k2⟩ := froR_get h6 hr
  exact hrow _ (List.getElem_mem hi) k1 _ fun j av hj => by
   obtain ⟨_, u, q1, _, q2⟩ := froC_get k2 hj
   exact ⟨u, q1, q2⟩
 let g : Fin xs.length → α × Value := fun i => (xs[i.1], (each i.1 i.2).choose)
 have hg : ∀ i (hi : i < xs.length), (List.ofFn g)[i]? = some (xs[i], (each i hi).choose) := fun i hi => by simp [g, hi]
 have hlen : (List.ofFn g).length = xs.length := by simp
 have hbs : b < w.heap.size := by
  obtain ⟨k1, k2⟩ := froR_get h6 (i := 0) (r := enc xs[0]) (by simp [h0])
  have : (enc xs[0])[0]? = some (enc xs[0])[0] := List.getElem?_eq_getElem (by omega)
  exact hst _ _ (froC_get k2 this).1
 refine ⟨List.ofFn g, ?_, ⟨_, cap, by rw [List.length_map, hlen], by rw [hlen]; exact h2, by rw [hlen]; unfold Old.few; omega, fun _ => ⟨b, off, rfl, hbs, fun i y j hi hj => ?_⟩⟩, fun y hy => ?_⟩
 ·apply List.ext_getElem?
  intro i
  rcases Nat.lt_or_ge i xs.length with hi | hi
  ·rw [List.getElem?_map, hg i hi]; simp [hi]
  rw [List.getElem?_eq_none (by simpa using hi), List.getElem?_eq_none hi]
 ·have hil : i < xs.length := by rw [← hlen]; exact (List.getElem?_eq_some_iff.1 hi).1
  rw [hg i hil] at hi
  injection hi with hi
  subst hi
  exact (each i hil).choose_spec.2 j hj
 obtain ⟨i, hi⟩ := List.getElem?_of_mem hy
 have hil : i < xs.length := by rw [← hlen]; exact (List.getElem?_eq_some_iff.1 hi).1
 rw [hg i hil] at hi
 injection hi with hi
 subst hi
 exact (each i hil).choose_spec.1
theorem ents_old {es : List Ent} {v : Value} (hfew : es.length ≤ 1000) (h : fro St w (.sl 2 (es.map entA) none) v) : Old.EntsR w (Old.Old w) v es := by
 obtain ⟨ys, h1, ⟨A, c, h2, h3, h4, h5⟩, _⟩ := list_of_fro hst (cell := fun y : Ent × Value => Old.entCell y.1) (Sub := fun _ _ => True) (by omega) hfew h (fun x _ _ c hc => ⟨.bool true, trivial, fun j hj => by
  match j, hj with
  | 0, _ => obtain ⟨u, q1, q2⟩ := hc 0 _ rfl; simp only [fro] at q2; rw [q1, q2]; rfl
  | 1, _ => obtain ⟨u, q1, q2⟩ := hc 1 _ rfl; simp only [fro] at q2; rw [q1, q2]; rfl⟩)
 subst h1
 refine ⟨A, c, by rw [h2, List.length_map], by simpa using h3, by simpa using h4, fun hn => ?_⟩
 obtain ⟨b, off, e1, e2, e3⟩ := h5 (by simpa using hn)
 refine ⟨b, off, e1, e2, fun i x j hi hj => ?_⟩
 rw [List.getElem?_map] at hi
 cases hy : ys[i]? with
 | none => rw [hy] at hi; cases hi
 | some y =>
   rw [hy] at hi
   injection hi with hi
   subst hi
   exact e3 i y j hy hj
theorem nods_old {ns : List Nod} {v : Value} (hfew : ns.length ≤ 1000) (he : ∀ n ∈ ns, n.entries.length ≤ 1000) (h : fro St w (.sl 8 (ns.map nodA) none) v) : Old.NodsR w (Old.Old w) v ns :=
 list_of_fro hst (cell := Old.nodCell) (Sub := fun n u => Old.EntsR w (Old.Old w) u n.entries) (by omega) hfew h (fun x hx _ c hc => by
  obtain ⟨u0, p0, q0⟩ := hc 0 _ rfl
  obtain ⟨u1, p1, q1⟩ := hc 1 _ rfl
  obtain ⟨u2, p2, q2⟩ := hc 2 _ rfl
  obtain ⟨u3, p3, q3⟩ := hc 3 _ rfl
  obtain ⟨u4, p4, q4⟩ := hc 4 _ rfl
  obtain ⟨u5, p5, q5⟩ := hc 5 _ rfl
  obtain ⟨u6, p6, q6⟩ := hc 6 _ rfl
  obtain ⟨u7, p7, q7⟩ := hc 7 _ rfl
  have q7' := ents_old hst (he x hx) q7
  simp only [fro] at q0 q1 q2 q3 q4 q5 q6
  subst q0 q1 q2 q3 q4 q5 q6
  refine ⟨u7, q7', fun j hj => ?_⟩
  match j, hj with
  | 0, _ => exact p0
  | 1, _ => exact p1
  | 2, _ => exact p2
  | 3, _ => exact p3
  | 4, _ => exact p4
  | 5, _ => exact p5
  | 6, _ => exact p6
  | 7, _ => exact p7)
theorem fls_old {f : Fls} (hf : FlsB f) {v : Value} (h : fro St w (.agg (flsA f)) v) : Old.FlsR w (Old.Old w) v f := by
 simp only [fro, flsA, froL] at h
 obtain ⟨ys, rfl, z, zs, rfl, h, rfl⟩ := h
 have h' : fro St w (.sl 2 (f.map dvcA) none) z := by simp only [fro]; exact h
 refine ⟨z, rfl, list_of_fro hst (cell := Old.dvcCell) (Sub := fun d u => Old.NodsR w (Old.Old w) u d.nodes) (by omega) hf.few h' (fun x hx _ c hc => ?_)⟩
 obtain ⟨u0, p0, q0⟩ := hc 0 _ rfl
 obtain ⟨u1, p1, q1⟩ := hc 1 _ rfl
 have q1' := nods_old hst (hf.nodes x hx) (hf.ents x hx) q1
 simp only [fro] at q0
 subst q0
 refine ⟨u1, q1', fun j hj => ?_⟩
 match j, hj with
 | 0, _ => exact p0
 | 1, _ => exact p1
end
theorem own_fro {α : Type} {sz : Nat} {cell : α → Nat → Value} {E : TypeId} {w : World} {base : Nat} {v : Value} {xs : List α} (h : Old.OwnL sz cell E w base v xs) {St : Nat → Nat → Prop} (hst : ∀ b, v.ownBlock = some b → ∀ o, St b o) {enc : α → List AV} (hlen : ∀ x ∈ xs, (enc x).length = sz)
    (hx : ∀ x ∈ xs, ∀ j av, (enc x)[j]? = some av → fro St w av (cell x j)) : fro St w (.sl sz (xs.map enc) none) v := by
 simp only [fro, true_and]
 obtain ⟨⟨h0, h1⟩, h2⟩ := h
 rcases h1 with ⟨rfl, hn⟩ | ⟨g, cap, cur, rfl, hb, hg, hnc, hcm, hcs, htk⟩
 ·exact ⟨none, 0, by rw [List.length_map, hn], by rw [List.length_map, hn]; exact Nat.le_refl _, Nat.zero_le _, .inl (by rw [List.eq_nil_of_length_eq_zero hn]; rfl)⟩
 refine ⟨_, cap, by rw [List.length_map], by rw [List.length_map]; exact hnc, hcm, .inr ⟨g, 0, rfl, froR_of fun i r hi => ?_⟩⟩
 rw [List.getElem?_map] at hi
 cases hy : xs[i]? with
 | none => rw [hy] at hi; cases hi
 | some x =>
   rw [hy] at hi
   injection hi with hi
   subst hi
   have hm := List.mem_of_getElem? hy
   refine ⟨hlen x hm, froC_of fun j av hj => ?_⟩
   have hjl : j < sz := by rw [← hlen x hm]; exact (List.getElem?_eq_some_iff.1 hj).1
   have hil := (List.getElem?_eq_some_iff.1 hy).1
   have hlt : i * sz + j < xs.length * sz := by
    have h2 : (i + 1) * sz ≤ xs.length * sz := Nat.mul_le_mul_right sz hil
    rw [Nat.add_mul] at h2
    omega
   have hc : cur.toList[i * sz + j]? = some (cell x j) := by
    rw [← Old.flat_get xs i j x hy hjl, ← htk, List.getElem?_take, if_pos hlt]
   refine ⟨hst g rfl _, cell x j, ?_, h2 g cur E rfl hg _ (List.mem_of_getElem? hc), hx x hm j av hj⟩
   rw [Nat.zero_add]
   simp only [World.cell?, hg]
   simpa using hc
theorem own_box {α : Type} {sz : Nat} {cell : α → Nat → Value} {E : TypeId} {w : World} {base : Nat} {v : Value} {xs : List α} (h : Old.OwnL sz cell E w base v xs) (h0 : 0 < xs.length) {G : Gh} {rows : List (List AV)} (hp : 0 < sz) (hl : rows.length = xs.length) (hlen : ∀ r ∈ rows, r.length = sz)
    (hx : ∀ (i : Nat) (x : α) (r : List AV), xs[i]? = some x → rows[i]? = some r → ∀ j av, r[j]? = some av → rep G w av (cell x j)) :
    ∃ g cap, v = .slice (some ⟨g, 0, none⟩) xs.length cap ∧ base ≤ g ∧ g < w.heap.size ∧ xs.length ≤ cap ∧ cap ≤ maxLen ∧ BoxAt G w g (rowsB sz cap rows) := by
 obtain ⟨⟨h3, h1⟩, h2⟩ := h
 rcases h1 with ⟨rfl, hn⟩ | ⟨g, cap, cur, rfl, hb, hg, hnc, hcm, hcs, htk⟩
 ·omega
 refine ⟨g, cap, rfl, hb, (Array.getElem?_eq_some_iff.1 hg).1, hnc, hcm, cur.toList, E, by simpa using hg, ?_, h2 g cur E rfl hg⟩
 have e : cur.toList = cur.toList.take (xs.length * sz) ++ cur.toList.drop (xs.length * sz) := (List.take_append_drop _ _).symm
 rw [e]
 unfold rowsB
 refine repL_app ?_ ?_
 ·rw [htk]
  refine repL_of (by rw [flat_len hlen, hl, Old.flat_length]) fun i x hi => ?_
  have hii : i = i / sz * sz + i % sz := by rw [Nat.mul_comm]; exact (Nat.div_add_mod i sz).symm
  have hk : i % sz < sz := Nat.mod_lt _ hp
  rw [hii, flat_getT hlen hk] at hi
  cases hq : rows[i / sz]? with
  | none => rw [hq] at hi; simp at hi
  | some r =>
    rw [hq] at hi
    have hqx : i / sz < xs.length := by rw [← hl]; exact (List.getElem?_eq_some_iff.1 hq).1
    have hxx : xs[i / sz]? = some xs[i / sz] := List.getElem?_eq_getElem hqx
    refine ⟨cell xs[i / sz] (i % sz), ?_, hx _ _ r hxx hq _ _ hi⟩
    have := Old.flat_get (cell := cell) xs (i / sz) (i % sz) _ hxx hk
    rwa [← hii] at this
 have : (cur.toList.drop (xs.length * sz)).length = (cap - rows.length) * sz := by
  rw [List.length_drop, hl, Nat.sub_mul, ← hcs]
  simp
 rw [← this]
 exact repL_anys _
theorem flatMap_at' {α β : Type} {f : α → List β} {l : List α} {i : Nat} {x : α} (hx : l[i]? = some x) : l.flatMap f = (l.take i).flatMap f ++ (f x ++ (l.drop (i + 1)).flatMap f) := by
 obtain ⟨hi, rfl⟩ := List.getElem?_eq_some_iff.1 hx
 rw [← List.flatMap_cons, ← List.flatMap_append, ← List.drop_eq_getElem_cons hi, List.take_append_drop]
def devB (f : Fls) (K : Nat) (d : Dvc) (j cap1 : Nat) : List (List AV) := (f.map dvcA).set K (devR d j cap1)
theorem devB_two (f : Fls) (K : Nat) (d : Dvc) (j cap1 : Nat) : ∀ r ∈ devB f K d j cap1, r.length = 2 := by
 intro r hr
 rcases List.mem_or_eq_of_mem_set hr with h | h
 ·exact dvcs_two _ r h
 rw [h]; rfl
theorem devB_len (f : Fls) (K : Nat) (d : Dvc) (j cap1 : Nat) : (devB f K d j cap1).length = f.length := by simp [devB]
theorem RcopyK (f : Fls) (K : Nat) (dK : Dvc) (hf : FlsB f) (hK : f[K]? = some dK) (hne : 0 < dK.nodes.length) :
    ACall Try.prog 69 [.agg (flsA f)] [] (fun r b t => t = [] ∧ ∃ cap cap1, f.length ≤ cap ∧ dK.nodes.length ≤ cap1 ∧ b = [rowsB 2 cap (devB f K dK 1 cap1), rowsB 8 cap1 (dK.nodes.map nodA)] ∧ r = .agg [.bs 0 0 2 f.length cap]) := by
 intro w St bl vs hr hv
 have hbl : bl = [] := by have := hr.bxlen; simpa using this
 subst hbl
 simp only [repL] at hv
 obtain ⟨z, zs, rfl, hz, rfl⟩ := hv
 have hz' : fro St w (.agg (flsA f)) z := by have := fro_era _ _ hz; simpa [era, eraL, flsA] using this
 have hF := fls_old hr.stlt hf hz'
 refine Calls.mono (Old.Copy_any z f w hF) ?_
 rintro e w' ⟨dv, L, rfl, hD, hL, hB⟩
 have hsz := hB.size
 have hLl : L.length = f.length := by rw [← hL]; simp [Old.flsOf]
 have hKl := (List.getElem?_eq_some_iff.1 hK).1
 obtain ⟨x, hx, hxd⟩ : ∃ x, L[K]? = some x ∧ Old.dvcOf x = dK := by
  have h1 : L[K]? = some L[K] := List.getElem?_eq_getElem (by omega)
  refine ⟨_, h1, ?_⟩
  have := hK
  rw [← hL, Old.flsOf, List.getElem?_map, h1] at this
  injection this
 have hxm := List.mem_of_getElem? hx
 obtain ⟨d1, d2, d3, d4⟩ := hD
 obtain ⟨e1, e2, e3⟩ := d2 x hxm |>.1
 have hyl : 0 < x.2.2.length := by rw [← hxd] at hne; simpa [Old.dvcOf] using hne
 have form : ∀ {α : Type} {sz : Nat} {cell : α → Nat → Value} {E : TypeId} {base : Nat} {v : Value} {xs : List α}, Old.OwnL sz cell E w' base v xs → 0 < xs.length → ∃ g cap, v = .slice (some ⟨g, 0, none⟩) xs.length cap := by
  intro α sz cell E base v xs h h0
  rcases h.1.2 with ⟨_, hn⟩ | ⟨g, cap, cur, rfl, _⟩
  ·omega
  exact ⟨g, cap, rfl⟩
 obtain ⟨g0, cap, hdv⟩ := form d1 (by omega)
 obtain ⟨g1, cap1, hnv⟩ := form e1 hyl
 have hb0 : g0 ∈ Old.blk dv := Old.mem_blk.2 (by rw [hdv]; rfl)
 have hb1 : g1 ∈ Old.blk x.2.1 := Old.mem_blk.2 (by rw [hnv]; rfl)
 have nd := List.nodup_append.1 d3
 have hin : ∀ y ∈ L, ∀ b ∈ Old.fpN y.2.1 y.2.2, b ∈ L.flatMap fun x => Old.fpN x.2.1 x.2.2 := fun y hy b hb => List.mem_flatMap.2 ⟨y, hy, hb⟩
 have h01 : g0 ≠ g1 := fun e => nd.2.2 g0 hb0 g1 (hin x hxm g1 (List.mem_append_left _ hb1)) e
 let St' : Nat → Nat → Prop := fun b o => St b o ∨ (w.heap.size ≤ b ∧ b < w'.heap.size ∧ b ≠ g0 ∧ b ≠ g1)
 let G' : Gh := ⟨St', [g0, g1], []⟩
 have hfresh : ∀ b ∈ Old.fpD dv L, b ≠ g0 → b ≠ g1 → ∀ o, St' b o := fun b hb n0 n1 o => by
  have := Old.DvcsAt.fp_lt (w := w') ⟨d1, d2, d3, d4⟩ b hb
  exact .inr ⟨this.1, this.2, n0, n1⟩
 -- a list of entries that lies in blocks that stay
 have hents : ∀ (y : Nod × Value) , Old.OwnL 2 Old.entCell 101 w' w.heap.size y.2 y.1.entries → (∀ b ∈ Old.blk y.2, ∀ o, St' b o) → fro St' w' (.sl 2 (y.1.entries.map entA) none) y.2 := by
  intro y hy hb
  refine own_fro hy (fun b h => hb b (Old.mem_blk.2 h)) (fun _ _ => rfl) fun e _ j av hj => ?_
  match j, hj with
  | 0, hj => injection hj with hj; subst hj; simp only [fro]; rfl
  | 1, hj => injection hj with hj; subst hj; simp only [fro]; rfl
 have hnod : ∀ (y : Nod × Value), Old.OwnL 2 Old.entCell 101 w' w.heap.size y.2 y.1.entries → (∀ b ∈ Old.blk y.2, ∀ o, St' b o) → ∀ j av, (nodA y.1)[j]? = some av → fro St' w' av (Old.nodCell y j) := by
  intro y hy hb j av hj
  match j, hj with
  | 0, hj => injection hj with hj; subst hj; simp only [fro]; rfl
  | 1, hj => injection hj with hj; subst hj; simp only [fro]; rfl
  | 2, hj => injection hj with hj; subst hj; simp only [fro]; rfl
  | 3, hj => injection hj with hj; subst hj; simp only [fro]; rfl
  | 4, hj => injection hj with hj; subst hj; simp only [fro]; rfl
  | 5, hj => injection hj with hj; subst hj; simp only [fro]; rfl
  | 6, hj => injection hj with hj; subst hj; simp only [fro]; rfl
  | 7, hj => injection hj with hj; subst hj; exact hents y hy hb
  | j + 8, hj => exact absurd hj (by simp [nodA])
 have hne0 : ∀ y ∈ L, ∀ b ∈ Old.fpN y.2.1 y.2.2, b ≠ g0 := fun y hy b hb e => nd.2.2 g0 hb0 b (hin y hy b hb) e.symm
 have hfp : ∀ y ∈ L, ∀ b ∈ Old.fpN y.2.1 y.2.2, b ∈ Old.fpD dv L := fun y hy b hb => List.mem_append_right _ (hin y hy b hb)
 -- the boxes
 obtain ⟨g1', cap1', q1, q2, q3, q4, q5, q6⟩ := own_box (G := G') e1 hyl (rows := dK.nodes.map nodA) (by omega) (by rw [← hxd]; simp [Old.dvcOf]) (nods_eight _) (by
  intro i y r hi hri j av hj
  have hnm : dK.nodes[i]? = some y.1 := by rw [← hxd, Old.dvcOf]; simp [hi]
  rw [List.getElem?_map, hnm] at hri
  injection hri with hri
  subst hri
  have hym := List.mem_of_getElem? hi
  refine rep_fro _ _ (hnod y (e2 y hym).1 (fun b hb => hfresh b (hfp x hxm b (List.mem_append_right _ (List.mem_flatMap.2 ⟨y, hym, hb⟩))) (hne0 x hxm b (List.mem_append_right _ (List.mem_flatMap.2 ⟨y, hym, hb⟩))) fun e => ?_) j av hj)
  exact (List.nodup_append.1 e3).2.2 g1 hb1 b (List.mem_flatMap.2 ⟨y, hym, hb⟩) e.symm)
 rw [hnv] at q1
 simp only [Value.slice.injEq, Option.some.injEq, Addr.mk.injEq, and_true, true_and] at q1
 obtain ⟨rfl, rfl⟩ := q1
 obtain ⟨g0', cap', p1, p2, p3, p4, p5, p6⟩ := own_box (G := G') d1 (by omega) (rows := devB f K dK 1 cap1) (by omega) (by rw [devB_len, hLl]) (devB_two _ _ _ _ _) (by
  intro i y r hi hri j av hj
  have hfi : f[i]? = some (Old.dvcOf y) := by rw [← hL, Old.flsOf, List.getElem?_map, hi]; rfl
  have hym := List.mem_of_getElem? hi
  unfold devB at hri
  by_cases hiK : K = i
  ·subst hiK
   rw [hx] at hi
   injection hi with hi
   subst hi
   rw [List.getElem?_set_self (by simp; omega)] at hri
   injection hri with hri
   subst hri
   match j, hj with
   | 0, hj => injection hj with hj; subst hj; simp only [rep]; rw [← hxd]; rfl
   | 1, hj =>
     injection hj with hj; subst hj
     simp only [rep]
     refine ⟨g1, rfl, ?_, ?_, q5⟩
     ·show x.2.1 = _
      rw [hnv, ← hxd]; simp [Old.dvcOf]
     rw [← hxd]; simpa [Old.dvcOf] using q4
   | j + 2, hj => exact absurd hj (by simp [devR])
  rw [List.getElem?_set_ne hiK, List.getElem?_map, hfi] at hri
  injection hri with hri
  subst hri
  have hn1 : ∀ b ∈ Old.fpN y.2.1 y.2.2, b ≠ g1 := by
   intro b hb e
   subst e
   have hd2 := nd.2.1
   have hil := (List.getElem?_eq_some_iff.1 hi).1
   rw [flatMap_at' hx] at hd2
   obtain ⟨c1, c2, c3⟩ := List.nodup_append.1 hd2
   obtain ⟨c4, c5, c6⟩ := List.nodup_append.1 c2
   rcases Nat.lt_or_ge i K with hlt | hge
   ·exact c3 b (List.mem_flatMap.2 ⟨y, List.mem_iff_getElem?.2 ⟨i, by rw [List.getElem?_take, if_pos hlt]; exact hi⟩, hb⟩) b (List.mem_append_left _ (List.mem_append_left _ hb1)) rfl
   exact c6 b (List.mem_append_left _ hb1) b (List.mem_flatMap.2 ⟨y, List.mem_iff_getElem?.2 ⟨i - (K + 1), by rw [List.getElem?_drop, show K + 1 + (i - (K + 1)) = i by omega]; exact hi⟩, hb⟩) rfl
  obtain ⟨f1, f2, f3⟩ := (d2 y hym).1
  match j, hj with
  | 0, hj => injection hj with hj; subst hj; simp only [rep]; rfl
  | 1, hj =>
    injection hj with hj; subst hj
    have key := own_fro f1 (St := St') (fun b h => hfresh b (hfp y hym b (List.mem_append_left _ (Old.mem_blk.2 h))) (hne0 y hym b (List.mem_append_left _ (Old.mem_blk.2 h))) (hn1 b (List.mem_append_left _ (Old.mem_blk.2 h)))) (enc := fun y => nodA y.1) (fun _ _ => rfl) fun z hz j av hj =>
     hnod z (f2 z hz).1 (fun b hb => hfresh b (hfp y hym b (List.mem_append_right _ (List.mem_flatMap.2 ⟨z, hz, hb⟩))) (hne0 y hym b (List.mem_append_right _ (List.mem_flatMap.2 ⟨z, hz, hb⟩))) (hn1 b (List.mem_append_right _ (List.mem_flatMap.2 ⟨z, hz, hb⟩)))) j av hj
    have e : ((Old.dvcOf y).nodes.map nodA) = y.2.2.map fun y => nodA y.1 := by simp [Old.dvcOf]
    rw [e]
    exact rep_fro _ _ key
  | j + 2, hj => exact absurd hj (by simp [dvcA]))
 rw [hdv] at p1
 simp only [Value.slice.injEq, Option.some.injEq, Addr.mk.injEq, and_true, true_and] at p1
 obtain ⟨rfl, rfl⟩ := p1
 have hst : ∀ b o, St b o → b < w.heap.size := hr.stlt
 refine ⟨.agg [.bs 0 0 2 f.length cap], _, _, G', ⟨rfl, cap, cap1, by omega, by rw [← hxd]; simpa [Old.dvcOf] using q4, rfl, rfl⟩, ⟨?_, ?_, ?_, ?_, rfl, ?_, ?_, ?_, ?_, rfl, ?_, ?_, ?_⟩, ⟨?_, ?_, ?_⟩, ?_⟩
 ·intro i b hi; simp at hi
 ·exact ⟨hB.os, hB.tape, hB.output, hB.size, fun k hk _ => hB.block k hk⟩
 ·rintro b o (h | h)
  ·have := hst b o h; omega
  exact h.2.1
 ·rintro b o (h | h)
  ·exact .inl h
  exact .inr h.1
 ·show [g0, g1].Nodup
  simpa using h01
 ·rintro b hb o (h | h)
  ·have := hst b o h
   simp [G'] at hb
   rcases hb with rfl | rfl <;> omega
  simp [G'] at hb
  rcases hb with rfl | rfl
  ·exact h.2.2.1 rfl
  exact h.2.2.2 rfl
 ·intro b hb
  simp [G'] at hb
  rcases hb with rfl | rfl
  ·exact .inl p2
  exact .inl q2
 ·intro i b row hi hrow
  match i, hi, hrow with
  | 0, hi, hrow => simp [G'] at hi; simp at hrow; subst hi; subst hrow; exact p6
  | 1, hi, hrow => simp [G'] at hi; simp at hrow; subst hi; subst hrow; exact q6
  | i + 2, hi, _ => simp [G'] at hi
 ·intro g n u T sz rows hg; simp [G'] at hg
 ·intro g n u hg; simp [G'] at hg
 ·intro g g' n n' u u' hg; simp [G'] at hg
 ·exact fun b o h => ⟨.inl h, hB.cell (p := ⟨b, o, none⟩) (hst b o h)⟩
 ·intro i b hi; simp at hi
 ·intro g n u hg; simp at hg
 simp only [rep, repL]
 exact ⟨[dv], rfl, dv, [], rfl, ⟨g0, rfl, by rw [hdv, hLl], by omega, p5⟩, rfl⟩
theorem renL_map (f : Nat → Option Nat) : ∀ xs : List AV, renL f xs = xs.map (ren f)
 | [] => rfl
 | x :: xs => by simp [renL, renL_map f xs]
theorem renKL_map (f : Nat → Option Nat) : ∀ xs : List AV, renKL f xs = xs.map (renK f)
 | [] => rfl
 | x :: xs => by simp [renKL, renKL_map f xs]
theorem lowGL_map (g : Nat → Option (List AV)) : ∀ xs : List AV, lowGL g xs = xs.map (lowG g)
 | [] => rfl
 | x :: xs => by simp [lowGL, lowGL_map g xs]
theorem livL_map (n : Nat) (g : Nat → Option (List AV)) : ∀ xs : List AV, livL n g xs = xs.map (liv n g)
 | [] => rfl
 | x :: xs => by simp [livL, livL_map n g xs]
theorem rowsB_map (F : AV → AV) (h : F .any = .any) (sz cap : Nat) (rows : List (List AV)) : (rowsB sz cap rows).map F = rowsB sz cap (rows.map (·.map F)) := by
 simp [rowsB, h, List.map_flatten]
theorem bpLtL_all {n m : Nat} {xs : List AV} : bpLtL n m xs = true ↔ ∀ x ∈ xs, bpLt n m x = true := by
 induction xs with
 | nil => simp [bpLtL]
 | cons x xs ih => simp [bpLtL, ih]
theorem bpLt_rowsB {n m sz cap : Nat} {rows : List (List AV)} (h : ∀ r ∈ rows, bpLtL n m r = true) : bpLtL n m (rowsB sz cap rows) = true := by
 rw [bpLtL_all]
 intro x hx
 unfold rowsB at hx
 rcases List.mem_append.1 hx with hx | hx
 ·obtain ⟨r, hr, hx⟩ := List.mem_flatten.1 hx
  exact bpLtL_all.1 (h r hr) x hx
 rw [(List.mem_replicate.1 hx).2]; rfl
def DB (f : Fls) (K : Nat) (d : Dvc) (j cap cap1 : Nat) : List AV := rowsB 2 cap (devB f K d j cap1)
def NB (ns : List Nod) (cap1 : Nat) : List AV := rowsB 8 cap1 (ns.map nodA)
theorem bp_DB {n m : Nat} {f : Fls} {K : Nat} {d : Dvc} {j cap cap1 : Nat} (hj : j < n) : bpLtL n m (DB f K d j cap cap1) = true := by
 refine bpLt_rowsB fun r hr => ?_
 rcases List.mem_or_eq_of_mem_set hr with h | h
 ·obtain ⟨d', _, rfl⟩ := List.mem_map.1 h
  rfl
 rw [h]; simp [devR, bpLtL, bpLt, hj]
theorem bp_NB {n m : Nat} {ns : List Nod} {cap1 : Nat} : bpLtL n m (NB ns cap1) = true := by
 refine bpLt_rowsB fun r hr => ?_
 obtain ⟨d', _, rfl⟩ := List.mem_map.1 hr
 rfl
section
variable {F : AV → AV} (hany : F .any = .any) (hv : ∀ x, F (.v x) = .v x) (hs : ∀ sz rows, F (.sl sz rows none) = .sl sz rows none)
include hany hv hs
theorem map_NB (ns : List Nod) (cap1 : Nat) : (NB ns cap1).map F = NB ns cap1 := by
 unfold NB
 rw [rowsB_map F hany, List.map_map]
 congr 1
 apply List.map_congr_left
 intro n _
 simp [nodA, hv, hs]
theorem map_dvcs (f : Fls) : (f.map dvcA).map (·.map F) = f.map dvcA := by
 have _ := hany
 rw [List.map_map]
 apply List.map_congr_left
 intro n _
 simp [dvcA, hv, hs]
theorem map_DB (f : Fls) (K : Nat) (d : Dvc) {j j' : Nat} (cap cap1 : Nat) (hb : F (.bs j 0 8 d.nodes.length cap1) = .bs j' 0 8 d.nodes.length cap1) : (DB f K d j cap cap1).map F = DB f K d j' cap cap1 := by
 unfold DB devB
 rw [rowsB_map F hany, List.map_set, map_dvcs hany hv hs]
 simp [devR, hv, hb]
theorem map_DBlow {f : Fls} {K : Nat} {d : Dvc} {j cap cap1 : Nat} (hK : f[K]? = some d) (hb : F (.bs j 0 8 d.nodes.length cap1) = .sl 8 (d.nodes.map nodA) none) : (DB f K d j cap cap1).map F = rowsB 2 cap (f.map dvcA) := by
 unfold DB devB
 rw [rowsB_map F hany, List.map_set, map_dvcs hany hv hs]
 have e : (devR d j cap1).map F = dvcA d := by simp [devR, hv, hb, dvcA]
 rw [e]
 congr 1
 apply List.ext_getElem?
 intro i
 rw [List.getElem?_set]
 split
 ·rename_i e1
  subst e1
  obtain ⟨h1, h2⟩ := List.getElem?_eq_some_iff.1 hK
  simp [h1, h2]
 rfl
end
theorem ren_DB {g : Nat → Option Nat} {j j' : Nat} (h : g j = some j') (f : Fls) (K : Nat) (d : Dvc) (cap cap1 : Nat) : renL g (DB f K d j cap cap1) = DB f K d j' cap cap1 := by
 rw [renL_map]
 exact map_DB rfl (fun _ => rfl) (fun _ _ => rfl) f K d cap cap1 (by simp [ren, h])
theorem ren_NB (g : Nat → Option Nat) (ns : List Nod) (cap1 : Nat) : renL g (NB ns cap1) = NB ns cap1 := by
 rw [renL_map]
 exact map_NB rfl (fun _ => rfl) (fun _ _ => rfl) ns cap1
theorem renK_DB {g : Nat → Option Nat} {j j' : Nat} (h : g j = some j') (f : Fls) (K : Nat) (d : Dvc) (cap cap1 : Nat) : renKL g (DB f K d j cap cap1) = DB f K d j' cap cap1 := by
 rw [renKL_map]
 exact map_DB rfl (fun _ => rfl) (fun _ _ => rfl) f K d cap cap1 (by simp [renK, h])
theorem renK_NB (g : Nat → Option Nat) (ns : List Nod) (cap1 : Nat) : renKL g (NB ns cap1) = NB ns cap1 := by
 rw [renKL_map]
 exact map_NB rfl (fun _ => rfl) (fun _ _ => rfl) ns cap1
theorem low_NB (g : Nat → Option (List AV)) (ns : List Nod) (cap1 : Nat) : lowGL g (NB ns cap1) = NB ns cap1 := by
 rw [lowGL_map]
 exact map_NB rfl (fun _ => rfl) (fun _ _ => rfl) ns cap1
theorem NB_len {ns : List Nod} {cap1 : Nat} (h : ns.length ≤ cap1) : (NB ns cap1).length = cap1 * 8 := rowsB_len (nods_eight _) (by simpa using h)
theorem lowG_rows {g : Nat → Option (List AV)} {j sz n cap0 cap : Nat} {rows : List (List AV)} (hg : g j = some (rowsB sz cap rows)) (hr : ∀ r ∈ rows, r.length = sz) (hn : n = rows.length) (hc : rows.length ≤ cap) : lowG g (.bs j 0 sz n cap0) = .sl sz rows none := by
 subst hn
 have hl := rowsB_len hr hc
 have hb : Nat.ble (0 + rows.length * sz) (rowsB sz cap rows).length = true := by
  rw [hl, Nat.ble_eq]
  have := Nat.mul_le_mul_right sz hc
  omega
 simp only [lowG, hg, hb, List.drop_zero]
 unfold rowsB
 rw [chunk_flat hr]
theorem frz_NB {n : Nat} {bx : List (List AV)} {k j : Nat} {ns : List Nod} {cap1 : Nat} (hn : n ≤ j) (hj : bx[j]? = some (NB ns cap1)) : frzG n bx (k + 1) j = some (NB ns cap1) := by
 have : Nat.blt j n = false := by rw [← Bool.not_eq_true, Nat.blt_eq]; omega
 simp only [frzG, this, hj, Option.map_some, low_NB]
theorem frz_DB {n : Nat} {bx : List (List AV)} {k i j : Nat} {f : Fls} {K : Nat} {d : Dvc} {cap cap1 : Nat} (hK : f[K]? = some d) (hc1 : d.nodes.length ≤ cap1) (hni : n ≤ i) (hnj : n ≤ j) (hi : bx[i]? = some (DB f K d j cap cap1)) (hj : bx[j]? = some (NB d.nodes cap1)) :
    frzG n bx (k + 2) i = some (rowsB 2 cap (f.map dvcA)) := by
 have : Nat.blt i n = false := by rw [← Bool.not_eq_true, Nat.blt_eq]; omega
 rw [show k + 2 = (k + 1) + 1 from rfl, frzG]
 simp only [this, hi, Option.map_some, lowGL_map]
 rw [map_DBlow rfl (fun _ => rfl) (fun _ _ => rfl) hK]
 exact lowG_rows (frz_NB hnj hj) (nods_eight _) (by simp) (by simpa using hc1)
theorem low_fls {n : Nat} {bx : List (List AV)} {k i j : Nat} {f : Fls} {K : Nat} {d : Dvc} {cap cap0 cap1 : Nat} (hK : f[K]? = some d) (hc : f.length ≤ cap) (hc1 : d.nodes.length ≤ cap1) (hni : n ≤ i) (hnj : n ≤ j) (hi : bx[i]? = some (DB f K d j cap cap1)) (hj : bx[j]? = some (NB d.nodes cap1)) :
    lowG (frzG n bx (k + 2)) (.agg [.bs i 0 2 f.length cap0]) = .agg (flsA f) := by
 show AV.agg [lowG _ _] = _
 unfold flsA
 rw [lowG_rows (frz_DB hK hc1 hni hnj hi hj) (dvcs_two _) (by simp) (by simpa using hc)]
theorem rowsB_get {sz cap : Nat} {rows : List (List AV)} {q k : Nat} {r : List AV} {x : AV} (hr : ∀ r ∈ rows, r.length = sz) (hq : rows[q]? = some r) (hx : r[k]? = some x) : (rowsB sz cap rows)[0 + q * sz + k]? = some x := by
 have hk : k < sz := by rw [← hr r (List.mem_of_getElem? hq)]; exact (List.getElem?_eq_some_iff.1 hx).1
 have e := flat_getT hr hk (q := q)
 rw [hq] at e
 simp only [Option.bind_some] at e
 rw [hx] at e
 unfold rowsB
 rw [Nat.zero_add, List.getElem?_append_left (List.getElem?_eq_some_iff.1 e).1]
 exact e
theorem rowsB_row {sz cap : Nat} {rows : List (List AV)} {q : Nat} {r : List AV} (hr : ∀ r ∈ rows, r.length = sz) (hq : rows[q]? = some r) : ((rowsB sz cap rows).drop (0 + q * sz)).take sz = r := by
 have hrl := hr r (List.mem_of_getElem? hq)
 apply List.ext_getElem?
 intro k
 rw [List.getElem?_take]
 split
 ·rename_i hk
  rw [List.getElem?_drop]
  have hx : r[k]? = some r[k] := List.getElem?_eq_getElem (by omega)
  rw [rowsB_get hr hq hx, hx]
 rw [List.getElem?_eq_none (by omega)]
theorem rowsB_set {sz cap : Nat} {rows : List (List AV)} {q k : Nat} {r r' cs : List AV} (hr : ∀ r ∈ rows, r.length = sz) (hq : rows[q]? = some r) (hs : SetAt r k cs r') (hne : cs ≠ []) : SetAt (rowsB sz cap rows) (0 + q * sz + k) cs (rowsB sz cap (rows.set q r')) := by
 unfold rowsB
 rw [Nat.zero_add, List.length_set]
 exact (flat_set hr hq hs hne).left _
theorem devB_get {f : Fls} {K : Nat} {d : Dvc} {j cap1 : Nat} (hK : K < f.length) : (devB f K d j cap1)[K]? = some (devR d j cap1) := by
 unfold devB
 rw [List.getElem?_set_self (by simpa using hK)]
theorem DB_nodes {f : Fls} {K : Nat} {d : Dvc} {j cap cap1 : Nat} (hK : K < f.length) : (DB f K d j cap cap1)[0 + K * 2 + 1]? = some (.bs j 0 8 d.nodes.length cap1) := rowsB_get (devB_two _ _ _ _ _) (devB_get hK) rfl
theorem DB_next {f : Fls} {K : Nat} {d : Dvc} {j cap cap1 : Nat} (hK : K < f.length) : (DB f K d j cap cap1)[0 + K * 2 + 0]? = some (.v (.int .i64 d.next)) := rowsB_get (devB_two _ _ _ _ _) (devB_get hK) rfl
theorem NB_row {ns : List Nod} {cap1 i : Nat} {n : Nod} (h : ns[i]? = some n) : ((NB ns cap1).drop (0 + i * 8)).take 8 = nodA n := rowsB_row (nods_eight _) (by rw [List.getElem?_map, h]; rfl)
theorem NB_get {ns : List Nod} {cap1 i k : Nat} {n : Nod} {x : AV} (h : ns[i]? = some n) (hx : (nodA n)[k]? = some x) : (NB ns cap1)[0 + i * 8 + k]? = some x := rowsB_get (nods_eight _) (by rw [List.getElem?_map, h]; rfl) hx
theorem NB_set {ns : List Nod} {cap1 i k : Nat} {n n' : Nod} {cs : List AV} (h : ns[i]? = some n) (hs : SetAt (nodA n) k cs (nodA n')) (hne : cs ≠ []) : SetAt (NB ns cap1) (0 + i * 8 + k) cs (NB (ns.set i n') cap1) := by
 have key := rowsB_set (cap := cap1) (nods_eight ns) (by rw [List.getElem?_map, h]; rfl) hs hne
 rw [← List.map_set] at key
 exact key
theorem DB_set {f : Fls} {K : Nat} {d d' : Dvc} {j j' cap cap1 cap1' k : Nat} {cs : List AV} (hK : K < f.length) (hs : SetAt (devR d j cap1) k cs (devR d' j' cap1')) (hne : cs ≠ []) : SetAt (DB f K d j cap cap1) (0 + K * 2 + k) cs (DB f K d' j' cap cap1') := by
 have key := rowsB_set (cap := cap) (devB_two f K d j cap1) (devB_get hK) hs hne
 unfold devB at key
 rw [List.set_set] at key
 exact key
theorem DB_any (f : Fls) (K : Nat) (d d' : Dvc) (j cap cap1 : Nat) : DB (f.set K d') K d j cap cap1 = DB f K d j cap cap1 := by
 unfold DB devB
 rw [List.map_set, List.set_set]
theorem LeA.tok (sz : Nat) (rows : List (List AV)) (g : Option Nat) : LeA (.sl sz rows g) (.sl sz rows none) := fun G w v h => by
 cases g with
 | none => exact h
 | some g => simp only [rep] at h ⊢; exact h.1
section
variable {P : Program} {ev : Operand → Option AV} {h : AH} {R : AV → AH → Prop} {d : Option Tmp} {ty : TypeId} {pos : String} {af : Array Edge} {gd : Option (Nat × Bool)}
theorem st_loadBE {T : TypeId} {x : Operand} {sz i o : Nat} {row cs : List AV} [ht : Typ P T sz true] (hx : ev x = some (.bp i o)) (hb : h.bx[i]? = some row) (hr : o + sz ≤ row.length) (he : (row.drop o).take sz = cs) (hR : R (.agg cs) h) : AStep P ⟨d, .load T x, ty, pos, af, gd⟩ ev h R := by
 subst he
 exact st_loadBN hx hb (by rw [Nat.ble_eq]; exact hr) hR
end
theorem entGo_at {es : List Ent} {j : Nat} {e : Ent} (h : es[j]? = some e) (name : Str) (ino : Int) (dn : Bool) : entGo name ino dn (es.drop j) = (if !dn && !strLt e.1 name then [(name, ino)] else []) ++ ((if e.1 = name then [] else [e]) ++ entGo name ino (dn || !strLt e.1 name) (es.drop (j + 1))) := by
 obtain ⟨hj, rfl⟩ := List.getElem?_eq_some_iff.1 h
 rw [List.drop_eq_getElem_cons hj]
 rfl
section
set_option maxRecDepth 10000
set_option maxHeartbeats 2000000
theorem Renter (f : Fls) (q : Nat) (d : Dvc) (n : Nod) (i : Nat) (a : Fil) (name : Str) (ino : Int) (cap cap1 : Nat) (hf : FlsB f) (hq : f[q]? = some d) (ha : a.1 = (q : Int)) (hi : indexL f a = (i : Int)) (hn : d.nodes[i]? = some n) (hcap : f.length ≤ cap) (hcap1 : d.nodes.length ≤ cap1) :
    ACall Try.prog 70 [.agg [.bs 0 0 2 f.length cap], .agg (filA a), .v (.string name), .v (.int .i64 ino)] [DB f q d 1 cap cap1, NB d.nodes cap1] (fun r b t => t = [] ∧ r = .tup [] ∧ b = [DB f q d 1 cap cap1, NB (d.nodes.set i { n with entries := entL n.entries name ino }) cap1]) := by
 have hql := (List.getElem?_eq_some_iff.1 hq).1
 have hil := (List.getElem?_eq_some_iff.1 hn).1
 have hen := hf.ents d (List.mem_of_getElem? hq) n (List.mem_of_getElem? hn)
 have hN0 : 0 + i * 8 + 8 ≤ (NB d.nodes cap1).length := by rw [NB_len hcap1]; omega
 have hD0 : (DB f q d 1 cap cap1)[0 + q * 2 + 1]? = some (.bs 1 0 8 d.nodes.length cap1) := DB_nodes hql
 have hset : SetAt (NB d.nodes cap1) (0 + i * 8 + 7) [.sl 2 ((entL n.entries name ino).map entA) none] (NB (d.nodes.set i { n with entries := entL n.entries name ino }) cap1) := NB_set hn (by repeat constructor) (by simp)
 refine enter Try.func70 rfl rfl rfl rfl rfl 2 rfl ?_
 refine w_ (b_ (h:=b_ (h:=e_ (?_))))
 refine aw_midI (fun t => t = ⟨look [(2, .v (.string name)), (3, .v (.int .i64 ino)), (4, .bp 2 0), (5, .bp 3 0), (8, .bp 4 0)], ⟨[DB f q d 1 cap cap1, NB d.nodes cap1, [.bs 0 0 2 f.length cap], filA a, nodA n], []⟩⟩) ?_ ?_
 ·skip
  refine yk_ ([(0, DB f q d 1 cap cap1), (1, NB d.nodes cap1), (2, [.bs 0 0 2 f.length cap]), (3, filA a)]) 13 (h:=df_ 0 (h:=?_))
  refine dl_ 1 (h:=?_)
  refine df_ 2 (h:=?_)
  refine dl_ 3 (h:=?_)
  refine tk_ 4 rfl (fun _ hS => st_indexS (m := q) rfl rfl ha hql ⟨rfl, rfl⟩) ?_
  refine df_ 5 (h:=?_)
  first | refine dl_ 6 (h:=?_) | refine tk_ 6 rfl (fun _ hS => st_loadB1 (row := DB f q d 1 cap cap1) rfl (kb hS rfl) hD0 ⟨rfl, rfl⟩) ?_
  refine dl_ 7 (h:=?_)
  refine dl_ 8 (h:=?_)
  refine c2_ 9 12 rfl rfl ?_ ?_
  ·refine s_callR 2 rfl (.cons _ _ _ _ _ rfl (LeA.of_eq (low_fls hq hcap hcap1 (Nat.zero_le _) (Nat.zero_le _) rfl rfl)) (.cons _ _ _ _ _ rfl (LeA.refl _) .nil)) (Rindex f a hf) ?_
   rintro r rfl
   refine ⟨rfl, ?_⟩
   refine o_ (h:=?_)
   refine tk_ 10 rfl (fun _ hS => st_indexS (m := i) rfl rfl hi hil ⟨rfl, rfl⟩) ?_
   first | refine dl_ 11 (h:=?_) | refine tk_ 11 rfl (fun _ hS => st_loadB1 (row := DB f q d 1 cap cap1) rfl (kb hS rfl) hD0 ⟨rfl, rfl⟩) ?_ | refine tk_ 11 rfl (fun _ hS => st_loadBE (row := NB d.nodes cap1) rfl (kb hS rfl) hN0 (NB_row hn) ⟨rfl, rfl⟩) ?_
   refine c_ 12 rfl (s_alloc (by repeat constructor) ?_)
   refine o_ (h:=?_)
   refine c0_ 13 rfl (s_store rfl rfl rfl rfl rfl rfl (by repeat constructor) (by repeat constructor) ?_)
   refine o_ (h:=z_ (h:=?_))
   refine x_then ?_
   exact ⟨_, rfl, wb_ 5 0 (by simp [bpLtB, bpLtL, bpLt, bp_DB, bp_NB, filA, nodA])⟩
  refine s_alloc (by repeat constructor) ?_
  refine o_ (h:=?_)
  refine c_ 9 rfl (s_callR 2 rfl (.cons _ _ _ _ _ rfl (LeA.of_eq (low_fls hq hcap hcap1 (Nat.zero_le _) (Nat.zero_le _) rfl rfl)) (.cons _ _ _ _ _ rfl (LeA.refl _) .nil)) (Rindex f a hf) ?_)
  rintro r rfl
  refine ⟨rfl, ?_⟩
  refine o_ (h:=?_)
  refine tk_ 10 rfl (fun _ hS => st_indexS (m := i) rfl rfl hi hil ⟨rfl, rfl⟩) ?_
  first | refine dl_ 11 (h:=?_) | refine tk_ 11 rfl (fun _ hS => st_loadB1 (row := DB f q d 1 cap cap1) rfl (kb hS rfl) hD0 ⟨rfl, rfl⟩) ?_ | refine tk_ 11 rfl (fun _ hS => st_loadBE (row := NB d.nodes cap1) rfl (kb hS rfl) hN0 (NB_row hn) ⟨rfl, rfl⟩) ?_
  refine c0_ 13 rfl (s_store rfl rfl rfl rfl rfl rfl (by repeat constructor) (by repeat constructor) ?_)
  refine o_ (h:=z_ (h:=?_))
  refine x_then ?_
  exact ⟨_, rfl, wb_ 5 0 (by simp [bpLtB, bpLtL, bpLt, bp_DB, bp_NB, filA, nodA])⟩
 rintro t rfl
 refine w_ (a_ (h:=e_ (w_ (m_ (h:=eq_ (h:=a_ (h:=e_ (q_ (w_ (a_ (h:=e_ (aw_block (?_)))))))))))))
 refine aw_nilTok 9 101 2 rfl (by repeat constructor) ?_
 refine aw_loopW (fun m t => ∃ (j : Nat) (acc : List Ent) (dn : Bool), j ≤ n.entries.length ∧ m = n.entries.length - j ∧ acc ++ entGo name ino dn (n.entries.drop j) = entL n.entries name ino ∧ acc.length ≤ 2 * j ∧ t = ⟨look [(2, .v (.string name)), (3, .v (.int .i64 ino)), (4, .bp 2 0), (5, .bp 3 0), (8, .bp 4 0), (9, .sl 2 (acc.map entA) (some 0)), (10, .v (.bool dn)), (11, .v (.int .i64 (j : Int)))], ⟨[DB f q d 1 cap cap1, NB d.nodes cap1, [.bs 0 0 2 f.length cap], filA a, nodA n], [(101, 2, acc.map entA)]⟩⟩) (n.entries.length) (wb_ 5 1 (by simp [bpLtB, bpLtL, bpLt, bp_DB, bp_NB, filA, nodA])) (⟨0, [], _, Nat.zero_le _, rfl, rfl, by simp, rfl⟩) ?_
 rintro m t ⟨j, acc, dn, hj, rfl, hacc, hal, rfl⟩
 refine q_ (w_ (m_ (h:=f_ (h:=l_ (h:=n_ (h:=lt_ (h:=e_ (?_))))))))
 refine aw_cond rfl (fun hb1 => ?_) (fun hb1 => ?_)
 ·have hc1 := bp hb1
  obtain ⟨hlt, e, hy, hrow, -⟩ := row_at entA hc1
  refine kt_ (q_ (aw_block (q_ (w_ (m_ (h:=nt_ (h:=m_ (h:=?_))))))))
  refine al_gs true rfl rfl (fun hb2 => ?_) (fun hb2 => ?_)
  ·have hc2 := bp hb2
   have hdn := hc2
   refine f_ (h:=l_ (h:=m_ (h:=i_ (h:=f_ (h:=l_ (h:=m_ (h:=ge_ (h:=pt_ (h:=e_ (?_))))))))))
   refine aw_cond rfl (fun hb3 => ?_) (fun hb3 => ?_)
   ·have hc3 := bp hb3
    have hsl : strLt e.1 name = false := hc3
    refine w_ (m_ (h:=m_ (h:=m_ (h:=bd_ (h:=bs_ (h:=ap_ (h:=a_ (h:=e_ (aw_region (a_ (h:=e_ (w_ (f_ (h:=l_ (h:=m_ (h:=i_ (h:=f_ (h:=l_ (h:=m_ (h:=nq_ (h:=e_ (?_))))))))))))))))))))))
    refine aw_cond rfl (fun hb4 => ?_) (fun hb4 => ?_)
    ·have hc4 := bp hb4
     have hnm : ¬ e.1 = name := hc4
     refine aw_region (m_ (h:=f_ (h:=l_ (h:=m_ (h:=i_ (h:=l_ (h:=bs_ (h:=ap_ (h:=a_ (h:=al_nil (x_blockN (t_ (aw_region (m_ (h:=ad_ (h:=a_ (h:=al_nil (?_))))))))))))))))))
     refine x_then ?_
     (exact ⟨n.entries.length - (j + 1), _, by omega, ⟨j + 1, acc ++ [(name, ino)] ++ [e], true, by omega, rfl, (by rw [← hacc, entGo_at hy]; first | (simp only [hsl, hdn]; simp [hnm]; done) | (simp only [hdn]; simp [hnm]; done)), (by (try simp); omega), rfl⟩, (by (try simp only [List.map_append, List.map_cons, List.map_nil]); exact wb_ 5 1 (by simp [bpLtB, bpLtL, bpLt, bp_DB, bp_NB, filA, nodA]))⟩)
    have hc4 := bp hb4
    have hnm : e.1 = name := hc4
    refine aw_skip (x_blockN (t_ (aw_region (m_ (h:=ad_ (h:=a_ (h:=al_nil (?_))))))))
    refine x_then ?_
    first | (exact ⟨n.entries.length - (j + 1), _, by omega, ⟨j + 1, acc ++ [(name, ino)] ++ [e], true, by omega, rfl, (by rw [← hacc, entGo_at hy]; first | (simp only [hsl, hdn]; simp [hnm]; done) | (simp only [hdn]; simp [hnm]; done)), (by (try simp); omega), rfl⟩, (by (try simp only [List.map_append, List.map_cons, List.map_nil]); exact wb_ 5 1 (by simp [bpLtB, bpLtL, bpLt, bp_DB, bp_NB, filA, nodA]))⟩) | (exact ⟨n.entries.length - (j + 1), _, by omega, ⟨j + 1, acc ++ [(name, ino)], true, by omega, rfl, (by rw [← hacc, entGo_at hy]; first | (simp only [hsl, hdn]; simp [hnm]; done) | (simp only [hdn]; simp [hnm]; done)), (by (try simp); omega), rfl⟩, (by (try simp only [List.map_append, List.map_cons, List.map_nil]); exact wb_ 5 1 (by simp [bpLtB, bpLtL, bpLt, bp_DB, bp_NB, filA, nodA]))⟩)
   have hc3 := bp hb3
   have hsl : strLt e.1 name = true := hc3
   refine kt_ (w_ (f_ (h:=l_ (h:=m_ (h:=i_ (h:=f_ (h:=l_ (h:=m_ (h:=nq_ (h:=e_ (?_)))))))))))
   refine aw_cond rfl (fun hb5 => ?_) (fun hb5 => ?_)
   ·have hc5 := bp hb5
    have hnm : ¬ e.1 = name := hc5
    refine aw_region (m_ (h:=f_ (h:=l_ (h:=m_ (h:=i_ (h:=l_ (h:=bs_ (h:=ap_ (h:=a_ (h:=al_nil (x_blockN (t_ (aw_region (m_ (h:=ad_ (h:=a_ (h:=al_nil (?_))))))))))))))))))
    refine x_then ?_
    first | (exact ⟨n.entries.length - (j + 1), _, by omega, ⟨j + 1, acc ++ [(name, ino)] ++ [e], true, by omega, rfl, (by rw [← hacc, entGo_at hy]; first | (simp only [hsl, hdn]; simp [hnm]; done) | (simp only [hdn]; simp [hnm]; done)), (by (try simp); omega), rfl⟩, (by (try simp only [List.map_append, List.map_cons, List.map_nil]); exact wb_ 5 1 (by simp [bpLtB, bpLtL, bpLt, bp_DB, bp_NB, filA, nodA]))⟩) | (exact ⟨n.entries.length - (j + 1), _, by omega, ⟨j + 1, acc ++ [(name, ino)], true, by omega, rfl, (by rw [← hacc, entGo_at hy]; first | (simp only [hsl, hdn]; simp [hnm]; done) | (simp only [hdn]; simp [hnm]; done)), (by (try simp); omega), rfl⟩, (by (try simp only [List.map_append, List.map_cons, List.map_nil]); exact wb_ 5 1 (by simp [bpLtB, bpLtL, bpLt, bp_DB, bp_NB, filA, nodA]))⟩) | (exact ⟨n.entries.length - (j + 1), _, by omega, ⟨j + 1, acc ++ [e], dn, by omega, rfl, (by rw [← hacc, entGo_at hy]; first | (simp only [hsl, hdn]; simp [hnm]; done) | (simp only [hdn]; simp [hnm]; done)), (by (try simp); omega), rfl⟩, (by (try simp only [List.map_append, List.map_cons, List.map_nil]); exact wb_ 5 1 (by simp [bpLtB, bpLtL, bpLt, bp_DB, bp_NB, filA, nodA]))⟩)
   have hc5 := bp hb5
   have hnm : e.1 = name := hc5
   refine aw_skip (x_blockN (t_ (aw_region (m_ (h:=ad_ (h:=a_ (h:=al_nil (?_))))))))
   refine x_then ?_
   first | (exact ⟨n.entries.length - (j + 1), _, by omega, ⟨j + 1, acc ++ [(name, ino)] ++ [e], true, by omega, rfl, (by rw [← hacc, entGo_at hy]; first | (simp only [hsl, hdn]; simp [hnm]; done) | (simp only [hdn]; simp [hnm]; done)), (by (try simp); omega), rfl⟩, (by (try simp only [List.map_append, List.map_cons, List.map_nil]); exact wb_ 5 1 (by simp [bpLtB, bpLtL, bpLt, bp_DB, bp_NB, filA, nodA]))⟩) | (exact ⟨n.entries.length - (j + 1), _, by omega, ⟨j + 1, acc ++ [(name, ino)], true, by omega, rfl, (by rw [← hacc, entGo_at hy]; first | (simp only [hsl, hdn]; simp [hnm]; done) | (simp only [hdn]; simp [hnm]; done)), (by (try simp); omega), rfl⟩, (by (try simp only [List.map_append, List.map_cons, List.map_nil]); exact wb_ 5 1 (by simp [bpLtB, bpLtL, bpLt, bp_DB, bp_NB, filA, nodA]))⟩) | (exact ⟨n.entries.length - (j + 1), _, by omega, ⟨j + 1, acc ++ [e], dn, by omega, rfl, (by rw [← hacc, entGo_at hy]; first | (simp only [hsl, hdn]; simp [hnm]; done) | (simp only [hdn]; simp [hnm]; done)), (by (try simp); omega), rfl⟩, (by (try simp only [List.map_append, List.map_cons, List.map_nil]); exact wb_ 5 1 (by simp [bpLtB, bpLtL, bpLt, bp_DB, bp_NB, filA, nodA]))⟩) | (exact ⟨n.entries.length - (j + 1), _, by omega, ⟨j + 1, acc, dn, by omega, rfl, (by rw [← hacc, entGo_at hy]; first | (simp only [hsl, hdn]; simp [hnm]; done) | (simp only [hdn]; simp [hnm]; done)), (by (try simp); omega), rfl⟩, (by (try simp only [List.map_append, List.map_cons, List.map_nil]); exact wb_ 5 1 (by simp [bpLtB, bpLtL, bpLt, bp_DB, bp_NB, filA, nodA]))⟩)
  have hc2 := bp hb2
  have hdn := hc2
  refine g0_ (h:=g0_ (h:=g0_ (h:=g0_ (h:=g0_ (h:=g0_ (h:=g0_ (h:=g0_ (h:=pf_ (h:=e_ (cn_ (h:=kt_ (w_ (f_ (h:=l_ (h:=m_ (h:=i_ (h:=f_ (h:=l_ (h:=m_ (h:=nq_ (h:=e_ (?_))))))))))))))))))))))
  refine aw_cond rfl (fun hb6 => ?_) (fun hb6 => ?_)
  ·have hc6 := bp hb6
   have hnm : ¬ e.1 = name := hc6
   refine aw_region (m_ (h:=f_ (h:=l_ (h:=m_ (h:=i_ (h:=l_ (h:=bs_ (h:=ap_ (h:=a_ (h:=al_nil (x_blockN (t_ (aw_region (m_ (h:=ad_ (h:=a_ (h:=al_nil (?_))))))))))))))))))
   refine x_then ?_
   first | (exact ⟨n.entries.length - (j + 1), _, by omega, ⟨j + 1, acc ++ [(name, ino)] ++ [e], true, by omega, rfl, (by rw [← hacc, entGo_at hy]; first | (simp only [hsl, hdn]; simp [hnm]; done) | (simp only [hdn]; simp [hnm]; done)), (by (try simp); omega), rfl⟩, (by (try simp only [List.map_append, List.map_cons, List.map_nil]); exact wb_ 5 1 (by simp [bpLtB, bpLtL, bpLt, bp_DB, bp_NB, filA, nodA]))⟩) | (exact ⟨n.entries.length - (j + 1), _, by omega, ⟨j + 1, acc ++ [(name, ino)], true, by omega, rfl, (by rw [← hacc, entGo_at hy]; first | (simp only [hsl, hdn]; simp [hnm]; done) | (simp only [hdn]; simp [hnm]; done)), (by (try simp); omega), rfl⟩, (by (try simp only [List.map_append, List.map_cons, List.map_nil]); exact wb_ 5 1 (by simp [bpLtB, bpLtL, bpLt, bp_DB, bp_NB, filA, nodA]))⟩) | (exact ⟨n.entries.length - (j + 1), _, by omega, ⟨j + 1, acc ++ [e], dn, by omega, rfl, (by rw [← hacc, entGo_at hy]; first | (simp only [hsl, hdn]; simp [hnm]; done) | (simp only [hdn]; simp [hnm]; done)), (by (try simp); omega), rfl⟩, (by (try simp only [List.map_append, List.map_cons, List.map_nil]); exact wb_ 5 1 (by simp [bpLtB, bpLtL, bpLt, bp_DB, bp_NB, filA, nodA]))⟩)
  have hc6 := bp hb6
  have hnm : e.1 = name := hc6
  refine aw_skip (x_blockN (t_ (aw_region (m_ (h:=ad_ (h:=a_ (h:=al_nil (?_))))))))
  refine x_then ?_
  first | (exact ⟨n.entries.length - (j + 1), _, by omega, ⟨j + 1, acc ++ [(name, ino)] ++ [e], true, by omega, rfl, (by rw [← hacc, entGo_at hy]; first | (simp only [hsl, hdn]; simp [hnm]; done) | (simp only [hdn]; simp [hnm]; done)), (by (try simp); omega), rfl⟩, (by (try simp only [List.map_append, List.map_cons, List.map_nil]); exact wb_ 5 1 (by simp [bpLtB, bpLtL, bpLt, bp_DB, bp_NB, filA, nodA]))⟩) | (exact ⟨n.entries.length - (j + 1), _, by omega, ⟨j + 1, acc ++ [(name, ino)], true, by omega, rfl, (by rw [← hacc, entGo_at hy]; first | (simp only [hsl, hdn]; simp [hnm]; done) | (simp only [hdn]; simp [hnm]; done)), (by (try simp); omega), rfl⟩, (by (try simp only [List.map_append, List.map_cons, List.map_nil]); exact wb_ 5 1 (by simp [bpLtB, bpLtL, bpLt, bp_DB, bp_NB, filA, nodA]))⟩) | (exact ⟨n.entries.length - (j + 1), _, by omega, ⟨j + 1, acc ++ [e], dn, by omega, rfl, (by rw [← hacc, entGo_at hy]; first | (simp only [hsl, hdn]; simp [hnm]; done) | (simp only [hdn]; simp [hnm]; done)), (by (try simp); omega), rfl⟩, (by (try simp only [List.map_append, List.map_cons, List.map_nil]); exact wb_ 5 1 (by simp [bpLtB, bpLtL, bpLt, bp_DB, bp_NB, filA, nodA]))⟩) | (exact ⟨n.entries.length - (j + 1), _, by omega, ⟨j + 1, acc, dn, by omega, rfl, (by rw [← hacc, entGo_at hy]; first | (simp only [hsl, hdn]; simp [hnm]; done) | (simp only [hdn]; simp [hnm]; done)), (by (try simp); omega), rfl⟩, (by (try simp only [List.map_append, List.map_cons, List.map_nil]); exact wb_ 5 1 (by simp [bpLtB, bpLtL, bpLt, bp_DB, bp_NB, filA, nodA]))⟩)
 have hc1 := bp hb1
 have e := row_no entA hj hc1
 subst e
 rw [List.drop_length] at hacc
 refine aw_exit (x_thenE (x_thenE (ABlock_out (t_ (q_ (w_ (m_ (h:=nt_ (h:=e_ (?_))))))))))
 refine aw_cond rfl (fun hb7 => ?_) (fun hb7 => ?_)
 ·have hc7 := bp hb7
  have hdn : dn = false := hc7
  have ea : acc ++ [(name, ino)] = entL n.entries name ino := by rw [← hacc, hdn]; rfl
  refine aw_region (m_ (h:=m_ (h:=m_ (h:=bd_ (h:=bs_ (h:=ap_ (h:=a_ (h:=e_ (yk_ ([(0, DB f q d 1 cap cap1), (2, [.bs 0 0 2 f.length cap]), (3, filA a), (4, nodA n)]) 14 (h:=df_ 0 (h:=?_)))))))))))
  refine dl_ 1 (h:=?_)
  refine df_ 2 (h:=?_)
  refine dl_ 3 (h:=?_)
  refine tk_ 4 rfl (fun _ hS => st_indexS (m := q) rfl rfl ha hql ⟨rfl, rfl⟩) ?_
  refine df_ 5 (h:=?_)
  first | refine dl_ 6 (h:=?_) | refine tk_ 6 rfl (fun _ hS => st_loadB1 (row := DB f q d 1 cap cap1) rfl (kb hS rfl) hD0 ⟨rfl, rfl⟩) ?_
  refine dl_ 7 (h:=?_)
  refine dl_ 8 (h:=?_)
  refine tk_ 10 rfl (fun _ hS => st_le (y := .sl 2 ((entL n.entries name ino).map entA) none) (st_move rfl ⟨rfl, rfl⟩) (by rw [← ea]; (try simp only [List.map_append, List.map_cons, List.map_nil]); exact LeA.tok _ _ _) ⟨rfl, rfl⟩) ?_
  refine c_ 9 rfl (s_callR 2 rfl (.cons _ _ _ _ _ rfl (LeA.of_eq (low_fls hq hcap hcap1 (Nat.zero_le _) (Nat.zero_le _) rfl rfl)) (.cons _ _ _ _ _ rfl (LeA.refl _) .nil)) (Rindex f a hf) ?_)
  rintro r rfl
  refine ⟨rfl, ?_⟩
  refine o_ (h:=?_)
  refine tk_ 11 rfl (fun _ hS => st_indexS (m := i) rfl rfl hi hil ⟨rfl, rfl⟩) ?_
  refine df_ 12 (h:=?_)
  refine c0_ 13 rfl (s_store rfl rfl rfl rfl rfl rfl hset (by repeat constructor) ?_)
  refine o_ (h:=z_ (h:=?_))
  refine abody_end (r := .tup []) none (by repeat (first | exact ResA.nil | (apply ResA.tmp; (focus exact rfl)) | (apply ResA.cellN; (focus exact inferInstance); (focus exact rfl); (focus exact rfl); (focus exact rfl)) | (apply ResA.cell1; (focus exact inferInstance); (focus exact rfl); (focus exact rfl); (focus exact rfl)))) rfl rfl (by simp [bpLtB, bp_DB, bp_NB]) (LeA.refl _) ⟨rfl, rfl, rfl⟩
 have hc7 := bp hb7
 have hdn : dn = true := hc7
 have ea : acc = entL n.entries name ino := by rw [← hacc, hdn]; simp [entGo]
 refine kt_ (yk_ ([(0, DB f q d 1 cap cap1), (2, [.bs 0 0 2 f.length cap]), (3, filA a), (4, nodA n)]) 14 (h:=df_ 0 (h:=?_)))
 refine dl_ 1 (h:=?_)
 refine df_ 2 (h:=?_)
 refine dl_ 3 (h:=?_)
 refine tk_ 4 rfl (fun _ hS => st_indexS (m := q) rfl rfl ha hql ⟨rfl, rfl⟩) ?_
 refine df_ 5 (h:=?_)
 first | refine dl_ 6 (h:=?_) | refine tk_ 6 rfl (fun _ hS => st_loadB1 (row := DB f q d 1 cap cap1) rfl (kb hS rfl) hD0 ⟨rfl, rfl⟩) ?_
 refine dl_ 7 (h:=?_)
 refine dl_ 8 (h:=?_)
 refine tk_ 10 rfl (fun _ hS => st_le (y := .sl 2 ((entL n.entries name ino).map entA) none) (st_move rfl ⟨rfl, rfl⟩) (by rw [← ea]; (try simp only [List.map_append, List.map_cons, List.map_nil]); exact LeA.tok _ _ _) ⟨rfl, rfl⟩) ?_
 refine c_ 9 rfl (s_callR 2 rfl (.cons _ _ _ _ _ rfl (LeA.of_eq (low_fls hq hcap hcap1 (Nat.zero_le _) (Nat.zero_le _) rfl rfl)) (.cons _ _ _ _ _ rfl (LeA.refl _) .nil)) (Rindex f a hf) ?_)
 rintro r rfl
 refine ⟨rfl, ?_⟩
 refine o_ (h:=?_)
 refine tk_ 11 rfl (fun _ hS => st_indexS (m := i) rfl rfl hi hil ⟨rfl, rfl⟩) ?_
 refine df_ 12 (h:=?_)
 refine c0_ 13 rfl (s_store rfl rfl rfl rfl rfl rfl hset (by repeat constructor) ?_)
 refine o_ (h:=z_ (h:=?_))
 refine abody_end (r := .tup []) none (by repeat (first | exact ResA.nil | (apply ResA.tmp; (focus exact rfl)) | (apply ResA.cellN; (focus exact inferInstance); (focus exact rfl); (focus exact rfl); (focus exact rfl)) | (apply ResA.cell1; (focus exact inferInstance); (focus exact rfl); (focus exact rfl); (focus exact rfl)))) rfl rfl (by simp [bpLtB, bp_DB, bp_NB]) (LeA.refl _) ⟨rfl, rfl, rfl⟩
end
theorem src1 {h : AH} {sz : Nat} {r : List AV} {tok : Option Nat} : SrcA h sz (.sl sz [r] tok) 1 r := by
 have := SrcA.sl (h := h) (sz := sz) [r] tok
 simpa using this
theorem NB_first (n : Nod) (cap : Nat) : nodA n ++ List.replicate ((cap - 1) * 8) .any = NB [n] cap := by
 unfold NB rowsB
 simp
theorem NB_new (acc : List Nod) (n : Nod) (cap0 cap : Nat) : ((NB acc cap0).drop 0).take (acc.length * 8) ++ nodA n ++ List.replicate ((cap - (acc.length + 1)) * 8) .any = NB (acc ++ [n]) cap := by
 unfold NB
 rw [rowsB_new (nods_eight acc) (by simp), List.map_append]
 rfl
theorem NB_push {acc : List Nod} {n : Nod} {cap : Nat} {row : List AV} (hs : SetAt (NB acc cap) (0 + acc.length * 8) (nodA n) row) (hc : acc.length + 1 ≤ cap) : row = NB (acc ++ [n]) cap := by
 have key := rowsB_push (rows := acc.map nodA) (sz := 8) (cap := cap) (r := nodA n) (row' := row) (nods_eight acc) rfl (by omega) (by simpa using hc) (by rw [List.length_map]; exact hs)
 rw [key]
 unfold NB
 rw [List.map_append]
 rfl
theorem ni2 {is : List Nat} : ∀ i, i < 2 → (0 :: 1 :: is)[i]? = some i := by
 intro i hi
 match i, hi with
 | 0, _ => rfl
 | 1, _ => rfl
theorem keep_at {ns : List Nod} {j : Nat} {n : Nod} (h : ns[j]? = some n) (ino : Int) : keepNot ino (ns.take (j + 1)) = keepNot ino (ns.take j) ++ (if n.ino = ino then [] else [n]) := by
 unfold keepNot
 rw [List.take_add_one, h, List.filter_append]
 by_cases e : n.ino = ino <;> simp [e]
section
set_option maxRecDepth 10000
set_option maxHeartbeats 2000000
theorem Rdrop (f : Fls) (q : Nat) (d : Dvc) (a : Fil) (cap cap1 : Nat) (hf : FlsB f) (hq : f[q]? = some d) (ha : a.1 = (q : Int)) (hcap : f.length ≤ cap) (hcap1 : d.nodes.length ≤ cap1) (hne : 0 < (keepNot a.2 d.nodes).length) :
    ACall Try.prog 83 [.agg [.bs 0 0 2 f.length cap], .agg (filA a)] [DB f q d 1 cap cap1, NB d.nodes cap1] (fun r b t => t = [] ∧ r = .tup [] ∧ ((0 < linksF f a ∧ b = [DB f q d 1 cap cap1, NB d.nodes cap1, [.bs 0 0 2 f.length cap], filA a]) ∨ (linksF f a = 0 ∧ ∃ cap2, (keepNot a.2 d.nodes).length ≤ cap2 ∧ b = [DB f q { d with nodes := keepNot a.2 d.nodes } 4 cap cap2, NB d.nodes cap1, [.bs 0 0 2 f.length cap], filA a, NB (keepNot a.2 d.nodes) cap2]))) := by
 have hql := (List.getElem?_eq_some_iff.1 hq).1
 have hdn := hf.nodes d (List.mem_of_getElem? hq)
 have hD0 : (DB f q d 1 cap cap1)[0 + q * 2 + 1]? = some (.bs 1 0 8 d.nodes.length cap1) := DB_nodes hql
 have hset : ∀ (acc : List Nod) (cap2 : Nat), SetAt (DB f q d 1 cap cap1) (0 + q * 2 + 1) [.bs 4 0 8 acc.length cap2] (DB f q { d with nodes := acc } 4 cap cap2) := fun acc cap2 => DB_set hql (by repeat constructor) (by simp)
 refine enter Try.func83 rfl rfl rfl rfl rfl 5 rfl ?_
 refine w_ (b_ (h:=b_ (h:=e_ (q_ (w_ (l_ (h:=l_ (h:=?_))))))))
 refine al_p rfl (s_callR 2 rfl (.cons _ _ _ _ _ rfl (LeA.of_eq (low_fls hq hcap hcap1 (Nat.zero_le _) (Nat.zero_le _) rfl rfl)) (.cons _ _ _ _ _ rfl (LeA.refl _) .nil)) (Rlinks f a hf) ?_)
 rintro r rfl
 refine ⟨rfl, ?_⟩
 refine gt_ (h:=e_ (?_))
 refine aw_cond rfl (fun hb1 => ?_) (fun hb1 => ?_)
 ·have hc1 := bp hb1
  have hl : 0 < linksF f a := by omega
  refine aw_ret (x_thenR (?_))
  refine abody_ret (r := .tup []) none (by repeat (first | exact ResA.nil | (apply ResA.tmp; (focus exact rfl)) | (apply ResA.cellN; (focus exact inferInstance); (focus exact rfl); (focus exact rfl); (focus exact rfl)) | (apply ResA.cell1; (focus exact inferInstance); (focus exact rfl); (focus exact rfl); (focus exact rfl)))) rfl rfl (by simp [bpLtB, bpLtL, bpLt, bp_DB, bp_NB, filA]) (LeA.refl _) ⟨rfl, rfl, .inl ⟨hl, rfl⟩⟩
 have hc1 := bp hb1
 have hl : linksF f a = 0 := by omega
 refine kt_ (w_ (a_ (h:=e_ (w_ (f_ (h:=?_))))))
 refine al_p rfl (st_loadB1 rfl rfl rfl ?_)
 refine f_ (h:=l_ (h:=?_))
 refine al_p rfl (st_indexS (m := q) rfl rfl ha hql ?_)
 refine f_ (h:=?_)
 refine al_p rfl (st_loadB1 rfl rfl hD0 ?_)
 refine a_ (h:=e_ (q_ (w_ (a_ (h:=e_ (aw_block (?_)))))))
 refine aw_loopW (fun m t => ∃ (j : Nat) (acc : List Nod), j ≤ d.nodes.length ∧ m = d.nodes.length - j ∧ keepNot a.2 (d.nodes.take j) = acc ∧ acc.length ≤ j ∧ ((acc = [] ∧ t = ⟨look [(2, .bp 2 0), (3, .bp 3 0), (4, .v (.slice none 0 0)), (5, .bs 1 0 8 d.nodes.length cap1), (6, .v (.int .i64 (j : Int)))], ⟨[DB f q d 1 cap cap1, NB d.nodes cap1, [.bs 0 0 2 f.length cap], filA a], []⟩⟩) ∨ (∃ cap2, acc.length ≤ cap2 ∧ t = ⟨look [(2, .bp 2 0), (3, .bp 3 0), (4, .bs 4 0 8 acc.length cap2), (5, .bs 1 0 8 d.nodes.length cap1), (6, .v (.int .i64 (j : Int)))], ⟨[DB f q d 1 cap cap1, NB d.nodes cap1, [.bs 0 0 2 f.length cap], filA a, NB acc cap2], []⟩⟩))) (d.nodes.length) (wb_ 4 0 (by simp [bpLtB, bpLtL, bpLt, bp_DB, bp_NB, filA, nodA])) (⟨0, [], Nat.zero_le _, rfl, rfl, Nat.le_refl _, .inl ⟨rfl, rfl⟩⟩) ?_
 rintro m t ⟨j, acc, hj, rfl, hacc, hal, ⟨rfl, rfl⟩ | ⟨cap2, hcp, rfl⟩⟩
 ·skip
  refine q_ (w_ (m_ (h:=m_ (h:=?_))))
  refine al_p rfl (st_lenB rfl ?_)
  refine lt_ (h:=e_ (?_))
  refine aw_cond rfl (fun hb2 => ?_) (fun hb2 => ?_)
  ·have hc2 := bp hb2
   have hlt : j < d.nodes.length := by omega
   obtain ⟨n, hy⟩ : ∃ n, d.nodes[j]? = some n := ⟨_, List.getElem?_eq_getElem hlt⟩
   have hk := keep_at hy a.2
   refine kt_ (q_ (aw_block (q_ (yr_ 8 (h:=dm_ 0 (h:=dm_ 1 (h:=?_)))))))
   refine r_y (i := 2) rfl (st_indexS (m := j) rfl rfl rfl hlt ⟨rfl, rfl⟩) ?_
   refine df_ 3 (h:=?_)
   refine r_y (i := 4) rfl (st_loadB1 rfl rfl (NB_get hy rfl) ⟨rfl, rfl⟩) ?_
   refine df_ 5 (h:=dl_ 6 (h:=dnq_ 7 (h:=z_ (h:=t_ (?_)))))
   refine aw_cond rfl (fun hb3 => ?_) (fun hb3 => ?_)
   ·have hc3 := bp hb3
    rw [if_neg hc3] at hk
    refine aw_region (m_ (h:=m_ (h:=m_ (h:=?_))))
    refine al_p rfl (st_indexS (m := j) rfl rfl rfl hlt ?_)
    refine al_p rfl (st_loadBE rfl rfl (by rw [NB_len hcap1]; omega) (NB_row hy) ?_)
    refine bs_ (h:=?_)
    refine al_p rfl (st_append0B rfl rfl src1 (by omega) (by omega) ?_)
    rintro cap2 k bx2 hcp hs
    rw [show cellsA (.agg (nodA n)) ++ List.replicate ((cap2 - 1) * 8) AV.any = NB [n] cap2 from NB_first n cap2] at hs
    obtain ⟨rfl, rfl⟩ : k = 4 ∧ bx2 = [_, _, _, _, _] := hs.eq
    refine a_ (h:=al_nil (x_blockN (t_ (aw_region (m_ (h:=ad_ (h:=a_ (h:=al_nil (?_)))))))))
    refine x_then ?_
    exact ⟨d.nodes.length - (j + 1), _, by omega, ⟨j + 1, [n], by omega, rfl, (by rw [hk, hacc]; rfl), by simp, .inr ⟨cap2, hcp, rfl⟩⟩, wb_ 5 0 (by simp [bpLtB, bpLtL, bpLt, bp_DB, bp_NB, filA, nodA])⟩
   have hc3 := bp hb3
   rw [if_pos hc3, List.append_nil] at hk
   refine aw_skip (x_blockN (t_ (aw_region (m_ (h:=ad_ (h:=a_ (h:=al_nil (?_))))))))
   refine x_then ?_
   first | exact ⟨d.nodes.length - (j + 1), _, by omega, ⟨j + 1, [n], by omega, rfl, (by rw [hk, hacc]; rfl), by simp, .inr ⟨cap2, hcp, rfl⟩⟩, wb_ 5 0 (by simp [bpLtB, bpLtL, bpLt, bp_DB, bp_NB, filA, nodA])⟩ | exact ⟨d.nodes.length - (j + 1), _, by omega, ⟨j + 1, [], by omega, rfl, (by rw [hk, hacc]), by simp, .inl ⟨rfl, rfl⟩⟩, wb_ 4 0 (by simp [bpLtB, bpLtL, bpLt, bp_DB, bp_NB, filA, nodA])⟩
  have hc2 := bp hb2
  exfalso
  obtain rfl : j = d.nodes.length := by omega
  rw [List.take_length] at hacc
  rw [hacc] at hne
  exact absurd hne (by simp)
 skip
 refine q_ (w_ (m_ (h:=m_ (h:=?_))))
 refine al_p rfl (st_lenB rfl ?_)
 refine lt_ (h:=e_ (?_))
 refine aw_cond rfl (fun hb4 => ?_) (fun hb4 => ?_)
 ·have hc4 := bp hb4
  have hlt : j < d.nodes.length := by omega
  obtain ⟨n, hy⟩ : ∃ n, d.nodes[j]? = some n := ⟨_, List.getElem?_eq_getElem hlt⟩
  have hk := keep_at hy a.2
  refine kt_ (q_ (aw_block (q_ (yr_ 8 (h:=dm_ 0 (h:=dm_ 1 (h:=?_)))))))
  refine r_y (i := 2) rfl (st_indexS (m := j) rfl rfl rfl hlt ⟨rfl, rfl⟩) ?_
  refine df_ 3 (h:=?_)
  refine r_y (i := 4) rfl (st_loadB1 rfl rfl (NB_get hy rfl) ⟨rfl, rfl⟩) ?_
  refine df_ 5 (h:=dl_ 6 (h:=dnq_ 7 (h:=z_ (h:=t_ (?_)))))
  refine aw_cond rfl (fun hb5 => ?_) (fun hb5 => ?_)
  ·have hc5 := bp hb5
   rw [if_neg hc5] at hk
   refine aw_region (m_ (h:=m_ (h:=m_ (h:=?_))))
   refine al_p rfl (st_indexS (m := j) rfl rfl rfl hlt ?_)
   refine al_p rfl (st_loadBE rfl rfl (by rw [NB_len hcap1]; omega) (NB_row hy) ?_)
   refine bs_ (h:=?_)
   refine al_p rfl (st_appendB rfl rfl rfl (by rw [NB_len hcp]; omega) src1 (by omega) (by omega) ?_ ?_)
   ·rintro hg row2 bx2 hs hb
    obtain rfl := NB_push hs hg
    obtain rfl : bx2 = [_, _, _, _, _] := hb.one.2
    refine a_ (h:=al_nil (x_blockN (t_ (aw_region (m_ (h:=ad_ (h:=a_ (h:=al_nil (?_)))))))))
    refine x_then ?_
    exact ⟨d.nodes.length - (j + 1), _, by omega, ⟨j + 1, acc ++ [n], by omega, rfl, (by rw [hk, hacc]), by simp; omega, .inr ⟨cap2, by simpa using hg, by rw [List.length_append]; rfl⟩⟩, weak_of 5 0 rfl rfl rfl (by simp [bpLtB, bpLtL, bpLt, bp_DB, bp_NB, filA, nodA]) ((by repeat (first | exact Sub.nil | refine Sub.cons _ _ _ rfl rfl ?_ | refine Sub.any _ _ ?_ | refine Sub.sl _ _ _ _ _ rfl ?_ | refine Sub.slnil _ _ _ rfl ?_)))⟩
   rintro hg cap3 k bx2 hcp3 hs
   rw [show ((NB acc cap2).drop 0).take (acc.length * 8) ++ cellsA (.agg (nodA n)) ++ List.replicate ((cap3 - (acc.length + 1)) * 8) AV.any = NB (acc ++ [n]) cap3 from NB_new acc n cap2 cap3] at hs
   obtain ⟨rfl, rfl⟩ : k = 5 ∧ bx2 = [_, _, _, _, _, _] := hs.eq
   refine a_ (h:=al_nil (x_blockN (t_ (aw_region (m_ (h:=ad_ (h:=a_ (h:=al_nil (?_)))))))))
   refine x_then ?_
   first | exact ⟨d.nodes.length - (j + 1), _, by omega, ⟨j + 1, acc ++ [n], by omega, rfl, (by rw [hk, hacc]), by simp; omega, .inr ⟨cap2, by simpa using hg, by rw [List.length_append]; rfl⟩⟩, weak_of 5 0 rfl rfl rfl (by simp [bpLtB, bpLtL, bpLt, bp_DB, bp_NB, filA, nodA]) ((by repeat (first | exact Sub.nil | refine Sub.cons _ _ _ rfl rfl ?_ | refine Sub.any _ _ ?_ | refine Sub.sl _ _ _ _ _ rfl ?_ | refine Sub.slnil _ _ _ rfl ?_)))⟩ | exact ⟨d.nodes.length - (j + 1), _, by omega, ⟨j + 1, acc ++ [n], by omega, rfl, (by rw [hk, hacc]), by simp; omega, .inr ⟨cap3, by simpa using hcp3, by rw [List.length_append]; rfl⟩⟩, weak_ren [0, 1, 2, 3, 5] ni2 (by decide) (.cons _ _ _ _ _ rfl (renK_DB (by rfl) _ _ _ _ _) (.cons _ _ _ _ _ rfl (renK_NB _ _ _) (.cons _ _ _ _ _ rfl rfl (.cons _ _ _ _ _ rfl rfl (.cons _ _ _ _ _ rfl (renK_NB _ _ _) .nil))))) (by repeat (first | exact SubK.nil | refine SubK.cons _ _ _ _ rfl (LeA.refl _) ?_))⟩
  have hc5 := bp hb5
  rw [if_pos hc5, List.append_nil] at hk
  refine aw_skip (x_blockN (t_ (aw_region (m_ (h:=ad_ (h:=a_ (h:=al_nil (?_))))))))
  refine x_then ?_
  first | exact ⟨d.nodes.length - (j + 1), _, by omega, ⟨j + 1, acc ++ [n], by omega, rfl, (by rw [hk, hacc]), by simp; omega, .inr ⟨cap2, by simpa using hg, by rw [List.length_append]; rfl⟩⟩, weak_of 5 0 rfl rfl rfl (by simp [bpLtB, bpLtL, bpLt, bp_DB, bp_NB, filA, nodA]) ((by repeat (first | exact Sub.nil | refine Sub.cons _ _ _ rfl rfl ?_ | refine Sub.any _ _ ?_ | refine Sub.sl _ _ _ _ _ rfl ?_ | refine Sub.slnil _ _ _ rfl ?_)))⟩ | exact ⟨d.nodes.length - (j + 1), _, by omega, ⟨j + 1, acc ++ [n], by omega, rfl, (by rw [hk, hacc]), by simp; omega, .inr ⟨cap3, by simpa using hcp3, by rw [List.length_append]; rfl⟩⟩, weak_ren [0, 1, 2, 3, 5] ni2 (by decide) (.cons _ _ _ _ _ rfl (renK_DB (by rfl) _ _ _ _ _) (.cons _ _ _ _ _ rfl (renK_NB _ _ _) (.cons _ _ _ _ _ rfl rfl (.cons _ _ _ _ _ rfl rfl (.cons _ _ _ _ _ rfl (renK_NB _ _ _) .nil))))) (by repeat (first | exact SubK.nil | refine SubK.cons _ _ _ _ rfl (LeA.refl _) ?_))⟩ | exact ⟨d.nodes.length - (j + 1), _, by omega, ⟨j + 1, acc, by omega, rfl, (by rw [hk, hacc]), by omega, .inr ⟨cap2, hcp, rfl⟩⟩, weak_of 5 0 rfl rfl rfl (by simp [bpLtB, bpLtL, bpLt, bp_DB, bp_NB, filA, nodA]) ((by repeat (first | exact Sub.nil | refine Sub.cons _ _ _ rfl rfl ?_ | refine Sub.any _ _ ?_ | refine Sub.sl _ _ _ _ _ rfl ?_ | refine Sub.slnil _ _ _ rfl ?_)))⟩
 have hc4 := bp hb4
 obtain rfl : j = d.nodes.length := by omega
 rw [List.take_length] at hacc
 refine aw_exit (x_thenE (x_thenE (ABlock_out (t_ (aw_region (f_ (h:=?_)))))))
 refine al_p rfl (st_loadB1 rfl rfl rfl ?_)
 refine f_ (h:=l_ (h:=m_ (h:=?_)))
 refine al_p rfl (st_indexS (m := q) rfl rfl ha hql ?_)
 refine f_ (h:=?_)
 refine al_p0 (s_store rfl rfl rfl rfl rfl rfl (hset _ _) (by repeat constructor) ?_)
 refine al_nil (?_)
 refine abody_end (r := .tup []) none (by repeat (first | exact ResA.nil | (apply ResA.tmp; (focus exact rfl)) | (apply ResA.cellN; (focus exact inferInstance); (focus exact rfl); (focus exact rfl); (focus exact rfl)) | (apply ResA.cell1; (focus exact inferInstance); (focus exact rfl); (focus exact rfl); (focus exact rfl)))) rfl rfl (by simp [bpLtB, bpLtL, bpLt, bp_DB, bp_NB, filA]) (LeA.refl _) ⟨rfl, rfl, .inr ⟨hl, cap2, by rw [hacc]; exact hcp, by rw [hacc]; rfl⟩⟩
end
end Go.Proofs.Ythcbdkmhamhciaa
