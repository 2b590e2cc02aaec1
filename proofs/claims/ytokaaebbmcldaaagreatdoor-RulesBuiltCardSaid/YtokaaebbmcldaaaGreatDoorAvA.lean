/-
  Data as trees: what a slot, a box or a slice holds, and how it lies in the model's memory.
-/
import Derived.Test.YtokaaebbmcldaaaGreatDoorProg
import Derived.WalkKit
import Derived.WalkSpells
import Derived.WalkLawsBesides
import Derived.Lib.Hide
import Derived.Outline
import Derived.Maps.AppendAt
import Derived.OwnWalk
import Derived.Deep.LoopGhost
import Derived.Deep.MidRow
import Derived.Great.BuildSlice
namespace Go.Proofs.YtokaaebbmcldaaaGreatDoor
open Go.RowKit

/-- A value with all that it leads to: a plain value; a struct or an array; results; a slice whose elements stay as they are (each a row of cells), with the number of the growing list that it is, if any;
a pointer to cells that stay as they are; a pointer into a box of the call's own; a function with what it has captured; whatever. -/
inductive AV where
  | v (x : Value)
  | agg (cs : List AV)
  | tup (cs : List AV)
  | sl (sz : Nat) (rows : List (List AV)) (tok : Option Nat)
  | fp (row : List AV)
  | bp (i off : Nat)
  | fn (f : FuncId) (caps : List AV)
  | any

/-! What stays as it is: the cells of St. -/
mutual
def fro (St : Nat → Nat → Prop) (w : World) : AV → Value → Prop
  | .v x, y => y = x
  | .agg cs, y => ∃ ys : List Value, y = .agg ys.toArray ∧ froL St w cs ys
  | .tup cs, y => ∃ ys : List Value, y = .tuple ys.toArray ∧ froL St w cs ys
  | .sl sz rows tok, y => tok = none ∧ ∃ A cap, y = .slice A rows.length cap ∧ rows.length ≤ cap ∧ cap ≤ maxLen ∧ (rows = [] ∨ ∃ b off, A = some ⟨b, off, none⟩ ∧ froR St w b sz rows off)
  | .fp row, y => ∃ b off, y = .pointer (some ⟨b, off, none⟩) ∧ froC St w b row off
  | .bp _ _, _ => False
  | .fn f caps, y => ∃ ys : List Value, y = .func (.func f) #[] ys.toArray ∧ froL St w caps ys
  | .any, _ => True
def froL (St : Nat → Nat → Prop) (w : World) : List AV → List Value → Prop
  | [], ys => ys = []
  | x :: xs, ys => ∃ z zs, ys = z :: zs ∧ fro St w x z ∧ froL St w xs zs
def froC (St : Nat → Nat → Prop) (w : World) (b : Nat) : List AV → Nat → Prop
  | [], _ => True
  | x :: xs, off => (St b off ∧ ∃ u, w.cell? ⟨b, off, none⟩ = some u ∧ u.oneCell' = true ∧ fro St w x u) ∧ froC St w b xs (off + 1)
def froR (St : Nat → Nat → Prop) (w : World) (b sz : Nat) : List (List AV) → Nat → Prop
  | [], _ => True
  | r :: rs, off => (r.length = sz ∧ froC St w b r off) ∧ froR St w b sz rs (off + sz)
end

/-- The cells that stay as they are; the blocks of the boxes; the growing lists: their length and their slice. -/
structure Gh where
  St : Nat → Nat → Prop
  bx : List Nat
  tk : List (Nat × Value)

mutual
def rep (G : Gh) (w : World) : AV → Value → Prop
  | .v x, y => y = x
  | .agg cs, y => ∃ ys : List Value, y = .agg ys.toArray ∧ repL G w cs ys
  | .tup cs, y => ∃ ys : List Value, y = .tuple ys.toArray ∧ repL G w cs ys
  | .sl sz rows none, y => fro G.St w (.sl sz rows none) y
  | .sl sz rows (some g), y => fro G.St w (.sl sz rows none) y ∧ ∃ n u, G.tk[g]? = some (n, u) ∧ rows.length ≤ n ∧ (rows.length = n → y = u)
  | .fp row, y => ∃ b off, y = .pointer (some ⟨b, off, none⟩) ∧ froC G.St w b row off
  | .bp i off, y => ∃ b, G.bx[i]? = some b ∧ y = .pointer (some ⟨b, off, none⟩)
  | .fn f caps, y => ∃ ys : List Value, y = .func (.func f) #[] ys.toArray ∧ repL G w caps ys
  | .any, _ => True
def repL (G : Gh) (w : World) : List AV → List Value → Prop
  | [], ys => ys = []
  | x :: xs, ys => ∃ z zs, ys = z :: zs ∧ rep G w x z ∧ repL G w xs zs
end

/-- A later world: what stays stays, boxes and growing lists keep their numbers. -/
structure Ext (G : Gh) (w : World) (G' : Gh) (w' : World) : Prop where
  st : ∀ b o, G.St b o → G'.St b o ∧ w'.cell? ⟨b, o, none⟩ = w.cell? ⟨b, o, none⟩
  bx : ∀ (i b : Nat), G.bx[i]? = some b → G'.bx[i]? = some b
  tk : ∀ (g n : Nat) (u : Value), G.tk[g]? = some (n, u) → ∃ n' u', G'.tk[g]? = some (n', u') ∧ n ≤ n' ∧ (n = n' → u = u')

theorem Ext.refl (G : Gh) (w : World) : Ext G w G w := ⟨fun _ _ h => ⟨h, rfl⟩, fun _ _ h => h, fun _ n u h => ⟨n, u, h, Nat.le_refl _, fun _ => rfl⟩⟩
theorem Ext.trans {G G' G'' : Gh} {w w' w'' : World} (h : Ext G w G' w') (k : Ext G' w' G'' w'') : Ext G w G'' w'' := by
  refine ⟨fun b o hb => ?_, fun i b hb => k.bx i b (h.bx i b hb), fun g n u hg => ?_⟩
  · obtain ⟨h1, h2⟩ := h.st b o hb
    obtain ⟨h3, h4⟩ := k.st b o h1
    exact ⟨h3, h4.trans h2⟩
  · obtain ⟨n', u', h1, h2, h3⟩ := h.tk g n u hg
    obtain ⟨n'', u'', h4, h5, h6⟩ := k.tk g n' u' h1
    exact ⟨n'', u'', h4, Nat.le_trans h2 h5, fun e => by
      have e1 : n = n' := by omega
      rw [h3 e1, h6 (by omega)]⟩

section
variable {St St' : Nat → Nat → Prop} {w w' : World} (hst : ∀ b o, St b o → St' b o ∧ w'.cell? ⟨b, o, none⟩ = w.cell? ⟨b, o, none⟩)
include hst
mutual
theorem fro_mono : ∀ (x : AV) (y : Value), fro St w x y → fro St' w' x y
  | .v _, _, h => by simpa only [fro] using h
  | .agg cs, _, h => by
    simp only [fro] at h ⊢
    obtain ⟨ys, h1, h2⟩ := h
    exact ⟨ys, h1, froL_mono cs ys h2⟩
  | .tup cs, _, h => by
    simp only [fro] at h ⊢
    obtain ⟨ys, h1, h2⟩ := h
    exact ⟨ys, h1, froL_mono cs ys h2⟩
  | .sl sz rows tok, _, h => by
    simp only [fro] at h ⊢
    obtain ⟨h0, A, cap, h1, h2, h3, h4⟩ := h
    refine ⟨h0, A, cap, h1, h2, h3, h4.imp id ?_⟩
    rintro ⟨b, off, h5, h6⟩
    exact ⟨b, off, h5, froR_mono b sz rows off h6⟩
  | .fp row, _, h => by
    simp only [fro] at h ⊢
    obtain ⟨b, off, h1, h2⟩ := h
    exact ⟨b, off, h1, froC_mono b row off h2⟩
  | .bp _ _, _, h => by simp only [fro] at h
  | .fn f caps, _, h => by
    simp only [fro] at h ⊢
    obtain ⟨ys, h1, h2⟩ := h
    exact ⟨ys, h1, froL_mono caps ys h2⟩
  | .any, _, _ => by have _ := hst; simp only [fro]
theorem froL_mono : ∀ (xs : List AV) (ys : List Value), froL St w xs ys → froL St' w' xs ys
  | [], _, h => by have _ := hst; simpa only [froL] using h
  | x :: xs, _, h => by
    simp only [froL] at h ⊢
    obtain ⟨z, zs, h1, h2, h3⟩ := h
    exact ⟨z, zs, h1, fro_mono x z h2, froL_mono xs zs h3⟩
theorem froC_mono : ∀ (b : Nat) (xs : List AV) (off : Nat), froC St w b xs off → froC St' w' b xs off
  | _, [], _, _ => by simp only [froC]
  | b, x :: xs, off, h => by
    simp only [froC] at h ⊢
    obtain ⟨⟨h1, u, h2, h3, h4⟩, h5⟩ := h
    obtain ⟨k1, k2⟩ := hst b off h1
    exact ⟨⟨k1, u, k2.trans h2, h3, fro_mono x u h4⟩, froC_mono b xs (off + 1) h5⟩
theorem froR_mono : ∀ (b sz : Nat) (rs : List (List AV)) (off : Nat), froR St w b sz rs off → froR St' w' b sz rs off
  | _, _, [], _, _ => by have _ := hst; simp only [froR]
  | b, sz, r :: rs, off, h => by
    simp only [froR] at h ⊢
    exact ⟨⟨h.1.1, froC_mono b r off h.1.2⟩, froR_mono b sz rs (off + sz) h.2⟩
end
end

section
variable {G G' : Gh} {w w' : World} (he : Ext G w G' w')
include he
mutual
theorem rep_mono : ∀ (x : AV) (y : Value), rep G w x y → rep G' w' x y
  | .v _, _, h => by simpa only [rep] using h
  | .agg cs, _, h => by
    simp only [rep] at h ⊢
    obtain ⟨ys, h1, h2⟩ := h
    exact ⟨ys, h1, repL_mono cs ys h2⟩
  | .tup cs, _, h => by
    simp only [rep] at h ⊢
    obtain ⟨ys, h1, h2⟩ := h
    exact ⟨ys, h1, repL_mono cs ys h2⟩
  | .sl sz rows none, y, h => by
    simp only [rep] at h ⊢
    exact fro_mono he.st _ y h
  | .sl sz rows (some g), y, h => by
    simp only [rep] at h ⊢
    obtain ⟨h0, n, u, h1, h2, h3⟩ := h
    obtain ⟨n', u', k1, k2, k3⟩ := he.tk g n u h1
    refine ⟨fro_mono he.st _ y h0, n', u', k1, Nat.le_trans h2 k2, fun e => ?_⟩
    have e1 : n = n' := by omega
    rw [h3 (by omega), k3 e1]
  | .fp row, _, h => by
    simp only [rep] at h ⊢
    obtain ⟨b, off, h1, h2⟩ := h
    exact ⟨b, off, h1, froC_mono he.st b row off h2⟩
  | .bp i off, _, h => by
    simp only [rep] at h ⊢
    obtain ⟨b, h1, h2⟩ := h
    exact ⟨b, he.bx i b h1, h2⟩
  | .fn f caps, _, h => by
    simp only [rep] at h ⊢
    obtain ⟨ys, h1, h2⟩ := h
    exact ⟨ys, h1, repL_mono caps ys h2⟩
  | .any, _, _ => by simp only [rep]
theorem repL_mono : ∀ (xs : List AV) (ys : List Value), repL G w xs ys → repL G' w' xs ys
  | [], _, h => by have _ := he; simpa only [repL] using h
  | x :: xs, _, h => by
    simp only [repL] at h ⊢
    obtain ⟨z, zs, h1, h2, h3⟩ := h
    exact ⟨z, zs, h1, rep_mono x z h2, repL_mono xs zs h3⟩
end
end

/-! Without boxes and growing lists. -/
mutual
def era : AV → AV
  | .v x => .v x
  | .agg cs => .agg (eraL cs)
  | .tup cs => .tup (eraL cs)
  | .sl sz rows _ => .sl sz rows none
  | .fp row => .fp row
  | .bp _ _ => .any
  | .fn f caps => .fn f (eraL caps)
  | .any => .any
def eraL : List AV → List AV
  | [] => []
  | x :: xs => era x :: eraL xs
end
mutual
theorem fro_era {G : Gh} {w : World} : ∀ (x : AV) (y : Value), rep G w x y → fro G.St w (era x) y
  | .v _, _, h => by simpa only [rep, fro, era] using h
  | .agg cs, _, h => by
    simp only [rep, fro, era] at h ⊢
    obtain ⟨ys, h1, h2⟩ := h
    exact ⟨ys, h1, froL_era cs ys h2⟩
  | .tup cs, _, h => by
    simp only [rep, fro, era] at h ⊢
    obtain ⟨ys, h1, h2⟩ := h
    exact ⟨ys, h1, froL_era cs ys h2⟩
  | .sl sz rows none, y, h => by simpa only [rep, era] using h
  | .sl sz rows (some g), y, h => by
    simp only [rep, era] at h ⊢
    exact h.1
  | .fp row, _, h => by simpa only [rep, fro, era] using h
  | .bp _ _, _, _ => by simp only [fro, era]
  | .fn f caps, _, h => by
    simp only [rep, fro, era] at h ⊢
    obtain ⟨ys, h1, h2⟩ := h
    exact ⟨ys, h1, froL_era caps ys h2⟩
  | .any, _, _ => by simp only [fro, era]
theorem froL_era {G : Gh} {w : World} : ∀ (xs : List AV) (ys : List Value), repL G w xs ys → froL G.St w (eraL xs) ys
  | [], _, h => by simpa only [repL, froL, eraL] using h
  | x :: xs, _, h => by
    simp only [repL, froL, eraL] at h ⊢
    obtain ⟨z, zs, h1, h2, h3⟩ := h
    exact ⟨z, zs, h1, fro_era x z h2, froL_era xs zs h3⟩
end
mutual
theorem rep_fro {G : Gh} {w : World} : ∀ (x : AV) (y : Value), fro G.St w x y → rep G w x y
  | .v _, _, h => by simpa only [rep, fro] using h
  | .agg cs, _, h => by
    simp only [rep, fro] at h ⊢
    obtain ⟨ys, h1, h2⟩ := h
    exact ⟨ys, h1, repL_fro cs ys h2⟩
  | .tup cs, _, h => by
    simp only [rep, fro] at h ⊢
    obtain ⟨ys, h1, h2⟩ := h
    exact ⟨ys, h1, repL_fro cs ys h2⟩
  | .sl sz rows none, y, h => by simpa only [rep] using h
  | .sl sz rows (some g), y, h => by
    simp only [fro] at h
    exact absurd h.1 (by simp)
  | .fp row, _, h => by simpa only [rep, fro] using h
  | .bp _ _, _, h => by simp only [fro] at h
  | .fn f caps, _, h => by
    simp only [rep, fro] at h ⊢
    obtain ⟨ys, h1, h2⟩ := h
    exact ⟨ys, h1, repL_fro caps ys h2⟩
  | .any, _, _ => by simp only [rep]
theorem repL_fro {G : Gh} {w : World} : ∀ (xs : List AV) (ys : List Value), froL G.St w xs ys → repL G w xs ys
  | [], _, h => by simpa only [repL, froL] using h
  | x :: xs, _, h => by
    simp only [repL, froL] at h ⊢
    obtain ⟨z, zs, h1, h2, h3⟩ := h
    exact ⟨z, zs, h1, rep_fro x z h2, repL_fro xs zs h3⟩
end

/-! Lists by their places. -/
theorem repL_length {G : Gh} {w : World} : ∀ {xs : List AV} {ys : List Value}, repL G w xs ys → ys.length = xs.length
  | [], _, h => by simp only [repL] at h; rw [h]; rfl
  | x :: xs, _, h => by
    simp only [repL] at h
    obtain ⟨z, zs, rfl, _, h3⟩ := h
    simp [repL_length h3]
theorem repL_get {G : Gh} {w : World} : ∀ {xs : List AV} {ys : List Value}, repL G w xs ys → ∀ {i : Nat} {x : AV}, xs[i]? = some x → ∃ y, ys[i]? = some y ∧ rep G w x y
  | [], _, _, i, x, hi => by simp at hi
  | x :: xs, _, h, i, x', hi => by
    simp only [repL] at h
    obtain ⟨z, zs, rfl, h2, h3⟩ := h
    cases i with
    | zero => simp at hi; subst hi; exact ⟨z, by simp, h2⟩
    | succ i => simp only [List.getElem?_cons_succ] at hi ⊢; exact repL_get h3 hi
theorem froC_get {St : Nat → Nat → Prop} {w : World} {b : Nat} : ∀ {xs : List AV} {off : Nat}, froC St w b xs off → ∀ {i : Nat} {x : AV}, xs[i]? = some x → St b (off + i) ∧ ∃ u, w.cell? ⟨b, off + i, none⟩ = some u ∧ u.oneCell' = true ∧ fro St w x u
  | [], _, _, i, x, hi => by simp at hi
  | x :: xs, off, h, i, x', hi => by
    simp only [froC] at h
    cases i with
    | zero => simp at hi; subst hi; exact h.1
    | succ i =>
      simp only [List.getElem?_cons_succ] at hi
      have := froC_get h.2 hi
      rwa [show off + 1 + i = off + (i + 1) by omega] at this
theorem froC_drop {St : Nat → Nat → Prop} {w : World} {b : Nat} : ∀ {xs : List AV} {off : Nat}, froC St w b xs off → ∀ k, froC St w b (xs.drop k) (off + k)
  | [], _, _, k => by simp [froC]
  | x :: xs, off, h, k => by
    cases k with
    | zero => exact h
    | succ k =>
      simp only [froC] at h
      have := froC_drop h.2 k
      rwa [show off + 1 + k = off + (k + 1) by omega] at this
theorem froR_get {St : Nat → Nat → Prop} {w : World} {b sz : Nat} : ∀ {rs : List (List AV)} {off : Nat}, froR St w b sz rs off → ∀ {i : Nat} {r : List AV}, rs[i]? = some r → r.length = sz ∧ froC St w b r (off + i * sz)
  | [], _, _, i, r, hi => by simp at hi
  | r :: rs, off, h, i, r', hi => by
    simp only [froR] at h
    cases i with
    | zero => simp at hi; subst hi; simpa using h.1
    | succ i =>
      simp only [List.getElem?_cons_succ] at hi
      have := froR_get h.2 hi
      rwa [show off + sz + i * sz = off + (i + 1) * sz by rw [Nat.add_mul]; omega] at this
theorem froC_of {St : Nat → Nat → Prop} {w : World} {b : Nat} : ∀ {xs : List AV} {off : Nat}, (∀ i x, xs[i]? = some x → St b (off + i) ∧ ∃ u, w.cell? ⟨b, off + i, none⟩ = some u ∧ u.oneCell' = true ∧ fro St w x u) → froC St w b xs off
  | [], _, _ => by simp only [froC]
  | x :: xs, off, h => by
    simp only [froC]
    refine ⟨h 0 x rfl, froC_of fun i y hi => ?_⟩
    have := h (i + 1) y (by simpa using hi)
    rwa [show off + (i + 1) = off + 1 + i by omega] at this
theorem froR_of {St : Nat → Nat → Prop} {w : World} {b sz : Nat} : ∀ {rs : List (List AV)} {off : Nat}, (∀ i r, rs[i]? = some r → r.length = sz ∧ froC St w b r (off + i * sz)) → froR St w b sz rs off
  | [], _, _ => by simp only [froR]
  | r :: rs, off, h => by
    simp only [froR]
    refine ⟨by simpa using h 0 r rfl, froR_of fun i y hi => ?_⟩
    have := h (i + 1) y (by simpa using hi)
    rwa [show off + (i + 1) * sz = off + sz + i * sz by rw [Nat.add_mul]; omega] at this
end Go.Proofs.YtokaaebbmcldaaaGreatDoor
