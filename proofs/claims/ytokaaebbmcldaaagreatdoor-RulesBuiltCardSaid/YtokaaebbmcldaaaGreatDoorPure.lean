/-
  Plain data of the program (nodes, devices, files, mounts, spaces) as Lean values. No program in sight.
-/
import Derived.WalkKit
namespace Go.Proofs.YtokaaebbmcldaaaGreatDoor

abbrev Str := ByteArray
abbrev Fil := Int × Int
abbrev Ent := Str × Int
abbrev Mnt := Int × Fil
abbrev Chg := Fil × Str × Fil × Fil
structure Nod where
  ino : Int
  kind : Int
  mode : Int
  uid : Int
  gid : Int
  parent : Int
  target : Str
  entries : List Ent
structure Dvc where
  next : Int
  nodes : List Nod
abbrev Fls := List Dvc
structure Spc where
  files : Fls
  mounts : List Mnt

def Nod.zero : Nod := ⟨0, 0, 0, 0, 0, 0, ⟨#[]⟩, []⟩

/-- The place of the first element that meets a test, or -1. -/
def idxBy {α : Type} (p : α → Bool) (l : List α) : Int :=
  match l.findIdx? p with
  | some i => (i : Int)
  | none => -1

/-- The element at a place that is a number of the program. -/
def atI {α : Type} (l : List α) (i : Int) : Option α := if i < 0 then none else l[i.toNat]?

theorem atI_nat {α : Type} (l : List α) (k : Nat) : atI l (k : Int) = l[k]? := by
  simp [atI, show ¬ ((k : Int) < 0) by omega]
theorem atI_none {α : Type} {l : List α} {i : Int} (h : i < 0 ∨ (l.length : Int) ≤ i) : atI l i = none := by
  unfold atI
  split
  · rfl
  · rw [List.getElem?_eq_none]; omega
theorem atI_some {α : Type} {l : List α} {i : Int} {x : α} (h : atI l i = some x) : 0 ≤ i ∧ i < l.length ∧ l[i.toNat]? = some x := by
  unfold atI at h
  split at h
  · cases h
  · have := (List.getElem?_eq_some_iff.1 h).1
    exact ⟨by omega, by omega, h⟩

theorem findIdx?_first {α : Type} {p : α → Bool} {l : List α} {m : Nat} {x : α} (hx : l[m]? = some x) (hp : p x = true) (h : ∀ j y, j < m → l[j]? = some y → p y = false) : l.findIdx? p = some m := by
  have hl : m < l.length := (List.getElem?_eq_some_iff.1 hx).1
  rw [List.findIdx?_eq_some_iff_getElem]
  refine ⟨hl, by rw [(List.getElem?_eq_some_iff.1 hx).2]; exact hp, fun j hj => ?_⟩
  have := h j l[j] hj (List.getElem?_eq_getElem _)
  simp [this]
theorem idxBy_first {α : Type} {p : α → Bool} {l : List α} {m : Nat} {x : α} (hx : l[m]? = some x) (hp : p x = true) (h : ∀ j y, j < m → l[j]? = some y → p y = false) : idxBy p l = m := by
  unfold idxBy
  rw [findIdx?_first hx hp h]
theorem idxBy_none {α : Type} {p : α → Bool} {l : List α} (h : ∀ j y, j < l.length → l[j]? = some y → p y = false) : idxBy p l = -1 := by
  unfold idxBy
  rw [List.findIdx?_eq_none_iff.2]
  intro x hx
  obtain ⟨j, hj, rfl⟩ := List.mem_iff_getElem.1 hx
  exact h j _ hj (List.getElem?_eq_getElem hj)
theorem upto_snoc {α : Type} {P : α → Prop} {l : List α} {m : Nat} {x : α} (hx : l[m]? = some x) (h : ∀ j y, j < m → l[j]? = some y → P y) (hp : P x) : ∀ j y, j < m + 1 → l[j]? = some y → P y := by
  intro j y hj hy
  by_cases e : j = m
  · subst e
    rw [hx] at hy
    cases hy
    exact hp
  · exact h j y (by omega) hy

def indexL (f : Fls) (at_ : Fil) : Int :=
  match atI f at_.1 with
  | none => -1
  | some d => idxBy (fun n : Nod => n.ino == at_.2) d.nodes
def nodeL (f : Fls) (at_ : Fil) : Option Nod :=
  match atI f at_.1 with
  | none => none
  | some d => d.nodes.find? (fun n : Nod => n.ino == at_.2)

theorem find?_of_findIdx? {α : Type} {p : α → Bool} {l : List α} : (l.findIdx? p).bind (fun i => l[i]?) = l.find? p := by
  cases h : l.findIdx? p with
  | none =>
    rw [List.findIdx?_eq_none_iff] at h
    simp only [Option.bind_none]
    exact (List.find?_eq_none.2 (fun x hx => by simp [h x hx])).symm
  | some i =>
    obtain ⟨hi, hp, hf⟩ := List.findIdx?_eq_some_iff_getElem.1 h
    simp only [Option.bind_some, List.getElem?_eq_getElem hi]
    exact (List.find?_eq_some_iff_getElem.2 ⟨hp, i, hi, rfl, fun j hj => by simpa using hf j hj⟩).symm
/-- What index and node say of each other. -/
theorem index_node (f : Fls) (at_ : Fil) : (indexL f at_ = -1 ∧ nodeL f at_ = none) ∨
    ∃ (k i : Nat) (d : Dvc) (n : Nod), at_.1 = k ∧ f[k]? = some d ∧ d.nodes[i]? = some n ∧ n.ino = at_.2 ∧ indexL f at_ = i ∧ nodeL f at_ = some n := by
  unfold indexL nodeL
  cases h : atI f at_.1 with
  | none => exact .inl ⟨rfl, rfl⟩
  | some d =>
    obtain ⟨h0, h1, h2⟩ := atI_some h
    simp only [← find?_of_findIdx?]
    unfold idxBy
    cases hi : d.nodes.findIdx? (fun n : Nod => n.ino == at_.2) with
    | none => exact .inl ⟨rfl, rfl⟩
    | some i =>
      obtain ⟨hl, hp, _⟩ := List.findIdx?_eq_some_iff_getElem.1 hi
      exact .inr ⟨at_.1.toNat, i, d, d.nodes[i], by omega, h2, List.getElem?_eq_getElem hl, by simpa using hp, rfl, by simp⟩

theorem str_eq (a b : Str) : (a.toList == b.toList) = decide (a = b) := by
  rw [ByteArray.toList_eq, ByteArray.toList_eq, Bool.eq_iff_iff]
  simp only [beq_iff_eq, decide_eq_true_eq]
  constructor
  · intro h
    cases a with
    | mk a =>
      cases b with
      | mk b => exact congrArg ByteArray.mk (Array.toList_inj.1 h)
  · intro h
    rw [h]
/-- Names (chapter 4). -/
def byteOK (c : UInt8) : Bool := !((c.toNat : Int) == 0) && !((c.toNat : Int) == 47)
def nameL (s : Str) : Bool :=
  if s.size < 1 ∨ 12 < s.size then false else if (s.toList == [46]) = true then false else if (s.toList == [46, 46]) = true then false else s.data.toList.all byteOK
def targetL (s : Str) : Bool := s.data.toList.all (fun c => !((c.toNat : Int) == 0)) && decide (1 ≤ s.size) && decide (s.size ≤ 128)
theorem all_upto {p : UInt8 → Bool} {s : Str} (h : ∀ j (hj : j < s.size), p s[j] = true) : s.data.toList.all p = true := by
  rw [List.all_eq_true]
  intro c hc
  obtain ⟨j, hj, rfl⟩ := List.mem_iff_getElem.1 hc
  exact h j (by simpa using hj)
theorem all_not {p : UInt8 → Bool} {s : Str} {j : Nat} (hj : j < s.size) (h : p s[j] = false) : s.data.toList.all p = false := by
  rw [List.all_eq_false]
  refine ⟨s[j], ?_, by simp [h]⟩
  have : s[j] = s.data.toList[j]'(by simpa using hj) := rfl
  rw [this]
  exact List.getElem_mem _
theorem bytes_snoc {p : UInt8 → Bool} {s : Str} {m : Nat} (hm : m < s.size) (h : ∀ j (hj : j < s.size), j < m → p s[j] = true) (hp : p s[m] = true) : ∀ j (hj : j < s.size), j < m + 1 → p s[j] = true := by
  intro j hj hlt
  by_cases e : j = m
  · subst e; exact hp
  · exact h j hj (by omega)

/-- Directories and entries (chapter 5). -/
def dirL (f : Fls) (at_ : Fil) : Bool :=
  match nodeL f at_ with
  | none => false
  | some n => n.kind == 2
def placeL (f : Fls) (dir : Fil) (name : Str) : Int :=
  match nodeL f dir with
  | none => 2
  | some n => if n.kind = 2 then (if nameL name then 0 else 22) else 20
def fullL (f : Fls) (dir : Fil) : Bool :=
  match nodeL f dir with
  | none => false
  | some n => decide (12 ≤ n.entries.length)
def emptyL (f : Fls) (dir : Fil) : Bool :=
  match nodeL f dir with
  | none => true
  | some n => decide (n.entries.length = 0)
def lookL (f : Fls) (dir : Fil) (name : Str) : Fil × Int :=
  match nodeL f dir with
  | none => ((0, 0), 2)
  | some n => if n.kind = 2 then
      match n.entries.find? (fun e : Ent => decide (e.1 = name)) with
      | none => ((0, 0), 2)
      | some e => ((dir.1, e.2), 0)
    else ((0, 0), 20)
def holdsL (n : Nod) (ino : Int) : Bool := n.entries.any fun e : Ent => e.2 == ino
def parentL (d : Dvc) (ino : Int) : Int :=
  match d.nodes.find? (fun n : Nod => n.ino == ino) with
  | none => 0
  | some n => n.parent
def plainL (n : Nod) : Bool :=
  if n.kind < 1 ∨ 3 < n.kind ∨ n.mode < 0 ∨ 511 < n.mode ∨ n.uid < 0 ∨ 4294967295 < n.uid ∨ n.gid < 0 ∨ 4294967295 < n.gid then false
  else if n.kind = 3 then targetL n.target else n.target.toList.isEmpty
def linksIn (ino : Int) (ns : List Nod) : Nat := (ns.map fun n => (n.entries.filter fun e : Ent => e.2 == ino).length).foldr (· + ·) 0
def linksL (f : Fls) (at_ : Fil) : Nat :=
  match nodeL f at_, atI f at_.1 with
  | some _, some d => linksIn at_.2 d.nodes
  | _, _ => 0

end Go.Proofs.YtokaaebbmcldaaaGreatDoor
