/-
  Plain data of rules, tests and contexts as Lean values, and what the functions compute of them. No program in sight.
-/
import Derived.Test.YtokaaebbmcldaaaGreatDoorPure
namespace Go.Proofs.YtokaaebbmcldaaaGreatDoor

structure Tst where
  fld : Int
  op : Int
  num : Int
  text : Str
  other : Int
structure Rul where
  list : Int
  action : Int
  calls : Int
  tests : List Tst
  watch : Int
  path : Str
  perm : Int
  key : Str
structure Itm where
  given : Str
  path : Str
  dir : Fil
  name : Str
  file : Fil
  role : Int
  kind : Int
  mode : Int
  uid : Int
  gid : Int
  perm : Int
structure Ctx where
  phase : Int
  pid : Int
  ppid : Int
  uid : Int
  euid : Int
  gid : Int
  egid : Int
  auid : Int
  ses : Int
  cwd : Fil
  comm : Str
  exe : Str
  audited : Bool
  number : Int
  a0 : Int
  a1 : Int
  a2 : Int
  a3 : Int
  ext : Int
  items : List Itm
  typ : Int
def Itm.zero : Itm := ⟨⟨#[]⟩, ⟨#[]⟩, (0, 0), ⟨#[]⟩, (0, 0), 0, 0, 0, 0, 0, 0⟩

def procL (f : Int) : Bool := decide (1 ≤ f ∧ f ≤ 8 ∨ f = 13 ∨ f = 14)
/-- May a rule of a list ask a field? -/
def allowedL (list f : Int) : Bool :=
  if list = 1 ∨ list = 4 then procL f
  else if list = 2 then decide (1 ≤ f ∧ f ≤ 14)
  else if list = 3 then decide (1 ≤ f ∧ f ≤ 21)
  else if list = 5 then decide (1 ≤ f ∧ f ≤ 8 ∨ f = 13 ∨ f = 14 ∨ f = 22)
  else false
def textL (f : Int) : Bool := decide (f = 13 ∨ f = 14)
def ownerL (f : Int) : Bool := decide (f = 3 ∨ f = 4 ∨ f = 5 ∨ f = 6 ∨ f = 7 ∨ f = 19 ∨ f = 20)
def itemL (f : Int) : Bool := decide (17 ≤ f ∧ f ≤ 21)
/-- The first error of a test. -/
def checkL (t : Tst) (list : Int) : Int :=
  if allowedL list t.fld = false ∨ t.other ≠ 0 ∧ (allowedL list t.other = false ∨ ownerL t.fld = false ∨ ownerL t.other = false) then 120
  else if t.op < 1 ∨ 8 < t.op ∨ 2 < t.op ∧ (textL t.fld = true ∨ t.other ≠ 0) then 121
  else if t.other ≠ 0 ∧ (t.num ≠ 0 ∨ t.text.size ≠ 0) then 122
  else if textL t.fld = true ∧ (t.num ≠ 0 ∨ t.text.size = 0 ∨ 640 < t.text.size) then 122
  else if textL t.fld = false ∧ t.text.size ≠ 0 then 122
  else 0
/-- The value of a field that is a number, for an item. -/
def numL (f : Int) (c : Ctx) (y : Itm) : Int :=
  if f = 1 then c.pid else if f = 2 then c.ppid else if f = 3 then c.uid else if f = 4 then c.euid else if f = 5 then c.gid else if f = 6 then c.egid
  else if f = 7 then c.auid else if f = 8 then c.ses else if f = 9 then c.a0 else if f = 10 then c.a1 else if f = 11 then c.a2 else if f = 12 then c.a3
  else if f = 15 then c.ext else if f = 16 then (if 0 ≤ c.ext then 1 else 0) else if f = 17 then y.file.2 else if f = 18 then y.file.1
  else if f = 19 then y.uid else if f = 20 then y.gid else if f = 21 then y.kind else c.typ
/-- Has a context a field that is a number? -/
def hasP (f : Int) (c : Ctx) : Bool :=
  if 1 ≤ f ∧ f ≤ 12 then true else if f = 22 then decide (c.typ ≠ 0) else if 15 ≤ f ∧ f ≤ 21 then decide (c.phase = 2) else false
/-- Has a context a field, in the reference's words. -/
def hasR (f : Int) (c : Ctx) : Bool :=
  if 15 ≤ f ∧ f ≤ 21 then decide (c.phase = 2) else decide (f ≠ 22 ∨ c.typ ≠ 0)
end Go.Proofs.YtokaaebbmcldaaaGreatDoor
