/-
  Part 5 of the proof of FilesKeepP: what the statement's proof uses of the texts in wip/tpl.
-/
import Derived.WalkKit
import Derived.Laws.StructEq
import Derived.Laws.Pointers
import Derived.Test.YthcbdkmhamhciaaProg
import Derived.WalkSpells
import Derived.WalkLawsBesides
import Derived.Deep.QuietTactic
import Derived.BigQuiet
import Derived.Lib.Hide
import Derived.Outline
import Derived.Maps.AppendAt
import Derived.OwnWalk
import Derived.Test.YthcbdkmhamhciaaQk4
namespace Go.Proofs.Ythcbdkmhamhciaa
abbrev Str := ByteArray
abbrev Fil := Int × Int
abbrev Ent := Str × Int
abbrev Mnt := Int × Fil
abbrev Chg := Fil × Str × Fil × Fil
structure Nod where
 ino : Int
 kind : Int
 mode : Int
 uid : Int
 gid : Int
 parent : Int
 target : Str
 entries : List Ent
structure Dvc where
 next : Int
 nodes : List Nod
abbrev Fls := List Dvc
structure Spc where
 files : Fls
 mounts : List Mnt
def Nod.zero : Nod := ⟨0, 0, 0, 0, 0, 0, ⟨#[]⟩, []⟩
def idxBy {α : Type} (p : α → Bool) (l : List α) : Int :=
 match l.findIdx? p with
 | some i => (i : Int)
 | none => -1
def atI {α : Type} (l : List α) (i : Int) : Option α := if i < 0 then none else l[i.toNat]?
theorem atI_nat {α : Type} (l : List α) (k : Nat) : atI l (k : Int) = l[k]? := by
 simp [atI, show ¬ ((k : Int) < 0) by omega]
theorem atI_none {α : Type} {l : List α} {i : Int} (h : i < 0 ∨ (l.length : Int) ≤ i) : atI l i = none := by
 unfold atI
 split
 ·rfl
 rw [List.getElem?_eq_none]; omega
theorem atI_some {α : Type} {l : List α} {i : Int} {x : α} (h : atI l i = some x) : 0 ≤ i ∧ i < l.length ∧ l[i.toNat]? = some x := by
 unfold atI at h
 split at h
 ·cases h
 have := (List.getElem?_eq_some_iff.1 h).1
 exact ⟨by omega, by omega, h⟩
theorem findIdx?_first {α : Type} {p : α → Bool} {l : List α} {m : Nat} {x : α} (hx : l[m]? = some x) (hp : p x = true) (h : ∀ j y, j < m → l[j]? = some y → p y = false) : l.findIdx? p = some m := by
 have hl : m < l.length := (List.getElem?_eq_some_iff.1 hx).1
 rw [List.findIdx?_eq_some_iff_getElem]
 refine ⟨hl, by rw [(List.getElem?_eq_some_iff.1 hx).2]; exact hp, fun j hj => ?_⟩
 have := h j l[j] hj (List.getElem?_eq_getElem _)
 simp [this]
theorem idxBy_first {α : Type} {p : α → Bool} {l : List α} {m : Nat} {x : α} (hx : l[m]? = some x) (hp : p x = true) (h : ∀ j y, j < m → l[j]? = some y → p y = false) : idxBy p l = m := by
 unfold idxBy
 rw [findIdx?_first hx hp h]
theorem idxBy_none {α : Type} {p : α → Bool} {l : List α} (h : ∀ j y, j < l.length → l[j]? = some y → p y = false) : idxBy p l = -1 := by
 unfold idxBy
 rw [List.findIdx?_eq_none_iff.2]
 intro x hx
 obtain ⟨j, hj, rfl⟩ := List.mem_iff_getElem.1 hx
 exact h j _ hj (List.getElem?_eq_getElem hj)
theorem upto_snoc {α : Type} {P : α → Prop} {l : List α} {m : Nat} {x : α} (hx : l[m]? = some x) (h : ∀ j y, j < m → l[j]? = some y → P y) (hp : P x) : ∀ j y, j < m + 1 → l[j]? = some y → P y := by
 intro j y hj hy
 by_cases e : j = m
 ·subst e
  rw [hx] at hy
  cases hy
  exact hp
 exact h j y (by omega) hy
def indexL (f : Fls) (at_ : Fil) : Int :=
 match atI f at_.1 with
 | none => -1
 | some d => idxBy (fun n : Nod => n.ino == at_.2) d.nodes
def nodeL (f : Fls) (at_ : Fil) : Option Nod :=
 match atI f at_.1 with
 | none => none
 | some d => d.nodes.find? (fun n : Nod => n.ino == at_.2)
theorem find?_of_findIdx? {α : Type} {p : α → Bool} {l : List α} : (l.findIdx? p).bind (fun i => l[i]?) = l.find? p := by
 cases h : l.findIdx? p with
 | none =>
   rw [List.findIdx?_eq_none_iff] at h
   simp only [Option.bind_none]
   exact (List.find?_eq_none.2 (fun x hx => by simp [h x hx])).symm
 | some i =>
   obtain ⟨hi, hp, hf⟩ := List.findIdx?_eq_some_iff_getElem.1 h
   simp only [Option.bind_some, List.getElem?_eq_getElem hi]
   exact (List.find?_eq_some_iff_getElem.2 ⟨hp, i, hi, rfl, fun j hj => by simpa using hf j hj⟩).symm
theorem index_node (f : Fls) (at_ : Fil) : (indexL f at_ = -1 ∧ nodeL f at_ = none) ∨
    ∃ (k i : Nat) (d : Dvc) (n : Nod), at_.1 = k ∧ f[k]? = some d ∧ d.nodes[i]? = some n ∧ n.ino = at_.2 ∧ indexL f at_ = i ∧ nodeL f at_ = some n := by
 unfold indexL nodeL
 cases h : atI f at_.1 with
 | none => exact .inl ⟨rfl, rfl⟩
 | some d =>
   obtain ⟨h0, h1, h2⟩ := atI_some h
   simp only [← find?_of_findIdx?]
   unfold idxBy
   cases hi : d.nodes.findIdx? (fun n : Nod => n.ino == at_.2) with
   | none => exact .inl ⟨rfl, rfl⟩
   | some i =>
     obtain ⟨hl, hp, _⟩ := List.findIdx?_eq_some_iff_getElem.1 hi
     exact .inr ⟨at_.1.toNat, i, d, d.nodes[i], by omega, h2, List.getElem?_eq_getElem hl, by simpa using hp, rfl, by simp⟩
theorem str_eq (a b : Str) : (a.toList == b.toList) = decide (a = b) := by
 rw [ByteArray.toList_eq, ByteArray.toList_eq, Bool.eq_iff_iff]
 simp only [beq_iff_eq, decide_eq_true_eq]
 constructor
 ·intro h
  cases a with
  | mk a =>
    cases b with
    | mk b => exact congrArg ByteArray.mk (Array.toList_inj.1 h)
 intro h
 rw [h]
def byteOK (c : UInt8) : Bool := !((c.toNat : Int) == 0) && !((c.toNat : Int) == 47)
def nameL (s : Str) : Bool :=
 if s.size < 1 ∨ 12 < s.size then false else if (s.toList == [46]) = true then false else if (s.toList == [46, 46]) = true then false else s.data.toList.all byteOK
def targetL (s : Str) : Bool := s.data.toList.all (fun c => !((c.toNat : Int) == 0)) && decide (1 ≤ s.size) && decide (s.size ≤ 128)
theorem all_upto {p : UInt8 → Bool} {s : Str} (h : ∀ j (hj : j < s.size), p s[j] = true) : s.data.toList.all p = true := by
 rw [List.all_eq_true]
 intro c hc
 obtain ⟨j, hj, rfl⟩ := List.mem_iff_getElem.1 hc
 exact h j (by simpa using hj)
theorem all_not {p : UInt8 → Bool} {s : Str} {j : Nat} (hj : j < s.size) (h : p s[j] = false) : s.data.toList.all p = false := by
 rw [List.all_eq_false]
 refine ⟨s[j], ?_, by simp [h]⟩
 have : s[j] = s.data.toList[j]'(by simpa using hj) := rfl
 rw [this]
 exact List.getElem_mem _
theorem bytes_snoc {p : UInt8 → Bool} {s : Str} {m : Nat} (hm : m < s.size) (h : ∀ j (hj : j < s.size), j < m → p s[j] = true) (hp : p s[m] = true) : ∀ j (hj : j < s.size), j < m + 1 → p s[j] = true := by
 intro j hj hlt
 by_cases e : j = m
 ·subst e; exact hp
 exact h j hj (by omega)
def dirL (f : Fls) (at_ : Fil) : Bool :=
 match nodeL f at_ with
 | none => false
 | some n => n.kind == 2
def placeL (f : Fls) (dir : Fil) (name : Str) : Int :=
 match nodeL f dir with
 | none => 2
 | some n => if n.kind = 2 then (if nameL name then 0 else 22) else 20
def fullL (f : Fls) (dir : Fil) : Bool :=
 match nodeL f dir with
 | none => false
 | some n => decide (12 ≤ n.entries.length)
def emptyL (f : Fls) (dir : Fil) : Bool :=
 match nodeL f dir with
 | none => true
 | some n => decide (n.entries.length = 0)
def lookL (f : Fls) (dir : Fil) (name : Str) : Fil × Int :=
 match nodeL f dir with
 | none => ((0, 0), 2)
 | some n => if n.kind = 2 then
     match n.entries.find? (fun e : Ent => decide (e.1 = name)) with
     | none => ((0, 0), 2)
     | some e => ((dir.1, e.2), 0)
   else ((0, 0), 20)
def holdsL (n : Nod) (ino : Int) : Bool := n.entries.any fun e : Ent => e.2 == ino
def parentL (d : Dvc) (ino : Int) : Int :=
 match d.nodes.find? (fun n : Nod => n.ino == ino) with
 | none => 0
 | some n => n.parent
def plainL (n : Nod) : Bool :=
 if n.kind < 1 ∨ 3 < n.kind ∨ n.mode < 0 ∨ 511 < n.mode ∨ n.uid < 0 ∨ 4294967295 < n.uid ∨ n.gid < 0 ∨ 4294967295 < n.gid then false
 else if n.kind = 3 then targetL n.target else n.target.toList.isEmpty
end Go.Proofs.Ythcbdkmhamhciaa
namespace Go.Proofs.Ythcbdkmhamhciaa
def strLt (a b : Str) : Bool := Op.bytesLess a.toList b.toList
def entGo (name : Str) (ino : Int) : Bool → List Ent → List Ent
 | done, [] => if done then [] else [(name, ino)]
 | done, e :: r =>
   (if !done && !strLt e.1 name then [(name, ino)] else []) ++ ((if e.1 = name then [] else [e]) ++ entGo name ino (done || !strLt e.1 name) r)
def entL (es : List Ent) (name : Str) (ino : Int) : List Ent := entGo name ino (ino == 0) es
def cntE (ino : Int) (es : List Ent) : Nat := es.countP fun e : Ent => e.2 == ino
def cntN (ino : Int) (ns : List Nod) : Nat := cntE ino (ns.flatMap fun n => n.entries)
def linksF (f : Fls) (at_ : Fil) : Nat :=
 match nodeL f at_, atI f at_.1 with
 | some _, some d => cntN at_.2 d.nodes
 | _, _ => 0
theorem cntE_snoc {ino : Int} {es : List Ent} {k : Nat} {e : Ent} (h : es[k]? = some e) : cntE ino (es.take (k + 1)) = cntE ino (es.take k) + (if e.2 == ino then 1 else 0) := by
 unfold cntE
 rw [List.take_add_one, h, List.countP_append]
 simp [List.countP_cons]
theorem cntE_le (ino : Int) (es : List Ent) : cntE ino es ≤ es.length := List.countP_le_length
theorem cntN_snoc {ino : Int} {ns : List Nod} {m : Nat} {n : Nod} (h : ns[m]? = some n) : cntN ino (ns.take (m + 1)) = cntN ino (ns.take m) + cntE ino n.entries := by
 unfold cntN cntE
 rw [List.take_add_one, h, List.flatMap_append, List.countP_append]
 simp
def keepNot (ino : Int) (ns : List Nod) : List Nod := ns.filter fun n => n.ino != ino
def rootNod : Nod := ⟨1, 2, 493, 0, 0, 1, ⟨#[]⟩, []⟩
def rootDvc : Dvc := ⟨2, [rootNod]⟩
def newL (n : Int) : Fls × Int := if n < 1 ∨ 3 < n then ([], 50) else (List.replicate n.toNat rootDvc, 0)
abbrev ChgRes := Fls × List Chg × Int
def mkNod (n : Nod) (next dirIno : Int) : Nod := ⟨next, n.kind, n.mode, n.uid, n.gid, if n.kind = 2 then dirIno else 0, n.target, []⟩
end Go.Proofs.Ythcbdkmhamhciaa
namespace Go.Proofs.Ythcbdkmhamhciaa
open Go.RowKit
theorem row_at {α : Type} (enc : α → List AV) {l : List α} {k : Nat} (h : (k : Int) < ((l.map enc).length : Int)) : k < l.length ∧ ∃ x, l[k]? = some x ∧ (l.map enc)[k]? = some (enc x) ∧ (l.take (k + 1)).map enc = (l.take k).map enc ++ [enc x] := by
 have hk : k < l.length := by simpa using h
 refine ⟨hk, l[k], List.getElem?_eq_getElem hk, by simp [hk], ?_⟩
 rw [List.take_succ_eq_append_getElem hk, List.map_append]
 rfl
theorem row_no {α : Type} (enc : α → List AV) {l : List α} {k : Nat} (hk : k ≤ l.length) (h : ¬ (k : Int) < ((l.map enc).length : Int)) : k = l.length := by
 simp at h
 omega
theorem vb {a b : Bool} (h : a = b) : AV.v (.bool a) = AV.v (.bool b) := by rw [h]
theorem vi {k : IntKind} {a b : Int} (h : a = b) : AV.v (.int k a) = AV.v (.int k b) := by rw [h]
def filA (x : Fil) : List AV := [.v (.int .i64 x.1), .v (.int .i64 x.2)]
def entA (e : Ent) : List AV := [.v (.string e.1), .v (.int .i64 e.2)]
def nodA (n : Nod) : List AV := [.v (.int .i64 n.ino), .v (.int .i64 n.kind), .v (.int .i64 n.mode), .v (.int .i64 n.uid), .v (.int .i64 n.gid), .v (.int .i64 n.parent), .v (.string n.target), .sl 2 (n.entries.map entA) none]
def dvcA (d : Dvc) : List AV := [.v (.int .i64 d.next), .sl 8 (d.nodes.map nodA) none]
def flsA (f : Fls) : List AV := [.sl 2 (f.map dvcA) none]
structure FlsB (f : Fls) : Prop where
 few : f.length ≤ 1000
 nodes : ∀ d ∈ f, d.nodes.length ≤ 1000
 ents : ∀ d ∈ f, ∀ n ∈ d.nodes, n.entries.length ≤ 1000
theorem indexL_at {f : Fls} {a : Fil} {k : Nat} {d : Dvc} (hk : a.1 = (k : Int)) (hd : f[k]? = some d) : indexL f a = idxBy (fun n : Nod => n.ino == a.2) d.nodes := by
 unfold indexL; rw [hk, atI_nat, hd]
def nodG (f : Fls) (a : Fil) : Nod := (nodeL f a).getD Nod.zero
def hasG (f : Fls) (a : Fil) : Bool := (nodeL f a).isSome
theorem dirL_eq (f : Fls) (a : Fil) : dirL f a = (hasG f a && decide ((nodG f a).kind = 2)) := by
 unfold dirL hasG nodG
 cases nodeL f a <;> simp [beq_dec]
theorem nodG_ents {f : Fls} (hf : FlsB f) (a : Fil) : (nodG f a).entries.length ≤ 1000 := by
 rcases index_node f a with ⟨-, h⟩ | ⟨k, i, d, n, -, h1, h2, -, -, h⟩
 ·simp [nodG, h, Nod.zero]
 simp only [nodG, h, Option.getD_some]
 exact hf.ents d (List.mem_of_getElem? h1) n (List.mem_of_getElem? h2)
section
set_option maxRecDepth 10000
set_option maxHeartbeats 1000000
theorem Rindex (f : Fls) (a : Fil) (hf : FlsB f) : AFn Try.prog 74 [.agg (flsA f), .agg (filA a)] (fun r => r = .v (.int .i64 (indexL f a))) := by
 refine enter Try.func74 rfl rfl rfl rfl rfl 0 rfl ?_
 refine w_ (b_ (h:=b_ (h:=a_ (h:=e_ (q_ (w_ (f_ (h:=l_ (h:=lt_ (h:=m_ (h:=?_)))))))))))
 refine al_gs false rfl rfl (fun hb1 => ?_) (fun hb1 => ?_)
 ·have hc1 := bp hb1
  refine g0_ (h:=g0_ (h:=g0_ (h:=g0_ (h:=g0_ (h:=g0_ (h:=pt_ (h:=e_ (cy_ (h:=w_ (a_ (h:=e_ (aw_ret (x_thenR (?_))))))))))))))
  refine e_ret ?_
  exact vi (by unfold indexL; rw [atI_none (.inl hc1)])
 have hc1 := bp hb1
 refine f_ (h:=l_ (h:=f_ (h:=l_ (h:=n_ (h:=ge_ (h:=pf_ (h:=e_ (?_))))))))
 refine aw_cond rfl (fun hb2 => ?_) (fun hb2 => ?_)
 ·have hc2 := bp hb2
  refine w_ (a_ (h:=e_ (aw_ret (x_thenR (?_)))))
  refine e_ret ?_
  exact vi (by unfold indexL; rw [atI_none (.inr (by rw [List.length_map] at hc2; exact hc2))])
 have hc2 := bp hb2
 obtain ⟨k, hk⟩ := Int.eq_ofNat_of_zero_le (show 0 ≤ a.1 by omega)
 rw [hk] at hc2
 obtain ⟨-, d, hd, hrow, -⟩ := row_at dvcA (l := f) (k := k) (by omega)
 have hdn := hf.nodes d (List.mem_of_getElem? hd)
 refine kt_ (w_ (f_ (h:=l_ (h:=f_ (h:=l_ (h:=?_))))))
 refine al_p rfl (st_index (n := k) rfl rfl hk hrow ?_)
 refine f_ (h:=l_ (h:=a_ (h:=e_ (q_ (w_ (a_ (h:=e_ (aw_block (?_)))))))))
 refine aw_loopW (fun m s => ∃ j : Nat, j ≤ d.nodes.length ∧ m = d.nodes.length - j ∧ (∀ i y, i < j → d.nodes[i]? = some y → (y.ino == a.2) = false) ∧ s = ⟨look [(3, .bp 1 0), (5, .sl 8 (d.nodes.map nodA) none), (6, .v (.int .i64 (j : Int)))], ⟨[flsA f, filA a], []⟩⟩) (d.nodes.length) ((wk 2 0)) (⟨0, by omega, rfl, fun i y hi => by omega, rfl⟩) ?_
 rintro m s ⟨j, hj, rfl, ha, rfl⟩
 refine q_ (w_ (m_ (h:=m_ (h:=n_ (h:=lt_ (h:=e_ (?_)))))))
 refine aw_cond rfl (fun hb3 => ?_) (fun hb3 => ?_)
 ·have hc3 := bp hb3
  obtain ⟨hlt, n, hy, hrow2, -⟩ := row_at nodA hc3
  refine kt_ (q_ (aw_block (q_ (yr_ 8 (h:=dm_ 0 (h:=dm_ 1 (h:=di_ 2 (h:=df_ 3 (h:=dl_ 4 (h:=df_ 5 (h:=dl_ 6 (h:=deq_ 7 (h:=z_ (h:=t_ (?_)))))))))))))))
  refine aw_cond rfl (fun hb4 => ?_) (fun hb4 => ?_)
  ·have hc4 := bp hb4
   refine w_ (m_ (h:=a_ (h:=e_ (aw_ret (x_blockR (x_thenR (x_thenR (x_blockR (x_thenR (?_))))))))))
   refine e_ret ?_
   exact vi (by rw [indexL_at hk hd]; exact (idxBy_first hy (by simpa using hc4) ha).symm)
  have hc4 := bp hb4
  refine aw_skip (x_blockN (t_ (aw_region (m_ (h:=ad_ (h:=a_ (h:=al_nil (?_))))))))
  refine x_then ?_
  refine ⟨_, _, ?_, ⟨j + 1, by omega, rfl, upto_snoc hy ha (by simpa using hc4), rfl⟩, (wk 2 0)⟩
  omega
 have hc3 := bp hb3
 have e := row_no nodA hj hc3
 subst e
 refine aw_exit (x_thenE (x_thenE (ABlock_out (t_ (w_ (a_ (h:=e_ (aw_ret (?_)))))))))
 refine e_ret ?_
 exact vi (by rw [indexL_at hk hd]; exact (idxBy_none (fun i y hi hy => ha i y hi hy)).symm)
theorem Rnode (f : Fls) (a : Fil) (hf : FlsB f) : AFn Try.prog 33 [.agg (flsA f), .agg (filA a)] (fun r => r = .tup [.agg (nodA (nodG f a)), .v (.bool (hasG f a))]) := by
 refine enter Try.func33 rfl rfl rfl rfl rfl 0 rfl ?_
 refine w_ (b_ (h:=b_ (h:=al_ (h:=a_ (h:=e_ (w_ (l_ (h:=l_ (h:=?_)))))))))
 refine al_p rfl (q_call (Rindex f a hf) ?_)
 rintro r rfl
 refine a_ (h:=e_ (q_ (w_ (m_ (h:=lt_ (h:=e_ (?_)))))))
 refine aw_cond rfl (fun hb1 => ?_) (fun hb1 => ?_)
 ·have hc1 := bp hb1
  have e : nodeL f a = none := by
   rcases index_node f a with h | ⟨k, i, d, n, -, -, -, -, h, -⟩
   ·exact h.2
   exfalso; omega
  refine w_ (bd_ (h:=s_ (h:=a_ (h:=e_ (aw_ret (x_thenR (?_)))))))
  refine rt_ (r := .tup [.agg (nodA (nodG f a)), .v (.bool (hasG f a))]) none (h5 := ?_) (h6 := ⟨rfl, rfl, rfl⟩)
  rw [show nodG f a = Nod.zero by simp [nodG, e], show hasG f a = false by simp [hasG, e]]
  exact (by repeat (first | exact LeA.refl _ | exact LeA.nil _ | exact LeL.refl _ | refine LeA.agg ?_ | refine LeA.tup ?_ | exact LeL.nil | refine LeL.cons ?_ ?_ | exact LeA.any _))
 have hc1 := bp hb1
 obtain ⟨k, i, d, n, g1, g2, g3, g4, g5, g6⟩ := (index_node f a).resolve_left (fun h => by omega)
 rw [g5]
 have hr1 : (f.map dvcA)[k]? = some (dvcA d) := by rw [List.getElem?_map, g2]; rfl
 have hr2 : (d.nodes.map nodA)[i]? = some (nodA n) := by rw [List.getElem?_map, g3]; rfl
 have hen := hf.ents d (List.mem_of_getElem? g2) n (List.mem_of_getElem? g3)
 refine kt_ (w_ (f_ (h:=l_ (h:=f_ (h:=l_ (h:=?_))))))
 refine al_p rfl (st_index (n := k) rfl rfl g1 hr1 ?_)
 refine f_ (h:=l_ (h:=m_ (h:=?_)))
 refine al_p rfl (st_index (n := i) rfl rfl rfl hr2 ?_)
 refine l_ (h:=al_ (h:=s_ (h:=e_ (w_ (f_ (h:=l_ (h:=?_)))))))
 first | refine al_p rfl (s_append rfl rfl rfl (by simp; omega) (by repeat constructor) ?_) | refine al_p rfl (s_append0 rfl rfl (by simp; omega) (by repeat constructor) ?_)
 refine f_ (h:=s_ (h:=e_ (w_ (l_ (h:=s_ (h:=a_ (h:=e_ (aw_ret (?_)))))))))
 refine e_ret ?_
 rw [show nodG f a = n by simp [nodG, g6], show hasG f a = true by simp [hasG, g6]]
 rfl
theorem Rdir (f : Fls) (a : Fil) (hf : FlsB f) : AFn Try.prog 82 [.agg (flsA f), .agg (filA a)] (fun r => r = .v (.bool (dirL f a))) := by
 refine enter Try.func82 rfl rfl rfl rfl rfl 0 rfl ?_
 refine w_ (b_ (h:=b_ (h:=a_ (h:=e_ (w_ (l_ (h:=l_ (h:=?_))))))))
 refine al_p rfl (q_call (Rnode f a hf) ?_)
 rintro r rfl
 refine m_ (h:=x_ (h:=x_ (h:=al_ (h:=s_ (h:=a_ (h:=e_ (w_ (m_ (h:=m_ (h:=?_))))))))))
 refine al_gs true rfl rfl (fun hb1 => ?_) (fun hb1 => ?_)
 ·have hc1 := bp hb1
  refine f_ (h:=l_ (h:=eq_ (h:=pt_ (h:=a_ (h:=e_ (aw_ret (?_)))))))
  refine e_ret ?_
  exact vb (by rw [dirL_eq]; simp [*])
 have hc1 := bp hb1
 refine g0_ (h:=g0_ (h:=g0_ (h:=pf_ (h:=a_ (h:=e_ (aw_ret (?_)))))))
 refine e_ret ?_
 exact vb (by rw [dirL_eq]; simp [*])
end
theorem find_at {α : Type} {p : α → Bool} {l : List α} {j : Nat} {x : α} (hx : l[j]? = some x) (hp : p x = true) (h : ∀ i y, i < j → l[i]? = some y → p y = false) : l.find? p = some x := by
 have := findIdx?_first hx hp h
 rw [← find?_of_findIdx?, this]
 simpa using hx
theorem find_no {α : Type} {p : α → Bool} {l : List α} (h : ∀ i y, i < l.length → l[i]? = some y → p y = false) : l.find? p = none := by
 rw [List.find?_eq_none]
 intro x hx
 obtain ⟨i, hi, rfl⟩ := List.mem_iff_getElem.1 hx
 simp [h i _ hi (List.getElem?_eq_getElem hi)]
theorem has_some {f : Fls} {a : Fil} (h : hasG f a = true) : nodeL f a = some (nodG f a) := by
 unfold hasG at h
 unfold nodG
 cases hn : nodeL f a with
 | none => rw [hn] at h; cases h
 | some n => rfl
theorem has_none {f : Fls} {a : Fil} (h : hasG f a = false) : nodeL f a = none := by
 unfold hasG at h
 cases hn : nodeL f a with
 | none => rfl
 | some n => rw [hn] at h; cases h
section
set_option maxRecDepth 10000
set_option maxHeartbeats 1000000
theorem Rlook (f : Fls) (a : Fil) (name : Str) (hf : FlsB f) : AFn Try.prog 35 [.agg (flsA f), .agg (filA a), .v (.string name)] (fun r => r = .tup [.agg (filA (lookL f a name).1), .v (.int .i64 (lookL f a name).2)]) := by
 have hen := nodG_ents hf a
 refine enter Try.func35 rfl rfl rfl rfl rfl 0 rfl ?_
 refine w_ (b_ (h:=b_ (h:=al_ (h:=a_ (h:=e_ (w_ (l_ (h:=l_ (h:=?_)))))))))
 refine al_p rfl (q_call (Rnode f a hf) ?_)
 rintro r rfl
 refine m_ (h:=x_ (h:=x_ (h:=al_ (h:=s_ (h:=a_ (h:=e_ (q_ (w_ (m_ (h:=nt_ (h:=e_ (?_))))))))))))
 refine aw_cond rfl (fun hb1 => ?_) (fun hb1 => ?_)
 ·have hc1 := bp hb1
  have e := has_none hc1
  refine w_ (bd_ (h:=s_ (h:=a_ (h:=e_ (aw_ret (x_thenR (?_)))))))
  refine e_ret ?_
  rw [show lookL f a name = ((0, 0), 2) by simp [lookL, e]]
  rfl
 have hc1 := bp hb1
 have e := has_some hc1
 refine kt_ (q_ (w_ (f_ (h:=l_ (h:=nq_ (h:=e_ (?_)))))))
 refine aw_cond rfl (fun hb2 => ?_) (fun hb2 => ?_)
 ·have hc2 := bp hb2
  refine w_ (bd_ (h:=s_ (h:=a_ (h:=e_ (aw_ret (x_thenR (?_)))))))
  refine e_ret ?_
  rw [show lookL f a name = ((0, 0), 20) by simp [lookL, e, hc2]]
  rfl
 have hc2 := bp hb2
 refine kt_ (q_ (w_ (a_ (h:=e_ (aw_block (?_))))))
 refine aw_loopW (fun m s => ∃ j : Nat, j ≤ (nodG f a).entries.length ∧ m = (nodG f a).entries.length - j ∧ (∀ i y, i < j → (nodG f a).entries[i]? = some y → decide (y.1 = name) = false) ∧ s = ⟨look [(2, .v (.string name)), (4, .bp 1 0), (6, .bp 2 0), (8, .bp 3 0), (10, .v (.int .i64 (j : Int)))], ⟨[flsA f, filA a, [.v (.int .i64 0), .v (.int .i64 0)], nodA (nodG f a)], []⟩⟩) ((nodG f a).entries.length) ((wk 4 0)) (⟨0, by omega, rfl, fun i y hi => by omega, rfl⟩) ?_
 rintro m s ⟨j, hj, rfl, ha, rfl⟩
 refine q_ (w_ (m_ (h:=f_ (h:=l_ (h:=n_ (h:=lt_ (h:=e_ (?_))))))))
 refine aw_cond rfl (fun hb3 => ?_) (fun hb3 => ?_)
 ·have hc3 := bp hb3
  obtain ⟨hlt, x, hy, hrow, -⟩ := row_at entA hc3
  refine kt_ (q_ (aw_block (w_ (f_ (h:=l_ (h:=m_ (h:=i_ (h:=f_ (h:=l_ (h:=m_ (h:=eq_ (h:=e_ (?_)))))))))))))
  refine aw_cond rfl (fun hb4 => ?_) (fun hb4 => ?_)
  ·have hc4 := bp hb4
   refine q_ (yk_ ([(0, flsA f), (1, filA a), (3, nodA (nodG f a))]) 11 (h:=df_ 0 (h:=dl_ 1 (h:=df_ 2 (h:=dl_ 3 (h:=dm_ 4 (h:=di_ 5 (h:=df_ 6 (h:=dl_ 7 (h:=dbd_ 8 (h:=?_)))))))))))
   refine c0_ 9 rfl (s_store rfl rfl rfl rfl rfl rfl (by repeat constructor) (by repeat constructor) ?_)
   refine o_ (h:=da_ 10 (h:=z_ (h:=t_ (aw_ret (x_blockR (x_thenR (x_thenR (x_blockR (x_thenR (?_))))))))))
   refine e_ret ?_
   rw [show lookL f a name = ((a.1, x.2), 0) by simp only [lookL, e]; rw [if_pos (by omega), find_at hy (by simpa using hc4) ha]]
   rfl
  have hc4 := bp hb4
  refine aw_skip (x_blockN (t_ (aw_region (m_ (h:=ad_ (h:=a_ (h:=al_nil (?_))))))))
  refine x_then ?_
  refine ⟨_, _, ?_, ⟨j + 1, by omega, rfl, upto_snoc hy ha (by simpa using hc4), rfl⟩, (wk 4 0)⟩
  omega
 have hc3 := bp hb3
 have e3 := row_no entA hj hc3
 subst e3
 refine aw_exit (x_thenE (x_thenE (ABlock_out (t_ (w_ (bd_ (h:=s_ (h:=a_ (h:=e_ (aw_ret (?_)))))))))))
 refine e_ret ?_
 rw [show lookL f a name = ((0, 0), 2) by simp only [lookL, e]; rw [if_pos (by omega), find_no ha]]
 rfl
end
theorem st_strIdx {P : Program} {ev : Operand → Option AV} {h : AH} {R : AV → AH → Prop} {d : Option Tmp} {ty : TypeId} {pos : String} {af : Array Edge} {gd : Option (Nat × Bool)} {T : TypeId} {x ix : Operand} {s : ByteArray} {n : Nat} {k : IntKind} {i : Int} (hu : P.underlying T = some .string)
    (hx : ev x = some (.v (.string s))) (hi : ev ix = some (.v (.int k i))) (hn : i = (n : Int)) (hlt : n < s.size) (hR : R (.v (.int .u8 (s[n].toNat : Int))) h) : AStep P ⟨d, .index T x ix, ty, pos, af, gd⟩ ev h R := by
 refine st_val (fun _ G w ec _ he => ?_) hR
 have h1 := he x (by simp [Op.operands]) _ hx
 have h2 := he ix (by simp [Op.operands]) _ hi
 simp only [rep] at h1 h2
 subst hn
 refine ⟨.int .u8 (s[n].toNat : Int), ?_, by simp only [rep]⟩
 have e : s[n]? = some s[n] := getElem?_pos s n hlt
 simp [execOp, h1, h2, Instr.index, asIntOf, run_underlying hu, e]
theorem name_eq (s : Str) : nameL s = if s.size < 1 ∨ 12 < s.size then false else if s = ⟨#[46]⟩ then false else if s = ⟨#[46, 46]⟩ then false else s.data.toList.all byteOK := by
 unfold nameL
 have e1 := str_eq s ⟨#[46]⟩
 have e2 := str_eq s ⟨#[46, 46]⟩
 rw [show (⟨#[46]⟩ : ByteArray).toList = [46] by rw [ByteArray.toList_eq]] at e1
 rw [show (⟨#[46, 46]⟩ : ByteArray).toList = [46, 46] by rw [ByteArray.toList_eq]] at e2
 rw [e1, e2]
 simp only [decide_eq_true_eq]
theorem byte_ok {c : UInt8} (h1 : ¬ (c.toNat : Int) = 0) (h2 : ¬ (c.toNat : Int) = 47) : byteOK c = true := by
 unfold byteOK; simp; omega
section
set_option maxRecDepth 10000
set_option maxHeartbeats 1000000
theorem Rname (s : Str) (hs : s.size ≤ 100000) : AFn Try.prog 94 [.v (.string s)] (fun r => r = .v (.bool (nameL s))) := by
 refine enter Try.func94 rfl rfl rfl rfl rfl 0 rfl ?_
 refine w_ (a_ (h:=e_ (q_ (w_ (m_ (h:=n_ (h:=lt_ (h:=m_ (h:=?_)))))))))
 refine al_gs false rfl rfl (fun hb1 => ?_) (fun hb1 => ?_)
 ·have hc1 := bp hb1
  refine g0_ (h:=g0_ (h:=g0_ (h:=pt_ (h:=m_ (h:=g0_ (h:=g0_ (h:=pt_ (h:=m_ (h:=g0_ (h:=g0_ (h:=pt_ (h:=e_ (cy_ (h:=w_ (a_ (h:=e_ (aw_ret (x_thenR (?_)))))))))))))))))))
  refine e_ret ?_
  exact vb (by rw [name_eq, if_pos (by omega)])
 have hc1 := bp hb1
 refine m_ (h:=n_ (h:=gt_ (h:=pf_ (h:=m_ (h:=?_)))))
 refine al_gs false rfl rfl (fun hb2 => ?_) (fun hb2 => ?_)
 ·have hc2 := bp hb2
  refine g0_ (h:=g0_ (h:=pt_ (h:=m_ (h:=g0_ (h:=g0_ (h:=pt_ (h:=e_ (cy_ (h:=w_ (a_ (h:=e_ (aw_ret (x_thenR (?_))))))))))))))
  refine e_ret ?_
  exact vb (by rw [name_eq, if_pos (by omega)])
 have hc2 := bp hb2
 refine m_ (h:=eq_ (h:=pf_ (h:=m_ (h:=?_))))
 refine al_gs false rfl rfl (fun hb3 => ?_) (fun hb3 => ?_)
 ·have hc3 := bp hb3
  refine g0_ (h:=g0_ (h:=pt_ (h:=e_ (cy_ (h:=w_ (a_ (h:=e_ (aw_ret (x_thenR (?_))))))))))
  refine e_ret ?_
  exact vb (by rw [name_eq, if_neg (by omega), if_pos hc3])
 have hc3 := bp hb3
 refine m_ (h:=eq_ (h:=pf_ (h:=e_ (?_))))
 refine aw_cond rfl (fun hb4 => ?_) (fun hb4 => ?_)
 ·have hc4 := bp hb4
  refine w_ (a_ (h:=e_ (aw_ret (x_thenR (?_)))))
  refine e_ret ?_
  exact vb (by rw [name_eq, if_neg (by omega), if_neg hc3, if_pos hc4])
 have hc4 := bp hb4
 refine kt_ (q_ (w_ (a_ (h:=e_ (aw_block (?_))))))
 refine aw_loopW (fun m t => ∃ j : Nat, j ≤ s.size ∧ m = s.size - j ∧ (∀ i (hi : i < s.size), i < j → byteOK s[i] = true) ∧ t = ⟨look [(0, .v (.string s)), (3, .v (.int .i64 (j : Int)))], ⟨[], []⟩⟩) (s.size) ((wk 0 0)) (⟨0, by omega, rfl, fun i _ hi => by omega, rfl⟩) ?_
 rintro m t ⟨j, hj, rfl, ha, rfl⟩
 refine q_ (w_ (m_ (h:=m_ (h:=n_ (h:=lt_ (h:=e_ (?_)))))))
 refine aw_cond rfl (fun hb5 => ?_) (fun hb5 => ?_)
 ·have hc5 := bp hb5
  have hlt : j < s.size := by omega
  refine kt_ (q_ (aw_block (w_ (m_ (h:=m_ (h:=?_))))))
  refine al_p rfl (st_strIdx (n := j) Try.underlying9 rfl rfl rfl hlt ?_)
  refine eq_ (h:=m_ (h:=?_))
  refine al_gs false rfl rfl (fun hb6 => ?_) (fun hb6 => ?_)
  ·have hc6 := bp hb6
   refine g0_ (h:=g0_ (h:=g0_ (h:=g0_ (h:=pt_ (h:=e_ (cy_ (h:=w_ (a_ (h:=e_ (aw_ret (x_blockR (x_thenR (x_thenR (x_blockR (x_thenR (?_))))))))))))))))
   refine e_ret ?_
   exact vb (by rw [name_eq, if_neg (by omega), if_neg hc3, if_neg hc4, all_not hlt (by unfold byteOK; simp [hc6])])
  have hc6 := bp hb6
  refine m_ (h:=m_ (h:=?_))
  refine g_y (st_strIdx (n := j) Try.underlying9 rfl rfl rfl hlt ?_)
  refine eq_ (h:=pf_ (h:=e_ (?_)))
  refine aw_cond rfl (fun hb7 => ?_) (fun hb7 => ?_)
  ·have hc7 := bp hb7
   refine w_ (a_ (h:=e_ (aw_ret (x_blockR (x_thenR (x_thenR (x_blockR (x_thenR (?_)))))))))
   refine e_ret ?_
   exact vb (by rw [name_eq, if_neg (by omega), if_neg hc3, if_neg hc4, all_not hlt (by unfold byteOK; simp [hc7])])
  have hc7 := bp hb7
  refine aw_skip (x_blockN (t_ (aw_region (m_ (h:=ad_ (h:=a_ (h:=al_nil (?_))))))))
  refine x_then ?_
  refine ⟨_, _, ?_, ⟨j + 1, by omega, rfl, bytes_snoc hlt ha (byte_ok hc6 hc7), rfl⟩, (wk 0 0)⟩
  omega
 have hc5 := bp hb5
 obtain rfl : j = s.size := by omega
 refine aw_exit (x_thenE (x_thenE (ABlock_out (t_ (w_ (a_ (h:=e_ (aw_ret (?_)))))))))
 refine e_ret ?_
 exact vb (by rw [name_eq, if_neg (by omega), if_neg hc3, if_neg hc4, all_upto (fun i hi => ha i hi hi)])
end
theorem fullL_eq (f : Fls) (a : Fil) : fullL f a = decide (12 ≤ (nodG f a).entries.length) := by
 unfold fullL nodG
 cases nodeL f a <;> simp [Nod.zero]
theorem emptyL_eq (f : Fls) (a : Fil) : emptyL f a = decide ((nodG f a).entries.length = 0) := by
 unfold emptyL nodG
 cases nodeL f a <;> simp [Nod.zero]
theorem linksF_at {f : Fls} {a : Fil} {k : Nat} {d : Dvc} {n : Nod} (hk : a.1 = (k : Int)) (hd : f[k]? = some d) (hn : nodeL f a = some n) : linksF f a = cntN a.2 d.nodes := by
 unfold linksF
 rw [hn, hk, atI_nat, hd]
section
set_option maxRecDepth 10000
set_option maxHeartbeats 1000000
theorem Rtarget (s : Str) (hs : s.size ≤ 100000) : AFn Try.prog 95 [.v (.string s)] (fun r => r = .v (.bool (targetL s))) := by
 refine enter Try.func95 rfl rfl rfl rfl rfl 0 rfl ?_
 refine w_ (a_ (h:=e_ (q_ (w_ (a_ (h:=e_ (aw_block (?_))))))))
 refine aw_loopW (fun m t => ∃ j : Nat, j ≤ s.size ∧ m = s.size - j ∧ (∀ i (hi : i < s.size), i < j → (!((s[i].toNat : Int) == 0)) = true) ∧ t = ⟨look [(0, .v (.string s)), (3, .v (.int .i64 (j : Int)))], ⟨[], []⟩⟩) (s.size) ((wk 0 0)) (⟨0, by omega, rfl, fun i _ hi => by omega, rfl⟩) ?_
 rintro m t ⟨j, hj, rfl, ha, rfl⟩
 refine q_ (w_ (m_ (h:=m_ (h:=n_ (h:=lt_ (h:=e_ (?_)))))))
 refine aw_cond rfl (fun hb1 => ?_) (fun hb1 => ?_)
 ·have hc1 := bp hb1
  have hlt : j < s.size := by omega
  refine kt_ (q_ (aw_block (w_ (m_ (h:=m_ (h:=?_))))))
  refine al_p rfl (st_strIdx (n := j) Try.underlying9 rfl rfl rfl hlt ?_)
  refine eq_ (h:=e_ (?_))
  refine aw_cond rfl (fun hb2 => ?_) (fun hb2 => ?_)
  ·have hc2 := bp hb2
   refine w_ (a_ (h:=e_ (aw_ret (x_blockR (x_thenR (x_thenR (x_blockR (x_thenR (?_)))))))))
   refine e_ret ?_
   exact vb (by unfold targetL; rw [all_not hlt (by simp [hc2])]; simp)
  have hc2 := bp hb2
  refine aw_skip (x_blockN (t_ (aw_region (m_ (h:=ad_ (h:=a_ (h:=al_nil (?_))))))))
  refine x_then ?_
  refine ⟨_, _, ?_, ⟨j + 1, by omega, rfl, bytes_snoc (p := fun c => !((c.toNat : Int) == 0)) hlt ha (by simpa using hc2), rfl⟩, (wk 0 0)⟩
  omega
 have hc1 := bp hb1
 obtain rfl : j = s.size := by omega
 have hal := all_upto (p := fun c => !((c.toNat : Int) == 0)) (fun i hi => ha i hi hi)
 refine aw_exit (x_thenE (x_thenE (ABlock_out (t_ (w_ (m_ (h:=n_ (h:=ge_ (h:=m_ (h:=?_))))))))))
 refine al_gs true rfl rfl (fun hb3 => ?_) (fun hb3 => ?_)
 ·have hc3 := bp hb3
  refine m_ (h:=n_ (h:=le_ (h:=pt_ (h:=a_ (h:=e_ (aw_ret (?_)))))))
  refine e_ret ?_
  exact vb (by unfold targetL; rw [hal, Bool.eq_iff_iff]; simp; omega)
 have hc3 := bp hb3
 refine g0_ (h:=g0_ (h:=g0_ (h:=pf_ (h:=a_ (h:=e_ (aw_ret (?_)))))))
 refine e_ret ?_
 exact vb (by unfold targetL; rw [hal, Bool.eq_iff_iff]; simp; omega)
theorem Rplace (f : Fls) (a : Fil) (name : Str) (hf : FlsB f) (hs : name.size ≤ 100000) : AFn Try.prog 66 [.agg (flsA f), .agg (filA a), .v (.string name)] (fun r => r = .v (.int .i64 (placeL f a name))) := by
 refine enter Try.func66 rfl rfl rfl rfl rfl 0 rfl ?_
 refine w_ (b_ (h:=b_ (h:=a_ (h:=e_ (w_ (l_ (h:=l_ (h:=?_))))))))
 refine al_p rfl (q_call (Rnode f a hf) ?_)
 rintro r rfl
 refine m_ (h:=x_ (h:=x_ (h:=al_ (h:=s_ (h:=a_ (h:=e_ (q_ (w_ (m_ (h:=nt_ (h:=e_ (?_))))))))))))
 refine aw_cond rfl (fun hb1 => ?_) (fun hb1 => ?_)
 ·have hc1 := bp hb1
  have e := has_none hc1
  refine w_ (a_ (h:=e_ (aw_ret (x_thenR (?_)))))
  refine e_ret ?_
  exact vi (by simp [placeL, e])
 have hc1 := bp hb1
 have e := has_some hc1
 refine kt_ (q_ (w_ (f_ (h:=l_ (h:=nq_ (h:=e_ (?_)))))))
 refine aw_cond rfl (fun hb2 => ?_) (fun hb2 => ?_)
 ·have hc2 := bp hb2
  refine w_ (a_ (h:=e_ (aw_ret (x_thenR (?_)))))
  refine e_ret ?_
  exact vi (by simp [placeL, e, hc2])
 have hc2 := bp hb2
 refine kt_ (q_ (w_ (m_ (h:=?_))))
 refine al_p rfl (q_call (Rname name hs) ?_)
 rintro r rfl
 refine nt_ (h:=e_ (?_))
 refine aw_cond rfl (fun hb3 => ?_) (fun hb3 => ?_)
 ·have hc3 := bp hb3
  refine w_ (a_ (h:=e_ (aw_ret (x_thenR (?_)))))
  refine e_ret ?_
  exact vi (by simp only [placeL, e]; rw [if_pos (by omega), hc3]; rfl)
 have hc3 := bp hb3
 refine kt_ (w_ (a_ (h:=e_ (aw_ret (?_)))))
 refine e_ret ?_
 exact vi (by simp only [placeL, e]; rw [if_pos (by omega), hc3]; rfl)
theorem Rfull (f : Fls) (a : Fil) (hf : FlsB f) : AFn Try.prog 68 [.agg (flsA f), .agg (filA a)] (fun r => r = .v (.bool (fullL f a))) := by
 refine enter Try.func68 rfl rfl rfl rfl rfl 0 rfl ?_
 refine w_ (b_ (h:=b_ (h:=a_ (h:=e_ (w_ (l_ (h:=l_ (h:=?_))))))))
 refine al_p rfl (q_call (Rnode f a hf) ?_)
 rintro r rfl
 refine m_ (h:=x_ (h:=x_ (h:=al_ (h:=s_ (h:=a_ (h:=e_ (w_ (f_ (h:=l_ (h:=n_ (h:=ge_ (h:=a_ (h:=e_ (aw_ret (?_)))))))))))))))
 refine e_ret ?_
 exact vb (by rw [fullL_eq, Bool.eq_iff_iff]; simp; omega)
theorem Rempty (f : Fls) (a : Fil) (hf : FlsB f) : AFn Try.prog 84 [.agg (flsA f), .agg (filA a)] (fun r => r = .v (.bool (emptyL f a))) := by
 refine enter Try.func84 rfl rfl rfl rfl rfl 0 rfl ?_
 refine w_ (b_ (h:=b_ (h:=a_ (h:=e_ (w_ (l_ (h:=l_ (h:=?_))))))))
 refine al_p rfl (q_call (Rnode f a hf) ?_)
 rintro r rfl
 refine m_ (h:=x_ (h:=x_ (h:=al_ (h:=s_ (h:=a_ (h:=e_ (w_ (f_ (h:=l_ (h:=n_ (h:=eq_ (h:=a_ (h:=e_ (aw_ret (?_)))))))))))))))
 refine e_ret ?_
 exact vb (by rw [emptyL_eq, Bool.eq_iff_iff]; simp)
theorem Rplain (n : Nod) (hs : n.target.size ≤ 100000) : AFn Try.prog 67 [.agg (nodA n)] (fun r => r = .v (.bool (plainL n))) := by
 have ee : n.target.toList.isEmpty = decide (n.target = ⟨#[]⟩) := by
  rw [← str_eq n.target ⟨#[]⟩, show (⟨#[]⟩ : ByteArray).toList = [] by rw [ByteArray.toList_eq]]
  cases n.target.toList <;> rfl
 refine enter Try.func67 rfl rfl rfl rfl rfl 0 rfl ?_
 refine w_ (b_ (h:=a_ (h:=e_ (q_ (?_)))))
 refine aw_mid (⟨look [(1, .bp 0 0), (40, .v (.bool (decide (n.kind < 1 ∨ 3 < n.kind ∨ n.mode < 0 ∨ 511 < n.mode ∨ n.uid < 0 ∨ 4294967295 < n.uid ∨ n.gid < 0 ∨ 4294967295 < n.gid))))], ⟨[nodA n], []⟩⟩) ?_ ?_
 ·skip
  refine aw_region (f_ (h:=l_ (h:=lt_ (h:=m_ (h:=?_)))))
  refine al_gs false rfl rfl (fun hb1 => ?_) (fun hb1 => ?_)
  ·have hc1 := bp hb1
   refine g0_ (h:=g0_ (h:=g0_ (h:=pt_ (h:=m_ (h:=g0_ (h:=g0_ (h:=g0_ (h:=pt_ (h:=m_ (h:=g0_ (h:=g0_ (h:=g0_ (h:=pt_ (h:=m_ (h:=g0_ (h:=g0_ (h:=g0_ (h:=pt_ (h:=m_ (h:=g0_ (h:=g0_ (h:=g0_ (h:=pt_ (h:=?_))))))))))))))))))))))))
   refine m_ (h:=g0_ (h:=g0_ (h:=g0_ (h:=pt_ (h:=m_ (h:=g0_ (h:=g0_ (h:=g0_ (h:=pt_ (h:=al_nil (?_)))))))))))
   refine x_then ?_
   first | (exfalso; first | contradiction | omega) | exact weak_of 1 0 rfl rfl rfl rfl (by repeat (first | exact Sub.nil | refine Sub.cons _ _ _ rfl rfl ?_ | refine Sub.any _ _ ?_ | refine Sub.sl _ _ _ _ _ rfl ?_ | refine Sub.slnil _ _ _ rfl ?_ | (apply Sub.of; (focus exact rfl); (focus exact LeA.of_eq (vb (by rw [Bool.eq_iff_iff]; simp; try omega))); (focus exact rfl))))
  have hc1 := bp hb1
  refine f_ (h:=l_ (h:=gt_ (h:=pf_ (h:=m_ (h:=?_)))))
  refine al_gs false rfl rfl (fun hb2 => ?_) (fun hb2 => ?_)
  ·have hc2 := bp hb2
   refine g0_ (h:=g0_ (h:=g0_ (h:=pt_ (h:=m_ (h:=g0_ (h:=g0_ (h:=g0_ (h:=pt_ (h:=m_ (h:=g0_ (h:=g0_ (h:=g0_ (h:=pt_ (h:=m_ (h:=g0_ (h:=g0_ (h:=g0_ (h:=pt_ (h:=m_ (h:=g0_ (h:=g0_ (h:=g0_ (h:=pt_ (h:=?_))))))))))))))))))))))))
   refine m_ (h:=g0_ (h:=g0_ (h:=g0_ (h:=pt_ (h:=al_nil (?_))))))
   refine x_then ?_
   first | (exfalso; first | contradiction | omega) | exact weak_of 1 0 rfl rfl rfl rfl (by repeat (first | exact Sub.nil | refine Sub.cons _ _ _ rfl rfl ?_ | refine Sub.any _ _ ?_ | refine Sub.sl _ _ _ _ _ rfl ?_ | refine Sub.slnil _ _ _ rfl ?_ | (apply Sub.of; (focus exact rfl); (focus exact LeA.of_eq (vb (by rw [Bool.eq_iff_iff]; simp; try omega))); (focus exact rfl))))
  have hc2 := bp hb2
  refine f_ (h:=l_ (h:=lt_ (h:=pf_ (h:=m_ (h:=?_)))))
  refine al_gs false rfl rfl (fun hb3 => ?_) (fun hb3 => ?_)
  ·have hc3 := bp hb3
   refine g0_ (h:=g0_ (h:=g0_ (h:=pt_ (h:=m_ (h:=g0_ (h:=g0_ (h:=g0_ (h:=pt_ (h:=m_ (h:=g0_ (h:=g0_ (h:=g0_ (h:=pt_ (h:=m_ (h:=g0_ (h:=g0_ (h:=g0_ (h:=pt_ (h:=m_ (h:=g0_ (h:=g0_ (h:=g0_ (h:=pt_ (h:=?_))))))))))))))))))))))))
   refine al_nil (?_)
   refine x_then ?_
   first | (exfalso; first | contradiction | omega) | exact weak_of 1 0 rfl rfl rfl rfl (by repeat (first | exact Sub.nil | refine Sub.cons _ _ _ rfl rfl ?_ | refine Sub.any _ _ ?_ | refine Sub.sl _ _ _ _ _ rfl ?_ | refine Sub.slnil _ _ _ rfl ?_ | (apply Sub.of; (focus exact rfl); (focus exact LeA.of_eq (vb (by rw [Bool.eq_iff_iff]; simp; try omega))); (focus exact rfl))))
  have hc3 := bp hb3
  refine f_ (h:=l_ (h:=gt_ (h:=pf_ (h:=m_ (h:=?_)))))
  refine al_gs false rfl rfl (fun hb4 => ?_) (fun hb4 => ?_)
  ·have hc4 := bp hb4
   refine g0_ (h:=g0_ (h:=g0_ (h:=pt_ (h:=m_ (h:=g0_ (h:=g0_ (h:=g0_ (h:=pt_ (h:=m_ (h:=g0_ (h:=g0_ (h:=g0_ (h:=pt_ (h:=m_ (h:=g0_ (h:=g0_ (h:=g0_ (h:=pt_ (h:=al_nil (?_))))))))))))))))))))
   refine x_then ?_
   first | (exfalso; first | contradiction | omega) | exact weak_of 1 0 rfl rfl rfl rfl (by repeat (first | exact Sub.nil | refine Sub.cons _ _ _ rfl rfl ?_ | refine Sub.any _ _ ?_ | refine Sub.sl _ _ _ _ _ rfl ?_ | refine Sub.slnil _ _ _ rfl ?_ | (apply Sub.of; (focus exact rfl); (focus exact LeA.of_eq (vb (by rw [Bool.eq_iff_iff]; simp; try omega))); (focus exact rfl))))
  have hc4 := bp hb4
  refine f_ (h:=l_ (h:=lt_ (h:=pf_ (h:=m_ (h:=?_)))))
  refine al_gs false rfl rfl (fun hb5 => ?_) (fun hb5 => ?_)
  ·have hc5 := bp hb5
   refine g0_ (h:=g0_ (h:=g0_ (h:=pt_ (h:=m_ (h:=g0_ (h:=g0_ (h:=g0_ (h:=pt_ (h:=m_ (h:=g0_ (h:=g0_ (h:=g0_ (h:=pt_ (h:=al_nil (?_)))))))))))))))
   refine x_then ?_
   first | (exfalso; first | contradiction | omega) | exact weak_of 1 0 rfl rfl rfl rfl (by repeat (first | exact Sub.nil | refine Sub.cons _ _ _ rfl rfl ?_ | refine Sub.any _ _ ?_ | refine Sub.sl _ _ _ _ _ rfl ?_ | refine Sub.slnil _ _ _ rfl ?_ | (apply Sub.of; (focus exact rfl); (focus exact LeA.of_eq (vb (by rw [Bool.eq_iff_iff]; simp; try omega))); (focus exact rfl))))
  have hc5 := bp hb5
  refine f_ (h:=l_ (h:=gt_ (h:=pf_ (h:=m_ (h:=?_)))))
  refine al_gs false rfl rfl (fun hb6 => ?_) (fun hb6 => ?_)
  ·have hc6 := bp hb6
   refine g0_ (h:=g0_ (h:=g0_ (h:=pt_ (h:=m_ (h:=g0_ (h:=g0_ (h:=g0_ (h:=pt_ (h:=al_nil (?_))))))))))
   refine x_then ?_
   first | (exfalso; first | contradiction | omega) | exact weak_of 1 0 rfl rfl rfl rfl (by repeat (first | exact Sub.nil | refine Sub.cons _ _ _ rfl rfl ?_ | refine Sub.any _ _ ?_ | refine Sub.sl _ _ _ _ _ rfl ?_ | refine Sub.slnil _ _ _ rfl ?_ | (apply Sub.of; (focus exact rfl); (focus exact LeA.of_eq (vb (by rw [Bool.eq_iff_iff]; simp; try omega))); (focus exact rfl))))
  have hc6 := bp hb6
  refine f_ (h:=l_ (h:=lt_ (h:=pf_ (h:=m_ (h:=?_)))))
  refine al_gs false rfl rfl (fun hb7 => ?_) (fun hb7 => ?_)
  ·have hc7 := bp hb7
   refine g0_ (h:=g0_ (h:=g0_ (h:=pt_ (h:=al_nil (?_)))))
   refine x_then ?_
   first | (exfalso; first | contradiction | omega) | exact weak_of 1 0 rfl rfl rfl rfl (by repeat (first | exact Sub.nil | refine Sub.cons _ _ _ rfl rfl ?_ | refine Sub.any _ _ ?_ | refine Sub.sl _ _ _ _ _ rfl ?_ | refine Sub.slnil _ _ _ rfl ?_ | (apply Sub.of; (focus exact rfl); (focus exact LeA.of_eq (vb (by rw [Bool.eq_iff_iff]; simp; try omega))); (focus exact rfl))))
  have hc7 := bp hb7
  refine f_ (h:=l_ (h:=gt_ (h:=pf_ (h:=al_nil (?_)))))
  refine x_then ?_
  first | (exfalso; first | contradiction | omega) | exact weak_of 1 0 rfl rfl rfl rfl (by repeat (first | exact Sub.nil | refine Sub.cons _ _ _ rfl rfl ?_ | refine Sub.any _ _ ?_ | refine Sub.sl _ _ _ _ _ rfl ?_ | refine Sub.slnil _ _ _ rfl ?_ | (apply Sub.of; (focus exact rfl); (focus exact LeA.of_eq (vb (by rw [Bool.eq_iff_iff]; simp; try omega))); (focus exact rfl))))
 skip
 refine aw_cond rfl (fun hb8 => ?_) (fun hb8 => ?_)
 ·have hc8 := bp hb8
  refine w_ (a_ (h:=e_ (aw_ret (x_thenR (?_)))))
  refine e_ret ?_
  exact vb (by rw [plainL, if_pos hc8])
 have hc8 := bp hb8
 refine kt_ (q_ (w_ (f_ (h:=l_ (h:=eq_ (h:=e_ (?_)))))))
 refine aw_cond rfl (fun hb9 => ?_) (fun hb9 => ?_)
 ·have hc9 := bp hb9
  refine w_ (f_ (h:=l_ (h:=?_)))
  refine al_p rfl (q_call (Rtarget n.target hs) ?_)
  rintro r rfl
  refine a_ (h:=e_ (aw_ret (x_thenR (?_))))
  refine e_ret ?_
  exact vb (by rw [plainL, if_neg hc8, if_pos hc9])
 have hc9 := bp hb9
 refine kt_ (w_ (f_ (h:=l_ (h:=eq_ (h:=a_ (h:=e_ (aw_ret (?_))))))))
 refine e_ret ?_
 exact vb (by rw [plainL, if_neg hc8, if_neg hc9, ee])
theorem Rlinks (f : Fls) (a : Fil) (hf : FlsB f) : AFn Try.prog 38 [.agg (flsA f), .agg (filA a)] (fun r => r = .v (.int .i64 (linksF f a : Int))) := by
 refine enter Try.func38 rfl rfl rfl rfl rfl 0 rfl ?_
 refine w_ (b_ (h:=b_ (h:=a_ (h:=e_ (q_ (w_ (l_ (h:=l_ (h:=?_)))))))))
 refine al_p rfl (q_call (Rindex f a hf) ?_)
 rintro r rfl
 refine lt_ (h:=e_ (?_))
 refine aw_cond rfl (fun hb1 => ?_) (fun hb1 => ?_)
 ·have hc1 := bp hb1
  have e : nodeL f a = none := by
   rcases index_node f a with h | ⟨k, i, d, n, -, -, -, -, h, -⟩
   ·exact h.2
   exfalso; omega
  refine w_ (a_ (h:=e_ (aw_ret (x_thenR (?_)))))
  refine e_ret ?_
  exact vi (by simp [linksF, e])
 have hc1 := bp hb1
 obtain ⟨k, i, d, n, g1, g2, g3, g4, g5, g6⟩ := (index_node f a).resolve_left (fun h => by omega)
 have hr1 : (f.map dvcA)[k]? = some (dvcA d) := by rw [List.getElem?_map, g2]; rfl
 have hdn := hf.nodes d (List.mem_of_getElem? g2)
 refine kt_ (w_ (a_ (h:=e_ (w_ (f_ (h:=l_ (h:=f_ (h:=l_ (h:=?_)))))))))
 refine al_p rfl (st_index (n := k) rfl rfl g1 hr1 ?_)
 refine f_ (h:=l_ (h:=a_ (h:=e_ (q_ (w_ (a_ (h:=e_ (aw_block (?_)))))))))
 refine aw_loopW (fun m s => ∃ j c : Nat, j ≤ d.nodes.length ∧ m = d.nodes.length - j ∧ c = cntN a.2 (d.nodes.take j) ∧ c ≤ 1000 * j ∧ s = ⟨look [(3, .bp 1 0), (5, .v (.int .i64 (c : Int))), (6, .sl 8 (d.nodes.map nodA) none), (7, .v (.int .i64 (j : Int)))], ⟨[flsA f, filA a], []⟩⟩) (d.nodes.length) ((wk 2 0)) (⟨0, 0, by omega, rfl, rfl, by omega, rfl⟩) ?_
 rintro m s ⟨j, c, hj, rfl, hcn, hcb, rfl⟩
 refine q_ (w_ (m_ (h:=m_ (h:=n_ (h:=lt_ (h:=e_ (?_)))))))
 refine aw_cond rfl (fun hb2 => ?_) (fun hb2 => ?_)
 ·have hc2 := bp hb2
  obtain ⟨hlt, x, hx, hrow, -⟩ := row_at nodA hc2
  have hen := hf.ents d (List.mem_of_getElem? g2) x (List.mem_of_getElem? hx)
  refine kt_ (q_ (aw_block (w_ (a_ (h:=e_ (aw_block (?_)))))))
  refine aw_loopW (fun m s => ∃ i c2 : Nat, i ≤ x.entries.length ∧ m = x.entries.length - i ∧ c2 = c + cntE a.2 (x.entries.take i) ∧ c2 ≤ c + i ∧ s = ⟨look [(3, .bp 1 0), (5, .v (.int .i64 (c2 : Int))), (6, .sl 8 (d.nodes.map nodA) none), (7, .v (.int .i64 (j : Int))), (8, .v (.int .i64 (i : Int)))], ⟨[flsA f, filA a], []⟩⟩) (x.entries.length) ((wk 2 0)) (⟨0, c, by omega, rfl, rfl, by omega, rfl⟩) ?_
  rintro m s ⟨i, c2, hi, rfl, hc2n, hc2b, rfl⟩
  refine q_ (w_ (m_ (h:=m_ (h:=m_ (h:=i_ (h:=f_ (h:=l_ (h:=n_ (h:=lt_ (h:=e_ (?_)))))))))))
  refine aw_cond rfl (fun hb3 => ?_) (fun hb3 => ?_)
  ·have hc3 := bp hb3
   obtain ⟨hlt3, y, hy, hrow3, -⟩ := row_at entA hc3
   refine kt_ (q_ (aw_block (q_ (yr_ 12 (h:=dm_ 0 (h:=dm_ 1 (h:=di_ 2 (h:=df_ 3 (h:=dl_ 4 (h:=dm_ 5 (h:=di_ 6 (h:=df_ 7 (h:=dl_ 8 (h:=df_ 9 (h:=dl_ 10 (h:=deq_ 11 (h:=z_ (h:=t_ (?_)))))))))))))))))))
   refine aw_cond rfl (fun hb4 => ?_) (fun hb4 => ?_)
   ·have hc4 := bp hb4
    refine aw_region (m_ (h:=ad_ (h:=a_ (h:=al_nil (x_blockN (t_ (aw_region (m_ (h:=ad_ (h:=a_ (h:=al_nil (?_))))))))))))
    refine x_then ?_
    first | (refine ⟨_, _, ?_, ⟨i + 1, c2 + 1, by omega, rfl, ?_, by omega, rfl⟩, (wk 2 0)⟩ <;> first | omega | (rw [cntE_snoc hy]; simp [hc4]; omega)) | (refine ⟨_, _, ?_, ⟨i + 1, c2, by omega, rfl, ?_, by omega, rfl⟩, (wk 2 0)⟩ <;> first | omega | (rw [cntE_snoc hy]; simp [hc4]; omega))
   have hc4 := bp hb4
   refine aw_skip (x_blockN (t_ (aw_region (m_ (h:=ad_ (h:=a_ (h:=al_nil (?_))))))))
   refine x_then ?_
   first | (refine ⟨_, _, ?_, ⟨i + 1, c2 + 1, by omega, rfl, ?_, by omega, rfl⟩, (wk 2 0)⟩ <;> first | omega | (rw [cntE_snoc hy]; simp [hc4]; omega)) | (refine ⟨_, _, ?_, ⟨i + 1, c2, by omega, rfl, ?_, by omega, rfl⟩, (wk 2 0)⟩ <;> first | omega | (rw [cntE_snoc hy]; simp [hc4]; omega))
  have hc3 := bp hb3
  have e3 := row_no entA hi hc3
  subst e3
  refine aw_exit (x_thenE (x_thenE (ABlock_out (x_blockN (t_ (aw_region (m_ (h:=ad_ (h:=a_ (h:=al_nil (?_)))))))))))
  refine x_then ?_
  refine ⟨_, _, ?_, ⟨j + 1, c2, by omega, rfl, ?_, ?_, rfl⟩, (wk 2 0)⟩
  ·omega
  ·rw [hc2n, cntN_snoc hx, List.take_length]; omega
  have := cntE_le a.2 (x.entries.take x.entries.length); simp at this; omega
 have hc2 := bp hb2
 have e2 := row_no nodA hj hc2
 subst e2
 refine aw_exit (x_thenE (x_thenE (ABlock_out (t_ (w_ (m_ (h:=a_ (h:=e_ (aw_ret (?_))))))))))
 refine e_ret ?_
 exact vi (by rw [linksF_at g1 g2 g6, hcn, List.take_length])
end
def mntA (m : Mnt) : List AV := [.v (.int .i64 m.1), .v (.int .i64 m.2.1), .v (.int .i64 m.2.2)]
def spcA (s : Spc) : List AV := [.sl 2 (s.files.map dvcA) none, .sl 3 (s.mounts.map mntA) none]
structure SpcB (s : Spc) : Prop where
 files : FlsB s.files
 few : s.mounts.length ≤ 1000
def onL (s : Spc) (dev : Int) : Option Fil := (s.mounts.find? fun m : Mnt => decide (m.1 = dev)).map (·.2)
def covL (s : Spc) (a : Fil) : Option Int := (s.mounts.find? fun m : Mnt => decide (m.2 = a)).map (·.1)
def mtdL (s : Spc) (dev : Int) : Bool := (onL s dev).isSome || decide (dev = 0)
section
set_option maxRecDepth 10000
set_option maxHeartbeats 1000000
theorem eqFil (op : BinOp) (a b c d : Int) (w : World) : (op = .eql ∨ op = .neq) → (binOp op 39 (.agg #[.int .i64 a, .int .i64 b]) (.agg #[.int .i64 c, .int .i64 d])).run Try.prog w = .ok (.bool (decide ((a, b) = (c, d)) == decide (op = .eql))) w := by
 have u3 := Try.underlying3
 have a3 := Try.isAgg3
 have z3 := Try.sizeOf3
 have hS : Try.prog.underlying 39 = some (.struct (Try.prog.fieldsOf 39)) := by kernel_rfl
 have hp : Try.prog.stoodInHeld 39 = false := by kernel_rfl
 have e : ∀ w, (Op.equalIn 10000 39 (.agg #[.int .i64 a, .int .i64 b]) (.agg #[.int .i64 c, .int .i64 d])).run Try.prog w = .ok (a == c && b == d) w := by
  intro w
  rw [show (10000 : Nat) = 9999 + 1 from rfl, run_equalIn_agg w 9999 39 _ _ hS hp]
  simp only [Program.fieldsOf, Try.underlying39]
  go_simp
  by_cases h1 : a = c <;> by_cases h2 : b = d <;> simp [h1, h2]
 rintro (rfl | rfl)
 ·rw [run_eql_struct, e]
  by_cases h1 : a = c <;> by_cases h2 : b = d <;> simp [h1, h2]
 rw [run_neq_struct, e]
 by_cases h1 : a = c <;> by_cases h2 : b = d <;> simp [h1, h2]
theorem eqlFil (a b c d : Int) (w : World) : (binOp .eql 39 (.agg #[.int .i64 a, .int .i64 b]) (.agg #[.int .i64 c, .int .i64 d])).run Try.prog w = .ok (.bool (decide ((a, b) = (c, d)))) w := by
 rw [eqFil .eql a b c d w (.inl rfl)]
 by_cases h : (a, b) = (c, d) <;> simp [h]
theorem neqlFil (a b c d : Int) (w : World) : (binOp .neq 39 (.agg #[.int .i64 a, .int .i64 b]) (.agg #[.int .i64 c, .int .i64 d])).run Try.prog w = .ok (.bool (!decide ((a, b) = (c, d)))) w := by
 rw [eqFil .neq a b c d w (.inr rfl)]
 by_cases h : (a, b) = (c, d) <;> simp [h]
end
theorem nodeL_at {f : Fls} {a : Fil} {k : Nat} {d : Dvc} (hk : a.1 = (k : Int)) (hd : f[k]? = some d) : nodeL f a = d.nodes.find? (fun n : Nod => n.ino == a.2) := by
 unfold nodeL; rw [hk, atI_nat, hd]
def FindR (f : Fls) (a : Fil) (r : AV) : Prop := (nodeL f a = none ∧ r = .v (.pointer none)) ∨ ∃ n, nodeL f a = some n ∧ r = .fp (nodA n)
section
set_option maxRecDepth 10000
set_option maxHeartbeats 1000000
theorem Pfind (f : Fls) (a : Fil) (hf : FlsB f) : AFn Try.prog 65 [.agg (flsA f), .agg (filA a)] (FindR f a) := by
 refine enter Try.func65 rfl rfl rfl rfl rfl 0 rfl ?_
 refine w_ (b_ (h:=b_ (h:=a_ (h:=e_ (q_ (w_ (f_ (h:=l_ (h:=lt_ (h:=m_ (h:=?_)))))))))))
 refine al_gs false rfl rfl (fun hb1 => ?_) (fun hb1 => ?_)
 ·have hc1 := bp hb1
  refine g0_ (h:=g0_ (h:=g0_ (h:=g0_ (h:=g0_ (h:=g0_ (h:=pt_ (h:=e_ (cy_ (h:=w_ (a_ (h:=e_ (aw_ret (x_thenR (?_))))))))))))))
  refine e_ret ?_
  exact .inl ⟨by unfold nodeL; rw [atI_none (.inl hc1)], rfl⟩
 have hc1 := bp hb1
 refine f_ (h:=l_ (h:=f_ (h:=l_ (h:=n_ (h:=ge_ (h:=pf_ (h:=e_ (?_))))))))
 refine aw_cond rfl (fun hb2 => ?_) (fun hb2 => ?_)
 ·have hc2 := bp hb2
  refine w_ (a_ (h:=e_ (aw_ret (x_thenR (?_)))))
  refine e_ret ?_
  exact .inl ⟨by unfold nodeL; rw [atI_none (.inr (by rw [List.length_map] at hc2; exact hc2))], rfl⟩
 have hc2 := bp hb2
 obtain ⟨k, hk⟩ := Int.eq_ofNat_of_zero_le (show 0 ≤ a.1 by omega)
 rw [hk] at hc2
 obtain ⟨-, d, hd, hrow, -⟩ := row_at dvcA (l := f) (k := k) (by omega)
 have hdn := hf.nodes d (List.mem_of_getElem? hd)
 refine kt_ (w_ (f_ (h:=l_ (h:=f_ (h:=l_ (h:=?_))))))
 refine al_p rfl (st_index (n := k) rfl rfl hk hrow ?_)
 refine f_ (h:=l_ (h:=a_ (h:=e_ (q_ (w_ (m_ (h:=n_ (h:=m_ (h:=e_ (aw_block (?_)))))))))))
 refine aw_loopW (fun m s => ∃ j : Nat, j ≤ d.nodes.length ∧ m = d.nodes.length - j ∧ (∀ i y, i < j → d.nodes[i]? = some y → (y.ino == a.2) = false) ∧ s = ⟨look [(3, .bp 1 0), (5, .sl 8 (d.nodes.map nodA) none), (26, .v (.int .i64 ((d.nodes.map nodA).length : Int))), (27, .v (.int .i64 (j : Int)))], ⟨[flsA f, filA a], []⟩⟩) (d.nodes.length) ((wk 2 0)) (⟨0, by omega, rfl, fun i y hi => by omega, rfl⟩) ?_
 rintro m s ⟨j, hj, rfl, ha, rfl⟩
 refine w_ (lt_ (h:=e_ (q_ (?_))))
 refine aw_cond rfl (fun hb3 => ?_) (fun hb3 => ?_)
 ·have hc3 := bp hb3
  obtain ⟨hlt, n, hy, hrow2, -⟩ := row_at nodA hc3
  refine kt_ (q_ (aw_block (w_ (m_ (h:=a_ (h:=e_ (q_ (yr_ 8 (h:=dm_ 0 (h:=dm_ 1 (h:=di_ 2 (h:=df_ 3 (h:=dl_ 4 (h:=df_ 5 (h:=dl_ 6 (h:=deq_ 7 (h:=z_ (h:=t_ (?_)))))))))))))))))))
  refine aw_cond rfl (fun hb4 => ?_) (fun hb4 => ?_)
  ·have hc4 := bp hb4
   refine w_ (m_ (h:=m_ (h:=i_ (h:=a_ (h:=e_ (aw_ret (x_blockR (x_thenR (x_thenR (x_blockR (x_thenR (?_))))))))))))
   refine e_ret ?_
   exact .inr ⟨n, by rw [nodeL_at hk hd]; exact find_at hy (by simpa using hc4) ha, rfl⟩
  have hc4 := bp hb4
  refine aw_skip (x_blockN (t_ (aw_region (ad_ (h:=m_ (h:=al_nil (?_)))))))
  refine x_then ?_
  refine ⟨_, _, ?_, ⟨j + 1, by omega, rfl, upto_snoc hy ha (by simpa using hc4), rfl⟩, (wk 2 0)⟩
  omega
 have hc3 := bp hb3
 have e := row_no nodA hj hc3
 subst e
 refine aw_exit (x_thenE (x_thenE (ABlock_out (t_ (w_ (a_ (h:=e_ (aw_ret (?_)))))))))
 refine e_ret ?_
 exact .inl ⟨by rw [nodeL_at hk hd]; exact find_no (fun i y hi hy => ha i y hi hy), rfl⟩
theorem PcopyEntry (e : Ent) : AFn Try.prog 97 [.agg (entA e)] (fun r => r = .agg (entA e)) := by
 refine enter Try.func97 rfl rfl rfl rfl rfl 0 rfl ?_
 refine w_ (b_ (h:=al_ (h:=e_ (w_ (l_ (h:=s_ (h:=e_ (aw_ret (?_)))))))))
 refine e_ret ?_
 rfl
end
section
set_option maxRecDepth 10000
set_option maxHeartbeats 1000000
theorem PcopiedE (es : List Ent) (hes : es.length ≤ 1000) : AFn Try.prog 96 [.sl 2 (es.map entA) none, .fn 97 []] (fun r => r = .sl 2 (es.map entA) none) := by
 have hml : (es.map entA).length = es.length := by simp
 refine enter Try.func96 rfl rfl rfl rfl rfl 0 rfl ?_
 refine w_ (a_ (h:=e_ (q_ (w_ (m_ (h:=n_ (h:=eq_ (h:=e_ (?_)))))))))
 refine aw_cond rfl (fun hb1 => ?_) (fun hb1 => ?_)
 ·have hc1 := bp hb1
  refine w_ (a_ (h:=e_ (aw_ret (x_thenR (?_)))))
  refine rt_ (r := .sl 2 (es.map entA) none) none (h5 := ?_) (h6 := ⟨rfl, rfl, rfl⟩)
  rw [show es = [] from List.eq_nil_of_length_eq_zero (by omega)]
  exact LeA.nil _
 have hc1 := bp hb1
 refine kt_ (w_ (m_ (h:=n_ (h:=ms_ (h:=a_ (h:=e_ (q_ (w_ (m_ (h:=n_ (h:=m_ (h:=e_ (aw_block (?_))))))))))))))
 refine aw_loopW (fun m s => ∃ j : Nat, j ≤ es.length ∧ m = es.length - j ∧ s = ⟨look [(1, .fn 97 []), (5, .sl 2 ((es.take j).map entA) (some 0)), (14, .sl 2 (es.map entA) none), (15, .v (.int .i64 ((es.map entA).length : Int))), (16, .v (.int .i64 (j : Int)))], ⟨[], [(101, 2, (es.take j).map entA)]⟩⟩) (es.length) ((wk 0 1)) (⟨0, by omega, rfl, rfl⟩) ?_
 rintro m s ⟨j, hj, rfl, rfl⟩
 refine w_ (lt_ (h:=e_ (q_ (?_))))
 refine aw_cond rfl (fun hb2 => ?_) (fun hb2 => ?_)
 ·have hc2 := bp hb2
  obtain ⟨hlt, x, hy, hrow, e⟩ := row_at entA hc2
  refine kt_ (q_ (aw_block (w_ (i_ (h:=l_ (h:=al_ (h:=s_ (h:=e_ (aw_region (m_ (h:=m_ (h:=l_ (h:=?_)))))))))))))
  refine al_p rfl (st_callC (cy := []) (ys := [.agg (entA x)]) rfl (by repeat (first | exact Args.nil | refine Args.cons _ _ _ _ _ rfl (argOk_clean rfl) ?_ | refine Args.cons _ _ _ _ _ rfl (argOk_nil _) ?_ | refine Args.cons _ _ _ _ _ rfl (argOk_era _) ?_ | refine Args.cons _ _ _ _ _ rfl (argOk_le rfl (by repeat (first | exact LeA.refl _ | exact LeA.nil _ | exact LeL.refl _ | refine LeA.agg ?_ | refine LeA.tup ?_ | exact LeL.nil | refine LeL.cons ?_ ?_ | exact LeA.any _))) ?_)) rfl rfl (PcopyEntry x) ?_)
  rintro r rfl
  refine bs_ (h:=?_)
  first | refine al_p rfl (s_append rfl rfl rfl (by simp; omega) (by repeat constructor) ?_) | refine al_p rfl (s_append0 rfl rfl (by simp; omega) (by repeat constructor) ?_)
  refine a_ (h:=al_nil (x_blockN (t_ (aw_region (ad_ (h:=m_ (h:=al_nil (?_))))))))
  refine x_then ?_
  refine ⟨_, _, ?_, ⟨j + 1, by omega, rfl, rfl⟩, (by rw [e]; exact (wk 0 1))⟩
  omega
 have hc2 := bp hb2
 have e := row_no entA hj hc2
 subst e
 rw [List.take_length]
 refine aw_exit (x_thenE (x_thenE (ABlock_out (t_ (w_ (m_ (h:=a_ (h:=e_ (aw_ret (?_))))))))))
 refine e_ret ?_
 rfl
theorem PcopyNode (n : Nod) (hn : n.entries.length ≤ 1000) : AFn Try.prog 75 [.agg (nodA n)] (fun r => r = .agg (nodA n)) := by
 refine enter Try.func75 rfl rfl rfl rfl rfl 0 rfl ?_
 refine w_ (b_ (h:=al_ (h:=e_ (w_ (f_ (h:=l_ (h:=?_)))))))
 refine al_p rfl (q_call (PcopiedE n.entries hn) ?_)
 rintro r rfl
 refine f_ (h:=s_ (h:=e_ (w_ (l_ (h:=s_ (h:=e_ (aw_ret (?_))))))))
 refine e_ret ?_
 rfl
end
section
variable {P : Program} {ev : Operand → Option AV} {h : AH} {R : AV → AH → Prop} {d : Option Tmp} {ty : TypeId} {pos : String} {af : Array Edge} {gd : Option (Nat × Bool)}
theorem st_eqPnil {T yT : TypeId} {x y : Operand} (hp : P.underlying T = some (.pointer (P.pointee T))) (hx : ev x = some (.v (.pointer none))) (hy : ev y = some (.v (.pointer none))) (hR : R (.v (.bool true)) h) : AStep P ⟨d, .binOp .eql T x y yT, ty, pos, af, gd⟩ ev h R :=
 st_bin hx hy (fun w => by simp [eqGuard, run_eql_pointer_nil (P := P) (w := w) T none hp]) hR
theorem st_eqPfp {T yT : TypeId} {x y : Operand} {row : List AV} (hp : P.underlying T = some (.pointer (P.pointee T))) (hx : ev x = some (.fp row)) (hy : ev y = some (.v (.pointer none))) (hR : R (.v (.bool false)) h) : AStep P ⟨d, .binOp .eql T x y yT, ty, pos, af, gd⟩ ev h R := by
 refine st_val (fun _ G w ec _ he => ?_) hR
 have h1 := he x (by simp [Op.operands]) _ hx
 have h2 := he y (by simp [Op.operands]) _ hy
 simp only [rep] at h1 h2
 obtain ⟨b, off, h3, _⟩ := h1
 refine ⟨.bool false, ?_, by simp only [rep]⟩
 simp [execOp, h2, h3, eqGuard, run_eql_pointer_nil (P := P) (w := w) T (some ⟨b, off, none⟩) hp]
end
def chgA (c : Chg) : List AV := [.v (.int .i64 c.1.1), .v (.int .i64 c.1.2), .v (.string c.2.1), .v (.int .i64 c.2.2.1.1), .v (.int .i64 c.2.2.1.2), .v (.int .i64 c.2.2.2.1), .v (.int .i64 c.2.2.2.2)]
section
set_option maxRecDepth 10000
set_option maxHeartbeats 1000000
theorem Rone (d : Fil) (name : Str) (o n : Fil) : AFn Try.prog 71 [.agg (filA d), .v (.string name), .agg (filA o), .agg (filA n)] (fun r => r = .sl 7 [chgA (d, name, o, n)] none) := by
 refine enter Try.func71 rfl rfl rfl rfl rfl 0 rfl ?_
 refine w_ (b_ (h:=b_ (h:=b_ (h:=a_ (h:=e_ (w_ (l_ (h:=m_ (h:=l_ (h:=l_ (h:=bd_ (h:=bs_ (h:=a_ (h:=e_ (aw_ret (?_))))))))))))))))
 refine e_ret ?_
 rfl
theorem newL_bad {n : Int} (h : n < 1 ∨ 3 < n) : newL n = ([], 50) := by unfold newL; rw [if_pos h]
theorem newL_ok {k : Nat} (h1 : ¬ (k : Int) < 1) (h2 : ¬ 3 < (k : Int)) : newL (k : Int) = (List.replicate k rootDvc, 0) := by unfold newL; rw [if_neg (by omega)]; simp
theorem Rnew (n : Int) : AFn Try.prog 16 [.v (.int .i64 n)] (fun r => r = .tup [.agg (flsA (newL n).1), .v (.int .i64 (newL n).2)]) := by
 refine enter Try.func16 rfl rfl rfl rfl rfl 0 rfl ?_
 refine w_ (al_ (h:=a_ (h:=e_ (q_ (w_ (m_ (h:=lt_ (h:=m_ (h:=?_)))))))))
 refine al_gs false rfl rfl (fun hb1 => ?_) (fun hb1 => ?_)
 ·have hc1 := bp hb1
  refine g0_ (h:=g0_ (h:=pt_ (h:=e_ (cy_ (h:=w_ (bd_ (h:=s_ (h:=a_ (h:=e_ (aw_ret (x_thenR (?_))))))))))))
  refine rt_ (r := .tup [.agg (flsA (newL n).1), .v (.int .i64 (newL n).2)]) none (h5 := ?_) (h6 := ⟨rfl, rfl, rfl⟩)
  rw [newL_bad (by omega)]
  exact (by repeat (first | exact LeA.refl _ | exact LeA.nil _ | exact LeL.refl _ | refine LeA.agg ?_ | refine LeA.tup ?_ | exact LeL.nil | refine LeL.cons ?_ ?_ | exact LeA.any _))
 have hc1 := bp hb1
 refine m_ (h:=gt_ (h:=pf_ (h:=e_ (?_))))
 refine aw_cond rfl (fun hb2 => ?_) (fun hb2 => ?_)
 ·have hc2 := bp hb2
  refine w_ (bd_ (h:=s_ (h:=a_ (h:=e_ (aw_ret (x_thenR (?_)))))))
  refine rt_ (r := .tup [.agg (flsA (newL n).1), .v (.int .i64 (newL n).2)]) none (h5 := ?_) (h6 := ⟨rfl, rfl, rfl⟩)
  rw [newL_bad (by omega)]
  exact (by repeat (first | exact LeA.refl _ | exact LeA.nil _ | exact LeL.refl _ | refine LeA.agg ?_ | refine LeA.tup ?_ | exact LeL.nil | refine LeL.cons ?_ ?_ | exact LeA.any _))
 have hc2 := bp hb2
 obtain ⟨k, rfl⟩ := Int.eq_ofNat_of_zero_le (show 0 ≤ n by omega)
 refine kt_ (w_ (al_ (h:=e_ (q_ (w_ (a_ (h:=e_ (aw_block (?_)))))))))
 refine aw_nilTokB 1 0 79 2 rfl rfl (by repeat constructor) (by repeat constructor) (by repeat constructor) ?_
 refine aw_loopW (fun m s => ∃ j : Nat, j ≤ k ∧ m = k - j ∧ s = ⟨look [(0, .v (.int .i64 (k : Int))), (2, .bp 0 0), (4, .bp 1 0), (5, .v (.int .i64 (j : Int)))], ⟨[[.v (.slice none 0 0)], [.sl 2 ((List.replicate j rootDvc).map dvcA) (some 0)]], [(79, 2, (List.replicate j rootDvc).map dvcA)]⟩⟩) (k) ((wk 2 1)) (⟨0, by omega, rfl, rfl⟩) ?_
 rintro m s ⟨j, hj, rfl, rfl⟩
 refine q_ (w_ (m_ (h:=m_ (h:=lt_ (h:=e_ (?_))))))
 refine aw_cond rfl (fun hb3 => ?_) (fun hb3 => ?_)
 ·have hc3 := bp hb3
  refine kt_ (q_ (aw_block (aw_region (f_ (h:=l_ (h:=?_))))))
  refine al_p rfl (st_le (y := .agg (nodA rootNod)) (st_build (by repeat (first | exact FillA.nil _ | (apply FillA.cons; (focus exact rfl); (focus exact rfl); (focus exact rfl); (focus exact rfl); (focus exact rfl); (focus (repeat constructor))))) ⟨rfl, rfl⟩) (by repeat (first | exact LeA.refl _ | exact LeA.nil _ | exact LeL.refl _ | refine LeA.agg ?_ | refine LeA.tup ?_ | exact LeL.nil | refine LeL.cons ?_ ?_ | exact LeA.any _)) ?_)
  refine bs_ (h:=bd_ (h:=bs_ (h:=?_)))
  first | refine al_p rfl (s_append rfl rfl rfl (by simp; omega) (by repeat constructor) ?_) | refine al_p rfl (s_append0 rfl rfl (by simp; omega) (by repeat constructor) ?_)
  refine f_ (h:=s_ (h:=al_nil (x_blockN (t_ (aw_region (m_ (h:=ad_ (h:=a_ (h:=al_nil (?_))))))))))
  refine x_then ?_
  refine ⟨_, _, ?_, ⟨j + 1, by omega, rfl, rfl⟩, (by rw [List.replicate_succ', List.map_append]; exact (wk 2 1))⟩
  omega
 have hc3 := bp hb3
 obtain rfl : j = k := by omega
 refine aw_exit (x_thenE (x_thenE (ABlock_out (t_ (w_ (l_ (h:=s_ (h:=a_ (h:=e_ (aw_ret (?_)))))))))))
 refine e_ret ?_
 rw [newL_ok hc1 hc2]
 rfl
end
def belF (f : Fls) (top : Fil) : Nat → Fil → Bool
 | 0, _ => false
 | n + 1, a => if a.1 ≠ top.1 then false else if a = top then true else belF f top n (a.1, (nodG f a).parent)
section
set_option maxRecDepth 10000
set_option maxHeartbeats 1000000
theorem Rbelow (f : Fls) (a top : Fil) (hf : FlsB f) : AFn Try.prog 88 [.agg (flsA f), .agg (filA a), .agg (filA top)] (fun r => r = .v (.bool (belF f top 17 a))) := by
 refine enter Try.func88 rfl rfl rfl rfl rfl 0 rfl ?_
 refine w_ (b_ (h:=b_ (h:=b_ (h:=a_ (h:=e_ (q_ (w_ (a_ (h:=e_ (aw_block (?_)))))))))))
 refine aw_loopW (fun m s => ∃ (j : Nat) (b : Fil), j ≤ 17 ∧ m = 17 - j ∧ belF f top (17 - j) b = belF f top 17 a ∧ s = ⟨look [(3, .bp 0 0), (4, .bp 1 0), (5, .bp 2 0), (7, .v (.int .i64 (j : Int)))], ⟨[flsA f, filA b, filA top], []⟩⟩) (17) ((wk 3 0)) (⟨0, a, by omega, rfl, rfl, rfl⟩) ?_
 rintro m s ⟨j, b, hj, rfl, hit, rfl⟩
 refine q_ (w_ (m_ (h:=le_ (h:=m_ (h:=?_)))))
 refine al_gs true rfl rfl (fun hb1 => ?_) (fun hb1 => ?_)
 ·have hc1 := bp hb1
  obtain ⟨k, hk⟩ : ∃ k, 17 - j = k + 1 := ⟨16 - j, by omega⟩
  rw [hk, belF] at hit
  refine f_ (h:=l_ (h:=f_ (h:=l_ (h:=eq_ (h:=pt_ (h:=e_ (?_)))))))
  refine aw_cond rfl (fun hb2 => ?_) (fun hb2 => ?_)
  ·have hc2 := bp hb2
   rw [if_neg (by simpa using hc2)] at hit
   refine kt_ (q_ (aw_block (q_ (w_ (l_ (h:=l_ (h:=?_)))))))
   refine al_p rfl (st_binA rfl rfl (by repeat constructor) (by repeat constructor) (fun w => eqlFil _ _ _ _ w) (by kernel_rfl) ?_)
   refine e_ (?_)
   refine aw_cond rfl (fun hb3 => ?_) (fun hb3 => ?_)
   ·have hc3 := bp hb3
    rw [if_pos (show b = top from hc3)] at hit
    refine w_ (a_ (h:=e_ (aw_ret (x_thenR (x_blockR (x_thenR (x_thenR (x_blockR (x_thenR (?_))))))))))
    refine e_ret ?_
    exact vb hit
   have hc3 := bp hb3
   rw [if_neg (show ¬ b = top from hc3)] at hit
   refine kt_ (w_ (l_ (h:=l_ (h:=?_))))
   refine al_p rfl (q_call (Rnode f b hf) ?_)
   rintro r rfl
   refine m_ (h:=x_ (h:=x_ (h:=al_ (h:=s_ (h:=a_ (h:=e_ (aw_region (f_ (h:=l_ (h:=f_ (h:=s_ (h:=al_nil (x_blockN (t_ (aw_region (m_ (h:=ad_ (h:=a_ (h:=al_nil (?_))))))))))))))))))))
   refine x_then ?_
   refine ⟨_, _, ?_, ⟨j + 1, (b.1, (nodG f b).parent), by omega, rfl, (by rw [show 17 - (j + 1) = k by omega]; exact hit), rfl⟩, (wk 3 0)⟩
   omega
  have hc2 := bp hb2
  rw [if_pos hc2] at hit
  refine aw_exit (x_thenE (x_thenE (ABlock_out (t_ (w_ (a_ (h:=e_ (aw_ret (?_)))))))))
  refine e_ret ?_
  exact vb hit
 have hc1 := bp hb1
 have ej : 17 - j = 0 := by omega
 rw [ej, belF] at hit
 refine g0_ (h:=g0_ (h:=g0_ (h:=g0_ (h:=g0_ (h:=pf_ (h:=e_ (cn_ (h:=aw_exit (x_thenE (x_thenE (ABlock_out (t_ (w_ (a_ (h:=e_ (aw_ret (?_)))))))))))))))))
 refine e_ret ?_
 exact vb hit
end
theorem any_at {α : Type} {p : α → Bool} {l : List α} {j : Nat} {x : α} (hx : l[j]? = some x) (hp : p x = true) : l.any p = true := List.any_eq_true.2 ⟨x, List.mem_of_getElem? hx, hp⟩
theorem any_no {α : Type} {p : α → Bool} {l : List α} (h : ∀ i y, i < l.length → l[i]? = some y → p y = false) : l.any p = false := by
 rw [List.any_eq_false]
 intro x hx
 obtain ⟨i, hi, rfl⟩ := List.mem_iff_getElem.1 hx
 simp [h i _ hi (List.getElem?_eq_getElem hi)]
section
set_option maxRecDepth 10000
set_option maxHeartbeats 1000000
theorem Rparent (d : Dvc) (ino : Int) (hd : d.nodes.length ≤ 1000) : AFn Try.prog 112 [.agg (dvcA d), .v (.int .i64 ino)] (fun r => r = .v (.int .i64 (parentL d ino))) := by
 refine enter Try.func112 rfl rfl rfl rfl rfl 0 rfl ?_
 refine w_ (b_ (h:=a_ (h:=e_ (q_ (w_ (a_ (h:=e_ (aw_block (?_)))))))))
 refine aw_loopW (fun m s => ∃ j : Nat, j ≤ d.nodes.length ∧ m = d.nodes.length - j ∧ (∀ i y, i < j → d.nodes[i]? = some y → (y.ino == ino) = false) ∧ s = ⟨look [(1, .v (.int .i64 ino)), (2, .bp 0 0), (5, .v (.int .i64 (j : Int)))], ⟨[dvcA d], []⟩⟩) (d.nodes.length) ((wk 1 0)) (⟨0, by omega, rfl, fun i y hi => by omega, rfl⟩) ?_
 rintro m s ⟨j, hj, rfl, ha, rfl⟩
 refine q_ (w_ (m_ (h:=f_ (h:=l_ (h:=n_ (h:=lt_ (h:=e_ (?_))))))))
 refine aw_cond rfl (fun hb1 => ?_) (fun hb1 => ?_)
 ·have hc1 := bp hb1
  obtain ⟨hlt, n, hy, hrow, -⟩ := row_at nodA hc1
  refine kt_ (q_ (aw_block (w_ (f_ (h:=l_ (h:=m_ (h:=i_ (h:=f_ (h:=l_ (h:=m_ (h:=eq_ (h:=e_ (?_)))))))))))))
  refine aw_cond rfl (fun hb2 => ?_) (fun hb2 => ?_)
  ·have hc2 := bp hb2
   refine w_ (f_ (h:=l_ (h:=m_ (h:=i_ (h:=f_ (h:=l_ (h:=a_ (h:=e_ (aw_ret (x_blockR (x_thenR (x_thenR (x_blockR (x_thenR (?_)))))))))))))))
   refine e_ret ?_
   exact vi (by unfold parentL; rw [find_at hy (by simpa using hc2) ha])
  have hc2 := bp hb2
  refine aw_skip (x_blockN (t_ (aw_region (m_ (h:=ad_ (h:=a_ (h:=al_nil (?_))))))))
  refine x_then ?_
  refine ⟨_, _, ?_, ⟨j + 1, by omega, rfl, upto_snoc hy ha (by simpa using hc2), rfl⟩, (wk 1 0)⟩
  omega
 have hc1 := bp hb1
 have e := row_no nodA hj hc1
 subst e
 refine aw_exit (x_thenE (x_thenE (ABlock_out (t_ (w_ (a_ (h:=e_ (aw_ret (?_)))))))))
 refine e_ret ?_
 exact vi (by unfold parentL; rw [find_no (fun i y hi hy => ha i y hi hy)])
theorem Rholds (n : Nod) (ino : Int) (hn : n.entries.length ≤ 1000) : AFn Try.prog 101 [.agg (nodA n), .v (.int .i64 ino)] (fun r => r = .v (.bool (holdsL n ino))) := by
 refine enter Try.func101 rfl rfl rfl rfl rfl 0 rfl ?_
 refine w_ (b_ (h:=a_ (h:=e_ (q_ (w_ (a_ (h:=e_ (aw_block (?_)))))))))
 refine aw_loopW (fun m s => ∃ j : Nat, j ≤ n.entries.length ∧ m = n.entries.length - j ∧ (∀ i y, i < j → n.entries[i]? = some y → (y.2 == ino) = false) ∧ s = ⟨look [(1, .v (.int .i64 ino)), (2, .bp 0 0), (5, .v (.int .i64 (j : Int)))], ⟨[nodA n], []⟩⟩) (n.entries.length) ((wk 1 0)) (⟨0, by omega, rfl, fun i y hi => by omega, rfl⟩) ?_
 rintro m s ⟨j, hj, rfl, ha, rfl⟩
 refine q_ (w_ (m_ (h:=f_ (h:=l_ (h:=n_ (h:=lt_ (h:=e_ (?_))))))))
 refine aw_cond rfl (fun hb1 => ?_) (fun hb1 => ?_)
 ·have hc1 := bp hb1
  obtain ⟨hlt, x, hy, hrow, -⟩ := row_at entA hc1
  refine kt_ (q_ (aw_block (w_ (f_ (h:=l_ (h:=m_ (h:=i_ (h:=f_ (h:=l_ (h:=m_ (h:=eq_ (h:=e_ (?_)))))))))))))
  refine aw_cond rfl (fun hb2 => ?_) (fun hb2 => ?_)
  ·have hc2 := bp hb2
   refine w_ (a_ (h:=e_ (aw_ret (x_blockR (x_thenR (x_thenR (x_blockR (x_thenR (?_)))))))))
   refine e_ret ?_
   exact vb (by unfold holdsL; rw [any_at hy (by simpa using hc2)])
  have hc2 := bp hb2
  refine aw_skip (x_blockN (t_ (aw_region (m_ (h:=ad_ (h:=a_ (h:=al_nil (?_))))))))
  refine x_then ?_
  refine ⟨_, _, ?_, ⟨j + 1, by omega, rfl, upto_snoc hy ha (by simpa using hc2), rfl⟩, (wk 1 0)⟩
  omega
 have hc1 := bp hb1
 have e := row_no entA hj hc1
 subst e
 refine aw_exit (x_thenE (x_thenE (ABlock_out (t_ (w_ (a_ (h:=e_ (aw_ret (?_)))))))))
 refine e_ret ?_
 exact vb (by unfold holdsL; rw [any_no (fun i y hi hy => ha i y hi hy)])
end
def devR (d : Dvc) (j cap1 : Nat) : List AV := [.v (.int .i64 d.next), .bs j 0 8 d.nodes.length cap1]
theorem dvcs_two (l : List Dvc) : ∀ r ∈ l.map dvcA, r.length = 2 := by
 intro r hr
 obtain ⟨d, _, rfl⟩ := List.mem_map.1 hr
 rfl
theorem nods_eight (l : List Nod) : ∀ r ∈ l.map nodA, r.length = 8 := by
 intro r hr
 obtain ⟨d, _, rfl⟩ := List.mem_map.1 hr
 rfl
end Go.Proofs.Ythcbdkmhamhciaa
namespace Go.Proofs.Ythcbdkmhamhciaa.Old
open Go.RowKit
def SameOn (D : Nat → Prop) (w w' : World) : Prop := ∀ b, D b → w'.heap[b]? = w.heap[b]?
def Old (w : World) : Nat → Prop := fun b => b < w.heap.size
def few : Nat := 65536
theorem below_drewN {B : Nat} {a w : World} (h : Below B a w) (n : Nat) : Below B a (w.drewN n) := ⟨h.os, h.tape, h.output, h.size, h.block⟩
theorem sameOn_old {w w' : World} (h : Below w.heap.size w w') : SameOn (Old w) w w' := fun b hb => h.block b hb
theorem grown_of_below {w w' : World} (h : Below w.heap.size w w') (g : Option Nat) : w.grownBy w' g := ⟨h.os, h.tape, h.output, h.size, fun k hk _ => h.block k hk⟩
def RowL {α : Type} (sz : Nat) (cell : α → Nat → Value) (w : World) (D : Nat → Prop) (A : Option Addr) (xs : List α) : Prop :=
 0 < xs.length → ∃ b off, A = some ⟨b, off, none⟩ ∧ D b ∧ ∀ i x j, xs[i]? = some x → j < sz → w.cell? ⟨b, off + i * sz + j, none⟩ = some (cell x j)
def ListR {α : Type} (sz : Nat) (cell : α → Nat → Value) (w : World) (D : Nat → Prop) (v : Value) (xs : List α) : Prop :=
 ∃ A c, v = .slice A xs.length c ∧ xs.length ≤ c ∧ xs.length ≤ few ∧ RowL sz cell w D A xs
section
variable {α : Type} {sz : Nat} {cell : α → Nat → Value} {w w' : World} {D D' : Nat → Prop} {A : Option Addr} {v : Value} {xs : List α}
theorem RowL.keep (h : RowL sz cell w D A xs) (hs : SameOn D w w') : RowL sz cell w' D A xs := by
 intro hn
 obtain ⟨b, off, rfl, hb, hc⟩ := h hn
 exact ⟨b, off, rfl, hb, fun i x j hi hj => (World.cell?_of_block (w := w) (a := ⟨b, off + i * sz + j, none⟩) (hs b hb)).trans (hc i x j hi hj)⟩
theorem ListR.keep (h : ListR sz cell w D v xs) (hs : SameOn D w w') : ListR sz cell w' D v xs := by
 obtain ⟨A, c, rfl, h1, h2, h3⟩ := h
 exact ⟨A, c, rfl, h1, h2, h3.keep hs⟩
end
def entCell (e : Ent) : Nat → Value
 | 0 => .string e.1
 | _ => .int .i64 e.2
def nodCell (n : Nod × Value) : Nat → Value
 | 0 => .int .i64 n.1.ino
 | 1 => .int .i64 n.1.kind
 | 2 => .int .i64 n.1.mode
 | 3 => .int .i64 n.1.uid
 | 4 => .int .i64 n.1.gid
 | 5 => .int .i64 n.1.parent
 | 6 => .string n.1.target
 | _ => n.2
def dvcCell (d : Dvc × Value) : Nat → Value
 | 0 => .int .i64 d.1.next
 | _ => d.2
abbrev EntsR := ListR 2 entCell
def NodsR (w : World) (D : Nat → Prop) (v : Value) (ns : List Nod) : Prop :=
 ∃ xs : List (Nod × Value), xs.map (·.1) = ns ∧ ListR 8 nodCell w D v xs ∧ ∀ x ∈ xs, EntsR w D x.2 x.1.entries
def DvcsR (w : World) (D : Nat → Prop) (v : Value) (f : Fls) : Prop :=
 ∃ xs : List (Dvc × Value), xs.map (·.1) = f ∧ ListR 2 dvcCell w D v xs ∧ ∀ x ∈ xs, NodsR w D x.2 x.1.nodes
def FlsR (w : World) (D : Nat → Prop) (v : Value) (f : Fls) : Prop := ∃ d, v = .agg #[d] ∧ DvcsR w D d f
theorem ret_bool {a b : Bool} (h : a = b) : Ending.returned (.bool a) = .returned (.bool b) := by rw [h]
theorem map_len {α β : Type} {g : α → β} {xs : List α} {ys : List β} (h : xs.map g = ys) : xs.length = ys.length := by
 subst h
 simp
theorem cell_of {w : World} {g : Nat} {cs : Array Value} {t : TypeId} {fz : Nat × Nat} (h : w.heap[g]? = some (.cells cs t fz)) (i : Nat) : w.cell? ⟨g, i, none⟩ = cs[i]? := by
 simp [World.cell?, h]
theorem frozen_of {w : World} {g : Nat} {cs : Array Value} {t : TypeId} (h : w.heap[g]? = some (.cells cs t (0, 0))) (i : Nat) : w.frozen? ⟨g, i, none⟩ = false := by
 simp [World.frozen?, h]
theorem blk_grown' {w w' : World} {b : Nat} {row : Option Nat} {o : Obj} (h : w.heap[b]? = some o) (hg : w.grownBy w' row) (hne : some b ≠ row) : w'.heap[b]? = some o := by
 have hb : b < w.heap.size := by
  rcases Nat.lt_or_ge b w.heap.size with hlt | hge
  ·exact hlt
  rw [Array.getElem?_eq_none hge] at h; cases h
 exact (hg.block b hb hne).trans h
theorem blk_alloc {w : World} {b : Nat} {o : Obj} (h : w.heap[b]? = some o) (o' : Obj) : (w.alloc o').heap[b]? = some o := by
 have hb : b < w.heap.size := by
  rcases Nat.lt_or_ge b w.heap.size with hlt | hge
  ·exact hlt
  rw [Array.getElem?_eq_none hge] at h; cases h
 exact (Below.heap_alloc w o' b hb).trans h
theorem cells_of {w : World} {g : Nat} {cs : Array Value} {t : TypeId} (h : w.heap[g]? = some (.cells cs t (0, 0))) : (∀ i, w.cell? ⟨g, i, none⟩ = cs[i]?) ∧ (∀ i, w.frozen? ⟨g, i, none⟩ = false) :=
 ⟨fun i => cell_of h i, fun i => frozen_of h i⟩
theorem blk_set {w : World} {b : Nat} {cs : Array Value} {t : TypeId} {fz : Nat × Nat} (h : w.heap[b]? = some (.cells cs t fz)) (i : Nat) (u : Value) : (w.setCell ⟨b, i, none⟩ u).heap[b]? = some (.cells (cs.setIfInBounds i u) t fz) := by
 simp [World.setCell, Array.getElem?_modify, h]
theorem blk_far {w : World} {b : Nat} {o : Obj} (h : w.heap[b]? = some o) {p : Addr} (hp : b ≠ p.block) (u : Value) : (w.setCell p u).heap[b]? = some o := (Below.heap_setCell w p u b hp).trans h
theorem blk_below {w w' : World} {b B : Nat} {o : Obj} (h : w.heap[b]? = some o) (hg : Below B w w') (hb : b < B) : w'.heap[b]? = some o := (hg.block b hb).trans h
theorem below_a1 (w : World) (o1 : Obj) : Below w.heap.size w (w.alloc o1) := by
 exact (Below.refl _ w).alloc (Nat.le_refl _) _
theorem size_a1 (w : World) (o1 : Obj) : (w.alloc o1).heap.size = w.heap.size + 1 := by simp
theorem blk_a1_0 (w : World) (o1 : Obj) : (w.alloc o1).heap[w.heap.size]? = some o1 := (by have := heap_alloc_new w o1; simpa using this)
theorem after1 {w w1 : World} {o1 : Obj} (h : Below (w.alloc o1).heap.size (w.alloc o1) w1) : Below w.heap.size w w1 ∧ w.heap.size + 1 ≤ w1.heap.size ∧ w1.heap[w.heap.size]? = some o1 := by
 have hs := h.size
 rw [size_a1] at hs
 exact ⟨(below_a1 w o1).trans (h.mono (by simp <;> omega)), hs, blk_below (blk_a1_0 w o1) h (by simp)⟩
theorem below_a2 (w : World) (o1 o2 : Obj) : Below w.heap.size w ((w.alloc o1).alloc o2) := by
 exact (below_a1 w o1).alloc (by simp <;> omega) _
theorem blk_a2_0 (w : World) (o1 o2 : Obj) : ((w.alloc o1).alloc o2).heap[w.heap.size]? = some o1 := blk_alloc (blk_a1_0 w o1) _
theorem blk_a2_1 (w : World) (o1 o2 : Obj) : ((w.alloc o1).alloc o2).heap[w.heap.size + 1]? = some o2 := (by have := heap_alloc_new (w.alloc o1) o2; simpa using this)
theorem below_a3 (w : World) (o1 o2 o3 : Obj) : Below w.heap.size w (((w.alloc o1).alloc o2).alloc o3) := by
 exact (below_a2 w o1 o2).alloc (by simp <;> omega) _
theorem blk_a3_0 (w : World) (o1 o2 o3 : Obj) : (((w.alloc o1).alloc o2).alloc o3).heap[w.heap.size]? = some o1 := blk_alloc (blk_a2_0 w o1 o2) _
theorem blk_a3_1 (w : World) (o1 o2 o3 : Obj) : (((w.alloc o1).alloc o2).alloc o3).heap[w.heap.size + 1]? = some o2 := blk_alloc (blk_a2_1 w o1 o2) _
theorem blk_a3_2 (w : World) (o1 o2 o3 : Obj) : (((w.alloc o1).alloc o2).alloc o3).heap[w.heap.size + 1 + 1]? = some o3 := (by have := heap_alloc_new ((w.alloc o1).alloc o2) o3; simpa using this)
end Go.Proofs.Ythcbdkmhamhciaa.Old
namespace Go.Proofs.Ythcbdkmhamhciaa.Old
open Go.RowKit
def flat {α : Type} (sz : Nat) (cell : α → Nat → Value) (xs : List α) : List Value := xs.flatMap fun x => (List.range sz).map (cell x)
section
variable {α : Type} {sz : Nat} {cell : α → Nat → Value}
theorem flat_length (xs : List α) : (flat sz cell xs).length = xs.length * sz := by
 induction xs with
 | nil => simp [flat]
 | cons x xs ih =>
   unfold flat at ih ⊢
   rw [List.flatMap_cons, List.length_append, ih]
   simp [Nat.add_mul, Nat.add_comm]
theorem flat_append (xs ys : List α) : flat sz cell (xs ++ ys) = flat sz cell xs ++ flat sz cell ys := by simp [flat]
theorem flat_get (xs : List α) : ∀ (i j : Nat) (x : α), xs[i]? = some x → j < sz → (flat sz cell xs)[i * sz + j]? = some (cell x j) := by
 induction xs with
 | nil => intro i j x h; simp at h
 | cons y ys ih =>
   intro i j x h hj
   have e : flat sz cell (y :: ys) = (List.range sz).map (cell y) ++ flat sz cell ys := by simp [flat]
   rw [e]
   cases i with
   | zero =>
     simp at h
     subst h
     rw [List.getElem?_append_left (by simpa using hj)]
     simp [hj]
   | succ i =>
     rw [List.getElem?_append_right (by simp [Nat.add_mul]; omega)]
     simp only [List.getElem?_cons_succ] at h
     have := ih i j x h hj
     rw [← this]
     congr 1
     simp [Nat.add_mul]
     omega
theorem flat_get_inv (xs : List α) (hsz : 0 < sz) {k : Nat} {u : Value} (h : (flat sz cell xs)[k]? = some u) : ∃ x, xs[k / sz]? = some x ∧ u = cell x (k % sz) := by
 have hk : k < xs.length * sz := by
  have := (List.getElem?_eq_some_iff.1 h).1
  rwa [flat_length] at this
 have hq : k / sz < xs.length := (Nat.div_lt_iff_lt_mul hsz).2 hk
 have hx : xs[k / sz]? = some xs[k / sz] := List.getElem?_eq_getElem hq
 have := flat_get (cell := cell) xs (k / sz) (k % sz) _ hx (Nat.mod_lt _ hsz)
 rw [Nat.mul_comm, Nat.div_add_mod, h] at this
 injection this with this
 exact ⟨_, hx, this⟩
def Ones (w : World) (v : Value) : Prop := ∀ (g : Nat) (cs : Array Value) (t : TypeId), v.ownBlock = some g → w.heap[g]? = some (.cells cs t (0, 0)) → ∀ u ∈ cs.toList, u.oneCell' = true
theorem Ones.of_block {w w' : World} {v : Value} (h : Ones w v) (hb : ∀ g, v.ownBlock = some g → w'.heap[g]? = w.heap[g]?) : Ones w' v := fun g cs t hg hc => h g cs t hg ((hb g hg).symm.trans hc)
theorem Ones.nil_ (w : World) : Ones w (.slice none 0 0) := fun g cs t hg => by simp [Value.ownBlock] at hg
def OwnL (sz : Nat) (cell : α → Nat → Value) (E : TypeId) (w : World) (base : Nat) (v : Value) (xs : List α) : Prop :=
 w.ownsRow base E sz v xs.length (flat sz cell xs) ∧ Ones w v
theorem OwnL.nil_ (E : TypeId) (w : World) (base : Nat) : OwnL sz cell E w base (.slice none 0 0) [] := ⟨World.ownsRow_nil w base E sz, Ones.nil_ w⟩
theorem OwnL.kept {E : TypeId} {w w' : World} {base : Nat} {v : Value} {xs : List α} (h : OwnL sz cell E w base v xs) {row : Option Nat} (hg : w.grownBy w' row) (hne : v.ownBlock = none ∨ v.ownBlock ≠ row) : OwnL sz cell E w' base v xs := by
 refine ⟨World.ownsRow.kept h.1 hg hne, h.2.of_block fun g hb => hg.block g (World.ownsRow.lt h.1 g hb).2 ?_⟩
 rcases hne with e | e
 ·rw [e] at hb; cases hb
 rw [← hb]; exact e
theorem OwnL.alloc {E : TypeId} {w : World} {base : Nat} {v : Value} {xs : List α} (h : OwnL sz cell E w base v xs) (o : Obj) : OwnL sz cell E (w.alloc o) base v xs :=
 ⟨World.ownsRow.alloc h.1 o, h.2.of_block fun g hb => heap_alloc_old w o (World.ownsRow.lt h.1 g hb).2⟩
theorem OwnL.below {E : TypeId} {w w' : World} {base : Nat} {v : Value} {xs : List α} (h : OwnL sz cell E w base v xs) (hb : Below w.heap.size w w') : OwnL sz cell E w' base v xs :=
 h.kept (grown_of_below hb none) (by cases v.ownBlock <;> simp)
theorem OwnL.set_ {E : TypeId} {w : World} {base : Nat} {v : Value} {xs : List α} (h : OwnL sz cell E w base v xs) {p : Addr} (hp : v.ownBlock ≠ some p.block) (u : Value) : OwnL sz cell E (w.setCell p u) base v xs :=
 h.kept (row := some p.block) ⟨rfl, rfl, rfl, by simp [World.setCell], fun k _ hne => Below.heap_setCell w p u k (fun e => hne (by rw [e]))⟩ (.inr hp)
theorem OwnL.setb {E : TypeId} {w : World} {base : Nat} {v : Value} {xs : List α} (h : OwnL sz cell E w base v xs) {p : Addr} (hp : p.block < base) (u : Value) : OwnL sz cell E (w.setCell p u) base v xs :=
 h.set_ (fun e => by have := (World.ownsRow.lt h.1 _ e).1; omega) u
theorem OwnL.lt {E : TypeId} {w : World} {base : Nat} {v : Value} {xs : List α} (h : OwnL sz cell E w base v xs) : ∀ k, v.ownBlock = some k → base ≤ k ∧ k < w.heap.size := World.ownsRow.lt h.1
theorem OwnL.ne_ {E : TypeId} {w : World} {base : Nat} {v : Value} {xs : List α} (h : OwnL sz cell E w base v xs) {g : Nat} {t : TypeId} {cs : Array Value} (hg : w.heap[g]? = some (.cells cs t (0, 0))) (hne : E ≠ t) : v.ownBlock ≠ some g := by
 rcases h.1.2 with ⟨rfl, _⟩ | ⟨g', cap, cur, rfl, _, hh, _⟩
 ·simp [Value.ownBlock]
 intro he
 have : g' = g := by simpa [Value.ownBlock] using he
 subst this
 rw [hg] at hh
 injection hh with hh
 injection hh with _ ht
 exact hne ht.symm
theorem OwnL.form {E : TypeId} {w : World} {base : Nat} {v : Value} {xs : List α} (h : OwnL sz cell E w base v xs) : ∃ A c, v = .slice A xs.length c := by
 rcases h.1.2 with ⟨rfl, hn⟩ | ⟨g, cap, cur, rfl, _⟩
 ·exact ⟨none, 0, by rw [hn]⟩
 exact ⟨_, _, rfl⟩
end
def ElemOK (T E sz bytes : Nat) : Prop := Try.prog.underlying T = some (.slice E) ∧ ∃ i z, Try.prog.info? E = some i ∧ i.zero = some z ∧ i.size = sz ∧ i.bytes = bytes ∧ z.cells.size = sz ∧ (z.cells.toList.all (·.oneCell')) = true
theorem elem_of {T E sz bytes : Nat} {z : Value} (hT : Try.prog.underlying T = some (.slice E)) (h : (Try.prog.info? E).map (fun i => (i.zero, i.size, i.bytes)) = some (some z, sz, bytes)) (hz : z.cells.size = sz) (h1 : (z.cells.toList.all (·.oneCell')) = true) : ElemOK T E sz bytes := by
 refine ⟨hT, ?_⟩
 cases hi : Try.prog.info? E with
 | none => rw [hi] at h; cases h
 | some i =>
   rw [hi] at h
   simp only [Option.map_some, Option.some.injEq, Prod.mk.injEq] at h
   exact ⟨i, z, rfl, h.1, h.2.1, h.2.2, hz, h1⟩
theorem run_append_nilsrc {P : Program} {w : World} {base : Nat} {t ty e : TypeId} {i : TypeInfo} {size : Nat} (ht : P.underlying t = some (.slice e)) (hi : P.info? e = some i)
    {v : Value} {n : Nat} {xs : List Value} (hown : w.ownsRow base e size v n xs) (c : Nat) : (Builtin.append_ #[t, t] ty #[v, .slice none 0 c]).run P w = .ok v w := by
 rcases hown.2 with ⟨rfl, rfl⟩ | ⟨g, cap, cur, rfl, _, _, hnc, _⟩
 ·simp [Builtin.append_, run_underlying ht, sizeOf, typeInfo, hi, Builtin.lenOf, Builtin.firstCells]
 simp [Builtin.append_, run_underlying ht, sizeOf, typeInfo, hi, Builtin.lenOf, Builtin.firstCells, hnc, storeCells]
section
variable {α : Type} {sz : Nat} {cell : α → Nat → Value}
theorem zeroCells_one {z : Array Value} (h : (z.toList.all (·.oneCell')) = true) {k : Nat} {u : Value} (hu : u ∈ Builtin.zeroCells z k) : u.oneCell' = true := by
 simp only [Builtin.zeroCells, Array.mem_map, Array.mem_range] at hu
 obtain ⟨i, hi2, rfl⟩ := hu
 have hpos : 0 < z.size := by
  rcases Nat.eq_zero_or_pos z.size with e | e
  ·rw [e] at hi2; simp at hi2
  exact e
 have hlt : i % z.size < z.size := Nat.mod_lt _ hpos
 rw [getElem!_pos z _ hlt]
 exact List.all_eq_true.1 h _ (by simp)
set_option maxRecDepth 10000 in
theorem append_ones {w : World} {T E bytes ty : Nat} (hE : ElemOK T E sz bytes) (hsz : 0 < sz) (hby : bytes ≤ 100000) {base : Nat} {v : Value} {n : Nat} {xs : List Value} (hown : w.ownsRow base E sz v n xs) (h1 : Ones w v)
    (ad : Addr) (m c : Nat) (news : List Value) (hl : news.length = m * sz) (hnews : ∀ j u, news[j]? = some u → w.cell? (ad.add j) = some u) (hone : ∀ u ∈ news, u.oneCell' = true) (hf : n ≤ 1000000) (hm : m ≤ 1000000) {v' : Value} {w' : World}
    (hrun : (Builtin.append_ #[T, T] ty #[v, .slice (some ad) m c]).run Try.prog w = .ok v' w') (hnil : v' = .slice none 0 0 ↔ v = .slice none 0 0 ∧ m = 0) : Ones w' v' := by
 obtain ⟨ht, i, z, hi, hz, hs, hb, hzs, hz1⟩ := hE
 subst hs
 have hbb : (n + m) * bytes ≤ 2000000 * 100000 := Nat.mul_le_mul (by omega) hby
 rcases hown.2 with ⟨rfl, rfl⟩ | ⟨g, cap, cur, rfl, hbg, hg, hnc, hcm, hcs, htk⟩
 ·rcases Nat.eq_zero_or_pos m with h0 | h0
  ·rw [hnil.2 ⟨rfl, h0⟩]; exact Ones.nil_ _
  have hr := run_append_nil (P := Try.prog) w T ty E i z ht hi hz ad m c news hl hnews h0 (by omega) (by rw [hb]; rw [Nat.zero_add] at hbb; omega)
  have hq := hrun.symm.trans hr
  simp only [Result.ok.injEq] at hq
  obtain ⟨rfl, rfl⟩ := hq
  intro g cs t hgg hc u hu
  have : g = w.heap.size := by simpa [Value.ownBlock] using hgg.symm
  subst this
  have hn := heap_alloc_new w.drew (.cells (news.toArray ++ Builtin.zeroCells z.cells (grownCap w m 0 E - m)) E)
  have hn' : (w.drew.alloc (.cells (news.toArray ++ Builtin.zeroCells z.cells (grownCap w m 0 E - m)) E)).heap[w.heap.size]? = some (.cells (news.toArray ++ Builtin.zeroCells z.cells (grownCap w m 0 E - m)) E) := hn
  rw [hn'] at hc
  injection hc with hc
  injection hc with hc _
  subst hc
  rcases Array.mem_append.1 (Array.mem_toList_iff.1 hu) with h | h
  ·exact hone u (by simpa using h)
  exact zeroCells_one hz1 h
 have hgc : w.heap[g]? = some (.cells cur.toList.toArray E (0, 0)) := by simpa using hg
 by_cases hroom : n + m ≤ cap
 ·have hfit : n * i.size + news.length ≤ cur.size := by
     rw [hcs, hl, ← Nat.add_mul]
     exact Nat.mul_le_mul_right _ hroom
  have hr := run_append_room_cells (P := Try.prog) w T ty E i ht hi g 0 n cap ad m c news hl hnews hone hroom (fun j hj => by
   have : 0 + n * i.size + j < cur.size := by omega
   simp only [World.cell?, hg]; simp; omega) (fun j hj => by simp [World.frozen?, hg])
  have hq := hrun.symm.trans hr
  simp only [Result.ok.injEq] at hq
  obtain ⟨rfl, rfl⟩ := hq
  obtain ⟨r1, _⟩ := setCells_heap g E news (0 + n * i.size) cur.toList w hgc
  intro g' cs t hgg hc u hu
  have : g' = g := by simpa [Value.ownBlock] using hgg.symm
  subst this
  rw [r1] at hc
  injection hc with hc
  injection hc with hc _
  subst hc
  rcases setL_mem news _ _ u (by simpa using hu) with h | h
  ·exact h1 g' cur E rfl hg u h
  exact hone u h
 have hr := run_append_grow (P := Try.prog) w T ty E i z ht hi hz ⟨g, 0, none⟩ n cap xs hown.1 (fun j u hj => by
  rw [Addr.add_mid]
  simp only [World.cell?, hg]
  rw [← htk, List.getElem?_take] at hj
  split at hj
  ·simpa using hj
  cases hj) ad m c news hl hnews (by omega) (by omega) (growslice_fits (by omega) (by rw [hb]; omega))
 have hq := hrun.symm.trans hr
 simp only [Result.ok.injEq] at hq
 obtain ⟨rfl, rfl⟩ := hq
 intro g' cs t hgg hc u hu
 have : g' = w.heap.size := by simpa [Value.ownBlock] using hgg.symm
 subst this
 have hn' : (w.drew.alloc (.cells (xs.toArray ++ news.toArray ++ Builtin.zeroCells z.cells (grownCap w (n + m) cap E - (n + m))) E)).heap[w.heap.size]? = some (.cells (xs.toArray ++ news.toArray ++ Builtin.zeroCells z.cells (grownCap w (n + m) cap E - (n + m))) E) := heap_alloc_new w.drew _
 rw [hn'] at hc
 injection hc with hc
 injection hc with hc _
 subst hc
 rcases Array.mem_append.1 (Array.mem_toList_iff.1 hu) with h | h
 ·rcases Array.mem_append.1 h with h | h
  ·have hx : u ∈ xs := by simpa using h
   rw [← htk] at hx
   exact h1 g cur E rfl hg u (List.mem_of_mem_take hx)
  exact hone u (by simpa using h)
 exact zeroCells_one hz1 h
theorem run_append_L {w : World} {T E bytes ty : Nat} (hE : ElemOK T E sz bytes) (hsz : 0 < sz) (hby : bytes ≤ 100000) {base : Nat} {v sv : Value} {xs ys : List α} {D : Nat → Prop} (hown : OwnL sz cell E w base v xs) (hr : ListR sz cell w D sv ys)
    (h1 : ∀ y ∈ ys, ∀ j, j < sz → (cell y j).oneCell' = true) (hf : xs.length ≤ 1000000) (hbase : base ≤ w.heap.size) :
    ∃ v' w', (Builtin.append_ #[T, T] ty #[v, sv]).run Try.prog w = .ok v' w' ∧ OwnL sz cell E w' base v' (xs ++ ys) ∧ w.grownBy w' v.ownBlock ∧ (v'.ownBlock = v.ownBlock ∨ v'.ownBlock = some w.heap.size) := by
 have hE0 := hE
 obtain ⟨ht, i, z, hi, hz, hs, hb, hzs, hz1⟩ := hE
 obtain ⟨A, c, rfl, hlc, hfew, hrow⟩ := hr
 unfold few at hfew
 rcases Nat.eq_zero_or_pos ys.length with h0 | h0
 ·have hy : ys = [] := List.eq_nil_of_length_eq_zero h0
  subst hy
  rcases A with _ | ad
  ·exact ⟨v, w, run_append_nilsrc ht hi hown.1 c, by simpa using hown, World.grownBy.refl w _, .inl rfl⟩
  obtain ⟨v', w', hrun, h2, h3, h4, h5⟩ := run_append_own_at (P := Try.prog) w base T ty E i z sz bytes ht hi hz hs hb hzs hsz v xs.length _ hown.1 ad 0 c [] (by simp) (by simp) (by simp) (by unfold maxLen; omega) (by
   have : (xs.length + 0) * bytes ≤ 1000000 * 100000 := Nat.mul_le_mul (by omega) hby
   omega) hbase
  exact ⟨v', w', hrun, ⟨by simpa using h2, append_ones hE0 hsz hby hown.1 hown.2 ad 0 c [] (by simp) (by simp) (by simp) hf (by omega) hrun h4⟩, h3, h5⟩
 obtain ⟨b, off, rfl, _, hcell⟩ := hrow h0
 have hcl : ∀ j u, (flat sz cell ys)[j]? = some u → w.cell? ((⟨b, off, none⟩ : Addr).add j) = some u := by
  intro j u hu
  obtain ⟨x, hx, rfl⟩ := flat_get_inv ys hsz hu
  have hcl := hcell _ x (j % sz) hx (Nat.mod_lt _ hsz)
  have hm : off + j / sz * sz + j % sz = off + j := by
   have := Nat.div_add_mod j sz
   rw [Nat.mul_comm] at this
   omega
  rw [hm] at hcl
  rw [Addr.add_lit]
  exact hcl
 have hon : ∀ u ∈ flat sz cell ys, u.oneCell' = true := by
  intro u hu
  obtain ⟨k, hk⟩ := List.mem_iff_getElem?.1 hu
  obtain ⟨x, hx, rfl⟩ := flat_get_inv ys hsz hk
  exact h1 x (List.mem_of_getElem? hx) _ (Nat.mod_lt _ hsz)
 obtain ⟨v', w', hrun, h2, h3, h4, h5⟩ := run_append_own_at (P := Try.prog) w base T ty E i z sz bytes ht hi hz hs hb hzs hsz v xs.length _ hown.1 ⟨b, off, none⟩ ys.length c (flat sz cell ys) (flat_length ys) hcl hon (by unfold maxLen; omega) (by
     have : (xs.length + ys.length) * bytes ≤ 1100000 * 100000 := Nat.mul_le_mul (by omega) hby
     omega) hbase
 exact ⟨v', w', hrun, ⟨by rw [flat_append, List.length_append]; exact h2, append_ones hE0 hsz hby hown.1 hown.2 _ _ c _ (flat_length ys) hcl hon hf (by omega) hrun h4⟩, h3, h5⟩
theorem wp_append_L {w : World} {o : Oper} {a : Act} {K : Act → World → Prop} {Q : Exit → Act → World → Prop} (s x : Operand) (T : TypeId)
    (ho : o.op = .call { callee := .builtin .append, args := #[s, x], argTypes := #[T, T] }) {E bytes : Nat} (hE : ElemOK T E sz bytes) (hsz : 0 < sz) (hby : bytes ≤ 100000)
    {base : Nat} {v sv : Value} {xs ys : List α} {D : Nat → Prop} (hs : a.eval s = v) (hx : a.eval x = sv) (hown : OwnL sz cell E w base v xs) (hr : ListR sz cell w D sv ys)
    (h1 : ∀ y ∈ ys, ∀ j, j < sz → (cell y j).oneCell' = true) (hf : xs.length ≤ 1000000) (hbase : base ≤ w.heap.size)
    (h : ∀ v' w', OwnL sz cell E w' base v' (xs ++ ys) → w.grownBy w' v.ownBlock → (v'.ownBlock = v.ownBlock ∨ v'.ownBlock = some w.heap.size) → K (a.put o.dst v') w') : o.wp Try.prog a w K Q := by
 obtain ⟨v', w', hrun, h2, h3, h4⟩ := run_append_L (ty := o.type) hE hsz hby hown hr h1 hf hbase
 unfold Oper.wp execOp
 simp only [ho, resolve, invoke, builtin, Sem.run_bind, Sem.run_pure, Result.andThen_ok, List.map_toArray, List.map_cons, List.map_nil, hs, hx, hrun]
 exact h v' w' h2 h3 h4
theorem wpList_append_L {w : World} {ops : Array Oper} {rest : List Oper} {o : Oper} {a : Act} {Q : Exit → Act → World → Prop} (hgd : o.guard = none) (s x : Operand) (T : TypeId)
    (ho : o.op = .call { callee := .builtin .append, args := #[s, x], argTypes := #[T, T] }) {E bytes : Nat} (hE : ElemOK T E sz bytes) (hsz : 0 < sz) (hby : bytes ≤ 100000)
    {base : Nat} {v sv : Value} {xs ys : List α} {D : Nat → Prop} (hs : a.eval s = v) (hx : a.eval x = sv) (hown : OwnL sz cell E w base v xs) (hr : ListR sz cell w D sv ys)
    (h1 : ∀ y ∈ ys, ∀ j, j < sz → (cell y j).oneCell' = true) (hf : xs.length ≤ 1000000) (hbase : base ≤ w.heap.size)
    (h : ∀ v' w', OwnL sz cell E w' base v' (xs ++ ys) → w.grownBy w' v.ownBlock → (v'.ownBlock = v.ownBlock ∨ v'.ownBlock = some w.heap.size) → wpList Try.prog ops Q rest (a.put o.dst v') w') : wpList Try.prog ops Q (o :: rest) a w :=
 wpList_plain hgd fun _ hK => wp_append_L s x T ho hE hsz hby hs hx hown hr h1 hf hbase fun v' w' h2 h3 h4 => hK _ _ (h v' w' h2 h3 h4)
theorem OwnL.mono {E : TypeId} {w : World} {base base' : Nat} {v : Value} {xs : List α} (h : OwnL sz cell E w base v xs) (hb : base' ≤ base) : OwnL sz cell E w base' v xs := by
 refine ⟨⟨h.1.1, ?_⟩, h.2⟩
 rcases h.1.2 with h' | ⟨g, cap, cur, hv, hg, r⟩
 ·exact .inl h'
 exact .inr ⟨g, cap, cur, hv, Nat.le_trans hb hg, r⟩
theorem wpList_clone_L {w : World} {ops : Array Oper} {rest : List Oper} {o : Oper} {a : Act} {Q : Exit → Act → World → Prop} (hgd : o.guard = none) (s x : Operand) (T : TypeId)
    (ho : o.op = .call { callee := .builtin .append, args := #[s, x], argTypes := #[T, T] }) {E bytes : Nat} (hE : ElemOK T E sz bytes) (hsz : 0 < sz) (hby : bytes ≤ 100000)
    (sv : Value) (ys : List α) {D : Nat → Prop} (hs : a.eval s = .slice none 0 0) (hx : a.eval x = sv) (hr : ListR sz cell w D sv ys)
    (h1 : ∀ y ∈ ys, ∀ j, j < sz → (cell y j).oneCell' = true)
    (h : ∀ A c w', OwnL sz cell E w' w.heap.size (.slice A ys.length c) ys → Below w.heap.size w w' → wpList Try.prog ops Q rest (a.put o.dst (.slice A ys.length c)) w') : wpList Try.prog ops Q (o :: rest) a w :=
 wpList_append_L hgd s x T ho hE hsz hby hs hx (OwnL.nil_ E w w.heap.size) hr h1 (by simp) (Nat.le_refl _) fun v' w' h2 h3 _ => by
  rw [List.nil_append] at h2
  obtain ⟨A, c, rfl⟩ := h2.form
  exact h A c w' h2 ⟨h3.os, h3.tape, h3.output, h3.size, fun k hk => h3.block k hk (by simp [Value.ownBlock])⟩
theorem listR_one {w : World} {cs : Array Value} {t : TypeId} {x : α} {B : Nat} (hB : B = w.heap.size) (hcs : ∀ j, j < sz → cs[j]? = some (cell x j)) {D : Nat → Prop} (hD : D w.heap.size) : ListR sz cell (w.alloc (.cells cs t)) D (.slice (some ⟨B, 0, none⟩) 1 1) [x] := by
 subst hB
 refine ⟨_, 1, rfl, Nat.le_refl _, by unfold few; simp, fun _ => ⟨_, _, rfl, hD, fun i y j hi hj => ?_⟩⟩
 cases i with
 | succ i => simp at hi
 | zero =>
   simp at hi
   subst hi
   rw [cell_of_row (w.alloc (.cells cs t)) w.heap.size _ cs t (0, 0) (heap_alloc_new w _)]
   simp [hcs j hj]
end
theorem elemEnt : ElemOK 32 101 2 24 := elem_of (z := .agg #[.string ⟨#[]⟩, .int .i64 0]) (by kernel_rfl) (by kernel_rfl) rfl rfl
theorem elemNod : ElemOK 77 34 8 88 := elem_of (z := .agg #[.int .i64 0, .int .i64 0, .int .i64 0, .int .i64 0, .int .i64 0, .int .i64 0, .string ⟨#[]⟩, .slice none 0 0]) (by kernel_rfl) (by kernel_rfl) rfl rfl
theorem elemDvc : ElemOK 22 79 2 32 := elem_of (z := .agg #[.int .i64 0, .slice none 0 0]) (by kernel_rfl) (by kernel_rfl) rfl rfl
end Go.Proofs.Ythcbdkmhamhciaa.Old
