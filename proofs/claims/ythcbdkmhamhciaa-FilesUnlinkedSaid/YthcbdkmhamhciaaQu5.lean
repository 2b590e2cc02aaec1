/-
  Part 5 of the proof of FilesUnlinkedP: what the statement's proof uses of the texts in wip/tpl.
-/
import Derived.Laws.Pointers
import Derived.Test.YthcbdkmhamhciaaProg
import Derived.WalkKit
import Derived.WalkSpells
import Derived.WalkLawsBesides
import Derived.Deep.QuietTactic
import Derived.BigQuiet
import Derived.Lib.Hide
import Derived.Outline
import Derived.Test.YthcbdkmhamhciaaQu4
namespace Go.Proofs.Ythcbdkmhamhciaa

def strLt (a b : Str) : Bool := Op.bytesLess a.toList b.toList
def entGo (name : Str) (ino : Int) : Bool → List Ent → List Ent
  | done, [] => if done then [] else [(name, ino)]
  | done, e :: r =>
    (if !done && !strLt e.1 name then [(name, ino)] else []) ++ ((if e.1 = name then [] else [e]) ++ entGo name ino (done || !strLt e.1 name) r)
def entL (es : List Ent) (name : Str) (ino : Int) : List Ent := entGo name ino (ino == 0) es

def cntE (ino : Int) (es : List Ent) : Nat := es.countP fun e : Ent => e.2 == ino
def cntN (ino : Int) (ns : List Nod) : Nat := cntE ino (ns.flatMap fun n => n.entries)
def linksF (f : Fls) (at_ : Fil) : Nat :=
  match nodeL f at_, atI f at_.1 with
  | some _, some d => cntN at_.2 d.nodes
  | _, _ => 0
theorem cntE_snoc {ino : Int} {es : List Ent} {k : Nat} {e : Ent} (h : es[k]? = some e) : cntE ino (es.take (k + 1)) = cntE ino (es.take k) + (if e.2 == ino then 1 else 0) := by
  unfold cntE
  rw [List.take_add_one, h, List.countP_append]
  simp [List.countP_cons]
theorem cntE_le (ino : Int) (es : List Ent) : cntE ino es ≤ es.length := List.countP_le_length
theorem cntN_snoc {ino : Int} {ns : List Nod} {m : Nat} {n : Nod} (h : ns[m]? = some n) : cntN ino (ns.take (m + 1)) = cntN ino (ns.take m) + cntE ino n.entries := by
  unfold cntN cntE
  rw [List.take_add_one, h, List.flatMap_append, List.countP_append]
  simp
def keepNot (ino : Int) (ns : List Nod) : List Nod := ns.filter fun n => n.ino != ino
def rootNod : Nod := ⟨1, 2, 493, 0, 0, 1, ⟨#[]⟩, []⟩
def rootDvc : Dvc := ⟨2, [rootNod]⟩
def newL (n : Int) : Fls × Int := if n < 1 ∨ 3 < n then ([], 50) else (List.replicate n.toNat rootDvc, 0)
abbrev ChgRes := Fls × List Chg × Int
def mkNod (n : Nod) (next dirIno : Int) : Nod := ⟨next, n.kind, n.mode, n.uid, n.gid, if n.kind = 2 then dirIno else 0, n.target, []⟩
end Go.Proofs.Ythcbdkmhamhciaa
namespace Go.Proofs.Ythcbdkmhamhciaa
open Go.RowKit

theorem row_at {α : Type} (enc : α → List AV) {l : List α} {k : Nat} (h : (k : Int) < ((l.map enc).length : Int)) : k < l.length ∧ ∃ x, l[k]? = some x ∧ (l.map enc)[k]? = some (enc x) ∧ (l.take (k + 1)).map enc = (l.take k).map enc ++ [enc x] := by
  have hk : k < l.length := by simpa using h
  refine ⟨hk, l[k], List.getElem?_eq_getElem hk, by simp [hk], ?_⟩
  rw [List.take_succ_eq_append_getElem hk, List.map_append]
  rfl
theorem row_no {α : Type} (enc : α → List AV) {l : List α} {k : Nat} (hk : k ≤ l.length) (h : ¬ (k : Int) < ((l.map enc).length : Int)) : k = l.length := by
  simp at h
  omega
theorem vb {a b : Bool} (h : a = b) : AV.v (.bool a) = AV.v (.bool b) := by rw [h]
theorem vi {k : IntKind} {a b : Int} (h : a = b) : AV.v (.int k a) = AV.v (.int k b) := by rw [h]
def filA (x : Fil) : List AV := [.v (.int .i64 x.1), .v (.int .i64 x.2)]
def entA (e : Ent) : List AV := [.v (.string e.1), .v (.int .i64 e.2)]
def nodA (n : Nod) : List AV := [.v (.int .i64 n.ino), .v (.int .i64 n.kind), .v (.int .i64 n.mode), .v (.int .i64 n.uid), .v (.int .i64 n.gid), .v (.int .i64 n.parent), .v (.string n.target), .sl 2 (n.entries.map entA) none]
def dvcA (d : Dvc) : List AV := [.v (.int .i64 d.next), .sl 8 (d.nodes.map nodA) none]
def flsA (f : Fls) : List AV := [.sl 2 (f.map dvcA) none]
structure FlsB (f : Fls) : Prop where
  few : f.length ≤ 1000
  nodes : ∀ d ∈ f, d.nodes.length ≤ 1000
  ents : ∀ d ∈ f, ∀ n ∈ d.nodes, n.entries.length ≤ 1000
theorem indexL_at {f : Fls} {a : Fil} {k : Nat} {d : Dvc} (hk : a.1 = (k : Int)) (hd : f[k]? = some d) : indexL f a = idxBy (fun n : Nod => n.ino == a.2) d.nodes := by
  unfold indexL; rw [hk, atI_nat, hd]
def nodG (f : Fls) (a : Fil) : Nod := (nodeL f a).getD Nod.zero
def hasG (f : Fls) (a : Fil) : Bool := (nodeL f a).isSome
theorem dirL_eq (f : Fls) (a : Fil) : dirL f a = (hasG f a && decide ((nodG f a).kind = 2)) := by
  unfold dirL hasG nodG
  cases nodeL f a <;> simp [beq_dec]
theorem nodG_ents {f : Fls} (hf : FlsB f) (a : Fil) : (nodG f a).entries.length ≤ 1000 := by
  rcases index_node f a with ⟨-, h⟩ | ⟨k, i, d, n, -, h1, h2, -, -, h⟩
  · simp [nodG, h, Nod.zero]
  simp only [nodG, h, Option.getD_some]
  exact hf.ents d (List.mem_of_getElem? h1) n (List.mem_of_getElem? h2)
end Go.Proofs.Ythcbdkmhamhciaa
namespace Go.Proofs.Ythcbdkmhamhciaa
open Go.RowKit

theorem find_at {α : Type} {p : α → Bool} {l : List α} {j : Nat} {x : α} (hx : l[j]? = some x) (hp : p x = true) (h : ∀ i y, i < j → l[i]? = some y → p y = false) : l.find? p = some x := by
  have := findIdx?_first hx hp h
  rw [← find?_of_findIdx?, this]
  simpa using hx
theorem find_no {α : Type} {p : α → Bool} {l : List α} (h : ∀ i y, i < l.length → l[i]? = some y → p y = false) : l.find? p = none := by
  rw [List.find?_eq_none]
  intro x hx
  obtain ⟨i, hi, rfl⟩ := List.mem_iff_getElem.1 hx
  simp [h i _ hi (List.getElem?_eq_getElem hi)]
end Go.Proofs.Ythcbdkmhamhciaa
namespace Go.Proofs.Ythcbdkmhamhciaa
open Go.RowKit

theorem linksF_at {f : Fls} {a : Fil} {k : Nat} {d : Dvc} {n : Nod} (hk : a.1 = (k : Int)) (hd : f[k]? = some d) (hn : nodeL f a = some n) : linksF f a = cntN a.2 d.nodes := by
  unfold linksF
  rw [hn, hk, atI_nat, hd]
end Go.Proofs.Ythcbdkmhamhciaa
namespace Go.Proofs.Ythcbdkmhamhciaa
open Go.RowKit

theorem nodeL_at {f : Fls} {a : Fil} {k : Nat} {d : Dvc} (hk : a.1 = (k : Int)) (hd : f[k]? = some d) : nodeL f a = d.nodes.find? (fun n : Nod => n.ino == a.2) := by
  unfold nodeL; rw [hk, atI_nat, hd]
def FindR (f : Fls) (a : Fil) (r : AV) : Prop := (nodeL f a = none ∧ r = .v (.pointer none)) ∨ ∃ n, nodeL f a = some n ∧ r = .fp (nodA n)
section
set_option maxRecDepth 10000
set_option maxHeartbeats 1000000
theorem Pfind (f : Fls) (a : Fil) (hf : FlsB f) : AFn Try.prog 65 [.agg (flsA f), .agg (filA a)] (FindR f a) := by
  refine enter Try.func65 rfl rfl rfl rfl rfl 0 rfl ?_
  refine w_ (b_ (h:=b_ (h:=a_ (h:=e_ (q_ (w_ (f_ (h:=l_ (h:=lt_ (h:=m_ (h:=?_)))))))))))
  refine al_gs false rfl rfl (fun hb1 => ?_) (fun hb1 => ?_)
  · have hc1 := bp hb1
    refine g0_ (h:=g0_ (h:=g0_ (h:=g0_ (h:=g0_ (h:=g0_ (h:=pt_ (h:=e_ (cy_ (h:=w_ (a_ (h:=e_ (aw_ret (x_thenR (?_))))))))))))))
    refine e_ret ?_
    exact .inl ⟨by unfold nodeL; rw [atI_none (.inl hc1)], rfl⟩
  have hc1 := bp hb1
  refine f_ (h:=l_ (h:=f_ (h:=l_ (h:=n_ (h:=ge_ (h:=pf_ (h:=e_ (?_))))))))
  refine aw_cond rfl (fun hb2 => ?_) (fun hb2 => ?_)
  · have hc2 := bp hb2
    refine w_ (a_ (h:=e_ (aw_ret (x_thenR (?_)))))
    refine e_ret ?_
    exact .inl ⟨by unfold nodeL; rw [atI_none (.inr (by rw [List.length_map] at hc2; exact hc2))], rfl⟩
  have hc2 := bp hb2
  obtain ⟨k, hk⟩ := Int.eq_ofNat_of_zero_le (show 0 ≤ a.1 by omega)
  rw [hk] at hc2
  obtain ⟨-, d, hd, hrow, -⟩ := row_at dvcA (l := f) (k := k) (by omega)
  have hdn := hf.nodes d (List.mem_of_getElem? hd)
  refine kt_ (w_ (f_ (h:=l_ (h:=f_ (h:=l_ (h:=?_))))))
  refine al_p rfl (st_index (n := k) rfl rfl hk hrow ?_)
  refine f_ (h:=l_ (h:=a_ (h:=e_ (q_ (w_ (m_ (h:=n_ (h:=m_ (h:=e_ (aw_block (?_)))))))))))
  refine aw_loopW (fun m s => ∃ j : Nat, j ≤ d.nodes.length ∧ m = d.nodes.length - j ∧ (∀ i y, i < j → d.nodes[i]? = some y → (y.ino == a.2) = false) ∧ s = ⟨look [(3, .bp 1 0), (5, .sl 8 (d.nodes.map nodA) none), (26, .v (.int .i64 ((d.nodes.map nodA).length : Int))), (27, .v (.int .i64 (j : Int)))], ⟨[flsA f, filA a], []⟩⟩) (d.nodes.length) ((wk 2 0)) (⟨0, by omega, rfl, fun i y hi => by omega, rfl⟩) ?_
  rintro m s ⟨j, hj, rfl, ha, rfl⟩
  refine w_ (lt_ (h:=e_ (q_ (?_))))
  refine aw_cond rfl (fun hb3 => ?_) (fun hb3 => ?_)
  · have hc3 := bp hb3
    obtain ⟨hlt, n, hy, hrow2, -⟩ := row_at nodA hc3
    refine kt_ (q_ (aw_block (w_ (m_ (h:=a_ (h:=e_ (q_ (yr_ 8 (h:=dm_ 0 (h:=dm_ 1 (h:=di_ 2 (h:=df_ 3 (h:=dl_ 4 (h:=df_ 5 (h:=dl_ 6 (h:=deq_ 7 (h:=z_ (h:=t_ (?_)))))))))))))))))))
    refine aw_cond rfl (fun hb4 => ?_) (fun hb4 => ?_)
    · have hc4 := bp hb4
      refine w_ (m_ (h:=m_ (h:=i_ (h:=a_ (h:=e_ (aw_ret (x_blockR (x_thenR (x_thenR (x_blockR (x_thenR (?_))))))))))))
      refine e_ret ?_
      exact .inr ⟨n, by rw [nodeL_at hk hd]; exact find_at hy (by simpa using hc4) ha, rfl⟩
    have hc4 := bp hb4
    refine aw_skip (x_blockN (t_ (aw_region (ad_ (h:=m_ (h:=al_nil (?_)))))))
    refine x_then ?_
    refine ⟨_, _, ?_, ⟨j + 1, by omega, rfl, upto_snoc hy ha (by simpa using hc4), rfl⟩, (wk 2 0)⟩
    omega
  have hc3 := bp hb3
  have e := row_no nodA hj hc3
  subst e
  refine aw_exit (x_thenE (x_thenE (ABlock_out (t_ (w_ (a_ (h:=e_ (aw_ret (?_)))))))))
  refine e_ret ?_
  exact .inl ⟨by rw [nodeL_at hk hd]; exact find_no (fun i y hi hy => ha i y hi hy), rfl⟩

theorem PcopyEntry (e : Ent) : AFn Try.prog 97 [.agg (entA e)] (fun r => r = .agg (entA e)) := by
  refine enter Try.func97 rfl rfl rfl rfl rfl 0 rfl ?_
  refine w_ (b_ (h:=al_ (h:=e_ (w_ (l_ (h:=s_ (h:=e_ (aw_ret (?_)))))))))
  refine e_ret ?_
  rfl

end
end Go.Proofs.Ythcbdkmhamhciaa
namespace Go.Proofs.Ythcbdkmhamhciaa
open Go.RowKit

section
set_option maxRecDepth 10000
set_option maxHeartbeats 1000000
theorem PcopiedE (es : List Ent) (hes : es.length ≤ 1000) : AFn Try.prog 96 [.sl 2 (es.map entA) none, .fn 97 []] (fun r => r = .sl 2 (es.map entA) none) := by
  have hml : (es.map entA).length = es.length := by simp
  refine enter Try.func96 rfl rfl rfl rfl rfl 0 rfl ?_
  refine w_ (a_ (h:=e_ (q_ (w_ (m_ (h:=n_ (h:=eq_ (h:=e_ (?_)))))))))
  refine aw_cond rfl (fun hb1 => ?_) (fun hb1 => ?_)
  · have hc1 := bp hb1
    refine w_ (a_ (h:=e_ (aw_ret (x_thenR (?_)))))
    refine rt_ (r := .sl 2 (es.map entA) none) none (h5 := ?_) (h6 := ⟨rfl, rfl, rfl⟩)
    rw [show es = [] from List.eq_nil_of_length_eq_zero (by omega)]
    exact LeA.nil _
  have hc1 := bp hb1
  refine kt_ (w_ (m_ (h:=n_ (h:=ms_ (h:=a_ (h:=e_ (q_ (w_ (m_ (h:=n_ (h:=m_ (h:=e_ (aw_block (?_))))))))))))))
  refine aw_loopW (fun m s => ∃ j : Nat, j ≤ es.length ∧ m = es.length - j ∧ s = ⟨look [(1, .fn 97 []), (5, .sl 2 ((es.take j).map entA) (some 0)), (14, .sl 2 (es.map entA) none), (15, .v (.int .i64 ((es.map entA).length : Int))), (16, .v (.int .i64 (j : Int)))], ⟨[], [(101, 2, (es.take j).map entA)]⟩⟩) (es.length) ((wk 0 1)) (⟨0, by omega, rfl, rfl⟩) ?_
  rintro m s ⟨j, hj, rfl, rfl⟩
  refine w_ (lt_ (h:=e_ (q_ (?_))))
  refine aw_cond rfl (fun hb2 => ?_) (fun hb2 => ?_)
  · have hc2 := bp hb2
    obtain ⟨hlt, x, hy, hrow, e⟩ := row_at entA hc2
    refine kt_ (q_ (aw_block (w_ (i_ (h:=l_ (h:=al_ (h:=s_ (h:=e_ (aw_region (m_ (h:=m_ (h:=l_ (h:=?_)))))))))))))
    refine al_p rfl (st_callC (cy := []) (ys := [.agg (entA x)]) rfl (by repeat (first | exact Args.nil | refine Args.cons _ _ _ _ _ rfl (argOk_clean rfl) ?_ | refine Args.cons _ _ _ _ _ rfl (argOk_nil _) ?_ | refine Args.cons _ _ _ _ _ rfl (argOk_era _) ?_ | refine Args.cons _ _ _ _ _ rfl (argOk_le rfl (by repeat (first | exact LeA.refl _ | exact LeA.nil _ | exact LeL.refl _ | refine LeA.agg ?_ | refine LeA.tup ?_ | exact LeL.nil | refine LeL.cons ?_ ?_ | exact LeA.any _))) ?_)) rfl rfl (PcopyEntry x) ?_)
    rintro r rfl
    refine bs_ (h:=?_)
    first | refine al_p rfl (s_append rfl rfl rfl (by simp; omega) (by repeat constructor) ?_) | refine al_p rfl (s_append0 rfl rfl (by simp; omega) (by repeat constructor) ?_)
    refine a_ (h:=al_nil (x_blockN (t_ (aw_region (ad_ (h:=m_ (h:=al_nil (?_))))))))
    refine x_then ?_
    refine ⟨_, _, ?_, ⟨j + 1, by omega, rfl, rfl⟩, (by rw [e]; exact (wk 0 1))⟩
    omega
  have hc2 := bp hb2
  have e := row_no entA hj hc2
  subst e
  rw [List.take_length]
  refine aw_exit (x_thenE (x_thenE (ABlock_out (t_ (w_ (m_ (h:=a_ (h:=e_ (aw_ret (?_))))))))))
  refine e_ret ?_
  rfl

theorem PcopyNode (n : Nod) (hn : n.entries.length ≤ 1000) : AFn Try.prog 75 [.agg (nodA n)] (fun r => r = .agg (nodA n)) := by
  refine enter Try.func75 rfl rfl rfl rfl rfl 0 rfl ?_
  refine w_ (b_ (h:=al_ (h:=e_ (w_ (f_ (h:=l_ (h:=?_)))))))
  refine al_p rfl (q_call (PcopiedE n.entries hn) ?_)
  rintro r rfl
  refine f_ (h:=s_ (h:=e_ (w_ (l_ (h:=s_ (h:=e_ (aw_ret (?_))))))))
  refine e_ret ?_
  rfl

end
end Go.Proofs.Ythcbdkmhamhciaa
namespace Go.Proofs.Ythcbdkmhamhciaa
open Go.RowKit

section
variable {P : Program} {ev : Operand → Option AV} {h : AH} {R : AV → AH → Prop} {d : Option Tmp} {ty : TypeId} {pos : String} {af : Array Edge} {gd : Option (Nat × Bool)}
theorem st_eqPnil {T yT : TypeId} {x y : Operand} (hp : P.underlying T = some (.pointer (P.pointee T))) (hx : ev x = some (.v (.pointer none))) (hy : ev y = some (.v (.pointer none))) (hR : R (.v (.bool true)) h) : AStep P ⟨d, .binOp .eql T x y yT, ty, pos, af, gd⟩ ev h R :=
  st_bin hx hy (fun w => by simp [eqGuard, run_eql_pointer_nil (P := P) (w := w) T none hp]) hR
theorem st_eqPfp {T yT : TypeId} {x y : Operand} {row : List AV} (hp : P.underlying T = some (.pointer (P.pointee T))) (hx : ev x = some (.fp row)) (hy : ev y = some (.v (.pointer none))) (hR : R (.v (.bool false)) h) : AStep P ⟨d, .binOp .eql T x y yT, ty, pos, af, gd⟩ ev h R := by
  refine st_val (fun _ G w ec _ he => ?_) hR
  have h1 := he x (by simp [Op.operands]) _ hx
  have h2 := he y (by simp [Op.operands]) _ hy
  simp only [rep] at h1 h2
  obtain ⟨b, off, h3, _⟩ := h1
  refine ⟨.bool false, ?_, by simp only [rep]⟩
  simp [execOp, h2, h3, eqGuard, run_eql_pointer_nil (P := P) (w := w) T (some ⟨b, off, none⟩) hp]
end
section
set_option maxRecDepth 10000
set_option maxHeartbeats 1000000
theorem Pnode (f : Fls) (a : Fil) (hf : FlsB f) : AFn Try.prog 32 [.agg (flsA f), .agg (filA a)] (fun r => r = .tup [.agg (nodA (nodG f a)), .v (.bool (hasG f a))]) := by
  have hen := nodG_ents hf a
  refine enter Try.func32 rfl rfl rfl rfl rfl 0 rfl ?_
  refine w_ (b_ (h:=b_ (h:=al_ (h:=a_ (h:=e_ (w_ (l_ (h:=l_ (h:=?_)))))))))
  refine al_p rfl (q_call (Pfind f a hf) ?_)
  rintro r (⟨e, rfl⟩ | ⟨n, e, rfl⟩)
  · skip
    refine a_ (h:=e_ (q_ (w_ (m_ (h:=?_)))))
    first | refine al_p rfl (st_eqPnil (by kernel_rfl) rfl rfl ?_) | refine al_p rfl (st_eqPfp (by kernel_rfl) rfl rfl ?_)
    refine e_ (?_)
    refine aw_cond rfl (fun hb1 => ?_) (fun hb1 => ?_)
    · have hc1 := bp hb1
      refine w_ (bd_ (h:=s_ (h:=a_ (h:=e_ (aw_ret (x_thenR (?_)))))))
      refine rt_ (r := .tup [.agg (nodA (nodG f a)), .v (.bool (hasG f a))]) none (h5 := ?_) (h6 := ⟨rfl, rfl, rfl⟩)
      rw [show nodG f a = Nod.zero by simp [nodG, e], show hasG f a = false by simp [hasG, e]]
      exact (by repeat (first | exact LeA.refl _ | exact LeA.nil _ | exact LeL.refl _ | refine LeA.agg ?_ | refine LeA.tup ?_ | exact LeL.nil | refine LeL.cons ?_ ?_ | exact LeA.any _))
    have hc1 := bp hb1
    exfalso; first | contradiction | omega
  skip
  refine a_ (h:=e_ (q_ (w_ (m_ (h:=?_)))))
  first | refine al_p rfl (st_eqPnil (by kernel_rfl) rfl rfl ?_) | refine al_p rfl (st_eqPfp (by kernel_rfl) rfl rfl ?_)
  refine e_ (?_)
  refine aw_cond rfl (fun hb2 => ?_) (fun hb2 => ?_)
  · have hc2 := bp hb2
    exfalso; first | contradiction | omega
  have hc2 := bp hb2
  refine kt_ (w_ (m_ (h:=k_ (h:=l_ (h:=?_)))))
  refine al_p rfl (q_call (PcopyNode n (by simpa [nodG, e] using hen)) ?_)
  rintro r rfl
  refine s_ (h:=a_ (h:=e_ (aw_ret (?_))))
  refine e_ret ?_
  rw [show nodG f a = n by simp [nodG, e], show hasG f a = true by simp [hasG, e]]
  rfl

end
end Go.Proofs.Ythcbdkmhamhciaa
namespace Go.Proofs.Ythcbdkmhamhciaa
open Go.RowKit

def chgA (c : Chg) : List AV := [.v (.int .i64 c.1.1), .v (.int .i64 c.1.2), .v (.string c.2.1), .v (.int .i64 c.2.2.1.1), .v (.int .i64 c.2.2.1.2), .v (.int .i64 c.2.2.2.1), .v (.int .i64 c.2.2.2.2)]
section
set_option maxRecDepth 10000
set_option maxHeartbeats 1000000
theorem newL_bad {n : Int} (h : n < 1 ∨ 3 < n) : newL n = ([], 50) := by unfold newL; rw [if_pos h]
theorem newL_ok {k : Nat} (h1 : ¬ (k : Int) < 1) (h2 : ¬ 3 < (k : Int)) : newL (k : Int) = (List.replicate k rootDvc, 0) := by unfold newL; rw [if_neg (by omega)]; simp
end
end Go.Proofs.Ythcbdkmhamhciaa
namespace Go.Proofs.Ythcbdkmhamhciaa
open Go.RowKit

def devR (d : Dvc) (j cap1 : Nat) : List AV := [.v (.int .i64 d.next), .bs j 0 8 d.nodes.length cap1]
theorem dvcs_two (l : List Dvc) : ∀ r ∈ l.map dvcA, r.length = 2 := by
  intro r hr
  obtain ⟨d, _, rfl⟩ := List.mem_map.1 hr
  rfl
end Go.Proofs.Ythcbdkmhamhciaa
namespace Go.Proofs.Ythcbdkmhamhciaa.Old
open Go.RowKit

def few : Nat := 65536

theorem below_drewN {B : Nat} {a w : World} (h : Below B a w) (n : Nat) : Below B a (w.drewN n) := ⟨h.os, h.tape, h.output, h.size, h.block⟩


theorem ret_bool {a b : Bool} (h : a = b) : Ending.returned (.bool a) = .returned (.bool b) := by rw [h]
theorem below_a1 (w : World) (o1 : Obj) : Below w.heap.size w (w.alloc o1) := by
  exact (Below.refl _ w).alloc (Nat.le_refl _) _
theorem below_a2 (w : World) (o1 o2 : Obj) : Below w.heap.size w ((w.alloc o1).alloc o2) := by
  exact (below_a1 w o1).alloc (by simp <;> omega) _

end Go.Proofs.Ythcbdkmhamhciaa.Old
namespace Go.Proofs.Ythcbdkmhamhciaa
open Go.RowKit


def devB (f : Fls) (K : Nat) (d : Dvc) (j cap1 : Nat) : List (List AV) := (f.map dvcA).set K (devR d j cap1)
theorem devB_two (f : Fls) (K : Nat) (d : Dvc) (j cap1 : Nat) : ∀ r ∈ devB f K d j cap1, r.length = 2 := by
  intro r hr
  rcases List.mem_or_eq_of_mem_set hr with h | h
  · exact dvcs_two _ r h
  rw [h]; rfl
theorem devB_len (f : Fls) (K : Nat) (d : Dvc) (j cap1 : Nat) : (devB f K d j cap1).length = f.length := by simp [devB]
end Go.Proofs.Ythcbdkmhamhciaa
namespace Go.Proofs.Ythcbdkmhamhciaa
open Go.RowKit

theorem renL_map (f : Nat → Option Nat) : ∀ xs : List AV, renL f xs = xs.map (ren f)
  | [] => rfl
  | x :: xs => by simp [renL, renL_map f xs]
theorem renKL_map (f : Nat → Option Nat) : ∀ xs : List AV, renKL f xs = xs.map (renK f)
  | [] => rfl
  | x :: xs => by simp [renKL, renKL_map f xs]
theorem lowGL_map (g : Nat → Option (List AV)) : ∀ xs : List AV, lowGL g xs = xs.map (lowG g)
  | [] => rfl
  | x :: xs => by simp [lowGL, lowGL_map g xs]
theorem livL_map (n : Nat) (g : Nat → Option (List AV)) : ∀ xs : List AV, livL n g xs = xs.map (liv n g)
  | [] => rfl
  | x :: xs => by simp [livL, livL_map n g xs]
theorem rowsB_map (F : AV → AV) (h : F .any = .any) (sz cap : Nat) (rows : List (List AV)) : (rowsB sz cap rows).map F = rowsB sz cap (rows.map (·.map F)) := by
  simp [rowsB, h, List.map_flatten]
theorem bpLtL_all {n m : Nat} {xs : List AV} : bpLtL n m xs = true ↔ ∀ x ∈ xs, bpLt n m x = true := by
  induction xs with
  | nil => simp [bpLtL]
  | cons x xs ih => simp [bpLtL, ih]
theorem bpLt_rowsB {n m sz cap : Nat} {rows : List (List AV)} (h : ∀ r ∈ rows, bpLtL n m r = true) : bpLtL n m (rowsB sz cap rows) = true := by
  rw [bpLtL_all]
  intro x hx
  unfold rowsB at hx
  rcases List.mem_append.1 hx with hx | hx
  · obtain ⟨r, hr, hx⟩ := List.mem_flatten.1 hx
    exact bpLtL_all.1 (h r hr) x hx
  rw [(List.mem_replicate.1 hx).2]; rfl

def DB (f : Fls) (K : Nat) (d : Dvc) (j cap cap1 : Nat) : List AV := rowsB 2 cap (devB f K d j cap1)
theorem bp_DB {n m : Nat} {f : Fls} {K : Nat} {d : Dvc} {j cap cap1 : Nat} (hj : j < n) : bpLtL n m (DB f K d j cap cap1) = true := by
  refine bpLt_rowsB fun r hr => ?_
  rcases List.mem_or_eq_of_mem_set hr with h | h
  · obtain ⟨d', _, rfl⟩ := List.mem_map.1 h
    rfl
  rw [h]; simp [devR, bpLtL, bpLt, hj]
section
variable {F : AV → AV} (hany : F .any = .any) (hv : ∀ x, F (.v x) = .v x) (hs : ∀ sz rows, F (.sl sz rows none) = .sl sz rows none)
include hany hv hs
theorem map_dvcs (f : Fls) : (f.map dvcA).map (·.map F) = f.map dvcA := by
  have _ := hany
  rw [List.map_map]
  apply List.map_congr_left
  intro n _
  simp [dvcA, hv, hs]
theorem map_DB (f : Fls) (K : Nat) (d : Dvc) {j j' : Nat} (cap cap1 : Nat) (hb : F (.bs j 0 8 d.nodes.length cap1) = .bs j' 0 8 d.nodes.length cap1) : (DB f K d j cap cap1).map F = DB f K d j' cap cap1 := by
  unfold DB devB
  rw [rowsB_map F hany, List.map_set, map_dvcs hany hv hs]
  simp [devR, hv, hb]
end
theorem ren_DB {g : Nat → Option Nat} {j j' : Nat} (h : g j = some j') (f : Fls) (K : Nat) (d : Dvc) (cap cap1 : Nat) : renL g (DB f K d j cap cap1) = DB f K d j' cap cap1 := by
  rw [renL_map]
  exact map_DB rfl (fun _ => rfl) (fun _ _ => rfl) f K d cap cap1 (by simp [ren, h])
theorem renK_DB {g : Nat → Option Nat} {j j' : Nat} (h : g j = some j') (f : Fls) (K : Nat) (d : Dvc) (cap cap1 : Nat) : renKL g (DB f K d j cap cap1) = DB f K d j' cap cap1 := by
  rw [renKL_map]
  exact map_DB rfl (fun _ => rfl) (fun _ _ => rfl) f K d cap cap1 (by simp [renK, h])
theorem lowG_rows {g : Nat → Option (List AV)} {j sz n cap0 cap : Nat} {rows : List (List AV)} (hg : g j = some (rowsB sz cap rows)) (hr : ∀ r ∈ rows, r.length = sz) (hn : n = rows.length) (hc : rows.length ≤ cap) : lowG g (.bs j 0 sz n cap0) = .sl sz rows none := by
  subst hn
  have hl := rowsB_len hr hc
  have hb : Nat.ble (0 + rows.length * sz) (rowsB sz cap rows).length = true := by
    rw [hl, Nat.ble_eq]
    have := Nat.mul_le_mul_right sz hc
    omega
  simp only [lowG, hg, hb, List.drop_zero]
  unfold rowsB
  rw [chunk_flat hr]
theorem rowsB_get {sz cap : Nat} {rows : List (List AV)} {q k : Nat} {r : List AV} {x : AV} (hr : ∀ r ∈ rows, r.length = sz) (hq : rows[q]? = some r) (hx : r[k]? = some x) : (rowsB sz cap rows)[0 + q * sz + k]? = some x := by
  have hk : k < sz := by rw [← hr r (List.mem_of_getElem? hq)]; exact (List.getElem?_eq_some_iff.1 hx).1
  have e := flat_getT hr hk (q := q)
  rw [hq] at e
  simp only [Option.bind_some] at e
  rw [hx] at e
  unfold rowsB
  rw [Nat.zero_add, List.getElem?_append_left (List.getElem?_eq_some_iff.1 e).1]
  exact e
theorem rowsB_row {sz cap : Nat} {rows : List (List AV)} {q : Nat} {r : List AV} (hr : ∀ r ∈ rows, r.length = sz) (hq : rows[q]? = some r) : ((rowsB sz cap rows).drop (0 + q * sz)).take sz = r := by
  have hrl := hr r (List.mem_of_getElem? hq)
  apply List.ext_getElem?
  intro k
  rw [List.getElem?_take]
  split
  · rename_i hk
    rw [List.getElem?_drop]
    have hx : r[k]? = some r[k] := List.getElem?_eq_getElem (by omega)
    rw [rowsB_get hr hq hx, hx]
  rw [List.getElem?_eq_none (by omega)]
theorem rowsB_set {sz cap : Nat} {rows : List (List AV)} {q k : Nat} {r r' cs : List AV} (hr : ∀ r ∈ rows, r.length = sz) (hq : rows[q]? = some r) (hs : SetAt r k cs r') (hne : cs ≠ []) : SetAt (rowsB sz cap rows) (0 + q * sz + k) cs (rowsB sz cap (rows.set q r')) := by
  unfold rowsB
  rw [Nat.zero_add, List.length_set]
  exact (flat_set hr hq hs hne).left _
theorem devB_get {f : Fls} {K : Nat} {d : Dvc} {j cap1 : Nat} (hK : K < f.length) : (devB f K d j cap1)[K]? = some (devR d j cap1) := by
  unfold devB
  rw [List.getElem?_set_self (by simpa using hK)]
theorem DB_nodes {f : Fls} {K : Nat} {d : Dvc} {j cap cap1 : Nat} (hK : K < f.length) : (DB f K d j cap cap1)[0 + K * 2 + 1]? = some (.bs j 0 8 d.nodes.length cap1) := rowsB_get (devB_two _ _ _ _ _) (devB_get hK) rfl
theorem DB_next {f : Fls} {K : Nat} {d : Dvc} {j cap cap1 : Nat} (hK : K < f.length) : (DB f K d j cap cap1)[0 + K * 2 + 0]? = some (.v (.int .i64 d.next)) := rowsB_get (devB_two _ _ _ _ _) (devB_get hK) rfl
theorem DB_set {f : Fls} {K : Nat} {d d' : Dvc} {j j' cap cap1 cap1' k : Nat} {cs : List AV} (hK : K < f.length) (hs : SetAt (devR d j cap1) k cs (devR d' j' cap1')) (hne : cs ≠ []) : SetAt (DB f K d j cap cap1) (0 + K * 2 + k) cs (DB f K d' j' cap cap1') := by
  have key := rowsB_set (cap := cap) (devB_two f K d j cap1) (devB_get hK) hs hne
  unfold devB at key
  rw [List.set_set] at key
  exact key
section
variable {P : Program} {ev : Operand → Option AV} {h : AH} {R : AV → AH → Prop} {d : Option Tmp} {ty : TypeId} {pos : String} {af : Array Edge} {gd : Option (Nat × Bool)}
theorem st_loadBE {T : TypeId} {x : Operand} {sz i o : Nat} {row cs : List AV} [ht : Typ P T sz true] (hx : ev x = some (.bp i o)) (hb : h.bx[i]? = some row) (hr : o + sz ≤ row.length) (he : (row.drop o).take sz = cs) (hR : R (.agg cs) h) : AStep P ⟨d, .load T x, ty, pos, af, gd⟩ ev h R := by
  subst he
  exact st_loadBN hx hb (by rw [Nat.ble_eq]; exact hr) hR
end
end Go.Proofs.Ythcbdkmhamhciaa
namespace Go.Proofs.Ythcbdkmhamhciaa
open Go.RowKit

theorem src1 {h : AH} {sz : Nat} {r : List AV} {tok : Option Nat} : SrcA h sz (.sl sz [r] tok) 1 r := by
  have := SrcA.sl (h := h) (sz := sz) [r] tok
  simpa using this
end Go.Proofs.Ythcbdkmhamhciaa
namespace Go.Proofs.Ythcbdkmhamhciaa

theorem bl_irr : ∀ x : List UInt8, Op.bytesLess x x = false
  | [] => rfl
  | a :: x => by simp [Op.bytesLess, bl_irr x]
theorem bl_trans : ∀ x y z : List UInt8, Op.bytesLess x y = true → Op.bytesLess y z = true → Op.bytesLess x z = true
  | _, [], _, h, _ => by cases ‹List UInt8› <;> simp [Op.bytesLess] at h
  | _, _ :: _, [], _, h => by simp [Op.bytesLess] at h
  | [], _ :: _, _ :: _, _, _ => rfl
  | a :: x, b :: y, c :: z, h, k => by
    simp only [Op.bytesLess, Bool.or_eq_true, Bool.and_eq_true, decide_eq_true_iff, beq_iff_eq] at h k ⊢
    rcases h with h | ⟨rfl, h⟩
    · rcases k with k | ⟨rfl, k⟩
      · exact .inl (UInt8.lt_trans h k)
      exact .inl h
    rcases k with k | ⟨rfl, k⟩
    · exact .inl k
    exact .inr ⟨rfl, bl_trans x y z h k⟩
theorem bl_tri : ∀ x y : List UInt8, Op.bytesLess x y = false → x ≠ y → Op.bytesLess y x = true
  | [], [], _, h => absurd rfl h
  | [], _ :: _, h, _ => by simp [Op.bytesLess] at h
  | _ :: _, [], _, _ => rfl
  | a :: x, b :: y, h, k => by
    simp only [Op.bytesLess, Bool.or_eq_false_iff, decide_eq_false_iff_not, Bool.and_eq_false_iff, beq_eq_false_iff_ne] at h
    simp only [Op.bytesLess, Bool.or_eq_true, Bool.and_eq_true, decide_eq_true_iff, beq_iff_eq]
    by_cases e : a = b
    · subst e
      right
      refine ⟨rfl, bl_tri x y ?_ (fun e => k (by rw [e]))⟩
      rcases h.2 with h | h
      · exact absurd rfl h
      exact h
    left
    have h1 : ¬ a.toNat < b.toNat := h.1
    have h2 : a.toNat ≠ b.toNat := fun e' => e (UInt8.toNat_inj.1 e')
    show b.toNat < a.toNat
    omega
theorem lt_irr (a : Str) : strLt a a = false := bl_irr _
theorem lt_trans' {a b c : Str} (h : strLt a b = true) (k : strLt b c = true) : strLt a c = true := bl_trans _ _ _ h k
theorem lt_tri {a b : Str} (h : strLt a b = false) (k : a ≠ b) : strLt b a = true := by
  refine bl_tri _ _ h fun e => k ?_
  have := str_eq a b
  rw [e] at this
  simpa using this
theorem lt_ne {a b : Str} (h : strLt a b = true) : a ≠ b := by rintro rfl; rw [lt_irr] at h; cases h

def Sorted (es : List Ent) : Prop := es.Pairwise fun a b => strLt a.1 b.1 = true
def without (name : Str) (es : List Ent) : List Ent := es.filter fun e => decide (e.1 ≠ name)
theorem entGo_done (name : Str) (ino : Int) : ∀ es : List Ent, entGo name ino true es = without name es
  | [] => rfl
  | e :: r => by
    unfold entGo
    simp only [Bool.not_true, Bool.false_and, Bool.true_or]
    rw [entGo_done name ino r]
    unfold without
    rw [List.filter_cons]
    by_cases h : e.1 = name <;> simp [h]
theorem entL_zero (es : List Ent) (name : Str) : entL es name 0 = without name es := entGo_done name 0 es
theorem entGo_perm (name : Str) (ino : Int) : ∀ es : List Ent, (entGo name ino false es).Perm ((name, ino) :: without name es)
  | [] => by simp [entGo, without]
  | e :: r => by
    unfold entGo
    simp only [Bool.not_false, Bool.true_and, Bool.false_or]
    cases hlt : strLt e.1 name with
    | false =>
      simp only [Bool.not_false, if_true]
      rw [entGo_done name ino r]
      unfold without
      rw [List.filter_cons]
      by_cases h : e.1 = name <;> simp [h]
    | true =>
      have hne := lt_ne hlt
      have ih := entGo_perm name ino r
      unfold without at ih ⊢
      rw [List.filter_cons]
      simp only [Bool.not_true, Bool.false_eq_true, if_false, List.nil_append, hne, ne_eq, not_false_eq_true, decide_true, if_true]
      exact (List.Perm.cons e ih).trans (List.Perm.swap _ _ _)
theorem entL_perm (es : List Ent) (name : Str) {ino : Int} (h : ino ≠ 0) : (entL es name ino).Perm ((name, ino) :: without name es) := by
  unfold entL
  rw [show (ino == 0) = false by simpa using h]
  exact entGo_perm name ino es
theorem sorted_without {es : List Ent} (h : Sorted es) (name : Str) : Sorted (without name es) := List.Pairwise.filter _ h
theorem entGo_sorted (name : Str) (ino : Int) : ∀ es : List Ent, Sorted es → Sorted (entGo name ino false es)
  | [], _ => by simp [entGo, Sorted]
  | e :: r, h => by
    obtain ⟨h1, h2⟩ := List.pairwise_cons.1 h
    unfold entGo
    simp only [Bool.not_false, Bool.true_and, Bool.false_or]
    cases hlt : strLt e.1 name with
    | false =>
      simp only [Bool.not_false, if_true]
      rw [entGo_done name ino r]
      have hr : ∀ x ∈ without name r, strLt name x.1 = true := fun x hx => by
        obtain ⟨hx1, _⟩ := List.mem_filter.1 hx
        have h3 := h1 x hx1
        by_cases he : e.1 = name
        · rw [← he]; exact h3
        exact lt_trans' (lt_tri hlt he) h3
      by_cases he : e.1 = name
      · simp only [he, if_true, List.nil_append, List.cons_append]
        exact List.pairwise_cons.2 ⟨hr, sorted_without h2 name⟩
      simp only [he, if_false, List.cons_append, List.nil_append]
      refine List.pairwise_cons.2 ⟨?_, List.pairwise_cons.2 ⟨fun x hx => h1 x (List.mem_filter.1 hx).1, sorted_without h2 name⟩⟩
      intro x hx
      rcases List.mem_cons.1 hx with rfl | hx
      · exact lt_tri hlt he
      exact hr x hx
    | true =>
      have hne := lt_ne hlt
      simp only [Bool.not_true, Bool.false_eq_true, if_false, List.nil_append, hne, List.cons_append]
      refine List.pairwise_cons.2 ⟨fun x hx => ?_, entGo_sorted name ino r h2⟩
      have hx' := (entGo_perm name ino r).mem_iff.1 hx
      rcases List.mem_cons.1 hx' with rfl | hx'
      · exact hlt
      exact h1 x (List.mem_filter.1 hx').1
theorem entL_sorted {es : List Ent} (h : Sorted es) (name : Str) (ino : Int) : Sorted (entL es name ino) := by
  unfold entL
  cases (ino == 0) with
  | true => rw [entGo_done]; exact sorted_without h name
  | false => exact entGo_sorted name ino es h
def entF (es : List Ent) (name : Str) : Option Ent := es.find? fun e : Ent => decide (e.1 = name)
theorem entF_some {es : List Ent} {name : Str} {e : Ent} (h : entF es name = some e) : e ∈ es ∧ e.1 = name := by
  have h1 := List.find?_some h
  exact ⟨List.mem_of_find?_eq_some h, by simpa using h1⟩
theorem entF_none {es : List Ent} {name : Str} (h : entF es name = none) : ∀ e ∈ es, e.1 ≠ name := fun e he => by
  have := List.find?_eq_none.1 h e he
  simpa using this
theorem without_none {es : List Ent} {name : Str} (h : entF es name = none) : without name es = es := by
  unfold without
  rw [List.filter_eq_self]
  intro e he
  simpa using entF_none h e he
theorem without_some {es : List Ent} (hs : Sorted es) {name : Str} {e : Ent} (h : entF es name = some e) : es.Perm (e :: without name es) := by
  induction es with
  | nil => simp [entF] at h
  | cons x r ih =>
    obtain ⟨h1, h2⟩ := List.pairwise_cons.1 hs
    unfold entF at h
    rw [List.find?_cons] at h
    unfold without
    rw [List.filter_cons]
    by_cases hx : x.1 = name
    · simp only [hx, decide_true, Option.some.injEq] at h
      subst h
      have : r.filter (fun e => decide (e.1 ≠ name)) = r := by
        rw [List.filter_eq_self]
        intro y hy
        have := lt_ne (h1 y hy)
        simp only [ne_eq, decide_not, Bool.not_eq_true', decide_eq_false_iff_not]
        rw [← hx]
        exact fun e => this e.symm
      rw [this]
      simp [hx]
    simp only [hx, decide_false] at h
    have := ih h2 h
    simp only [ne_eq, hx, not_false_eq_true, decide_true, if_true]
    exact (List.Perm.cons x this).trans (List.Perm.swap _ _ _)

theorem cntE_perm {i : Int} {a b : List Ent} (h : a.Perm b) : cntE i a = cntE i b := h.countP_eq _
theorem cntE_cons (i : Int) (e : Ent) (es : List Ent) : cntE i (e :: es) = cntE i es + (if e.2 = i then 1 else 0) := by
  unfold cntE
  rw [List.countP_cons]
  by_cases h : e.2 = i <;> simp [h]
theorem cntE_pos {i : Int} {es : List Ent} : 0 < cntE i es ↔ ∃ e ∈ es, e.2 = i := by
  unfold cntE
  rw [List.countP_pos_iff]
  simp
theorem cntN_pos {i : Int} {ns : List Nod} : 0 < cntN i ns ↔ ∃ n ∈ ns, ∃ e ∈ n.entries, e.2 = i := by
  unfold cntN
  rw [cntE_pos]
  constructor
  · rintro ⟨e, he, h⟩
    obtain ⟨n, hn, he⟩ := List.mem_flatMap.1 he
    exact ⟨n, hn, e, he, h⟩
  rintro ⟨n, hn, e, he, h⟩
  exact ⟨e, List.mem_flatMap.2 ⟨n, hn, he⟩, h⟩
theorem cntN_append (i : Int) (a b : List Nod) : cntN i (a ++ b) = cntN i a + cntN i b := by
  unfold cntN cntE
  rw [List.flatMap_append, List.countP_append]
theorem cntN_cons (i : Int) (n : Nod) (b : List Nod) : cntN i (n :: b) = cntE i n.entries + cntN i b := by
  unfold cntN cntE
  rw [List.flatMap_cons, List.countP_append]

def updI (ns : List Nod) (ino : Int) (g : Nod → Nod) : List Nod := ns.map fun n => if n.ino = ino then g n else n
def Asc (ns : List Nod) : Prop := ns.Pairwise fun a b => a.ino < b.ino
theorem asc_eq {ns : List Nod} (h : Asc ns) {a b : Nod} (ha : a ∈ ns) (hb : b ∈ ns) (e : a.ino = b.ino) : a = b := by
  induction ns with
  | nil => cases ha
  | cons x r ih =>
    obtain ⟨h1, h2⟩ := List.pairwise_cons.1 h
    rcases List.mem_cons.1 ha with rfl | ha
    · rcases List.mem_cons.1 hb with rfl | hb
      · rfl
      have := h1 b hb; omega
    rcases List.mem_cons.1 hb with hb | hb
    · subst hb; have := h1 a (by assumption); omega
    exact ih h2 (by assumption) hb
theorem asc_split {ns : List Nod} (h : Asc ns) {n : Nod} (hn : n ∈ ns) : ∃ A B, ns = A ++ n :: B ∧ (∀ m ∈ A, m.ino ≠ n.ino) ∧ ∀ m ∈ B, m.ino ≠ n.ino := by
  obtain ⟨A, B, rfl⟩ := List.append_of_mem hn
  obtain ⟨h1, h2, h3⟩ := List.pairwise_append.1 h
  obtain ⟨h4, _⟩ := List.pairwise_cons.1 h2
  exact ⟨A, B, rfl, fun m hm => by have := h3 m hm n (by simp); omega, fun m hm => by have := h4 m hm; omega⟩
theorem updI_split {A B : List Nod} {n : Nod} (hA : ∀ m ∈ A, m.ino ≠ n.ino) (hB : ∀ m ∈ B, m.ino ≠ n.ino) (g : Nod → Nod) : updI (A ++ n :: B) n.ino g = A ++ g n :: B := by
  unfold updI
  rw [List.map_append, List.map_cons, if_pos rfl]
  congr 1
  · rw [List.map_congr_left (g := id) fun m hm => by simp [hA m hm]]; simp
  congr 1
  rw [List.map_congr_left (g := id) fun m hm => by simp [hB m hm]]; simp
theorem mem_updI {ns : List Nod} {ino : Int} {g : Nod → Nod} {m : Nod} : m ∈ updI ns ino g ↔ ∃ n ∈ ns, m = if n.ino = ino then g n else n := by
  unfold updI
  rw [List.mem_map]
  constructor
  · rintro ⟨n, hn, rfl⟩; exact ⟨n, hn, rfl⟩
  rintro ⟨n, hn, rfl⟩; exact ⟨n, hn, rfl⟩
theorem updI_inos {ns : List Nod} {ino : Int} {g : Nod → Nod} (hg : ∀ n, (g n).ino = n.ino) : (updI ns ino g).map (·.ino) = ns.map (·.ino) := by
  unfold updI
  rw [List.map_map]
  apply List.map_congr_left
  intro n _
  simp only [Function.comp]
  split
  · exact hg n
  rfl
theorem asc_inos {ns : List Nod} : Asc ns ↔ (ns.map (·.ino)).Pairwise (· < ·) := by
  unfold Asc
  rw [List.pairwise_map]
theorem asc_updI {ns : List Nod} (h : Asc ns) (ino : Int) {g : Nod → Nod} (hg : ∀ n, (g n).ino = n.ino) : Asc (updI ns ino g) := by
  rw [asc_inos] at h ⊢
  rw [updI_inos hg]
  exact h
theorem cntN_updI {ns : List Nod} (h : Asc ns) {n : Nod} (hn : n ∈ ns) (g : Nod → Nod) (i : Int) : cntN i (updI ns n.ino g) + cntE i n.entries = cntN i ns + cntE i (g n).entries := by
  obtain ⟨A, B, rfl, hA, hB⟩ := asc_split h hn
  rw [updI_split hA hB]
  simp only [cntN_append, cntN_cons]
  omega
end Go.Proofs.Ythcbdkmhamhciaa
namespace Go.Proofs.Ythcbdkmhamhciaa

structure VD (d : Dvc) : Prop where
  len : d.nodes.length ≤ 16
  next2 : 2 ≤ d.next
  nextM : d.next ≤ 1073741824
  root : ∃ r rest, d.nodes = r :: rest ∧ r.ino = 1 ∧ r.kind = 2 ∧ r.parent = 1
  asc : Asc d.nodes
  lt : ∀ n ∈ d.nodes, n.ino < d.next
  plain : ∀ n ∈ d.nodes, plainL n = true
  leaf : ∀ n ∈ d.nodes, n.kind ≠ 2 → n.parent = 0 ∧ n.entries = []
  many : ∀ n ∈ d.nodes, n.entries.length ≤ 12
  sorted : ∀ n ∈ d.nodes, Sorted n.entries
  ent : ∀ n ∈ d.nodes, ∀ e ∈ n.entries, nameL e.1 = true ∧ e.2 ≠ 1 ∧ ∃ m ∈ d.nodes, m.ino = e.2
  link : ∀ n ∈ d.nodes, n.ino ≠ 1 → 0 < cntN n.ino d.nodes
  one : ∀ n ∈ d.nodes, n.ino ≠ 1 → n.kind = 2 → cntN n.ino d.nodes = 1
  par : ∀ n ∈ d.nodes, n.ino ≠ 1 → n.kind = 2 → ∃ p ∈ d.nodes, p.ino = n.parent ∧ ∃ e ∈ p.entries, e.2 = n.ino
  rank : ∃ rk : Int → Nat, ∀ n ∈ d.nodes, n.ino ≠ 1 → n.kind = 2 → rk n.parent < rk n.ino

theorem VD.pos {d : Dvc} (h : VD d) {n : Nod} (hn : n ∈ d.nodes) : 1 ≤ n.ino := by
  obtain ⟨r, rest, hr, h1, _⟩ := h.root
  have ha := h.asc
  rw [hr] at hn ha
  rcases List.mem_cons.1 hn with rfl | hn
  · omega
  have := (List.pairwise_cons.1 ha).1 n hn
  omega
theorem VD.rootMem {d : Dvc} (h : VD d) : ∃ r ∈ d.nodes, r.ino = 1 ∧ r.kind = 2 ∧ r.parent = 1 := by
  obtain ⟨r, rest, hr, h1, h2, h3⟩ := h.root
  exact ⟨r, by rw [hr]; simp, h1, h2, h3⟩
theorem VD.isRoot {d : Dvc} (h : VD d) {n : Nod} (hn : n ∈ d.nodes) (h1 : n.ino = 1) : n.kind = 2 ∧ n.parent = 1 := by
  obtain ⟨r, hr, h2, h3, h4⟩ := h.rootMem
  obtain rfl := asc_eq h.asc hn hr (by omega)
  exact ⟨h3, h4⟩
theorem VD.dirOf {d : Dvc} (h : VD d) {n : Nod} (hn : n ∈ d.nodes) {e : Ent} (he : e ∈ n.entries) : n.kind = 2 := by
  apply Classical.byContradiction
  intro hk
  rw [(h.leaf n hn hk).2] at he
  cases he

def putE (name : Str) (ino : Int) (n : Nod) : Nod := { n with entries := entL n.entries name ino }
def entD (ns : List Nod) (p : Int) (name : Str) (ino : Int) : List Nod := updI ns p (putE name ino)
structure AsWas (p : Int) (name : Str) (to_ : Int) (n m : Nod) : Prop where
  ino : m.ino = n.ino
  kind : m.kind = n.kind
  parent : m.parent = n.parent
  plain : plainL m = plainL n
  ents : m.entries = if n.ino = p then entL n.entries name to_ else n.entries
theorem asWas (p : Int) (name : Str) (ino : Int) (n : Nod) : AsWas p name ino n (if n.ino = p then putE name ino n else n) := by
  by_cases h : n.ino = p
  · simp only [h, if_true]
    exact ⟨h ▸ rfl, rfl, rfl, rfl, by simp [h, putE]⟩
  simp only [h, if_false]
  exact ⟨rfl, rfl, rfl, rfl, by simp [h]⟩
theorem mem_entD {ns : List Nod} {p : Int} {name : Str} {ino : Int} {m : Nod} (h : m ∈ entD ns p name ino) : ∃ n ∈ ns, AsWas p name ino n m := by
  obtain ⟨n, hn, rfl⟩ := mem_updI.1 h
  exact ⟨n, hn, asWas p name ino n⟩
theorem to_entD {ns : List Nod} (p : Int) (name : Str) (ino : Int) {n : Nod} (h : n ∈ ns) : ∃ m ∈ entD ns p name ino, AsWas p name ino n m := ⟨_, mem_updI.2 ⟨n, h, rfl⟩, asWas p name ino n⟩
theorem entD_asc {ns : List Nod} (h : Asc ns) (p : Int) (name : Str) (ino : Int) : Asc (entD ns p name ino) := asc_updI h p fun _ => rfl
theorem entD_len (ns : List Nod) (p : Int) (name : Str) (ino : Int) : (entD ns p name ino).length = ns.length := by simp [entD, updI]
theorem entD_cnt {ns : List Nod} (h : Asc ns) {n0 : Nod} (hn : n0 ∈ ns) (name : Str) (ino i : Int) : cntN i (entD ns n0.ino name ino) + cntE i n0.entries = cntN i ns + cntE i (entL n0.entries name ino) := cntN_updI h hn (putE name ino) i
theorem entD_root {ns : List Nod} (p : Int) (name : Str) (ino : Int) (h : ∃ r rest, ns = r :: rest ∧ r.ino = 1 ∧ r.kind = 2 ∧ r.parent = 1) : ∃ r rest, entD ns p name ino = r :: rest ∧ r.ino = 1 ∧ r.kind = 2 ∧ r.parent = 1 := by
  obtain ⟨r, rest, rfl, h1, h2, h3⟩ := h
  have := asWas p name ino r
  exact ⟨_, _, rfl, this.ino.trans h1, this.kind.trans h2, this.parent.trans h3⟩
def b1 (p : Prop) [Decidable p] : Nat := if p then 1 else 0
theorem cnt_put0 {es : List Ent} (hs : Sorted es) {name : Str} {e : Ent} (h : entF es name = some e) (i : Int) : cntE i (entL es name 0) + b1 (e.2 = i) = cntE i es := by
  rw [entL_zero, cntE_perm (without_some hs h), cntE_cons]; rfl
theorem cnt_putN {es : List Ent} {name : Str} (h : entF es name = none) {ino : Int} (h0 : ino ≠ 0) (i : Int) : cntE i (entL es name ino) = cntE i es + b1 (ino = i) := by
  rw [cntE_perm (entL_perm es name h0), cntE_cons, without_none h]; rfl
theorem mem_entL {es : List Ent} {name : Str} {ino : Int} {e : Ent} (h : e ∈ entL es name ino) : e ∈ es ∨ (e = (name, ino) ∧ ino ≠ 0) := by
  by_cases h0 : ino = 0
  · subst h0
    rw [entL_zero] at h
    exact .inl (List.mem_filter.1 h).1
  rcases List.mem_cons.1 ((entL_perm es name h0).mem_iff.1 h) with h | h
  · exact .inr ⟨h, h0⟩
  exact .inl (List.mem_filter.1 h).1
theorem mem_entL_old {es : List Ent} {name : Str} {ino : Int} {e : Ent} (h : e ∈ es) (hn : e.1 ≠ name) : e ∈ entL es name ino := by
  have hw : e ∈ without name es := List.mem_filter.2 ⟨h, by simpa using hn⟩
  by_cases h0 : ino = 0
  · subst h0
    rw [entL_zero]
    exact hw
  exact (entL_perm es name h0).mem_iff.2 (List.mem_cons_of_mem _ hw)
theorem mem_entL_new {es : List Ent} {name : Str} {ino : Int} (h0 : ino ≠ 0) : (name, ino) ∈ entL es name ino := (entL_perm es name h0).mem_iff.2 (by simp)
theorem b1_t {p : Prop} [Decidable p] (h : p) : b1 p = 1 := if_pos h
theorem b1_f {p : Prop} [Decidable p] (h : ¬ p) : b1 p = 0 := if_neg h

theorem VD.cnt_next {d : Dvc} (h : VD d) {i : Int} (hi : d.next ≤ i) : cntN i d.nodes = 0 := by
  apply Classical.byContradiction
  intro hc
  obtain ⟨n, hn, e, he, rfl⟩ := cntN_pos.1 (Nat.pos_of_ne_zero hc)
  obtain ⟨m, hm, e2⟩ := (h.ent n hn e he).2.2
  have := h.lt m hm
  omega

theorem VD.make {d : Dvc} (h : VD d) {n0 : Nod} (hn0 : n0 ∈ d.nodes) (hk : n0.kind = 2) {name : Str} (hname : nameL name = true) (hnew : entF n0.entries name = none) {n : Nod} (hp : plainL n = true) (hlen : d.nodes.length < 16) (hnx : d.next < 1073741824) (hfull : n0.entries.length < 12) :
    VD ⟨d.next + 1, entD d.nodes n0.ino name d.next ++ [mkNod n d.next n0.ino]⟩ := by
  have hnext0 : d.next ≠ 0 := by have := h.next2; omega
  have hcnt : ∀ i, cntN i (entD d.nodes n0.ino name d.next ++ [mkNod n d.next n0.ino]) = cntN i d.nodes + b1 (d.next = i) := by
    intro i
    have h1 := entD_cnt h.asc hn0 name d.next i
    rw [cnt_putN hnew hnext0] at h1
    rw [cntN_append, cntN_cons]
    have h2 : cntE i (mkNod n d.next n0.ino).entries = 0 := rfl
    have h3 : cntN i [] = 0 := rfl
    omega
  have hmem : ∀ m, m ∈ entD d.nodes n0.ino name d.next ++ [mkNod n d.next n0.ino] → (∃ n' ∈ d.nodes, AsWas n0.ino name d.next n' m) ∨ m = mkNod n d.next n0.ino := by
    intro m hm
    rcases List.mem_append.1 hm with hm | hm
    · exact .inl (mem_entD hm)
    exact .inr (by simpa using hm)
  have hto : ∀ n' ∈ d.nodes, ∃ m ∈ entD d.nodes n0.ino name d.next ++ [mkNod n d.next n0.ino], AsWas n0.ino name d.next n' m := fun n' hn' => by
    obtain ⟨m, hm, hw⟩ := to_entD n0.ino name d.next hn'
    exact ⟨m, List.mem_append_left _ hm, hw⟩
  have hold : ∀ {n' m : Nod} {e : Ent}, AsWas n0.ino name d.next n' m → n' ∈ d.nodes → e ∈ n'.entries → e ∈ m.entries := by
    intro n' m e hw hn' he
    rw [hw.ents]
    split
    · rename_i heq
      obtain rfl := asc_eq h.asc hn' hn0 heq
      exact mem_entL_old he (entF_none hnew e he)
    exact he
  refine ⟨?_, ?_, ?_, ?_, ?_, ?_, ?_, ?_, ?_, ?_, ?_, ?_, ?_, ?_, ?_⟩
  · show (entD d.nodes n0.ino name d.next ++ [mkNod n d.next n0.ino]).length ≤ 16
    rw [List.length_append, entD_len]
    simp
    omega
  · show 2 ≤ d.next + 1
    have := h.next2; omega
  · show d.next + 1 ≤ 1073741824
    omega
  · obtain ⟨r, rest, hr, h1⟩ := entD_root n0.ino name d.next h.root
    exact ⟨r, rest ++ [mkNod n d.next n0.ino], by show _ ++ _ = _; rw [hr]; rfl, h1⟩
  · refine List.pairwise_append.2 ⟨entD_asc h.asc _ _ _, by simp, fun a ha b hb => ?_⟩
    obtain ⟨n', hn', hw⟩ := mem_entD ha
    simp at hb
    subst hb
    have := h.lt n' hn'
    rw [hw.ino]
    exact this
  · intro m hm
    show m.ino < d.next + 1
    rcases hmem m hm with ⟨n', hn', hw⟩ | rfl
    · have := h.lt n' hn'; rw [hw.ino]; omega
    show d.next < d.next + 1; omega
  · intro m hm
    rcases hmem m hm with ⟨n', hn', hw⟩ | rfl
    · rw [hw.plain]; exact h.plain n' hn'
    exact hp
  · intro m hm hk'
    rcases hmem m hm with ⟨n', hn', hw⟩ | rfl
    · rw [hw.kind] at hk'
      obtain ⟨h1, h2⟩ := h.leaf n' hn' hk'
      refine ⟨hw.parent.trans h1, ?_⟩
      rw [hw.ents, if_neg, h2]
      intro e
      obtain rfl := asc_eq h.asc hn' hn0 e
      exact hk' hk
    exact ⟨if_neg hk', rfl⟩
  · intro m hm
    rcases hmem m hm with ⟨n', hn', hw⟩ | rfl
    · rw [hw.ents]
      split
      · rename_i heq
        obtain rfl := asc_eq h.asc hn' hn0 heq
        rw [(entL_perm _ name hnext0).length_eq, List.length_cons, without_none hnew]
        omega
      exact h.many n' hn'
    exact Nat.zero_le _
  · intro m hm
    rcases hmem m hm with ⟨n', hn', hw⟩ | rfl
    · rw [hw.ents]
      split
      · exact entL_sorted (h.sorted n' hn') _ _
      exact h.sorted n' hn'
    exact List.Pairwise.nil
  · intro m hm e he
    rcases hmem m hm with ⟨n', hn', hw⟩ | rfl
    · have key : (e ∈ n'.entries) ∨ e = (name, d.next) := by
        rw [hw.ents] at he
        split at he
        · rcases mem_entL he with h1 | h1
          · exact .inl h1
          exact .inr h1.1
        exact .inl he
      rcases key with h1 | rfl
      · obtain ⟨k1, k2, q, hq, k3⟩ := h.ent n' hn' e h1
        obtain ⟨m', hm', hw'⟩ := hto q hq
        exact ⟨k1, k2, m', hm', hw'.ino.trans k3⟩
      exact ⟨hname, by show d.next ≠ 1; have := h.next2; omega, mkNod n d.next n0.ino, by simp, rfl⟩
    cases he
  · intro m hm h1
    rw [hcnt]
    rcases hmem m hm with ⟨n', hn', hw⟩ | rfl
    · have := h.link n' hn' (by rw [← hw.ino]; exact h1)
      rw [hw.ino]
      omega
    have : b1 (d.next = (mkNod n d.next n0.ino).ino) = 1 := b1_t rfl
    omega
  · intro m hm h1 h2
    rw [hcnt]
    rcases hmem m hm with ⟨n', hn', hw⟩ | rfl
    · have := h.one n' hn' (by rw [← hw.ino]; exact h1) (by rw [← hw.kind]; exact h2)
      rw [hw.ino, this, b1_f (by have := h.lt n' hn'; omega)]
    have e1 : b1 (d.next = (mkNod n d.next n0.ino).ino) = 1 := b1_t rfl
    have e2 : cntN (mkNod n d.next n0.ino).ino d.nodes = 0 := h.cnt_next (Int.le_refl _)
    omega
  · intro m hm h1 h2
    rcases hmem m hm with ⟨n', hn', hw⟩ | rfl
    · obtain ⟨p, hp', k1, e, he, k2⟩ := h.par n' hn' (by rw [← hw.ino]; exact h1) (by rw [← hw.kind]; exact h2)
      obtain ⟨q, hq, hwq⟩ := hto p hp'
      exact ⟨q, hq, by rw [hwq.ino, hw.parent]; exact k1, e, hold hwq hp' he, by rw [hw.ino]; exact k2⟩
    obtain ⟨q, hq, hwq⟩ := hto n0 hn0
    refine ⟨q, hq, ?_, (name, d.next), ?_, rfl⟩
    · rw [hwq.ino]
      exact (if_pos h2).symm
    rw [hwq.ents, if_pos rfl]
    exact mem_entL_new hnext0
  obtain ⟨rk, hrk⟩ := h.rank
  refine ⟨fun i => if i = d.next then rk n0.ino + 1 else rk i, ?_⟩
  intro m hm h1 h2
  rcases hmem m hm with ⟨n', hn', hw⟩ | rfl
  · have hlt := h.lt n' hn'
    have h1' : n'.ino ≠ 1 := by rw [← hw.ino]; exact h1
    have h2' : n'.kind = 2 := by rw [← hw.kind]; exact h2
    obtain ⟨p, hp', k1, _⟩ := h.par n' hn' h1' h2'
    have hlp := h.lt p hp'
    simp only
    rw [hw.ino, hw.parent, if_neg (by omega), if_neg (by omega)]
    exact hrk n' hn' h1' h2'
  have e1 : (mkNod n d.next n0.ino).parent = n0.ino := if_pos h2
  have e2 : (mkNod n d.next n0.ino).ino = d.next := rfl
  have hl := h.lt n0 hn0
  simp only
  rw [e1, e2, if_pos rfl, if_neg (by omega)]
  omega

theorem VD.linked {d : Dvc} (h : VD d) {n0 a : Nod} (hn0 : n0 ∈ d.nodes) (hk : n0.kind = 2) (ha : a ∈ d.nodes) (hka : a.kind ≠ 2) {name : Str} (hname : nameL name = true) (hnew : entF n0.entries name = none) (hfull : n0.entries.length < 12) :
    VD ⟨d.next, entD d.nodes n0.ino name a.ino⟩ := by
  have ha0 : a.ino ≠ 0 := by have := h.pos ha; omega
  have ha1 : a.ino ≠ 1 := fun e => hka (h.isRoot ha e).1
  have hcnt : ∀ i, cntN i (entD d.nodes n0.ino name a.ino) = cntN i d.nodes + b1 (a.ino = i) := by
    intro i
    have h1 := entD_cnt h.asc hn0 name a.ino i
    rw [cnt_putN hnew ha0] at h1
    omega
  have hto := fun n' (hn' : n' ∈ d.nodes) => to_entD n0.ino name a.ino hn'
  have hold : ∀ {n' m : Nod} {e : Ent}, AsWas n0.ino name a.ino n' m → n' ∈ d.nodes → e ∈ n'.entries → e ∈ m.entries := by
    intro n' m e hw hn' he
    rw [hw.ents]
    split
    · rename_i heq
      obtain rfl := asc_eq h.asc hn' hn0 heq
      exact mem_entL_old he (entF_none hnew e he)
    exact he
  refine ⟨by rw [entD_len]; exact h.len, h.next2, h.nextM, entD_root _ _ _ h.root, entD_asc h.asc _ _ _, ?_, ?_, ?_, ?_, ?_, ?_, ?_, ?_, ?_, ?_⟩
  · intro m hm
    obtain ⟨n', hn', hw⟩ := mem_entD hm
    rw [hw.ino]; exact h.lt n' hn'
  · intro m hm
    obtain ⟨n', hn', hw⟩ := mem_entD hm
    rw [hw.plain]; exact h.plain n' hn'
  · intro m hm hk'
    obtain ⟨n', hn', hw⟩ := mem_entD hm
    rw [hw.kind] at hk'
    obtain ⟨h1, h2⟩ := h.leaf n' hn' hk'
    refine ⟨hw.parent.trans h1, ?_⟩
    rw [hw.ents, if_neg, h2]
    intro e
    obtain rfl := asc_eq h.asc hn' hn0 e
    exact hk' hk
  · intro m hm
    obtain ⟨n', hn', hw⟩ := mem_entD hm
    rw [hw.ents]
    split
    · rename_i heq
      obtain rfl := asc_eq h.asc hn' hn0 heq
      rw [(entL_perm _ name ha0).length_eq, List.length_cons, without_none hnew]
      omega
    exact h.many n' hn'
  · intro m hm
    obtain ⟨n', hn', hw⟩ := mem_entD hm
    rw [hw.ents]
    split
    · exact entL_sorted (h.sorted n' hn') _ _
    exact h.sorted n' hn'
  · intro m hm e he
    obtain ⟨n', hn', hw⟩ := mem_entD hm
    have key : (e ∈ n'.entries) ∨ e = (name, a.ino) := by
      rw [hw.ents] at he
      split at he
      · rcases mem_entL he with h1 | h1
        · exact .inl h1
        exact .inr h1.1
      exact .inl he
    rcases key with h1 | rfl
    · obtain ⟨k1, k2, q, hq, k3⟩ := h.ent n' hn' e h1
      obtain ⟨m', hm', hw'⟩ := hto q hq
      exact ⟨k1, k2, m', hm', hw'.ino.trans k3⟩
    obtain ⟨m', hm', hw'⟩ := hto a ha
    exact ⟨hname, ha1, m', hm', hw'.ino⟩
  · intro m hm h1
    obtain ⟨n', hn', hw⟩ := mem_entD hm
    rw [hcnt, hw.ino]
    have := h.link n' hn' (by rw [← hw.ino]; exact h1)
    omega
  · intro m hm h1 h2
    obtain ⟨n', hn', hw⟩ := mem_entD hm
    rw [hcnt, hw.ino, h.one n' hn' (by rw [← hw.ino]; exact h1) (by rw [← hw.kind]; exact h2), b1_f]
    intro e
    obtain rfl := asc_eq h.asc hn' ha e.symm
    exact hka (by rw [← hw.kind]; exact h2)
  · intro m hm h1 h2
    obtain ⟨n', hn', hw⟩ := mem_entD hm
    obtain ⟨p, hp', k1, e, he, k2⟩ := h.par n' hn' (by rw [← hw.ino]; exact h1) (by rw [← hw.kind]; exact h2)
    obtain ⟨q, hq, hwq⟩ := hto p hp'
    exact ⟨q, hq, by rw [hwq.ino, hw.parent]; exact k1, e, hold hwq hp' he, by rw [hw.ino]; exact k2⟩
  obtain ⟨rk, hrk⟩ := h.rank
  refine ⟨rk, fun m hm h1 h2 => ?_⟩
  obtain ⟨n', hn', hw⟩ := mem_entD hm
  rw [hw.ino, hw.parent]
  exact hrk n' hn' (by rw [← hw.ino]; exact h1) (by rw [← hw.kind]; exact h2)

end Go.Proofs.Ythcbdkmhamhciaa
namespace Go.Proofs.Ythcbdkmhamhciaa

def dropI (ns : List Nod) (i : Int) : List Nod := ns.filter fun m => decide (m.ino ≠ i ∨ 0 < cntN i ns)
theorem mem_dropI {ns : List Nod} {i : Int} {m : Nod} : m ∈ dropI ns i ↔ m ∈ ns ∧ (m.ino ≠ i ∨ 0 < cntN i ns) := by
  unfold dropI
  rw [List.mem_filter, decide_eq_true_iff]
theorem cntN_filter {ns : List Nod} {p : Nod → Bool} (h : ∀ m ∈ ns, p m = false → m.entries = []) (i : Int) : cntN i (ns.filter p) = cntN i ns := by
  induction ns with
  | nil => rfl
  | cons x r ih =>
    rw [List.filter_cons]
    have ih' := ih fun m hm => h m (by simp [hm])
    cases hp : p x with
    | true => simp only [if_true]; rw [cntN_cons, cntN_cons, ih']
    | false =>
      simp only [Bool.false_eq_true, if_false]
      rw [cntN_cons, h x (by simp) hp, ih']
      simp [cntE]
theorem sorted_name {es : List Ent} (hs : Sorted es) {a b : Ent} (ha : a ∈ es) (hb : b ∈ es) (e : a.1 = b.1) : a = b := by
  induction es with
  | nil => cases ha
  | cons x r ih =>
    obtain ⟨h1, h2⟩ := List.pairwise_cons.1 hs
    rcases List.mem_cons.1 ha with rfl | ha
    · rcases List.mem_cons.1 hb with rfl | hb
      · rfl
      exact absurd e (lt_ne (h1 b hb))
    rcases List.mem_cons.1 hb with hb | hb
    · subst hb; exact absurd e.symm (lt_ne (h1 a (by assumption)))
    exact ih h2 (by assumption) hb

theorem VD.removed {d : Dvc} (h : VD d) {n0 a : Nod} (hn0 : n0 ∈ d.nodes) (ha : a ∈ d.nodes) (hae : a.entries = []) {name : Str} {e0 : Ent} (he0 : entF n0.entries name = some e0) (hea : e0.2 = a.ino) :
    VD ⟨d.next, dropI (entD d.nodes n0.ino name 0) a.ino⟩ := by
  obtain ⟨hem, hen⟩ := entF_some he0
  have ha1 : a.ino ≠ 1 := by rw [← hea]; exact (h.ent n0 hn0 e0 hem).2.1
  have hk : n0.kind = 2 := h.dirOf hn0 hem
  have hna : n0.ino ≠ a.ino := fun e => by
    obtain rfl := asc_eq h.asc hn0 ha e
    rw [hae] at hem
    cases hem
  have hcnt1 : ∀ i, cntN i (entD d.nodes n0.ino name 0) + b1 (a.ino = i) = cntN i d.nodes := by
    intro i
    have h1 := entD_cnt h.asc hn0 name 0 i
    have h2 := cnt_put0 (h.sorted n0 hn0) he0 i
    rw [hea] at h2
    omega
  have hcnt : ∀ i, cntN i (dropI (entD d.nodes n0.ino name 0) a.ino) = cntN i (entD d.nodes n0.ino name 0) := by
    refine fun i => cntN_filter (fun m hm hp => ?_) i
    have hp' := of_decide_eq_false hp
    obtain ⟨n', hn', hw⟩ := mem_entD hm
    have hmi : m.ino = a.ino := Classical.byContradiction fun h => hp' (.inl h)
    obtain rfl := asc_eq h.asc hn' ha (hw.ino.symm.trans hmi)
    rw [hw.ents, if_neg (fun e => hna e.symm), hae]
  have hkeep : ∀ {m : Nod}, m ∈ entD d.nodes n0.ino name 0 → (m.ino = a.ino → 0 < cntN a.ino (entD d.nodes n0.ino name 0)) → m ∈ dropI (entD d.nodes n0.ino name 0) a.ino := by
    intro m hm hc
    refine mem_dropI.2 ⟨hm, ?_⟩
    by_cases e : m.ino = a.ino
    · exact .inr (hc e)
    exact .inl e
  have hfrom : ∀ {m : Nod}, m ∈ dropI (entD d.nodes n0.ino name 0) a.ino → (∃ n' ∈ d.nodes, AsWas n0.ino name 0 n' m) ∧ m ∈ entD d.nodes n0.ino name 0 ∧ (m.ino ≠ a.ino ∨ 0 < cntN a.ino (entD d.nodes n0.ino name 0)) := by
    intro m hm
    obtain ⟨h1, h2⟩ := mem_dropI.1 hm
    exact ⟨mem_entD h1, h1, h2⟩
  have hsub : ∀ {n' m : Nod} {e : Ent}, AsWas n0.ino name 0 n' m → e ∈ m.entries → e ∈ n'.entries := by
    intro n' m e hw he
    rw [hw.ents] at he
    split at he
    · rcases mem_entL he with h1 | h1
      · exact h1
      exact absurd rfl h1.2
    exact he
  refine ⟨?_, h.next2, h.nextM, ?_, ?_, ?_, ?_, ?_, ?_, ?_, ?_, ?_, ?_, ?_, ?_⟩
  · have h1 : (dropI (entD d.nodes n0.ino name 0) a.ino).length ≤ (entD d.nodes n0.ino name 0).length := List.length_filter_le _ _
    rw [entD_len] at h1
    exact Nat.le_trans h1 h.len
  · obtain ⟨r, rest, hr, h1, h2, h3⟩ := entD_root n0.ino name 0 h.root
    refine ⟨r, rest.filter fun m => decide (m.ino ≠ a.ino ∨ 0 < cntN a.ino (entD d.nodes n0.ino name 0)), ?_, h1, h2, h3⟩
    show dropI (entD d.nodes n0.ino name 0) a.ino = _
    unfold dropI
    conv => lhs; rw [hr]
    rw [List.filter_cons, if_pos (decide_eq_true (.inl (by rw [h1]; exact fun e => ha1 e.symm))), hr]
  · exact List.Pairwise.filter _ (entD_asc h.asc _ _ _)
  · intro m hm
    obtain ⟨⟨n', hn', hw⟩, _⟩ := hfrom hm
    rw [hw.ino]; exact h.lt n' hn'
  · intro m hm
    obtain ⟨⟨n', hn', hw⟩, _⟩ := hfrom hm
    rw [hw.plain]; exact h.plain n' hn'
  · intro m hm hk'
    obtain ⟨⟨n', hn', hw⟩, _⟩ := hfrom hm
    rw [hw.kind] at hk'
    obtain ⟨h1, h2⟩ := h.leaf n' hn' hk'
    refine ⟨hw.parent.trans h1, ?_⟩
    rw [hw.ents, if_neg, h2]
    intro e
    obtain rfl := asc_eq h.asc hn' hn0 e
    exact hk' hk
  · intro m hm
    obtain ⟨⟨n', hn', hw⟩, _⟩ := hfrom hm
    rw [hw.ents]
    split
    · rw [entL_zero]
      exact Nat.le_trans (List.length_filter_le _ _) (h.many n' hn')
    exact h.many n' hn'
  · intro m hm
    obtain ⟨⟨n', hn', hw⟩, _⟩ := hfrom hm
    rw [hw.ents]
    split
    · exact entL_sorted (h.sorted n' hn') _ _
    exact h.sorted n' hn'
  · intro m hm e he
    obtain ⟨⟨n', hn', hw⟩, hm1, _⟩ := hfrom hm
    obtain ⟨k1, k2, q, hq, k3⟩ := h.ent n' hn' e (hsub hw he)
    obtain ⟨m', hm', hw'⟩ := to_entD n0.ino name 0 hq
    refine ⟨k1, k2, m', hkeep hm' (fun e1 => cntN_pos.2 ⟨m, hm1, e, he, ?_⟩), hw'.ino.trans k3⟩
    rw [← k3, ← hw'.ino, e1]
  · intro m hm h1
    rw [hcnt]
    obtain ⟨⟨n', hn', hw⟩, _, h2⟩ := hfrom hm
    have h3 := hcnt1 m.ino
    by_cases e : m.ino = a.ino
    · rw [e] at h2 ⊢
      rcases h2 with h2 | h2
      · exact absurd rfl h2
      exact h2
    rw [b1_f (fun h => e h.symm)] at h3
    have := h.link n' hn' (by rw [← hw.ino]; exact h1)
    rw [← hw.ino] at this
    omega
  · intro m hm h1 h4
    rw [hcnt]
    obtain ⟨⟨n', hn', hw⟩, _, h2⟩ := hfrom hm
    have h3 := hcnt1 m.ino
    have h5 := h.one n' hn' (by rw [← hw.ino]; exact h1) (by rw [← hw.kind]; exact h4)
    rw [← hw.ino] at h5
    by_cases e : m.ino = a.ino
    · exfalso
      rw [b1_t e.symm] at h3
      rcases h2 with h2 | h2
      · exact h2 e
      rw [← e] at h2; omega
    rw [b1_f (fun h => e h.symm)] at h3
    omega
  · intro m hm h1 h4
    obtain ⟨⟨n', hn', hw⟩, _, h2⟩ := hfrom hm
    obtain ⟨p, hp', k1, e, he, k2⟩ := h.par n' hn' (by rw [← hw.ino]; exact h1) (by rw [← hw.kind]; exact h4)
    obtain ⟨q, hq, hwq⟩ := to_entD n0.ino name 0 hp'
    have hpa : p.ino ≠ a.ino := fun e' => by
      obtain rfl := asc_eq h.asc hp' ha e'
      rw [hae] at he
      cases he
    have hna' : n'.ino ≠ a.ino := fun e' => by
      have h3 := hcnt1 m.ino
      have h5 := h.one n' hn' (by rw [← hw.ino]; exact h1) (by rw [← hw.kind]; exact h4)
      rw [← hw.ino] at h5 e'
      rw [b1_t e'.symm] at h3
      rcases h2 with h2 | h2
      · exact h2 e'
      rw [← e'] at h2; omega
    refine ⟨q, hkeep hq (fun e' => absurd (hwq.ino.symm.trans e') hpa), by rw [hwq.ino, hw.parent]; exact k1, e, ?_, by rw [hw.ino]; exact k2⟩
    rw [hwq.ents]
    split
    · rename_i heq
      obtain rfl := asc_eq h.asc hp' hn0 heq
      refine mem_entL_old he fun hnm => ?_
      have := sorted_name (h.sorted p hp') he hem (hnm.trans hen.symm)
      rw [this, hea] at k2
      exact hna' k2.symm
    exact he
  obtain ⟨rk, hrk⟩ := h.rank
  refine ⟨rk, fun m hm h1 h2 => ?_⟩
  obtain ⟨⟨n', hn', hw⟩, _⟩ := hfrom hm
  rw [hw.ino, hw.parent]
  exact hrk n' hn' (by rw [← hw.ino]; exact h1) (by rw [← hw.kind]; exact h2)

end Go.Proofs.Ythcbdkmhamhciaa
namespace Go.Proofs.Ythcbdkmhamhciaa
open Go.RowKit

structure FlsV (f : Fls) : Prop where
  few : f.length ≤ 3
  vd : ∀ d ∈ f, VD d
theorem FlsV.b {f : Fls} (h : FlsV f) : FlsB f := ⟨by have := h.few; omega, fun d hd => by have := (h.vd d hd).len; omega, fun d hd n hn => by have := (h.vd d hd).many n hn; omega⟩
theorem set_updI {ns : List Nod} (h : Asc ns) {i : Nat} {n : Nod} (hi : ns[i]? = some n) (g : Nod → Nod) : ns.set i (g n) = updI ns n.ino g := by
  apply List.ext_getElem?
  intro k
  unfold updI
  rw [List.getElem?_map, List.getElem?_set]
  have hil := (List.getElem?_eq_some_iff.1 hi).1
  split
  · rename_i e
    subst e
    rw [hi]
    simp [hil]
  rename_i e
  cases hk : ns[k]? with
  | none => rfl
  | some m =>
    have : m.ino ≠ n.ino := by
      intro em
      obtain ⟨l1, e1⟩ := List.getElem?_eq_some_iff.1 hi
      obtain ⟨l2, e2⟩ := List.getElem?_eq_some_iff.1 hk
      have hp := List.pairwise_iff_getElem.1 h
      rcases Nat.lt_or_gt_of_ne e with hlt | hlt
      · have := hp i k l1 l2 hlt; rw [e1, e2] at this; omega
      have := hp k i l2 l1 hlt; rw [e1, e2] at this; omega
    simp [this]
def onD (f : Fls) (q : Nat) (g : List Nod → List Nod) : Fls := f.modify q fun d => { d with nodes := g d.nodes }
theorem onD_set {f : Fls} {q : Nat} {d : Dvc} (h : f[q]? = some d) (g : List Nod → List Nod) : onD f q g = f.set q { d with nodes := g d.nodes } := by
  apply List.ext_getElem?
  intro k
  unfold onD
  rw [List.getElem?_modify, List.getElem?_set]
  split
  · rename_i e
    subst e
    rw [h]
    simp [(List.getElem?_eq_some_iff.1 h).1]
  simp
theorem place_ok {f : Fls} {dir : Fil} {name : Str} (h : placeL f dir name = 0) : ∃ (q i : Nat) (d : Dvc) (n0 : Nod), dir.1 = (q : Int) ∧ f[q]? = some d ∧ d.nodes[i]? = some n0 ∧ n0.ino = dir.2 ∧ indexL f dir = (i : Int) ∧ nodeL f dir = some n0 ∧ n0.kind = 2 ∧ nameL name = true := by
  rcases index_node f dir with ⟨_, h2⟩ | ⟨q, i, d, n, h1, h2, h3, h4, h5, h6⟩
  · simp [placeL, h2] at h
  refine ⟨q, i, d, n, h1, h2, h3, h4, h5, h6, ?_⟩
  simp only [placeL, h6] at h
  split at h
  · rename_i hk
    split at h
    · rename_i hn; exact ⟨hk, hn⟩
    omega
  omega
def chgR (R : ChgRes) : AV := .tup [.agg (flsA R.1), .sl 7 (R.2.1.map chgA) none, .v (.int .i64 R.2.2)]
theorem err_le (e : Int) : LeA (.tup [.agg [.v (.slice none 0 0)], .v (.slice none 0 0), .v (.int .i64 e)]) (chgR ([], [], e)) := (by repeat (first | exact LeA.refl _ | exact LeA.nil _ | exact LeL.refl _ | refine LeA.agg ?_ | refine LeA.tup ?_ | exact LeL.nil | refine LeL.cons ?_ ?_ | exact LeA.any _))
def linkL (f : Fls) (dir : Fil) (name : Str) (a : Fil) : ChgRes :=
  if placeL f dir name ≠ 0 then ([], [], placeL f dir name) else if hasG f a = false then ([], [], 2) else if a.1 ≠ dir.1 then ([], [], 18) else if (nodG f a).kind = 2 then ([], [], 1) else
  if (lookL f dir name).2 = 0 then ([], [], 17) else if fullL f dir = true then ([], [], 28) else (onD f dir.1.toNat fun ns => entD ns dir.2 name a.2, [(dir, name, (0, 0), a)], 0)
end Go.Proofs.Ythcbdkmhamhciaa
namespace Go.Proofs.Ythcbdkmhamhciaa
open Go.RowKit

theorem look_ok {f : Fls} {dir : Fil} {name : Str} {n0 : Nod} (hn : nodeL f dir = some n0) (hk : n0.kind = 2) (h : (lookL f dir name).2 = 0) : ∃ e, entF n0.entries name = some e ∧ lookL f dir name = ((dir.1, e.2), 0) := by
  unfold lookL at h ⊢
  rw [hn] at h ⊢
  simp only [hk, if_true] at h ⊢
  unfold entF
  split at h
  · exact absurd h (by decide)
  rename_i e he
  exact ⟨e, he, rfl⟩
def entS (ns : List Nod) (i : Nat) (n0 : Nod) (name : Str) (ino : Int) : List Nod := ns.set i { n0 with entries := entL n0.entries name ino }
theorem entS_len (ns : List Nod) (i : Nat) (n0 : Nod) (name : Str) (ino : Int) : (entS ns i n0 name ino).length = ns.length := by simp [entS]
theorem entL_len (es : List Ent) (name : Str) (ino : Int) : (entL es name ino).length ≤ es.length + 1 := by
  by_cases h : ino = 0
  · subst h
    rw [entL_zero]
    have : (without name es).length ≤ es.length := List.length_filter_le _ _
    omega
  rw [(entL_perm es name h).length_eq, List.length_cons]
  have : (without name es).length ≤ es.length := List.length_filter_le _ _
  omega
theorem FlsB.set_ {f : Fls} (hf : FlsB f) {q : Nat} {d' : Dvc} (hn : d'.nodes.length ≤ 1000) (he : ∀ n ∈ d'.nodes, n.entries.length ≤ 1000) : FlsB (f.set q d') := by
  refine ⟨by simpa using hf.few, fun d hd => ?_, fun d hd n hn' => ?_⟩
  · rcases List.mem_or_eq_of_mem_set hd with h | h
    · exact hf.nodes d h
    rw [h]; exact hn
  rcases List.mem_or_eq_of_mem_set hd with h | h
  · exact hf.ents d h n hn'
  subst h; exact he n hn'
theorem FlsV.entS {f : Fls} (hv : FlsV f) {q : Nat} {d : Dvc} (hq : f[q]? = some d) {i : Nat} {n0 : Nod} (hn : d.nodes[i]? = some n0) (name : Str) (ino : Int) : FlsB (f.set q { d with nodes := entS d.nodes i n0 name ino }) := by
  have hd := hv.vd d (List.mem_of_getElem? hq)
  refine hv.b.set_ ?_ ?_
  · show (Go.Proofs.Ythcbdkmhamhciaa.entS d.nodes i n0 name ino).length ≤ 1000
    rw [entS_len]; have := hd.len; omega
  intro m hm
  rcases List.mem_or_eq_of_mem_set hm with h | h
  · have := hd.many m h; omega
  rw [h]
  have := entL_len n0.entries name ino
  have := hd.many n0 (List.mem_of_getElem? hn)
  show (entL n0.entries name ino).length ≤ 1000
  omega
theorem entS_D {d : Dvc} (hd : VD d) {i : Nat} {n0 : Nod} (hn : d.nodes[i]? = some n0) (name : Str) (ino : Int) : entS d.nodes i n0 name ino = entD d.nodes n0.ino name ino := by
  unfold entS entD
  rw [← set_updI hd.asc hn]
  rfl
theorem links_at {f : Fls} {a : Fil} {q : Nat} {d : Dvc} (ha : a.1 = (q : Int)) (hq : f[q]? = some d) : linksF f a = if (d.nodes.any fun n => n.ino == a.2) then cntN a.2 d.nodes else 0 := by
  unfold linksF nodeL
  rw [ha, atI_nat, hq]
  simp only
  cases h : d.nodes.find? (fun n => n.ino == a.2) with
  | none =>
    have : d.nodes.any (fun n => n.ino == a.2) = false := by
      rw [List.any_eq_false]
      exact List.find?_eq_none.1 h
    simp [this]
  | some n =>
    have : d.nodes.any (fun n => n.ino == a.2) = true := by
      have h2 := List.find?_some h
      exact List.any_eq_true.2 ⟨n, List.mem_of_find?_eq_some h, h2⟩
    simp [this]
theorem drop_pos {f : Fls} {a : Fil} {q : Nat} {d : Dvc} (ha : a.1 = (q : Int)) (hq : f[q]? = some d) (hl : 0 < linksF f a) : dropI d.nodes a.2 = d.nodes := by
  rw [links_at ha hq] at hl
  split at hl
  · unfold dropI
    rw [List.filter_eq_self]
    intro m _
    exact decide_eq_true (.inr hl)
  omega
theorem drop_zero {f : Fls} {a : Fil} {q : Nat} {d : Dvc} (ha : a.1 = (q : Int)) (hq : f[q]? = some d) (hl : linksF f a = 0) : dropI d.nodes a.2 = keepNot a.2 d.nodes := by
  rw [links_at ha hq] at hl
  unfold dropI keepNot
  apply List.filter_congr
  intro m hm
  split at hl
  · rw [hl, Bool.eq_iff_iff]; simp
  rename_i h
  have hne : m.ino ≠ a.2 := by
    intro e
    exact h (List.any_eq_true.2 ⟨m, hm, by simpa using e⟩)
  rw [Bool.eq_iff_iff]; simp [hne]
def unlinkL (f : Fls) (dir : Fil) (name : Str) : ChgRes :=
  if placeL f dir name ≠ 0 then ([], [], placeL f dir name) else if (lookL f dir name).2 ≠ 0 then ([], [], (lookL f dir name).2) else if dirL f (lookL f dir name).1 = true then ([], [], 21) else
  (onD f dir.1.toNat fun ns => dropI (entD ns dir.2 name 0) (lookL f dir name).1.2, [(dir, name, (lookL f dir name).1, (0, 0))], 0)
def rmdirL (f : Fls) (dir : Fil) (name : Str) : ChgRes :=
  if placeL f dir name ≠ 0 then ([], [], placeL f dir name) else if (lookL f dir name).2 ≠ 0 then ([], [], (lookL f dir name).2) else if dirL f (lookL f dir name).1 = false then ([], [], 20) else if emptyL f (lookL f dir name).1 = false then ([], [], 39) else
  (onD f dir.1.toNat fun ns => dropI (entD ns dir.2 name 0) (lookL f dir name).1.2, [(dir, name, (lookL f dir name).1, (0, 0))], 0)
end Go.Proofs.Ythcbdkmhamhciaa
namespace Go.Proofs.Ythcbdkmhamhciaa
open Go.RowKit

section
variable {P : Program} {N : Dim} {ops : Array Oper} {Q : Exit → AS → Prop} {S : AH → Prop} {tl : Nat}
def Clo (ops : Array Oper) (listed : Array Bool) : Prop := ∀ (k : Nat) (o : Oper), ops[k]? = some o → listed.getD k false = true → ∀ e ∈ o.after, Region.binds .any e = true → listed.getD e.on false = true
def cloB (ops : Array Oper) (listed : Array Bool) : Bool :=
  (List.range ops.size).all fun k => !listed.getD k false || match ops[k]? with
    | none => true
    | some o => o.after.all fun e => !Region.binds .any e || listed.getD e.on false
theorem cloB_spec {listed : Array Bool} (h : cloB ops listed = true) : Clo ops listed := by
  intro k o hk hl e he hb
  have h1 := List.all_eq_true.1 h k (List.mem_range.2 (Array.getElem?_eq_some_iff.1 hk).1)
  simp only [hl, Bool.not_true, Bool.false_or, hk] at h1
  have h2 := Array.all_eq_true'.1 h1 e he
  simpa [hb] using h2
theorem Clo.step {listed : Array Bool} (h : Clo ops listed) {j : Nat} {oj : Oper} (hj : ops[j]? = some oj) (hall : ∀ e ∈ oj.after, Region.binds .any e = true → listed.getD e.on false = true) : Clo ops (listed.setIfInBounds j true) := by
  intro k o hk hl e he hb
  refine getD_set_true ?_
  by_cases hjk : j = k
  · subst hjk
    rw [hj] at hk
    injection hk with hk
    subst hk
    exact hall e he hb
  rw [getD_set_ne false hjk] at hl
  exact h k o hk hl e he hb
def tail2 (ops : Array Oper) (tl : Nat) : Bool :=
  match ops[tl]? with
  | none => true
  | some o => (List.range ops.size).all fun j => j == tl || (o.after.any fun e => Region.binds .any e && e.on == j) || (o.after.any fun e => Region.binds .any e && match ops[e.on]? with
    | none => false
    | some o2 => o2.after.any fun e2 => Region.binds .any e2 && e2.on == j)
theorem AAny.first2 {i : Nat} {oi : Oper} {x : AV} (hi : ops[i]? = some oi) (hd : dstIn oi.dst N = true) (htl : tail2 ops tl = true) (hit : i ≠ tl) :
    ∀ (fuel : Nat) (listed : Array Bool) (s : AS), Clo ops listed →
      (∀ j oj, ops[j]? = some oj → j ≠ i → listed.getD j true = false → (∀ e ∈ oj.after, Region.binds .any e = true → e.on ≠ i) → oi.apart ops oj = true) →
      i ∈ Region.ready .any ops listed → Steady P ops S oi x s.sl → S s.h →
      AAny P N ops Q S tl fuel (listed.setIfInBounds i true) ⟨put oi.dst x s.sl, s.h⟩ → AAny P N ops Q S tl (fuel + 1) listed s := by
  intro fuel
  induction fuel with
  | zero =>
    intro listed s _ _ hr hy hS H
    refine ⟨fun h => (by rw [h] at hr; cases hr), fun j hj => ?_⟩
    by_cases hji : j = i
    · subst hji; exact hy.op hi hd hS ⟨.inr hS, H⟩
    have := ready_mono hj hji
    rw [H.1] at this
    cases this
  | succ fuel ih =>
    intro listed s hcl hfree hr hy hS H
    refine ⟨fun h => (by rw [h] at hr; cases hr), fun j hj => ?_⟩
    by_cases hji : j = i
    · subst hji; exact hy.op hi hd hS ⟨.inr hS, H⟩
    have h1 := H.2 j (ready_mono hj hji)
    obtain ⟨hjun, oj, hoj, hall⟩ := mem_ready.1 hj
    have hun : ∀ k, k = i → listed.getD k false = true → False := fun k hk h1 => by
      have h0 := (mem_ready.1 hr).1
      rw [hk] at h1
      rcases Nat.lt_or_ge i listed.size with h' | h'
      · simp [h'] at h0 h1; rw [h0] at h1; cases h1
      simp [Array.getElem?_eq_none h'] at h1
    have hnot : ∀ e ∈ oj.after, Region.binds .any e = true → e.on ≠ i := fun e he hb heq => hun _ heq (hall e he hb)
    obtain ⟨a1, a2, a3⟩ := Oper.apart_spec (hfree j oj hoj hji hjun hnot)
    have hfree' : ∀ k ok, ops[k]? = some ok → k ≠ i → (listed.setIfInBounds j true).getD k true = false →
        (∀ e ∈ ok.after, Region.binds .any e = true → e.on ≠ i) → oi.apart ops ok = true := fun k ok hk hki hun hno => by
      refine hfree k ok hk hki ?_ hno
      by_cases hjk : j = k
      · subst hjk; exact hjun
      rw [getD_set_ne true hjk] at hun; exact hun
    have hjt : j ≠ tl := by
      intro e
      subst e
      unfold tail2 at htl
      simp only [hoj] at htl
      have h1 := List.all_eq_true.1 htl i (List.mem_range.2 (Array.getElem?_eq_some_iff.1 hi).1)
      simp only [Bool.or_eq_true, beq_iff_eq, Ne.symm hji, false_or] at h1
      rcases h1 with h1 | h1
      · obtain ⟨e, he, hb⟩ := Array.any_eq_true'.1 h1
        simp only [Bool.and_eq_true, beq_iff_eq] at hb
        exact hnot e he hb.1 hb.2
      obtain ⟨e, he, hb⟩ := Array.any_eq_true'.1 h1
      simp only [Bool.and_eq_true] at hb
      obtain ⟨hb1, hb2⟩ := hb
      cases ho2 : ops[e.on]? with
      | none => rw [ho2] at hb2; cases hb2
      | some o2 =>
        rw [ho2] at hb2
        obtain ⟨e2, he2, hb3⟩ := Array.any_eq_true'.1 hb2
        simp only [Bool.and_eq_true, beq_iff_eq] at hb3
        exact hun _ hb3.2 (hcl _ o2 ho2 (hall e he hb1) e2 he2 hb3.1)
    have hgo : ∀ (y : AV) (h' : AH), S h' → AAny P N ops Q S tl fuel ((listed.setIfInBounds i true).setIfInBounds j true) ⟨put oj.dst y (put oi.dst x s.sl), h'⟩ →
        AAny P N ops Q S tl (fuel + 1) (listed.setIfInBounds j true) ⟨put oj.dst y s.sl, h'⟩ := fun y h' hS' hA => by
      refine ih (listed.setIfInBounds j true) ⟨put oj.dst y s.sl, h'⟩ (hcl.step hoj hall) hfree' (ready_mono hr (Ne.symm hji)) (hy.put y a3) hS' ?_
      rw [Array.setIfInBounds_comm _ _ hji, ← put_comm s.sl x y a2]
      exact hA
    unfold AOp at h1 ⊢
    simp only [hoj] at h1 ⊢
    obtain ⟨k1, t, k2, k3, k4⟩ := h1
    rw [wantedA_put s.sl x a1] at k2
    refine ⟨k1, t, k2, fun ht => ?_, fun ht => ?_⟩
    · refine ((k3 ht).congr fun z hz => (evs_put s.sl x fun u e he => a1 u e (mem_looks (he ▸ hz))).symm).mono ?_
      rintro y h' ⟨q1, q2⟩
      have q1' := q1.resolve_left hjt
      exact ⟨.inr q1', hgo y h' q1' q2⟩
    obtain ⟨q1, q2⟩ := k4 ht
    have q1' := q1.resolve_left hjt
    exact ⟨.inr q1', hgo (.v undef) s.h q1' q2⟩
end
section
variable {P : Program} {N : Dim} {Q : Exit → AS → Prop} {l : List Oper} {S : AH → Prop} {tl : Nat} {fuel : Nat} {listed : Array Bool} {m : List (Nat × AV)} {h : AH} {op : Op} {ty : TypeId} {pos : String} {af : Array Edge} {gd : Option (Nat × Bool)}
theorem aa_t2 {i d : Nat} {x : AV} (hi : l[i]? = some ⟨some d, op, ty, pos, af, gd⟩) (hd : Nat.blt d N.n = true) (htl : (tail2 l.toArray tl && cloB l.toArray listed && !Nat.beq i tl && Region.free .any l.toArray listed i && (Region.ready .any l.toArray listed).contains i) = true)
    (hw : wantedA l.toArray (look m) ⟨some d, op, ty, pos, af, gd⟩ = some true) (hst : ∀ h, S h → AStep P ⟨some d, op, ty, pos, af, gd⟩ (evs (look m)) h (fun x' h' => x' = x ∧ h' = h)) (hS : S h)
    (H : AAny P N l.toArray Q S tl fuel (listed.setIfInBounds i true) ⟨look ((d, x) :: m), h⟩) : AAny P N l.toArray Q S tl (fuel + 1) listed ⟨look m, h⟩ := by
  simp only [Bool.and_eq_true, Bool.not_eq_true'] at htl
  obtain ⟨⟨⟨⟨t1, t0⟩, t2⟩, t3⟩, t4⟩ := htl
  exact AAny.first2 (oi := ⟨some d, op, ty, pos, af, gd⟩) (get_arr hi) hd t1 (fun e => by subst e; simp at t2) fuel listed ⟨look m, h⟩ (cloB_spec t0) (Region.free_spec (get_arr hi) t3) (List.contains_iff_mem.1 t4) (.inl ⟨hw, hst⟩) hS H
end
end Go.Proofs.Ythcbdkmhamhciaa
namespace Go.Proofs.Ythcbdkmhamhciaa
open Go.RowKit

def mkL (f : Fls) (dir : Fil) (name : Str) (n : Nod) : ChgRes :=
  if placeL f dir name ≠ 0 then ([], [], placeL f dir name) else if plainL n = false then ([], [], 22) else if (lookL f dir name).2 = 0 then ([], [], 17) else
  match atI f dir.1 with
  | none => ([], [], 2)
  | some d => if 16 ≤ d.nodes.length ∨ d.next = 1073741824 ∨ fullL f dir = true then ([], [], 28) else (f.set dir.1.toNat ⟨d.next + 1, entD d.nodes dir.2 name d.next ++ [mkNod n d.next dir.2]⟩, [(dir, name, (0, 0), (dir.1, d.next))], 0)
theorem DB_push {f : Fls} {q : Nat} {d : Dvc} {j j' cap cap1 c : Nat} (m : Nod) (hq : q < f.length) : SetAt (DB f q d j cap cap1) (0 + q * 2 + 1) [.bs j' 0 8 (d.nodes.length + 1) c] (DB f q { d with nodes := d.nodes ++ [m] } j' cap c) := by
  have h := DB_set (d := d) (d' := { d with nodes := d.nodes ++ [m] }) (j := j) (j' := j') (cap := cap) (cap1 := cap1) (cap1' := c) (k := 1) (cs := [.bs j' 0 8 (d.nodes ++ [m]).length c]) hq (by repeat constructor) (by simp)
  rwa [List.length_append] at h
end Go.Proofs.Ythcbdkmhamhciaa
namespace Go.Proofs.Ythcbdkmhamhciaa
open Go.RowKit

theorem frz_plain {n : Nat} {bx : List (List AV)} {k j sz cap : Nat} {rows : List (List AV)} (hn : n ≤ j) (hj : bx[j]? = some (rowsB sz cap rows)) (hp : ∀ r ∈ rows, ∀ x ∈ r, ∃ v, x = .v v) : frzG n bx (k + 1) j = some (rowsB sz cap rows) := by
  have : Nat.blt j n = false := by rw [← Bool.not_eq_true, Nat.blt_eq]; omega
  simp only [frzG, this, hj, Option.map_some, lowGL_map]
  rw [rowsB_map _ rfl]
  congr 2
  conv => rhs; rw [← List.map_id rows]
  apply List.map_congr_left
  intro r hr
  conv => rhs; rw [id, ← List.map_id r]
  apply List.map_congr_left
  intro x hx
  obtain ⟨v, rfl⟩ := hp r hr x hx
  rfl
theorem entS_asc {d : Dvc} (hd : Asc d.nodes) {i : Nat} {n0 : Nod} (hn : d.nodes[i]? = some n0) (name : Str) (ino : Int) : entS d.nodes i n0 name ino = entD d.nodes n0.ino name ino := by
  unfold entS entD
  rw [← set_updI hd hn]
  rfl
end Go.Proofs.Ythcbdkmhamhciaa
namespace Go.Proofs.Ythcbdkmhamhciaa
open Go.RowKit

theorem liv_rows {n : Nat} {g : Nat → Option (List AV)} {j sz m cap0 cap : Nat} {rows : List (List AV)} (hn : n ≤ j) (hg : g j = some (rowsB sz cap rows)) (hr : ∀ r ∈ rows, r.length = sz) (hm : m = rows.length) (hc : rows.length ≤ cap) : liv n g (.bs j 0 sz m cap0) = .sl sz rows none := by
  have : Nat.blt j n = false := by rw [← Bool.not_eq_true, Nat.blt_eq]; omega
  simp only [liv, this]
  exact lowG_rows hg hr hm hc
theorem entS_get {ns : List Nod} {i k : Nat} {n0 m : Nod} (hi : ns[i]? = some n0) (hk : ns[k]? = some m) (name : Str) (ino : Int) : ∃ m', (entS ns i n0 name ino)[k]? = some m' ∧ m'.ino = m.ino ∧ m'.entries.length ≤ m.entries.length + 1 := by
  unfold entS
  rw [List.getElem?_set]
  split
  · rename_i e
    subst e
    rw [hi] at hk
    injection hk with hk
    subst hk
    exact ⟨{ n0 with entries := entL n0.entries name ino }, by rw [if_pos (List.getElem?_eq_some_iff.1 hi).1], rfl, entL_len _ _ _⟩
  exact ⟨m, hk, rfl, by omega⟩
theorem entS_isAsc {ns : List Nod} (h : Asc ns) {i : Nat} {n0 : Nod} (hn : ns[i]? = some n0) (name : Str) (ino : Int) : Asc (entS ns i n0 name ino) := by
  have := entS_asc (d := ⟨0, ns⟩) h hn name ino
  simp only at this
  rw [this]
  exact entD_asc h _ _ _
end Go.Proofs.Ythcbdkmhamhciaa
namespace Go.Proofs.Ythcbdkmhamhciaa

theorem FlsV.set_ {f : Fls} (h : FlsV f) {q : Nat} {d' : Dvc} (hd : VD d') : FlsV (f.set q d') := by
  refine ⟨by simpa using h.few, fun d hm => ?_⟩
  rcases List.mem_or_eq_of_mem_set hm with h1 | h1
  · exact h.vd d h1
  rw [h1]; exact hd
theorem at_ok {f : Fls} {a : Fil} (h : hasG f a = true) : ∃ (q i : Nat) (d : Dvc) (m : Nod), a.1 = (q : Int) ∧ f[q]? = some d ∧ d.nodes[i]? = some m ∧ m.ino = a.2 ∧ nodeL f a = some m ∧ nodG f a = m := by
  rcases index_node f a with ⟨_, h2⟩ | ⟨q, i, d, n, h1, h2, h3, h4, h5, h6⟩
  · simp [hasG, h2] at h
  exact ⟨q, i, d, n, h1, h2, h3, h4, h6, by simp [nodG, h6]⟩
theorem node_asc {f : Fls} {a : Fil} {q : Nat} {d : Dvc} {m : Nod} (ha : a.1 = (q : Int)) (hq : f[q]? = some d) (hd : Asc d.nodes) (hm : m ∈ d.nodes) (hi : m.ino = a.2) : nodeL f a = some m := by
  unfold nodeL
  rw [ha, atI_nat, hq]
  simp only
  cases h : d.nodes.find? (fun n => n.ino == a.2) with
  | none =>
    have := List.find?_eq_none.1 h m hm
    simp [hi] at this
  | some n =>
    have h1 := List.mem_of_find?_eq_some h
    have h2 := List.find?_some h
    simp only [beq_iff_eq] at h2
    rw [asc_eq hd h1 hm (by omega)]
theorem look_no {f : Fls} {dir : Fil} {name : Str} {n0 : Nod} (hn : nodeL f dir = some n0) (hk : n0.kind = 2) (h : (lookL f dir name).2 ≠ 0) : entF n0.entries name = none ∧ (lookL f dir name).1 = (0, 0) := by
  unfold lookL at h ⊢
  rw [hn] at h ⊢
  simp only [hk, if_true] at h ⊢
  unfold entF
  split at h
  · rename_i he
    exact ⟨he, rfl⟩
  exact absurd rfl h
theorem full_no {f : Fls} {dir : Fil} {n0 : Nod} (hn : nodeL f dir = some n0) (h : ¬ fullL f dir = true) : n0.entries.length < 12 := by
  unfold fullL at h
  rw [hn] at h
  simp at h
  omega
theorem onD_len (f : Fls) (q : Nat) (g : List Nod → List Nod) : (onD f q g).length = f.length := by simp [onD]
def Okay (f : Fls) (R : ChgRes) : Prop := R.2.2 = 0 → FlsV R.1 ∧ R.1.length = f.length
theorem okay_err {f : Fls} {e : Int} (h : e ≠ 0) : Okay f ([], [], e) := fun h0 => absurd h0 h
theorem link_okay {f : Fls} (hv : FlsV f) (dir : Fil) (name : Str) (a : Fil) : Okay f (linkL f dir name a) := by
  unfold linkL
  split
  · rename_i h; exact okay_err h
  rename_i hp
  split
  · exact okay_err (by decide)
  rename_i hh
  split
  · exact okay_err (by decide)
  rename_i hdev
  split
  · exact okay_err (by decide)
  rename_i hk
  split
  · exact okay_err (by decide)
  rename_i hl
  split
  · exact okay_err (by decide)
  rename_i hfl
  intro _
  obtain ⟨q, i, d, n0, hdq, hq, hn0, hino, hidx, hnode, hk0, hnm⟩ := place_ok (name := name) (dir := dir) (f := f) (by omega)
  obtain ⟨q', i', d', m, haq, hq', hm, hmi, hnm2, hng⟩ := at_ok (f := f) (a := a) (by simpa using hh)
  obtain rfl : q = q' := by omega
  obtain rfl : d = d' := Option.some.inj (hq.symm.trans hq')
  have hvd := hv.vd d (List.mem_of_getElem? hq)
  have key := hvd.linked (List.mem_of_getElem? hn0) hk0 (List.mem_of_getElem? hm) (by rw [← hng]; exact hk) hnm (look_no hnode hk0 hl).1 (full_no hnode hfl)
  rw [hino, hmi] at key
  refine ⟨?_, by dsimp only; exact onD_len _ _ _⟩
  dsimp only
  rw [hdq, Int.toNat_natCast, onD_set hq]
  exact hv.set_ key
theorem dir_kind {f : Fls} {a : Fil} {m : Nod} (h : nodeL f a = some m) : dirL f a = true ↔ m.kind = 2 := by
  unfold dirL; rw [h]; simp
theorem look_node {f : Fls} (hv : FlsV f) {dir : Fil} {name : Str} {q i : Nat} {d : Dvc} {n0 : Nod} (hdq : dir.1 = (q : Int)) (hq : f[q]? = some d) (hn0 : d.nodes[i]? = some n0) (hnode : nodeL f dir = some n0) (hk0 : n0.kind = 2) (hl : (lookL f dir name).2 = 0) :
    ∃ e m, entF n0.entries name = some e ∧ lookL f dir name = ((dir.1, e.2), 0) ∧ m ∈ d.nodes ∧ e.2 = m.ino ∧ e.2 ≠ 1 ∧ nodeL f (lookL f dir name).1 = some m := by
  obtain ⟨e, he, hle⟩ := look_ok hnode hk0 hl
  have hvd := hv.vd d (List.mem_of_getElem? hq)
  obtain ⟨_, h1, m, hm, h2⟩ := hvd.ent n0 (List.mem_of_getElem? hn0) e (entF_some he).1
  refine ⟨e, m, he, hle, hm, h2.symm, h1, ?_⟩
  rw [hle]
  exact node_asc hdq hq hvd.asc hm h2
theorem unlink_okay {f : Fls} (hv : FlsV f) (dir : Fil) (name : Str) : Okay f (unlinkL f dir name) := by
  unfold unlinkL
  split
  · rename_i h; exact okay_err h
  rename_i hp
  split
  · rename_i h; exact okay_err h
  rename_i hl
  split
  · exact okay_err (by decide)
  rename_i hk
  intro _
  obtain ⟨q, i, d, n0, hdq, hq, hn0, hino, hidx, hnode, hk0, hnm⟩ := place_ok (name := name) (dir := dir) (f := f) (by omega)
  obtain ⟨e, m, he, hle, hm, h1, h2, h3⟩ := look_node hv hdq hq hn0 hnode hk0 (name := name) (by omega)
  have hvd := hv.vd d (List.mem_of_getElem? hq)
  have key := hvd.removed (List.mem_of_getElem? hn0) hm (hvd.leaf m hm fun h => hk ((dir_kind h3).2 h)).2 he h1
  refine ⟨?_, by dsimp only; exact onD_len _ _ _⟩
  dsimp only
  rw [hdq, Int.toNat_natCast, onD_set hq, show (lookL f dir name).1.2 = m.ino by rw [hle]; exact h1, ← hino]
  exact hv.set_ key
theorem make_okay {f : Fls} (hv : FlsV f) (dir : Fil) (name : Str) (n : Nod) : Okay f (mkL f dir name n) := by
  unfold mkL
  split
  · rename_i h; exact okay_err h
  rename_i hp
  split
  · exact okay_err (by decide)
  rename_i hpl
  split
  · exact okay_err (by decide)
  rename_i hl
  obtain ⟨q, i, d, n0, hdq, hq, hn0, hino, hidx, hnode, hk0, hnm⟩ := place_ok (name := name) (dir := dir) (f := f) (by omega)
  have hat : atI f dir.1 = some d := by rw [hdq, atI_nat, hq]
  rw [hat]
  simp only
  split
  · exact okay_err (by decide)
  rename_i hc
  intro _
  have hvd := hv.vd d (List.mem_of_getElem? hq)
  have hnm2 := hvd.nextM
  have key := hvd.make (List.mem_of_getElem? hn0) hk0 hnm (look_no hnode hk0 hl).1 (n := n) (by simpa using hpl) (by omega) (by omega) (full_no hnode (fun h => hc (.inr (.inr h))))
  refine ⟨?_, by simp⟩
  dsimp only
  rw [hdq, Int.toNat_natCast, ← hino]
  exact hv.set_ key
end Go.Proofs.Ythcbdkmhamhciaa
namespace Go.Proofs.Ythcbdkmhamhciaa
open Go.RowKit

theorem tmod_rng (z : Int) {n : Int} (h : 1 ≤ n) : -n < z.tmod n ∧ z.tmod n < n := ⟨Int.lt_tmod_of_pos z (by omega), Int.tmod_lt_of_pos z (by omega)⟩
section
set_option maxRecDepth 10000
set_option maxHeartbeats 1000000
theorem Gnew (l : List Int) : ACall Try.prog 19 [.sl 1 (l.map intA) none] [] (fun r b t => r = .bp 0 0 ∧ b = [srcA l 0] ∧ t = []) := by
  refine enter Try.func19 rfl rfl rfl rfl rfl 1 rfl ?_
  refine w_ (a_ (h:=e_ (w_ (m_ (h:=bd_ (h:=b_ (h:=a_ (h:=e_ (aw_ret (?_))))))))))
  refine rt_ none (h5 := (LeA.refl _)) (h6 := ⟨rfl, rfl, rfl⟩)

theorem Gn (l : List Int) (a : Nat) (n : Int) (ha : a ≤ 1000000000000) (hn : n ≤ 1000000000000) : GenF Try.prog 42 l a [.v (.int .i64 n)] 1 (fun r => ∃ k : Int, r = .v (.int .i64 k) ∧ 0 ≤ k ∧ (1 ≤ n → k < n) ∧ (n < 1 → k = 0)) := by
  refine enter Try.func42 rfl rfl rfl rfl rfl 1 rfl ?_
  refine w_ (a_ (h:=e_ (q_ (w_ (m_ (h:=lt_ (h:=e_ (?_))))))))
  refine aw_cond rfl (fun hb1 => ?_) (fun hb1 => ?_)
  · have hc1 := bp hb1
    refine w_ (a_ (h:=e_ (aw_ret (x_thenR (?_)))))
    refine rt_ none (h5 := (LeA.refl _)) (h6 := ⟨_, rfl, rfl, a, by omega, rfl, 0, rfl, by omega, by omega, by omega⟩)
  have hc1 := bp hb1
  refine kt_ (w_ (m_ (h:=k_ (h:=f_ (h:=l_ (h:=ad_ (h:=k_ (h:=f_ (h:=s_ (h:=e_ (w_ (m_ (h:=k_ (h:=f_ (h:=l_ (h:=ml_ (h:=a_ (h:=e_ (q_ (q_ (yr_ 10 (h:=dm_ 0 (h:=dk_ 1 (h:=?_))))))))))))))))))))))))
  refine df_ 2 (h:=dl_ 3 (h:=dm_ 4 (h:=dk_ 5 (h:=df_ 6 (h:=dl_ 7 (h:=dn_ 8 (h:=dle_ 9 (h:=z_ (h:=t_ (?_))))))))))
  refine aw_cond rfl (fun hb2 => ?_) (fun hb2 => ?_)
  · have hc2 := bp hb2
    have hlt : a < l.length := by simp at hc2; omega
    obtain ⟨z, hz⟩ : ∃ z, (l.map intA)[a]? = some (intA z) := ⟨l[a], by simp [hlt]⟩
    have tz := tmod_rng z (n := n) (by omega)
    refine yr_ 12 (h:=dm_ 0 (h:=dk_ 1 (h:=df_ 2 (h:=dl_ 3 (h:=dm_ 4 (h:=dk_ 5 (h:=df_ 6 (h:=dl_ 7 (h:=dsb_ 8 (h:=?_))))))))))
    refine r_y (i := 9) rfl (st_index (n := a) rfl rfl (by omega) hz ⟨rfl, rfl⟩) ?_
    refine dl_ 10 (h:=da_ 11 (h:=z_ (h:=t_ (w_ (m_ (h:=m_ (h:=?_)))))))
    refine al_p rfl (st_rem rfl rfl (by omega) ?_)
    refine a_ (h:=e_ (q_ (w_ (m_ (h:=lt_ (h:=e_ (?_)))))))
    refine aw_cond rfl (fun hb3 => ?_) (fun hb3 => ?_)
    · have hc3 := bp hb3
      refine aw_region (m_ (h:=m_ (h:=?_)))
      refine al_p rfl (st_add64 rfl rfl (by omega) ?_)
      refine a_ (h:=e_ (w_ (m_ (h:=a_ (h:=e_ (aw_ret (?_)))))))
      refine rt_ none (h5 := (LeA.refl _)) (h6 := ⟨_, rfl, rfl, a + 1, by omega, rfl, _, rfl, by omega, by omega, by omega⟩)
    have hc3 := bp hb3
    refine kt_ (w_ (m_ (h:=a_ (h:=e_ (aw_ret (?_))))))
    refine rt_ none (h5 := (LeA.refl _)) (h6 := ⟨_, rfl, rfl, a + 1, by omega, rfl, _, rfl, by omega, by omega, by omega⟩)
  have hc2 := bp hb2
  have tz := tmod_rng (IntKind.i64.wrap (((a : Int) + 1) * 7)) (n := n) (by omega)
  refine kt_ (w_ (m_ (h:=m_ (h:=?_))))
  refine al_p rfl (st_rem rfl rfl (by omega) ?_)
  refine a_ (h:=e_ (q_ (w_ (m_ (h:=lt_ (h:=e_ (?_)))))))
  refine aw_cond rfl (fun hb4 => ?_) (fun hb4 => ?_)
  · have hc4 := bp hb4
    refine aw_region (m_ (h:=m_ (h:=?_)))
    refine al_p rfl (st_add64 rfl rfl (by omega) ?_)
    refine a_ (h:=e_ (w_ (m_ (h:=a_ (h:=e_ (aw_ret (?_)))))))
    refine rt_ none (h5 := (LeA.refl _)) (h6 := ⟨_, rfl, rfl, a + 1, by omega, rfl, _, rfl, by omega, by omega, by omega⟩)
  have hc4 := bp hb4
  refine kt_ (w_ (m_ (h:=a_ (h:=e_ (aw_ret (?_))))))
  refine rt_ none (h5 := (LeA.refl _)) (h6 := ⟨_, rfl, rfl, a + 1, by omega, rfl, _, rfl, by omega, by omega, by omega⟩)

end
end Go.Proofs.Ythcbdkmhamhciaa
namespace Go.Proofs.Ythcbdkmhamhciaa
open Go.RowKit

theorem root_vd : VD rootDvc := by
  refine ⟨by decide, by decide, by decide, ⟨rootNod, [], rfl, rfl, rfl, rfl⟩, List.pairwise_singleton _ _, ?_, ?_, ?_, ?_, ?_, ?_, ?_, ?_, ?_, ⟨fun _ => 0, ?_⟩⟩ <;>
    (intro n hn; obtain rfl : n = rootNod := by simpa [rootDvc] using hn)
  · decide
  · decide +kernel
  · intro h; exact absurd rfl h
  · decide
  · exact List.Pairwise.nil
  · intro e he; cases he
  · intro h; exact absurd rfl h
  · intro h; exact absurd rfl h
  · intro h; exact absurd rfl h
  intro h; exact absurd rfl h
theorem new_valid {k : Int} (h1 : 1 ≤ k) (h2 : k ≤ 3) : FlsV (newL k).1 ∧ 0 < (newL k).1.length := by
  unfold newL
  rw [if_neg (by omega)]
  refine ⟨⟨?_, fun d hd => ?_⟩, ?_⟩
  · show (List.replicate _ _).length ≤ 3
    rw [List.length_replicate]; omega
  · rw [(List.mem_replicate.1 hd).2]; exact root_vd
  show 0 < (List.replicate _ _).length
  rw [List.length_replicate]; omega
end Go.Proofs.Ythcbdkmhamhciaa
namespace Go.Proofs.Ythcbdkmhamhciaa
open Go.RowKit

theorem bp_plain {n m sz cap : Nat} {rows : List (List AV)} (h : ∀ r ∈ rows, ∀ x ∈ r, ∃ v, x = .v v) : bpLtL n m (rowsB sz cap rows) = true :=
  bpLt_rowsB fun r hr => bpLtL_all.2 fun x hx => by obtain ⟨v, rfl⟩ := h r hr x hx; rfl
theorem map_plain {F : AV → AV} (hany : F .any = .any) (hv : ∀ x, F (.v x) = .v x) {sz cap : Nat} {rows : List (List AV)} (h : ∀ r ∈ rows, ∀ x ∈ r, ∃ v, x = .v v) : (rowsB sz cap rows).map F = rowsB sz cap rows := by
  rw [rowsB_map F hany]
  congr 1
  conv => rhs; rw [← List.map_id rows]
  apply List.map_congr_left
  intro r hr
  conv => rhs; rw [id, ← List.map_id r]
  apply List.map_congr_left
  intro x hx
  obtain ⟨v, rfl⟩ := h r hr x hx
  exact hv v
theorem ren_rows {g : Nat → Option Nat} {sz cap : Nat} {rows : List (List AV)} (h : ∀ r ∈ rows, ∀ x ∈ r, ∃ v, x = .v v) : renL g (rowsB sz cap rows) = rowsB sz cap rows := by
  rw [renL_map]
  exact map_plain rfl (fun _ => rfl) h
end Go.Proofs.Ythcbdkmhamhciaa
