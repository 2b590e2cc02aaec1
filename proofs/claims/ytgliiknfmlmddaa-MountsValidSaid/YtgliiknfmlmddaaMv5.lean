/-
  Part 5 of the proof of MountsValidP: what the statement's proof uses of the texts in wip/tpl.
-/
import Derived.Laws.StructEq
import Derived.Laws.Pointers
import Derived.Test.YtgliiknfmlmddaaMv4
namespace Go.Proofs.Ytgliiknfmlmddaa
open Go.RowKit

theorem row_at {α : Type} (enc : α → List AV) {l : List α} {k : Nat} (h : (k : Int) < ((l.map enc).length : Int)) : k < l.length ∧ ∃ x, l[k]? = some x ∧ (l.map enc)[k]? = some (enc x) ∧ (l.take (k + 1)).map enc = (l.take k).map enc ++ [enc x] := by
  have hk : k < l.length := by simpa using h
  refine ⟨hk, l[k], List.getElem?_eq_getElem hk, by simp [hk], ?_⟩
  rw [List.take_succ_eq_append_getElem hk, List.map_append]
  rfl
theorem row_no {α : Type} (enc : α → List AV) {l : List α} {k : Nat} (hk : k ≤ l.length) (h : ¬ (k : Int) < ((l.map enc).length : Int)) : k = l.length := by
  simp at h
  omega
theorem vb {a b : Bool} (h : a = b) : AV.v (.bool a) = AV.v (.bool b) := by rw [h]
theorem vi {k : IntKind} {a b : Int} (h : a = b) : AV.v (.int k a) = AV.v (.int k b) := by rw [h]
def filA (x : Fil) : List AV := [.v (.int .i64 x.1), .v (.int .i64 x.2)]
def entA (e : Ent) : List AV := [.v (.string e.1), .v (.int .i64 e.2)]
def nodA (n : Nod) : List AV := [.v (.int .i64 n.ino), .v (.int .i64 n.kind), .v (.int .i64 n.mode), .v (.int .i64 n.uid), .v (.int .i64 n.gid), .v (.int .i64 n.parent), .v (.string n.target), .sl 2 (n.entries.map entA) none]
def dvcA (d : Dvc) : List AV := [.v (.int .i64 d.next), .sl 8 (d.nodes.map nodA) none]
def flsA (f : Fls) : List AV := [.sl 2 (f.map dvcA) none]
structure FlsB (f : Fls) : Prop where
  few : f.length ≤ 1000
  nodes : ∀ d ∈ f, d.nodes.length ≤ 1000
  ents : ∀ d ∈ f, ∀ n ∈ d.nodes, n.entries.length ≤ 1000
theorem indexL_at {f : Fls} {a : Fil} {k : Nat} {d : Dvc} (hk : a.1 = (k : Int)) (hd : f[k]? = some d) : indexL f a = idxBy (fun n : Nod => n.ino == a.2) d.nodes := by
  unfold indexL; rw [hk, atI_nat, hd]
def nodG (f : Fls) (a : Fil) : Nod := (nodeL f a).getD Nod.zero
def hasG (f : Fls) (a : Fil) : Bool := (nodeL f a).isSome
theorem dirL_eq (f : Fls) (a : Fil) : dirL f a = (hasG f a && decide ((nodG f a).kind = 2)) := by
  unfold dirL hasG nodG
  cases nodeL f a <;> simp [beq_dec]
theorem nodG_ents {f : Fls} (hf : FlsB f) (a : Fil) : (nodG f a).entries.length ≤ 1000 := by
  rcases index_node f a with ⟨-, h⟩ | ⟨k, i, d, n, -, h1, h2, -, -, h⟩
  · simp [nodG, h, Nod.zero]
  · simp only [nodG, h, Option.getD_some]
    exact hf.ents d (List.mem_of_getElem? h1) n (List.mem_of_getElem? h2)
section
set_option maxRecDepth 10000
set_option maxHeartbeats 1000000
theorem Rindex (f : Fls) (a : Fil) (hf : FlsB f) : AFn Try.prog 77 [.agg (flsA f), .agg (filA a)] (fun r => r = .v (.int .i64 (indexL f a))) := by
  refine enter Try.func77 rfl rfl rfl rfl rfl 0 rfl ?_
  refine w_ (b_ (h:=b_ (h:=a_ (h:=e_ (q_ (w_ (f_ (h:=l_ (h:=lt_ (h:=m_ (h:=?_)))))))))))
  refine al_gs false rfl rfl (fun hb1 => ?_) (fun hb1 => ?_)
  · have hc1 := bp hb1
    refine g0_ (h:=g0_ (h:=g0_ (h:=g0_ (h:=g0_ (h:=g0_ (h:=pt_ (h:=e_ (cy_ (h:=w_ (a_ (h:=e_ (aw_ret (x_thenR (?_))))))))))))))
    refine e_ret ?_
    exact vi (by unfold indexL; rw [atI_none (.inl hc1)])
  · have hc1 := bp hb1
    refine f_ (h:=l_ (h:=f_ (h:=l_ (h:=n_ (h:=ge_ (h:=pf_ (h:=e_ (?_))))))))
    refine aw_cond rfl (fun hb2 => ?_) (fun hb2 => ?_)
    · have hc2 := bp hb2
      refine w_ (a_ (h:=e_ (aw_ret (x_thenR (?_)))))
      refine e_ret ?_
      exact vi (by unfold indexL; rw [atI_none (.inr (by rw [List.length_map] at hc2; exact hc2))])
    · have hc2 := bp hb2
      obtain ⟨k, hk⟩ := Int.eq_ofNat_of_zero_le (show 0 ≤ a.1 by omega)
      rw [hk] at hc2
      obtain ⟨-, d, hd, hrow, -⟩ := row_at dvcA (l := f) (k := k) (by omega)
      have hdn := hf.nodes d (List.mem_of_getElem? hd)
      refine kt_ (w_ (f_ (h:=l_ (h:=f_ (h:=l_ (h:=?_))))))
      refine al_p rfl (st_index (n := k) rfl rfl hk hrow ?_)
      refine f_ (h:=l_ (h:=a_ (h:=e_ (q_ (w_ (a_ (h:=e_ (aw_block (?_)))))))))
      refine aw_loopW (fun m s => ∃ j : Nat, j ≤ d.nodes.length ∧ m = d.nodes.length - j ∧ (∀ i y, i < j → d.nodes[i]? = some y → (y.ino == a.2) = false) ∧ s = ⟨look [(3, .bp 1 0), (5, .sl 8 (d.nodes.map nodA) none), (6, .v (.int .i64 (j : Int)))], ⟨[flsA f, filA a], []⟩⟩) (d.nodes.length) ((wk 2 0)) (⟨0, by omega, rfl, fun i y hi => by omega, rfl⟩) ?_
      rintro m s ⟨j, hj, rfl, ha, rfl⟩
      refine q_ (w_ (m_ (h:=m_ (h:=n_ (h:=lt_ (h:=e_ (?_)))))))
      refine aw_cond rfl (fun hb3 => ?_) (fun hb3 => ?_)
      · have hc3 := bp hb3
        obtain ⟨hlt, n, hy, hrow2, -⟩ := row_at nodA hc3
        refine kt_ (q_ (aw_block (q_ (yr_ 8 (h:=dm_ 0 (h:=dm_ 1 (h:=di_ 2 (h:=df_ 3 (h:=dl_ 4 (h:=df_ 5 (h:=dl_ 6 (h:=deq_ 7 (h:=z_ (h:=t_ (?_)))))))))))))))
        refine aw_cond rfl (fun hb4 => ?_) (fun hb4 => ?_)
        · have hc4 := bp hb4
          refine w_ (m_ (h:=a_ (h:=e_ (aw_ret (x_blockR (x_thenR (x_thenR (x_blockR (x_thenR (?_))))))))))
          refine e_ret ?_
          exact vi (by rw [indexL_at hk hd]; exact (idxBy_first hy (by simpa using hc4) ha).symm)
        · have hc4 := bp hb4
          refine aw_skip (x_blockN (t_ (aw_region (m_ (h:=ad_ (h:=a_ (h:=al_nil (?_))))))))
          refine x_then ?_
          refine ⟨_, _, ?_, ⟨j + 1, by omega, rfl, upto_snoc hy ha (by simpa using hc4), rfl⟩, (wk 2 0)⟩
          omega
      · have hc3 := bp hb3
        have e := row_no nodA hj hc3
        subst e
        refine aw_exit (x_thenE (x_thenE (ABlock_out (t_ (w_ (a_ (h:=e_ (aw_ret (?_)))))))))
        refine e_ret ?_
        exact vi (by rw [indexL_at hk hd]; exact (idxBy_none (fun i y hi hy => ha i y hi hy)).symm)

theorem Rnode (f : Fls) (a : Fil) (hf : FlsB f) : AFn Try.prog 47 [.agg (flsA f), .agg (filA a)] (fun r => r = .tup [.agg (nodA (nodG f a)), .v (.bool (hasG f a))]) := by
  refine enter Try.func47 rfl rfl rfl rfl rfl 0 rfl ?_
  refine w_ (b_ (h:=b_ (h:=al_ (h:=a_ (h:=e_ (w_ (l_ (h:=l_ (h:=?_)))))))))
  refine al_p rfl (q_call (Rindex f a hf) ?_)
  rintro r rfl
  refine a_ (h:=e_ (q_ (w_ (m_ (h:=lt_ (h:=e_ (?_)))))))
  refine aw_cond rfl (fun hb1 => ?_) (fun hb1 => ?_)
  · have hc1 := bp hb1
    have e : nodeL f a = none := by
      rcases index_node f a with h | ⟨k, i, d, n, -, -, -, -, h, -⟩
      · exact h.2
      · exfalso; omega
    refine w_ (bd_ (h:=s_ (h:=a_ (h:=e_ (aw_ret (x_thenR (?_)))))))
    refine rt_ (r := .tup [.agg (nodA (nodG f a)), .v (.bool (hasG f a))]) none (h5 := ?_) (h6 := ⟨rfl, rfl, rfl⟩)
    rw [show nodG f a = Nod.zero by simp [nodG, e], show hasG f a = false by simp [hasG, e]]
    exact (by repeat (first | exact LeA.refl _ | exact LeA.nil _ | exact LeL.refl _ | refine LeA.agg ?_ | refine LeA.tup ?_ | exact LeL.nil | refine LeL.cons ?_ ?_ | exact LeA.any _))
  · have hc1 := bp hb1
    obtain ⟨k, i, d, n, g1, g2, g3, g4, g5, g6⟩ := (index_node f a).resolve_left (fun h => by omega)
    rw [g5]
    have hr1 : (f.map dvcA)[k]? = some (dvcA d) := by rw [List.getElem?_map, g2]; rfl
    have hr2 : (d.nodes.map nodA)[i]? = some (nodA n) := by rw [List.getElem?_map, g3]; rfl
    have hen := hf.ents d (List.mem_of_getElem? g2) n (List.mem_of_getElem? g3)
    refine kt_ (w_ (f_ (h:=l_ (h:=f_ (h:=l_ (h:=?_))))))
    refine al_p rfl (st_index (n := k) rfl rfl g1 hr1 ?_)
    refine f_ (h:=l_ (h:=m_ (h:=?_)))
    refine al_p rfl (st_index (n := i) rfl rfl rfl hr2 ?_)
    refine l_ (h:=al_ (h:=s_ (h:=e_ (w_ (f_ (h:=l_ (h:=?_)))))))
    first | refine al_p rfl (s_append rfl rfl rfl (by simp; omega) (by repeat constructor) ?_) | refine al_p rfl (s_append0 rfl rfl (by simp; omega) (by repeat constructor) ?_)
    refine f_ (h:=s_ (h:=e_ (w_ (l_ (h:=s_ (h:=a_ (h:=e_ (aw_ret (?_)))))))))
    refine e_ret ?_
    rw [show nodG f a = n by simp [nodG, g6], show hasG f a = true by simp [hasG, g6]]
    rfl

theorem Rdir (f : Fls) (a : Fil) (hf : FlsB f) : AFn Try.prog 22 [.agg (flsA f), .agg (filA a)] (fun r => r = .v (.bool (dirL f a))) := by
  refine enter Try.func22 rfl rfl rfl rfl rfl 0 rfl ?_
  refine w_ (b_ (h:=b_ (h:=a_ (h:=e_ (w_ (l_ (h:=l_ (h:=?_))))))))
  refine al_p rfl (q_call (Rnode f a hf) ?_)
  rintro r rfl
  refine m_ (h:=x_ (h:=x_ (h:=al_ (h:=s_ (h:=a_ (h:=e_ (w_ (m_ (h:=m_ (h:=?_))))))))))
  refine al_gs true rfl rfl (fun hb1 => ?_) (fun hb1 => ?_)
  · have hc1 := bp hb1
    refine f_ (h:=l_ (h:=eq_ (h:=pt_ (h:=a_ (h:=e_ (aw_ret (?_)))))))
    refine e_ret ?_
    exact vb (by rw [dirL_eq]; simp [*])
  · have hc1 := bp hb1
    refine g0_ (h:=g0_ (h:=g0_ (h:=pf_ (h:=a_ (h:=e_ (aw_ret (?_)))))))
    refine e_ret ?_
    exact vb (by rw [dirL_eq]; simp [*])

end
end Go.Proofs.Ytgliiknfmlmddaa
namespace Go.Proofs.Ytgliiknfmlmddaa
open Go.RowKit

theorem find_at {α : Type} {p : α → Bool} {l : List α} {j : Nat} {x : α} (hx : l[j]? = some x) (hp : p x = true) (h : ∀ i y, i < j → l[i]? = some y → p y = false) : l.find? p = some x := by
  have := findIdx?_first hx hp h
  rw [← find?_of_findIdx?, this]
  simpa using hx
theorem find_no {α : Type} {p : α → Bool} {l : List α} (h : ∀ i y, i < l.length → l[i]? = some y → p y = false) : l.find? p = none := by
  rw [List.find?_eq_none]
  intro x hx
  obtain ⟨i, hi, rfl⟩ := List.mem_iff_getElem.1 hx
  simp [h i _ hi (List.getElem?_eq_getElem hi)]
theorem has_some {f : Fls} {a : Fil} (h : hasG f a = true) : nodeL f a = some (nodG f a) := by
  unfold hasG at h
  unfold nodG
  cases hn : nodeL f a with
  | none => rw [hn] at h; cases h
  | some n => rfl
theorem has_none {f : Fls} {a : Fil} (h : hasG f a = false) : nodeL f a = none := by
  unfold hasG at h
  cases hn : nodeL f a with
  | none => rfl
  | some n => rw [hn] at h; cases h
section
set_option maxRecDepth 10000
set_option maxHeartbeats 1000000
theorem Rlook (f : Fls) (a : Fil) (name : Str) (hf : FlsB f) : AFn Try.prog 82 [.agg (flsA f), .agg (filA a), .v (.string name)] (fun r => r = .tup [.agg (filA (lookL f a name).1), .v (.int .i64 (lookL f a name).2)]) := by
  have hen := nodG_ents hf a
  refine enter Try.func82 rfl rfl rfl rfl rfl 0 rfl ?_
  refine w_ (b_ (h:=b_ (h:=al_ (h:=a_ (h:=e_ (w_ (l_ (h:=l_ (h:=?_)))))))))
  refine al_p rfl (q_call (Rnode f a hf) ?_)
  rintro r rfl
  refine m_ (h:=x_ (h:=x_ (h:=al_ (h:=s_ (h:=a_ (h:=e_ (q_ (w_ (m_ (h:=nt_ (h:=e_ (?_))))))))))))
  refine aw_cond rfl (fun hb1 => ?_) (fun hb1 => ?_)
  · have hc1 := bp hb1
    have e := has_none hc1
    refine w_ (bd_ (h:=s_ (h:=a_ (h:=e_ (aw_ret (x_thenR (?_)))))))
    refine e_ret ?_
    rw [show lookL f a name = ((0, 0), 2) by simp [lookL, e]]
    rfl
  · have hc1 := bp hb1
    have e := has_some hc1
    refine kt_ (q_ (w_ (f_ (h:=l_ (h:=nq_ (h:=e_ (?_)))))))
    refine aw_cond rfl (fun hb2 => ?_) (fun hb2 => ?_)
    · have hc2 := bp hb2
      refine w_ (bd_ (h:=s_ (h:=a_ (h:=e_ (aw_ret (x_thenR (?_)))))))
      refine e_ret ?_
      rw [show lookL f a name = ((0, 0), 20) by simp [lookL, e, hc2]]
      rfl
    · have hc2 := bp hb2
      refine kt_ (q_ (w_ (a_ (h:=e_ (aw_block (?_))))))
      refine aw_loopW (fun m s => ∃ j : Nat, j ≤ (nodG f a).entries.length ∧ m = (nodG f a).entries.length - j ∧ (∀ i y, i < j → (nodG f a).entries[i]? = some y → decide (y.1 = name) = false) ∧ s = ⟨look [(2, .v (.string name)), (4, .bp 1 0), (6, .bp 2 0), (8, .bp 3 0), (10, .v (.int .i64 (j : Int)))], ⟨[flsA f, filA a, [.v (.int .i64 0), .v (.int .i64 0)], nodA (nodG f a)], []⟩⟩) ((nodG f a).entries.length) ((wk 4 0)) (⟨0, by omega, rfl, fun i y hi => by omega, rfl⟩) ?_
      rintro m s ⟨j, hj, rfl, ha, rfl⟩
      refine q_ (w_ (m_ (h:=f_ (h:=l_ (h:=n_ (h:=lt_ (h:=e_ (?_))))))))
      refine aw_cond rfl (fun hb3 => ?_) (fun hb3 => ?_)
      · have hc3 := bp hb3
        obtain ⟨hlt, x, hy, hrow, -⟩ := row_at entA hc3
        refine kt_ (q_ (aw_block (w_ (f_ (h:=l_ (h:=m_ (h:=i_ (h:=f_ (h:=l_ (h:=m_ (h:=eq_ (h:=e_ (?_)))))))))))))
        refine aw_cond rfl (fun hb4 => ?_) (fun hb4 => ?_)
        · have hc4 := bp hb4
          refine q_ (yk_ ([(0, flsA f), (1, filA a), (3, nodA (nodG f a))]) 11 (h:=df_ 0 (h:=dl_ 1 (h:=df_ 2 (h:=dl_ 3 (h:=dm_ 4 (h:=di_ 5 (h:=df_ 6 (h:=dl_ 7 (h:=dbd_ 8 (h:=?_)))))))))))
          refine c0_ 9 rfl (s_store rfl rfl rfl rfl rfl rfl (by repeat constructor) (by repeat constructor) ?_)
          refine o_ (h:=da_ 10 (h:=z_ (h:=t_ (aw_ret (x_blockR (x_thenR (x_thenR (x_blockR (x_thenR (?_))))))))))
          refine e_ret ?_
          rw [show lookL f a name = ((a.1, x.2), 0) by simp only [lookL, e]; rw [if_pos (by omega), find_at hy (by simpa using hc4) ha]]
          rfl
        · have hc4 := bp hb4
          refine aw_skip (x_blockN (t_ (aw_region (m_ (h:=ad_ (h:=a_ (h:=al_nil (?_))))))))
          refine x_then ?_
          refine ⟨_, _, ?_, ⟨j + 1, by omega, rfl, upto_snoc hy ha (by simpa using hc4), rfl⟩, (wk 4 0)⟩
          omega
      · have hc3 := bp hb3
        have e3 := row_no entA hj hc3
        subst e3
        refine aw_exit (x_thenE (x_thenE (ABlock_out (t_ (w_ (bd_ (h:=s_ (h:=a_ (h:=e_ (aw_ret (?_)))))))))))
        refine e_ret ?_
        rw [show lookL f a name = ((0, 0), 2) by simp only [lookL, e]; rw [if_pos (by omega), find_no ha]]
        rfl

end
end Go.Proofs.Ytgliiknfmlmddaa
namespace Go.Proofs.Ytgliiknfmlmddaa
open Go.RowKit

theorem st_strIdx {P : Program} {ev : Operand → Option AV} {h : AH} {R : AV → AH → Prop} {d : Option Tmp} {ty : TypeId} {pos : String} {af : Array Edge} {gd : Option (Nat × Bool)} {T : TypeId} {x ix : Operand} {s : ByteArray} {n : Nat} {k : IntKind} {i : Int} (hu : P.underlying T = some .string)
    (hx : ev x = some (.v (.string s))) (hi : ev ix = some (.v (.int k i))) (hn : i = (n : Int)) (hlt : n < s.size) (hR : R (.v (.int .u8 (s[n].toNat : Int))) h) : AStep P ⟨d, .index T x ix, ty, pos, af, gd⟩ ev h R := by
  refine st_val (fun _ G w ec _ he => ?_) hR
  have h1 := he x (by simp [Op.operands]) _ hx
  have h2 := he ix (by simp [Op.operands]) _ hi
  simp only [rep] at h1 h2
  subst hn
  refine ⟨.int .u8 (s[n].toNat : Int), ?_, by simp only [rep]⟩
  have e : s[n]? = some s[n] := getElem?_pos s n hlt
  simp [execOp, h1, h2, Instr.index, asIntOf, run_underlying hu, e]
theorem name_eq (s : Str) : nameL s = if s.size < 1 ∨ 12 < s.size then false else if s = ⟨#[46]⟩ then false else if s = ⟨#[46, 46]⟩ then false else s.data.toList.all byteOK := by
  unfold nameL
  have e1 := str_eq s ⟨#[46]⟩
  have e2 := str_eq s ⟨#[46, 46]⟩
  rw [show (⟨#[46]⟩ : ByteArray).toList = [46] by rw [ByteArray.toList_eq]] at e1
  rw [show (⟨#[46, 46]⟩ : ByteArray).toList = [46, 46] by rw [ByteArray.toList_eq]] at e2
  rw [e1, e2]
  simp only [decide_eq_true_eq]
theorem byte_ok {c : UInt8} (h1 : ¬ (c.toNat : Int) = 0) (h2 : ¬ (c.toNat : Int) = 47) : byteOK c = true := by
  unfold byteOK; simp; omega
section
set_option maxRecDepth 10000
set_option maxHeartbeats 1000000
theorem Rname (s : Str) (hs : s.size ≤ 100000) : AFn Try.prog 66 [.v (.string s)] (fun r => r = .v (.bool (nameL s))) := by
  refine enter Try.func66 rfl rfl rfl rfl rfl 0 rfl ?_
  refine w_ (a_ (h:=e_ (q_ (w_ (m_ (h:=n_ (h:=lt_ (h:=m_ (h:=?_)))))))))
  refine al_gs false rfl rfl (fun hb1 => ?_) (fun hb1 => ?_)
  · have hc1 := bp hb1
    refine g0_ (h:=g0_ (h:=g0_ (h:=pt_ (h:=m_ (h:=g0_ (h:=g0_ (h:=pt_ (h:=m_ (h:=g0_ (h:=g0_ (h:=pt_ (h:=e_ (cy_ (h:=w_ (a_ (h:=e_ (aw_ret (x_thenR (?_)))))))))))))))))))
    refine e_ret ?_
    exact vb (by rw [name_eq, if_pos (by omega)])
  · have hc1 := bp hb1
    refine m_ (h:=n_ (h:=gt_ (h:=pf_ (h:=m_ (h:=?_)))))
    refine al_gs false rfl rfl (fun hb2 => ?_) (fun hb2 => ?_)
    · have hc2 := bp hb2
      refine g0_ (h:=g0_ (h:=pt_ (h:=m_ (h:=g0_ (h:=g0_ (h:=pt_ (h:=e_ (cy_ (h:=w_ (a_ (h:=e_ (aw_ret (x_thenR (?_))))))))))))))
      refine e_ret ?_
      exact vb (by rw [name_eq, if_pos (by omega)])
    · have hc2 := bp hb2
      refine m_ (h:=eq_ (h:=pf_ (h:=m_ (h:=?_))))
      refine al_gs false rfl rfl (fun hb3 => ?_) (fun hb3 => ?_)
      · have hc3 := bp hb3
        refine g0_ (h:=g0_ (h:=pt_ (h:=e_ (cy_ (h:=w_ (a_ (h:=e_ (aw_ret (x_thenR (?_))))))))))
        refine e_ret ?_
        exact vb (by rw [name_eq, if_neg (by omega), if_pos hc3])
      · have hc3 := bp hb3
        refine m_ (h:=eq_ (h:=pf_ (h:=e_ (?_))))
        refine aw_cond rfl (fun hb4 => ?_) (fun hb4 => ?_)
        · have hc4 := bp hb4
          refine w_ (a_ (h:=e_ (aw_ret (x_thenR (?_)))))
          refine e_ret ?_
          exact vb (by rw [name_eq, if_neg (by omega), if_neg hc3, if_pos hc4])
        · have hc4 := bp hb4
          refine kt_ (q_ (w_ (a_ (h:=e_ (aw_block (?_))))))
          refine aw_loopW (fun m t => ∃ j : Nat, j ≤ s.size ∧ m = s.size - j ∧ (∀ i (hi : i < s.size), i < j → byteOK s[i] = true) ∧ t = ⟨look [(0, .v (.string s)), (3, .v (.int .i64 (j : Int)))], ⟨[], []⟩⟩) (s.size) ((wk 0 0)) (⟨0, by omega, rfl, fun i _ hi => by omega, rfl⟩) ?_
          rintro m t ⟨j, hj, rfl, ha, rfl⟩
          refine q_ (w_ (m_ (h:=m_ (h:=n_ (h:=lt_ (h:=e_ (?_)))))))
          refine aw_cond rfl (fun hb5 => ?_) (fun hb5 => ?_)
          · have hc5 := bp hb5
            have hlt : j < s.size := by omega
            refine kt_ (q_ (aw_block (w_ (m_ (h:=m_ (h:=?_))))))
            refine al_p rfl (st_strIdx (n := j) Try.underlying9 rfl rfl rfl hlt ?_)
            refine eq_ (h:=m_ (h:=?_))
            refine al_gs false rfl rfl (fun hb6 => ?_) (fun hb6 => ?_)
            · have hc6 := bp hb6
              refine g0_ (h:=g0_ (h:=g0_ (h:=g0_ (h:=pt_ (h:=e_ (cy_ (h:=w_ (a_ (h:=e_ (aw_ret (x_blockR (x_thenR (x_thenR (x_blockR (x_thenR (?_))))))))))))))))
              refine e_ret ?_
              exact vb (by rw [name_eq, if_neg (by omega), if_neg hc3, if_neg hc4, all_not hlt (by unfold byteOK; simp [hc6])])
            · have hc6 := bp hb6
              refine m_ (h:=m_ (h:=?_))
              refine g_y (st_strIdx (n := j) Try.underlying9 rfl rfl rfl hlt ?_)
              refine eq_ (h:=pf_ (h:=e_ (?_)))
              refine aw_cond rfl (fun hb7 => ?_) (fun hb7 => ?_)
              · have hc7 := bp hb7
                refine w_ (a_ (h:=e_ (aw_ret (x_blockR (x_thenR (x_thenR (x_blockR (x_thenR (?_)))))))))
                refine e_ret ?_
                exact vb (by rw [name_eq, if_neg (by omega), if_neg hc3, if_neg hc4, all_not hlt (by unfold byteOK; simp [hc7])])
              · have hc7 := bp hb7
                refine aw_skip (x_blockN (t_ (aw_region (m_ (h:=ad_ (h:=a_ (h:=al_nil (?_))))))))
                refine x_then ?_
                refine ⟨_, _, ?_, ⟨j + 1, by omega, rfl, bytes_snoc hlt ha (byte_ok hc6 hc7), rfl⟩, (wk 0 0)⟩
                omega
          · have hc5 := bp hb5
            obtain rfl : j = s.size := by omega
            refine aw_exit (x_thenE (x_thenE (ABlock_out (t_ (w_ (a_ (h:=e_ (aw_ret (?_)))))))))
            refine e_ret ?_
            exact vb (by rw [name_eq, if_neg (by omega), if_neg hc3, if_neg hc4, all_upto (fun i hi => ha i hi hi)])

end
end Go.Proofs.Ytgliiknfmlmddaa
namespace Go.Proofs.Ytgliiknfmlmddaa
open Go.RowKit

theorem fullL_eq (f : Fls) (a : Fil) : fullL f a = decide (12 ≤ (nodG f a).entries.length) := by
  unfold fullL nodG
  cases nodeL f a <;> simp [Nod.zero]
theorem emptyL_eq (f : Fls) (a : Fil) : emptyL f a = decide ((nodG f a).entries.length = 0) := by
  unfold emptyL nodG
  cases nodeL f a <;> simp [Nod.zero]
theorem linksF_at {f : Fls} {a : Fil} {k : Nat} {d : Dvc} {n : Nod} (hk : a.1 = (k : Int)) (hd : f[k]? = some d) (hn : nodeL f a = some n) : linksF f a = cntN a.2 d.nodes := by
  unfold linksF
  rw [hn, hk, atI_nat, hd]
section
set_option maxRecDepth 10000
set_option maxHeartbeats 1000000
theorem Rtarget (s : Str) (hs : s.size ≤ 100000) : AFn Try.prog 105 [.v (.string s)] (fun r => r = .v (.bool (targetL s))) := by
  refine enter Try.func105 rfl rfl rfl rfl rfl 0 rfl ?_
  refine w_ (a_ (h:=e_ (q_ (w_ (a_ (h:=e_ (aw_block (?_))))))))
  refine aw_loopW (fun m t => ∃ j : Nat, j ≤ s.size ∧ m = s.size - j ∧ (∀ i (hi : i < s.size), i < j → (!((s[i].toNat : Int) == 0)) = true) ∧ t = ⟨look [(0, .v (.string s)), (3, .v (.int .i64 (j : Int)))], ⟨[], []⟩⟩) (s.size) ((wk 0 0)) (⟨0, by omega, rfl, fun i _ hi => by omega, rfl⟩) ?_
  rintro m t ⟨j, hj, rfl, ha, rfl⟩
  refine q_ (w_ (m_ (h:=m_ (h:=n_ (h:=lt_ (h:=e_ (?_)))))))
  refine aw_cond rfl (fun hb1 => ?_) (fun hb1 => ?_)
  · have hc1 := bp hb1
    have hlt : j < s.size := by omega
    refine kt_ (q_ (aw_block (w_ (m_ (h:=m_ (h:=?_))))))
    refine al_p rfl (st_strIdx (n := j) Try.underlying9 rfl rfl rfl hlt ?_)
    refine eq_ (h:=e_ (?_))
    refine aw_cond rfl (fun hb2 => ?_) (fun hb2 => ?_)
    · have hc2 := bp hb2
      refine w_ (a_ (h:=e_ (aw_ret (x_blockR (x_thenR (x_thenR (x_blockR (x_thenR (?_)))))))))
      refine e_ret ?_
      exact vb (by unfold targetL; rw [all_not hlt (by simp [hc2])]; simp)
    · have hc2 := bp hb2
      refine aw_skip (x_blockN (t_ (aw_region (m_ (h:=ad_ (h:=a_ (h:=al_nil (?_))))))))
      refine x_then ?_
      refine ⟨_, _, ?_, ⟨j + 1, by omega, rfl, bytes_snoc (p := fun c => !((c.toNat : Int) == 0)) hlt ha (by simpa using hc2), rfl⟩, (wk 0 0)⟩
      omega
  · have hc1 := bp hb1
    obtain rfl : j = s.size := by omega
    have hal := all_upto (p := fun c => !((c.toNat : Int) == 0)) (fun i hi => ha i hi hi)
    refine aw_exit (x_thenE (x_thenE (ABlock_out (t_ (w_ (m_ (h:=n_ (h:=ge_ (h:=m_ (h:=?_))))))))))
    refine al_gs true rfl rfl (fun hb3 => ?_) (fun hb3 => ?_)
    · have hc3 := bp hb3
      refine m_ (h:=n_ (h:=le_ (h:=pt_ (h:=a_ (h:=e_ (aw_ret (?_)))))))
      refine e_ret ?_
      exact vb (by unfold targetL; rw [hal, Bool.eq_iff_iff]; simp; omega)
    · have hc3 := bp hb3
      refine g0_ (h:=g0_ (h:=g0_ (h:=pf_ (h:=a_ (h:=e_ (aw_ret (?_)))))))
      refine e_ret ?_
      exact vb (by unfold targetL; rw [hal, Bool.eq_iff_iff]; simp; omega)

theorem Rplace (f : Fls) (a : Fil) (name : Str) (hf : FlsB f) (hs : name.size ≤ 100000) : AFn Try.prog 80 [.agg (flsA f), .agg (filA a), .v (.string name)] (fun r => r = .v (.int .i64 (placeL f a name))) := by
  refine enter Try.func80 rfl rfl rfl rfl rfl 0 rfl ?_
  refine w_ (b_ (h:=b_ (h:=a_ (h:=e_ (w_ (l_ (h:=l_ (h:=?_))))))))
  refine al_p rfl (q_call (Rnode f a hf) ?_)
  rintro r rfl
  refine m_ (h:=x_ (h:=x_ (h:=al_ (h:=s_ (h:=a_ (h:=e_ (q_ (w_ (m_ (h:=nt_ (h:=e_ (?_))))))))))))
  refine aw_cond rfl (fun hb1 => ?_) (fun hb1 => ?_)
  · have hc1 := bp hb1
    have e := has_none hc1
    refine w_ (a_ (h:=e_ (aw_ret (x_thenR (?_)))))
    refine e_ret ?_
    exact vi (by simp [placeL, e])
  · have hc1 := bp hb1
    have e := has_some hc1
    refine kt_ (q_ (w_ (f_ (h:=l_ (h:=nq_ (h:=e_ (?_)))))))
    refine aw_cond rfl (fun hb2 => ?_) (fun hb2 => ?_)
    · have hc2 := bp hb2
      refine w_ (a_ (h:=e_ (aw_ret (x_thenR (?_)))))
      refine e_ret ?_
      exact vi (by simp [placeL, e, hc2])
    · have hc2 := bp hb2
      refine kt_ (q_ (w_ (m_ (h:=?_))))
      refine al_p rfl (q_call (Rname name hs) ?_)
      rintro r rfl
      refine nt_ (h:=e_ (?_))
      refine aw_cond rfl (fun hb3 => ?_) (fun hb3 => ?_)
      · have hc3 := bp hb3
        refine w_ (a_ (h:=e_ (aw_ret (x_thenR (?_)))))
        refine e_ret ?_
        exact vi (by simp only [placeL, e]; rw [if_pos (by omega), hc3]; rfl)
      · have hc3 := bp hb3
        refine kt_ (w_ (a_ (h:=e_ (aw_ret (?_)))))
        refine e_ret ?_
        exact vi (by simp only [placeL, e]; rw [if_pos (by omega), hc3]; rfl)

theorem Rfull (f : Fls) (a : Fil) (hf : FlsB f) : AFn Try.prog 83 [.agg (flsA f), .agg (filA a)] (fun r => r = .v (.bool (fullL f a))) := by
  refine enter Try.func83 rfl rfl rfl rfl rfl 0 rfl ?_
  refine w_ (b_ (h:=b_ (h:=a_ (h:=e_ (w_ (l_ (h:=l_ (h:=?_))))))))
  refine al_p rfl (q_call (Rnode f a hf) ?_)
  rintro r rfl
  refine m_ (h:=x_ (h:=x_ (h:=al_ (h:=s_ (h:=a_ (h:=e_ (w_ (f_ (h:=l_ (h:=n_ (h:=ge_ (h:=a_ (h:=e_ (aw_ret (?_)))))))))))))))
  refine e_ret ?_
  exact vb (by rw [fullL_eq, Bool.eq_iff_iff]; simp; omega)

theorem Rempty (f : Fls) (a : Fil) (hf : FlsB f) : AFn Try.prog 112 [.agg (flsA f), .agg (filA a)] (fun r => r = .v (.bool (emptyL f a))) := by
  refine enter Try.func112 rfl rfl rfl rfl rfl 0 rfl ?_
  refine w_ (b_ (h:=b_ (h:=a_ (h:=e_ (w_ (l_ (h:=l_ (h:=?_))))))))
  refine al_p rfl (q_call (Rnode f a hf) ?_)
  rintro r rfl
  refine m_ (h:=x_ (h:=x_ (h:=al_ (h:=s_ (h:=a_ (h:=e_ (w_ (f_ (h:=l_ (h:=n_ (h:=eq_ (h:=a_ (h:=e_ (aw_ret (?_)))))))))))))))
  refine e_ret ?_
  exact vb (by rw [emptyL_eq, Bool.eq_iff_iff]; simp)

theorem Rplain (n : Nod) (hs : n.target.size ≤ 100000) : AFn Try.prog 81 [.agg (nodA n)] (fun r => r = .v (.bool (plainL n))) := by
  have ee : n.target.toList.isEmpty = decide (n.target = ⟨#[]⟩) := by
    rw [← str_eq n.target ⟨#[]⟩, show (⟨#[]⟩ : ByteArray).toList = [] by rw [ByteArray.toList_eq]]
    cases n.target.toList <;> rfl
  refine enter Try.func81 rfl rfl rfl rfl rfl 0 rfl ?_
  refine w_ (b_ (h:=a_ (h:=e_ (q_ (?_)))))
  refine aw_mid (⟨look [(1, .bp 0 0), (40, .v (.bool (decide (n.kind < 1 ∨ 3 < n.kind ∨ n.mode < 0 ∨ 511 < n.mode ∨ n.uid < 0 ∨ 4294967295 < n.uid ∨ n.gid < 0 ∨ 4294967295 < n.gid))))], ⟨[nodA n], []⟩⟩) ?_ ?_
  · skip
    refine aw_region (f_ (h:=l_ (h:=lt_ (h:=m_ (h:=?_)))))
    refine al_gs false rfl rfl (fun hb1 => ?_) (fun hb1 => ?_)
    · have hc1 := bp hb1
      refine g0_ (h:=g0_ (h:=g0_ (h:=pt_ (h:=m_ (h:=g0_ (h:=g0_ (h:=g0_ (h:=pt_ (h:=m_ (h:=g0_ (h:=g0_ (h:=g0_ (h:=pt_ (h:=m_ (h:=g0_ (h:=g0_ (h:=g0_ (h:=pt_ (h:=m_ (h:=g0_ (h:=g0_ (h:=g0_ (h:=pt_ (h:=?_))))))))))))))))))))))))
      refine m_ (h:=g0_ (h:=g0_ (h:=g0_ (h:=pt_ (h:=m_ (h:=g0_ (h:=g0_ (h:=g0_ (h:=pt_ (h:=al_nil (?_)))))))))))
      refine x_then ?_
      first | (exfalso; first | contradiction | omega) | exact weak_of 1 0 rfl rfl rfl rfl (by repeat (first | exact Sub.nil | refine Sub.cons _ _ _ rfl rfl ?_ | refine Sub.any _ _ ?_ | refine Sub.sl _ _ _ _ _ rfl ?_ | refine Sub.slnil _ _ _ rfl ?_ | (apply Sub.of; (focus exact rfl); (focus exact LeA.of_eq (vb (by rw [Bool.eq_iff_iff]; simp; try omega))); (focus exact rfl))))
    · have hc1 := bp hb1
      refine f_ (h:=l_ (h:=gt_ (h:=pf_ (h:=m_ (h:=?_)))))
      refine al_gs false rfl rfl (fun hb2 => ?_) (fun hb2 => ?_)
      · have hc2 := bp hb2
        refine g0_ (h:=g0_ (h:=g0_ (h:=pt_ (h:=m_ (h:=g0_ (h:=g0_ (h:=g0_ (h:=pt_ (h:=m_ (h:=g0_ (h:=g0_ (h:=g0_ (h:=pt_ (h:=m_ (h:=g0_ (h:=g0_ (h:=g0_ (h:=pt_ (h:=m_ (h:=g0_ (h:=g0_ (h:=g0_ (h:=pt_ (h:=?_))))))))))))))))))))))))
        refine m_ (h:=g0_ (h:=g0_ (h:=g0_ (h:=pt_ (h:=al_nil (?_))))))
        refine x_then ?_
        first | (exfalso; first | contradiction | omega) | exact weak_of 1 0 rfl rfl rfl rfl (by repeat (first | exact Sub.nil | refine Sub.cons _ _ _ rfl rfl ?_ | refine Sub.any _ _ ?_ | refine Sub.sl _ _ _ _ _ rfl ?_ | refine Sub.slnil _ _ _ rfl ?_ | (apply Sub.of; (focus exact rfl); (focus exact LeA.of_eq (vb (by rw [Bool.eq_iff_iff]; simp; try omega))); (focus exact rfl))))
      · have hc2 := bp hb2
        refine f_ (h:=l_ (h:=lt_ (h:=pf_ (h:=m_ (h:=?_)))))
        refine al_gs false rfl rfl (fun hb3 => ?_) (fun hb3 => ?_)
        · have hc3 := bp hb3
          refine g0_ (h:=g0_ (h:=g0_ (h:=pt_ (h:=m_ (h:=g0_ (h:=g0_ (h:=g0_ (h:=pt_ (h:=m_ (h:=g0_ (h:=g0_ (h:=g0_ (h:=pt_ (h:=m_ (h:=g0_ (h:=g0_ (h:=g0_ (h:=pt_ (h:=m_ (h:=g0_ (h:=g0_ (h:=g0_ (h:=pt_ (h:=?_))))))))))))))))))))))))
          refine al_nil (?_)
          refine x_then ?_
          first | (exfalso; first | contradiction | omega) | exact weak_of 1 0 rfl rfl rfl rfl (by repeat (first | exact Sub.nil | refine Sub.cons _ _ _ rfl rfl ?_ | refine Sub.any _ _ ?_ | refine Sub.sl _ _ _ _ _ rfl ?_ | refine Sub.slnil _ _ _ rfl ?_ | (apply Sub.of; (focus exact rfl); (focus exact LeA.of_eq (vb (by rw [Bool.eq_iff_iff]; simp; try omega))); (focus exact rfl))))
        · have hc3 := bp hb3
          refine f_ (h:=l_ (h:=gt_ (h:=pf_ (h:=m_ (h:=?_)))))
          refine al_gs false rfl rfl (fun hb4 => ?_) (fun hb4 => ?_)
          · have hc4 := bp hb4
            refine g0_ (h:=g0_ (h:=g0_ (h:=pt_ (h:=m_ (h:=g0_ (h:=g0_ (h:=g0_ (h:=pt_ (h:=m_ (h:=g0_ (h:=g0_ (h:=g0_ (h:=pt_ (h:=m_ (h:=g0_ (h:=g0_ (h:=g0_ (h:=pt_ (h:=al_nil (?_))))))))))))))))))))
            refine x_then ?_
            first | (exfalso; first | contradiction | omega) | exact weak_of 1 0 rfl rfl rfl rfl (by repeat (first | exact Sub.nil | refine Sub.cons _ _ _ rfl rfl ?_ | refine Sub.any _ _ ?_ | refine Sub.sl _ _ _ _ _ rfl ?_ | refine Sub.slnil _ _ _ rfl ?_ | (apply Sub.of; (focus exact rfl); (focus exact LeA.of_eq (vb (by rw [Bool.eq_iff_iff]; simp; try omega))); (focus exact rfl))))
          · have hc4 := bp hb4
            refine f_ (h:=l_ (h:=lt_ (h:=pf_ (h:=m_ (h:=?_)))))
            refine al_gs false rfl rfl (fun hb5 => ?_) (fun hb5 => ?_)
            · have hc5 := bp hb5
              refine g0_ (h:=g0_ (h:=g0_ (h:=pt_ (h:=m_ (h:=g0_ (h:=g0_ (h:=g0_ (h:=pt_ (h:=m_ (h:=g0_ (h:=g0_ (h:=g0_ (h:=pt_ (h:=al_nil (?_)))))))))))))))
              refine x_then ?_
              first | (exfalso; first | contradiction | omega) | exact weak_of 1 0 rfl rfl rfl rfl (by repeat (first | exact Sub.nil | refine Sub.cons _ _ _ rfl rfl ?_ | refine Sub.any _ _ ?_ | refine Sub.sl _ _ _ _ _ rfl ?_ | refine Sub.slnil _ _ _ rfl ?_ | (apply Sub.of; (focus exact rfl); (focus exact LeA.of_eq (vb (by rw [Bool.eq_iff_iff]; simp; try omega))); (focus exact rfl))))
            · have hc5 := bp hb5
              refine f_ (h:=l_ (h:=gt_ (h:=pf_ (h:=m_ (h:=?_)))))
              refine al_gs false rfl rfl (fun hb6 => ?_) (fun hb6 => ?_)
              · have hc6 := bp hb6
                refine g0_ (h:=g0_ (h:=g0_ (h:=pt_ (h:=m_ (h:=g0_ (h:=g0_ (h:=g0_ (h:=pt_ (h:=al_nil (?_))))))))))
                refine x_then ?_
                first | (exfalso; first | contradiction | omega) | exact weak_of 1 0 rfl rfl rfl rfl (by repeat (first | exact Sub.nil | refine Sub.cons _ _ _ rfl rfl ?_ | refine Sub.any _ _ ?_ | refine Sub.sl _ _ _ _ _ rfl ?_ | refine Sub.slnil _ _ _ rfl ?_ | (apply Sub.of; (focus exact rfl); (focus exact LeA.of_eq (vb (by rw [Bool.eq_iff_iff]; simp; try omega))); (focus exact rfl))))
              · have hc6 := bp hb6
                refine f_ (h:=l_ (h:=lt_ (h:=pf_ (h:=m_ (h:=?_)))))
                refine al_gs false rfl rfl (fun hb7 => ?_) (fun hb7 => ?_)
                · have hc7 := bp hb7
                  refine g0_ (h:=g0_ (h:=g0_ (h:=pt_ (h:=al_nil (?_)))))
                  refine x_then ?_
                  first | (exfalso; first | contradiction | omega) | exact weak_of 1 0 rfl rfl rfl rfl (by repeat (first | exact Sub.nil | refine Sub.cons _ _ _ rfl rfl ?_ | refine Sub.any _ _ ?_ | refine Sub.sl _ _ _ _ _ rfl ?_ | refine Sub.slnil _ _ _ rfl ?_ | (apply Sub.of; (focus exact rfl); (focus exact LeA.of_eq (vb (by rw [Bool.eq_iff_iff]; simp; try omega))); (focus exact rfl))))
                · have hc7 := bp hb7
                  refine f_ (h:=l_ (h:=gt_ (h:=pf_ (h:=al_nil (?_)))))
                  refine x_then ?_
                  first | (exfalso; first | contradiction | omega) | exact weak_of 1 0 rfl rfl rfl rfl (by repeat (first | exact Sub.nil | refine Sub.cons _ _ _ rfl rfl ?_ | refine Sub.any _ _ ?_ | refine Sub.sl _ _ _ _ _ rfl ?_ | refine Sub.slnil _ _ _ rfl ?_ | (apply Sub.of; (focus exact rfl); (focus exact LeA.of_eq (vb (by rw [Bool.eq_iff_iff]; simp; try omega))); (focus exact rfl))))
  · skip
    refine aw_cond rfl (fun hb8 => ?_) (fun hb8 => ?_)
    · have hc8 := bp hb8
      refine w_ (a_ (h:=e_ (aw_ret (x_thenR (?_)))))
      refine e_ret ?_
      exact vb (by rw [plainL, if_pos hc8])
    · have hc8 := bp hb8
      refine kt_ (q_ (w_ (f_ (h:=l_ (h:=eq_ (h:=e_ (?_)))))))
      refine aw_cond rfl (fun hb9 => ?_) (fun hb9 => ?_)
      · have hc9 := bp hb9
        refine w_ (f_ (h:=l_ (h:=?_)))
        refine al_p rfl (q_call (Rtarget n.target hs) ?_)
        rintro r rfl
        refine a_ (h:=e_ (aw_ret (x_thenR (?_))))
        refine e_ret ?_
        exact vb (by rw [plainL, if_neg hc8, if_pos hc9])
      · have hc9 := bp hb9
        refine kt_ (w_ (f_ (h:=l_ (h:=eq_ (h:=a_ (h:=e_ (aw_ret (?_))))))))
        refine e_ret ?_
        exact vb (by rw [plainL, if_neg hc8, if_neg hc9, ee])

theorem Rlinks (f : Fls) (a : Fil) (hf : FlsB f) : AFn Try.prog 102 [.agg (flsA f), .agg (filA a)] (fun r => r = .v (.int .i64 (linksF f a : Int))) := by
  refine enter Try.func102 rfl rfl rfl rfl rfl 0 rfl ?_
  refine w_ (b_ (h:=b_ (h:=a_ (h:=e_ (q_ (w_ (l_ (h:=l_ (h:=?_)))))))))
  refine al_p rfl (q_call (Rindex f a hf) ?_)
  rintro r rfl
  refine lt_ (h:=e_ (?_))
  refine aw_cond rfl (fun hb1 => ?_) (fun hb1 => ?_)
  · have hc1 := bp hb1
    have e : nodeL f a = none := by
      rcases index_node f a with h | ⟨k, i, d, n, -, -, -, -, h, -⟩
      · exact h.2
      · exfalso; omega
    refine w_ (a_ (h:=e_ (aw_ret (x_thenR (?_)))))
    refine e_ret ?_
    exact vi (by simp [linksF, e])
  · have hc1 := bp hb1
    obtain ⟨k, i, d, n, g1, g2, g3, g4, g5, g6⟩ := (index_node f a).resolve_left (fun h => by omega)
    have hr1 : (f.map dvcA)[k]? = some (dvcA d) := by rw [List.getElem?_map, g2]; rfl
    have hdn := hf.nodes d (List.mem_of_getElem? g2)
    refine kt_ (w_ (a_ (h:=e_ (w_ (f_ (h:=l_ (h:=f_ (h:=l_ (h:=?_)))))))))
    refine al_p rfl (st_index (n := k) rfl rfl g1 hr1 ?_)
    refine f_ (h:=l_ (h:=a_ (h:=e_ (q_ (w_ (a_ (h:=e_ (aw_block (?_)))))))))
    refine aw_loopW (fun m s => ∃ j c : Nat, j ≤ d.nodes.length ∧ m = d.nodes.length - j ∧ c = cntN a.2 (d.nodes.take j) ∧ c ≤ 1000 * j ∧ s = ⟨look [(3, .bp 1 0), (5, .v (.int .i64 (c : Int))), (6, .sl 8 (d.nodes.map nodA) none), (7, .v (.int .i64 (j : Int)))], ⟨[flsA f, filA a], []⟩⟩) (d.nodes.length) ((wk 2 0)) (⟨0, 0, by omega, rfl, rfl, by omega, rfl⟩) ?_
    rintro m s ⟨j, c, hj, rfl, hcn, hcb, rfl⟩
    refine q_ (w_ (m_ (h:=m_ (h:=n_ (h:=lt_ (h:=e_ (?_)))))))
    refine aw_cond rfl (fun hb2 => ?_) (fun hb2 => ?_)
    · have hc2 := bp hb2
      obtain ⟨hlt, x, hx, hrow, -⟩ := row_at nodA hc2
      have hen := hf.ents d (List.mem_of_getElem? g2) x (List.mem_of_getElem? hx)
      refine kt_ (q_ (aw_block (w_ (a_ (h:=e_ (aw_block (?_)))))))
      refine aw_loopW (fun m s => ∃ i c2 : Nat, i ≤ x.entries.length ∧ m = x.entries.length - i ∧ c2 = c + cntE a.2 (x.entries.take i) ∧ c2 ≤ c + i ∧ s = ⟨look [(3, .bp 1 0), (5, .v (.int .i64 (c2 : Int))), (6, .sl 8 (d.nodes.map nodA) none), (7, .v (.int .i64 (j : Int))), (8, .v (.int .i64 (i : Int)))], ⟨[flsA f, filA a], []⟩⟩) (x.entries.length) ((wk 2 0)) (⟨0, c, by omega, rfl, rfl, by omega, rfl⟩) ?_
      rintro m s ⟨i, c2, hi, rfl, hc2n, hc2b, rfl⟩
      refine q_ (w_ (m_ (h:=m_ (h:=m_ (h:=i_ (h:=f_ (h:=l_ (h:=n_ (h:=lt_ (h:=e_ (?_)))))))))))
      refine aw_cond rfl (fun hb3 => ?_) (fun hb3 => ?_)
      · have hc3 := bp hb3
        obtain ⟨hlt3, y, hy, hrow3, -⟩ := row_at entA hc3
        refine kt_ (q_ (aw_block (q_ (yr_ 12 (h:=dm_ 0 (h:=dm_ 1 (h:=di_ 2 (h:=df_ 3 (h:=dl_ 4 (h:=dm_ 5 (h:=di_ 6 (h:=df_ 7 (h:=dl_ 8 (h:=df_ 9 (h:=dl_ 10 (h:=deq_ 11 (h:=z_ (h:=t_ (?_)))))))))))))))))))
        refine aw_cond rfl (fun hb4 => ?_) (fun hb4 => ?_)
        · have hc4 := bp hb4
          refine aw_region (m_ (h:=ad_ (h:=a_ (h:=al_nil (x_blockN (t_ (aw_region (m_ (h:=ad_ (h:=a_ (h:=al_nil (?_))))))))))))
          refine x_then ?_
          first | (refine ⟨_, _, ?_, ⟨i + 1, c2 + 1, by omega, rfl, ?_, by omega, rfl⟩, (wk 2 0)⟩ <;> first | omega | (rw [cntE_snoc hy]; simp [hc4]; omega)) | (refine ⟨_, _, ?_, ⟨i + 1, c2, by omega, rfl, ?_, by omega, rfl⟩, (wk 2 0)⟩ <;> first | omega | (rw [cntE_snoc hy]; simp [hc4]; omega))
        · have hc4 := bp hb4
          refine aw_skip (x_blockN (t_ (aw_region (m_ (h:=ad_ (h:=a_ (h:=al_nil (?_))))))))
          refine x_then ?_
          first | (refine ⟨_, _, ?_, ⟨i + 1, c2 + 1, by omega, rfl, ?_, by omega, rfl⟩, (wk 2 0)⟩ <;> first | omega | (rw [cntE_snoc hy]; simp [hc4]; omega)) | (refine ⟨_, _, ?_, ⟨i + 1, c2, by omega, rfl, ?_, by omega, rfl⟩, (wk 2 0)⟩ <;> first | omega | (rw [cntE_snoc hy]; simp [hc4]; omega))
      · have hc3 := bp hb3
        have e3 := row_no entA hi hc3
        subst e3
        refine aw_exit (x_thenE (x_thenE (ABlock_out (x_blockN (t_ (aw_region (m_ (h:=ad_ (h:=a_ (h:=al_nil (?_)))))))))))
        refine x_then ?_
        refine ⟨_, _, ?_, ⟨j + 1, c2, by omega, rfl, ?_, ?_, rfl⟩, (wk 2 0)⟩
        · omega
        · rw [hc2n, cntN_snoc hx, List.take_length]; omega
        · have := cntE_le a.2 (x.entries.take x.entries.length); simp at this; omega
    · have hc2 := bp hb2
      have e2 := row_no nodA hj hc2
      subst e2
      refine aw_exit (x_thenE (x_thenE (ABlock_out (t_ (w_ (m_ (h:=a_ (h:=e_ (aw_ret (?_))))))))))
      refine e_ret ?_
      exact vi (by rw [linksF_at g1 g2 g6, hcn, List.take_length])

end
end Go.Proofs.Ytgliiknfmlmddaa
namespace Go.Proofs.Ytgliiknfmlmddaa
open Go.RowKit

def mntA (m : Mnt) : List AV := [.v (.int .i64 m.1), .v (.int .i64 m.2.1), .v (.int .i64 m.2.2)]
def spcA (s : Spc) : List AV := [.sl 2 (s.files.map dvcA) none, .sl 3 (s.mounts.map mntA) none]
structure SpcB (s : Spc) : Prop where
  files : FlsB s.files
  few : s.mounts.length ≤ 1000
def onL (s : Spc) (dev : Int) : Option Fil := (s.mounts.find? fun m : Mnt => decide (m.1 = dev)).map (·.2)
def covL (s : Spc) (a : Fil) : Option Int := (s.mounts.find? fun m : Mnt => decide (m.2 = a)).map (·.1)
def mtdL (s : Spc) (dev : Int) : Bool := (onL s dev).isSome || decide (dev = 0)
section
set_option maxRecDepth 10000
set_option maxHeartbeats 1000000
theorem eqFil (op : BinOp) (a b c d : Int) (w : World) : (op = .eql ∨ op = .neq) → (binOp op 24 (.agg #[.int .i64 a, .int .i64 b]) (.agg #[.int .i64 c, .int .i64 d])).run Try.prog w = .ok (.bool (decide ((a, b) = (c, d)) == decide (op = .eql))) w := by
  have u3 := Try.underlying3
  have a3 := Try.isAgg3
  have z3 := Try.sizeOf3
  have hS : Try.prog.underlying 24 = some (.struct (Try.prog.fieldsOf 24)) := by kernel_rfl
  have hp : Try.prog.stoodInHeld 24 = false := by kernel_rfl
  have e : ∀ w, (Op.equalIn 10000 24 (.agg #[.int .i64 a, .int .i64 b]) (.agg #[.int .i64 c, .int .i64 d])).run Try.prog w = .ok (a == c && b == d) w := by
    intro w
    rw [show (10000 : Nat) = 9999 + 1 from rfl, run_equalIn_agg w 9999 24 _ _ hS hp]
    simp only [Program.fieldsOf, Try.underlying24]
    go_simp
    by_cases h1 : a = c <;> by_cases h2 : b = d <;> simp [h1, h2]
  rintro (rfl | rfl)
  · rw [run_eql_struct, e]
    by_cases h1 : a = c <;> by_cases h2 : b = d <;> simp [h1, h2]
  · rw [run_neq_struct, e]
    by_cases h1 : a = c <;> by_cases h2 : b = d <;> simp [h1, h2]
theorem eqlFil (a b c d : Int) (w : World) : (binOp .eql 24 (.agg #[.int .i64 a, .int .i64 b]) (.agg #[.int .i64 c, .int .i64 d])).run Try.prog w = .ok (.bool (decide ((a, b) = (c, d)))) w := by
  rw [eqFil .eql a b c d w (.inl rfl)]
  by_cases h : (a, b) = (c, d) <;> simp [h]
theorem neqlFil (a b c d : Int) (w : World) : (binOp .neq 24 (.agg #[.int .i64 a, .int .i64 b]) (.agg #[.int .i64 c, .int .i64 d])).run Try.prog w = .ok (.bool (!decide ((a, b) = (c, d)))) w := by
  rw [eqFil .neq a b c d w (.inr rfl)]
  by_cases h : (a, b) = (c, d) <;> simp [h]
theorem Ron (s : Spc) (dev : Int) (hs : SpcB s) : AFn Try.prog 58 [.agg (spcA s), .v (.int .i64 dev)] (fun r => r = .tup [.agg (filA ((onL s dev).getD (0, 0))), .v (.bool (onL s dev).isSome)]) := by
  have hfew := hs.few
  refine enter Try.func58 rfl rfl rfl rfl rfl 0 rfl ?_
  refine w_ (b_ (h:=al_ (h:=a_ (h:=e_ (q_ (w_ (a_ (h:=e_ (aw_block (?_))))))))))
  refine aw_loopW (fun m t => ∃ j : Nat, j ≤ s.mounts.length ∧ m = s.mounts.length - j ∧ (∀ i y, i < j → s.mounts[i]? = some y → decide (y.1 = dev) = false) ∧ t = ⟨look [(1, .v (.int .i64 dev)), (2, .bp 0 0), (4, .bp 1 0), (6, .v (.int .i64 (j : Int)))], ⟨[spcA s, [.v (.int .i64 0), .v (.int .i64 0)]], []⟩⟩) (s.mounts.length) ((wk 2 0)) (⟨0, by omega, rfl, fun i y hi => by omega, rfl⟩) ?_
  rintro m t ⟨j, hj, rfl, ha, rfl⟩
  refine q_ (w_ (m_ (h:=f_ (h:=l_ (h:=n_ (h:=lt_ (h:=e_ (?_))))))))
  refine aw_cond rfl (fun hb1 => ?_) (fun hb1 => ?_)
  · have hc1 := bp hb1
    obtain ⟨hlt, x, hy, hrow, -⟩ := row_at mntA hc1
    refine kt_ (q_ (aw_block (w_ (f_ (h:=l_ (h:=m_ (h:=i_ (h:=f_ (h:=l_ (h:=m_ (h:=eq_ (h:=e_ (?_)))))))))))))
    refine aw_cond rfl (fun hb2 => ?_) (fun hb2 => ?_)
    · have hc2 := bp hb2
      refine w_ (f_ (h:=l_ (h:=m_ (h:=i_ (h:=f_ (h:=l_ (h:=s_ (h:=a_ (h:=e_ (aw_ret (x_blockR (x_thenR (x_thenR (x_blockR (x_thenR (?_))))))))))))))))
      refine e_ret ?_
      rw [show onL s dev = some x.2 by simp only [onL]; rw [find_at hy (by simpa using hc2) ha]; rfl]
      rfl
    · have hc2 := bp hb2
      refine aw_skip (x_blockN (t_ (aw_region (m_ (h:=ad_ (h:=a_ (h:=al_nil (?_))))))))
      refine x_then ?_
      refine ⟨_, _, ?_, ⟨j + 1, by omega, rfl, upto_snoc hy ha (by simpa using hc2), rfl⟩, (wk 2 0)⟩
      omega
  · have hc1 := bp hb1
    have e3 := row_no mntA hj hc1
    subst e3
    refine aw_exit (x_thenE (x_thenE (ABlock_out (t_ (w_ (bd_ (h:=s_ (h:=a_ (h:=e_ (aw_ret (?_)))))))))))
    refine e_ret ?_
    rw [show onL s dev = none by simp only [onL]; rw [find_no ha]; rfl]
    rfl

theorem Rmounted (s : Spc) (dev : Int) (hs : SpcB s) : AFn Try.prog 39 [.agg (spcA s), .v (.int .i64 dev)] (fun r => r = .v (.bool (mtdL s dev))) := by
  refine enter Try.func39 rfl rfl rfl rfl rfl 0 rfl ?_
  refine w_ (b_ (h:=a_ (h:=e_ (w_ (l_ (h:=m_ (h:=?_)))))))
  refine al_p rfl (q_call (Ron s dev hs) ?_)
  rintro r rfl
  refine m_ (h:=x_ (h:=x_ (h:=al_ (h:=s_ (h:=a_ (h:=e_ (w_ (m_ (h:=m_ (h:=?_))))))))))
  refine al_gs false rfl rfl (fun hb1 => ?_) (fun hb1 => ?_)
  · have hc1 := bp hb1
    refine g0_ (h:=g0_ (h:=pt_ (h:=a_ (h:=e_ (aw_ret (?_))))))
    refine e_ret ?_
    exact vb (by unfold mtdL; rw [hc1]; simp)
  · have hc1 := bp hb1
    refine m_ (h:=eq_ (h:=pf_ (h:=a_ (h:=e_ (aw_ret (?_))))))
    refine e_ret ?_
    exact vb (by unfold mtdL; rw [hc1]; simp)

theorem Rdevice (s : Spc) (a : Fil) (hs : SpcB s) : AFn Try.prog 62 [.agg (spcA s), .agg (filA a)] (fun r => r = .tup [.v (.int .i64 ((covL s a).getD 0)), .v (.bool (covL s a).isSome)]) := by
  have hfew := hs.few
  refine enter Try.func62 rfl rfl rfl rfl rfl 0 rfl ?_
  refine w_ (b_ (h:=b_ (h:=a_ (h:=a_ (h:=e_ (q_ (w_ (a_ (h:=e_ (aw_block (?_)))))))))))
  refine aw_loopW (fun m t => ∃ j : Nat, j ≤ s.mounts.length ∧ m = s.mounts.length - j ∧ (∀ i y, i < j → s.mounts[i]? = some y → decide (y.2 = a) = false) ∧ t = ⟨look [(2, .bp 0 0), (3, .bp 1 0), (6, .v (.int .i64 (j : Int)))], ⟨[spcA s, filA a], []⟩⟩) (s.mounts.length) ((wk 2 0)) (⟨0, by omega, rfl, fun i y hi => by omega, rfl⟩) ?_
  rintro m t ⟨j, hj, rfl, ha, rfl⟩
  refine q_ (w_ (m_ (h:=f_ (h:=l_ (h:=n_ (h:=lt_ (h:=e_ (?_))))))))
  refine aw_cond rfl (fun hb1 => ?_) (fun hb1 => ?_)
  · have hc1 := bp hb1
    obtain ⟨hlt, x, hy, hrow, -⟩ := row_at mntA hc1
    refine kt_ (q_ (aw_block (q_ (yr_ 8 (h:=df_ 0 (h:=dl_ 1 (h:=dm_ 2 (h:=di_ 3 (h:=df_ 4 (h:=dl_ 5 (h:=dl_ 6 (h:=?_))))))))))))
    refine r_y (i := 7) rfl (st_binA rfl rfl (by repeat constructor) (by repeat constructor) (fun w => eqlFil _ _ _ _ w) (by kernel_rfl) ⟨rfl, rfl⟩) ?_
    refine z_ (h:=t_ (?_))
    refine aw_cond rfl (fun hb2 => ?_) (fun hb2 => ?_)
    · have hc2 := bp hb2
      refine w_ (f_ (h:=l_ (h:=m_ (h:=i_ (h:=f_ (h:=l_ (h:=a_ (h:=a_ (h:=e_ (aw_ret (x_blockR (x_thenR (x_thenR (x_blockR (x_thenR (?_))))))))))))))))
      refine e_ret ?_
      rw [show covL s a = some x.1 by simp only [covL]; rw [find_at hy (decide_eq_true hc2) ha]; rfl]
      rfl
    · have hc2 := bp hb2
      refine aw_skip (x_blockN (t_ (aw_region (m_ (h:=ad_ (h:=a_ (h:=al_nil (?_))))))))
      refine x_then ?_
      refine ⟨_, _, ?_, ⟨j + 1, by omega, rfl, upto_snoc hy ha (decide_eq_false hc2), rfl⟩, (wk 2 0)⟩
      omega
  · have hc1 := bp hb1
    have e3 := row_no mntA hj hc1
    subst e3
    refine aw_exit (x_thenE (x_thenE (ABlock_out (t_ (w_ (a_ (h:=a_ (h:=e_ (aw_ret (?_))))))))))
    refine e_ret ?_
    rw [show covL s a = none by simp only [covL]; rw [find_no ha]; rfl]
    rfl

theorem Rcovered (s : Spc) (a : Fil) (hs : SpcB s) : AFn Try.prog 27 [.agg (spcA s), .agg (filA a)] (fun r => r = .v (.bool (covL s a).isSome)) := by
  refine enter Try.func27 rfl rfl rfl rfl rfl 0 rfl ?_
  refine w_ (b_ (h:=b_ (h:=a_ (h:=e_ (w_ (l_ (h:=l_ (h:=?_))))))))
  refine al_p rfl (q_call (Rdevice s a hs) ?_)
  rintro r rfl
  refine m_ (h:=x_ (h:=x_ (h:=a_ (h:=a_ (h:=e_ (w_ (m_ (h:=a_ (h:=e_ (aw_ret (?_)))))))))))
  refine e_ret ?_
  rfl

theorem Pplace (s : Spc) (dev : Int) (hs : SpcB s) : AFn Try.prog 63 [.agg (spcA s), .v (.int .i64 dev)] (fun r => r = .tup [.agg (filA ((onL s dev).getD (0, 0))), .v (.bool (onL s dev).isSome)]) := by
  have hfew := hs.few
  refine enter Try.func63 rfl rfl rfl rfl rfl 0 rfl ?_
  refine w_ (b_ (h:=al_ (h:=a_ (h:=e_ (q_ (w_ (f_ (h:=l_ (h:=n_ (h:=m_ (h:=e_ (aw_block (?_)))))))))))))
  refine aw_loopW (fun m t => ∃ j : Nat, j ≤ s.mounts.length ∧ m = s.mounts.length - j ∧ (∀ i y, i < j → s.mounts[i]? = some y → decide (y.1 = dev) = false) ∧ t = ⟨look [(1, .v (.int .i64 dev)), (4, .bp 1 0), (9, .sl 3 (s.mounts.map mntA) none), (10, .v (.int .i64 ((s.mounts.map mntA).length : Int))), (11, .v (.int .i64 (j : Int)))], ⟨[spcA s, [.v (.int .i64 0), .v (.int .i64 0)]], []⟩⟩) (s.mounts.length) ((wk 2 0)) (⟨0, by omega, rfl, fun i y hi => by omega, rfl⟩) ?_
  rintro m t ⟨j, hj, rfl, ha, rfl⟩
  refine w_ (lt_ (h:=e_ (q_ (?_))))
  refine aw_cond rfl (fun hb1 => ?_) (fun hb1 => ?_)
  · have hc1 := bp hb1
    obtain ⟨hlt, x, hy, hrow, -⟩ := row_at mntA hc1
    refine kt_ (q_ (aw_block (w_ (i_ (h:=l_ (h:=al_ (h:=s_ (h:=e_ (w_ (f_ (h:=l_ (h:=m_ (h:=eq_ (h:=e_ (?_)))))))))))))))
    refine aw_cond rfl (fun hb2 => ?_) (fun hb2 => ?_)
    · have hc2 := bp hb2
      refine w_ (f_ (h:=l_ (h:=s_ (h:=a_ (h:=e_ (aw_ret (x_blockR (x_thenR (x_thenR (x_blockR (x_thenR (?_))))))))))))
      refine e_ret ?_
      rw [show onL s dev = some x.2 by simp only [onL]; rw [find_at hy (by simpa using hc2) ha]; rfl]
      rfl
    · have hc2 := bp hb2
      refine aw_skip (x_blockN (t_ (aw_region (ad_ (h:=m_ (h:=al_nil (?_)))))))
      refine x_then ?_
      refine ⟨_, _, ?_, ⟨j + 1, by omega, rfl, upto_snoc hy ha (by simpa using hc2), rfl⟩, (wk 2 0)⟩
      omega
  · have hc1 := bp hb1
    have e3 := row_no mntA hj hc1
    subst e3
    refine aw_exit (x_thenE (x_thenE (ABlock_out (t_ (w_ (bd_ (h:=s_ (h:=a_ (h:=e_ (aw_ret (?_)))))))))))
    refine e_ret ?_
    rw [show onL s dev = none by simp only [onL]; rw [find_no ha]; rfl]
    rfl

theorem Pmounted (s : Spc) (dev : Int) (hs : SpcB s) : AFn Try.prog 38 [.agg (spcA s), .v (.int .i64 dev)] (fun r => r = .v (.bool (mtdL s dev))) := by
  refine enter Try.func38 rfl rfl rfl rfl rfl 0 rfl ?_
  refine w_ (b_ (h:=a_ (h:=e_ (q_ (w_ (m_ (h:=eq_ (h:=e_ (?_)))))))))
  refine aw_cond rfl (fun hb1 => ?_) (fun hb1 => ?_)
  · have hc1 := bp hb1
    refine w_ (a_ (h:=e_ (aw_ret (x_thenR (?_)))))
    refine e_ret ?_
    exact vb (by unfold mtdL; simp [hc1])
  · have hc1 := bp hb1
    refine kt_ (w_ (l_ (h:=m_ (h:=?_))))
    refine al_p rfl (q_call (Pplace s dev hs) ?_)
    rintro r rfl
    refine m_ (h:=x_ (h:=x_ (h:=al_ (h:=s_ (h:=a_ (h:=e_ (w_ (m_ (h:=a_ (h:=e_ (aw_ret (?_))))))))))))
    refine e_ret ?_
    exact vb (by unfold mtdL; simp [hc1])

theorem Pcover (s : Spc) (a : Fil) (hs : SpcB s) : AFn Try.prog 61 [.agg (spcA s), .agg (filA a)] (fun r => r = .tup [.v (.int .i64 ((covL s a).getD 0)), .v (.bool (covL s a).isSome)]) := by
  have hfew := hs.few
  refine enter Try.func61 rfl rfl rfl rfl rfl 0 rfl ?_
  refine w_ (b_ (h:=b_ (h:=a_ (h:=a_ (h:=e_ (q_ (w_ (f_ (h:=l_ (h:=n_ (h:=m_ (h:=e_ (aw_block (?_))))))))))))))
  refine aw_loopW (fun m t => ∃ j : Nat, j ≤ s.mounts.length ∧ m = s.mounts.length - j ∧ (∀ i y, i < j → s.mounts[i]? = some y → decide (y.2 = a) = false) ∧ t = ⟨look [(3, .bp 1 0), (9, .sl 3 (s.mounts.map mntA) none), (10, .v (.int .i64 ((s.mounts.map mntA).length : Int))), (11, .v (.int .i64 (j : Int)))], ⟨[spcA s, filA a], []⟩⟩) (s.mounts.length) ((wk 2 0)) (⟨0, by omega, rfl, fun i y hi => by omega, rfl⟩) ?_
  rintro m t ⟨j, hj, rfl, ha, rfl⟩
  refine w_ (lt_ (h:=e_ (q_ (?_))))
  refine aw_cond rfl (fun hb1 => ?_) (fun hb1 => ?_)
  · have hc1 := bp hb1
    obtain ⟨hlt, x, hy, hrow, -⟩ := row_at mntA hc1
    refine kt_ (q_ (aw_block (w_ (i_ (h:=l_ (h:=al_ (h:=s_ (h:=e_ (w_ (f_ (h:=l_ (h:=l_ (h:=?_)))))))))))))
    refine al_p rfl (st_binA rfl rfl (by repeat constructor) (by repeat constructor) (fun w => eqlFil _ _ _ _ w) (by kernel_rfl) ?_)
    refine e_ (?_)
    refine aw_cond rfl (fun hb2 => ?_) (fun hb2 => ?_)
    · have hc2 := bp hb2
      refine w_ (f_ (h:=l_ (h:=a_ (h:=a_ (h:=e_ (aw_ret (x_blockR (x_thenR (x_thenR (x_blockR (x_thenR (?_))))))))))))
      refine e_ret ?_
      rw [show covL s a = some x.1 by simp only [covL]; rw [find_at hy (decide_eq_true hc2) ha]; rfl]
      rfl
    · have hc2 := bp hb2
      refine aw_skip (x_blockN (t_ (aw_region (ad_ (h:=m_ (h:=al_nil (?_)))))))
      refine x_then ?_
      refine ⟨_, _, ?_, ⟨j + 1, by omega, rfl, upto_snoc hy ha (decide_eq_false hc2), rfl⟩, (wk 2 0)⟩
      omega
  · have hc1 := bp hb1
    have e3 := row_no mntA hj hc1
    subst e3
    refine aw_exit (x_thenE (x_thenE (ABlock_out (t_ (w_ (a_ (h:=a_ (h:=e_ (aw_ret (?_))))))))))
    refine e_ret ?_
    rw [show covL s a = none by simp only [covL]; rw [find_no ha]; rfl]
    rfl

theorem Pcovered (s : Spc) (a : Fil) (hs : SpcB s) : AFn Try.prog 26 [.agg (spcA s), .agg (filA a)] (fun r => r = .v (.bool (covL s a).isSome)) := by
  refine enter Try.func26 rfl rfl rfl rfl rfl 0 rfl ?_
  refine w_ (b_ (h:=b_ (h:=a_ (h:=e_ (w_ (l_ (h:=l_ (h:=?_))))))))
  refine al_p rfl (q_call (Pcover s a hs) ?_)
  rintro r rfl
  refine m_ (h:=x_ (h:=x_ (h:=a_ (h:=a_ (h:=e_ (w_ (m_ (h:=a_ (h:=e_ (aw_ret (?_)))))))))))
  refine e_ret ?_
  rfl

end
end Go.Proofs.Ytgliiknfmlmddaa
namespace Go.Proofs.Ytgliiknfmlmddaa
open Go.RowKit

theorem nodeL_at {f : Fls} {a : Fil} {k : Nat} {d : Dvc} (hk : a.1 = (k : Int)) (hd : f[k]? = some d) : nodeL f a = d.nodes.find? (fun n : Nod => n.ino == a.2) := by
  unfold nodeL; rw [hk, atI_nat, hd]
def FindR (f : Fls) (a : Fil) (r : AV) : Prop := (nodeL f a = none ∧ r = .v (.pointer none)) ∨ ∃ n, nodeL f a = some n ∧ r = .fp (nodA n)
section
set_option maxRecDepth 10000
set_option maxHeartbeats 1000000
theorem Pfind (f : Fls) (a : Fil) (hf : FlsB f) : AFn Try.prog 72 [.agg (flsA f), .agg (filA a)] (FindR f a) := by
  refine enter Try.func72 rfl rfl rfl rfl rfl 0 rfl ?_
  refine w_ (b_ (h:=b_ (h:=a_ (h:=e_ (q_ (w_ (f_ (h:=l_ (h:=lt_ (h:=m_ (h:=?_)))))))))))
  refine al_gs false rfl rfl (fun hb1 => ?_) (fun hb1 => ?_)
  · have hc1 := bp hb1
    refine g0_ (h:=g0_ (h:=g0_ (h:=g0_ (h:=g0_ (h:=g0_ (h:=pt_ (h:=e_ (cy_ (h:=w_ (a_ (h:=e_ (aw_ret (x_thenR (?_))))))))))))))
    refine e_ret ?_
    exact .inl ⟨by unfold nodeL; rw [atI_none (.inl hc1)], rfl⟩
  · have hc1 := bp hb1
    refine f_ (h:=l_ (h:=f_ (h:=l_ (h:=n_ (h:=ge_ (h:=pf_ (h:=e_ (?_))))))))
    refine aw_cond rfl (fun hb2 => ?_) (fun hb2 => ?_)
    · have hc2 := bp hb2
      refine w_ (a_ (h:=e_ (aw_ret (x_thenR (?_)))))
      refine e_ret ?_
      exact .inl ⟨by unfold nodeL; rw [atI_none (.inr (by rw [List.length_map] at hc2; exact hc2))], rfl⟩
    · have hc2 := bp hb2
      obtain ⟨k, hk⟩ := Int.eq_ofNat_of_zero_le (show 0 ≤ a.1 by omega)
      rw [hk] at hc2
      obtain ⟨-, d, hd, hrow, -⟩ := row_at dvcA (l := f) (k := k) (by omega)
      have hdn := hf.nodes d (List.mem_of_getElem? hd)
      refine kt_ (w_ (f_ (h:=l_ (h:=f_ (h:=l_ (h:=?_))))))
      refine al_p rfl (st_index (n := k) rfl rfl hk hrow ?_)
      refine f_ (h:=l_ (h:=a_ (h:=e_ (q_ (w_ (m_ (h:=n_ (h:=m_ (h:=e_ (aw_block (?_)))))))))))
      refine aw_loopW (fun m s => ∃ j : Nat, j ≤ d.nodes.length ∧ m = d.nodes.length - j ∧ (∀ i y, i < j → d.nodes[i]? = some y → (y.ino == a.2) = false) ∧ s = ⟨look [(3, .bp 1 0), (5, .sl 8 (d.nodes.map nodA) none), (26, .v (.int .i64 ((d.nodes.map nodA).length : Int))), (27, .v (.int .i64 (j : Int)))], ⟨[flsA f, filA a], []⟩⟩) (d.nodes.length) ((wk 2 0)) (⟨0, by omega, rfl, fun i y hi => by omega, rfl⟩) ?_
      rintro m s ⟨j, hj, rfl, ha, rfl⟩
      refine w_ (lt_ (h:=e_ (q_ (?_))))
      refine aw_cond rfl (fun hb3 => ?_) (fun hb3 => ?_)
      · have hc3 := bp hb3
        obtain ⟨hlt, n, hy, hrow2, -⟩ := row_at nodA hc3
        refine kt_ (q_ (aw_block (w_ (m_ (h:=a_ (h:=e_ (q_ (yr_ 8 (h:=dm_ 0 (h:=dm_ 1 (h:=di_ 2 (h:=df_ 3 (h:=dl_ 4 (h:=df_ 5 (h:=dl_ 6 (h:=deq_ 7 (h:=z_ (h:=t_ (?_)))))))))))))))))))
        refine aw_cond rfl (fun hb4 => ?_) (fun hb4 => ?_)
        · have hc4 := bp hb4
          refine w_ (m_ (h:=m_ (h:=i_ (h:=a_ (h:=e_ (aw_ret (x_blockR (x_thenR (x_thenR (x_blockR (x_thenR (?_))))))))))))
          refine e_ret ?_
          exact .inr ⟨n, by rw [nodeL_at hk hd]; exact find_at hy (by simpa using hc4) ha, rfl⟩
        · have hc4 := bp hb4
          refine aw_skip (x_blockN (t_ (aw_region (ad_ (h:=m_ (h:=al_nil (?_)))))))
          refine x_then ?_
          refine ⟨_, _, ?_, ⟨j + 1, by omega, rfl, upto_snoc hy ha (by simpa using hc4), rfl⟩, (wk 2 0)⟩
          omega
      · have hc3 := bp hb3
        have e := row_no nodA hj hc3
        subst e
        refine aw_exit (x_thenE (x_thenE (ABlock_out (t_ (w_ (a_ (h:=e_ (aw_ret (?_)))))))))
        refine e_ret ?_
        exact .inl ⟨by rw [nodeL_at hk hd]; exact find_no (fun i y hi hy => ha i y hi hy), rfl⟩

theorem PcopyEntry (e : Ent) : AFn Try.prog 100 [.agg (entA e)] (fun r => r = .agg (entA e)) := by
  refine enter Try.func100 rfl rfl rfl rfl rfl 0 rfl ?_
  refine w_ (b_ (h:=al_ (h:=e_ (w_ (l_ (h:=s_ (h:=e_ (aw_ret (?_)))))))))
  refine e_ret ?_
  rfl

end
end Go.Proofs.Ytgliiknfmlmddaa
namespace Go.Proofs.Ytgliiknfmlmddaa
open Go.RowKit

section
set_option maxRecDepth 10000
set_option maxHeartbeats 1000000
theorem PcopiedE (es : List Ent) (hes : es.length ≤ 1000) : AFn Try.prog 99 [.sl 2 (es.map entA) none, .fn 100 []] (fun r => r = .sl 2 (es.map entA) none) := by
  have hml : (es.map entA).length = es.length := by simp
  refine enter Try.func99 rfl rfl rfl rfl rfl 0 rfl ?_
  refine w_ (a_ (h:=e_ (q_ (w_ (m_ (h:=n_ (h:=eq_ (h:=e_ (?_)))))))))
  refine aw_cond rfl (fun hb1 => ?_) (fun hb1 => ?_)
  · have hc1 := bp hb1
    refine w_ (a_ (h:=e_ (aw_ret (x_thenR (?_)))))
    refine rt_ (r := .sl 2 (es.map entA) none) none (h5 := ?_) (h6 := ⟨rfl, rfl, rfl⟩)
    rw [show es = [] from List.eq_nil_of_length_eq_zero (by omega)]
    exact LeA.nil _
  · have hc1 := bp hb1
    refine kt_ (w_ (m_ (h:=n_ (h:=ms_ (h:=a_ (h:=e_ (q_ (w_ (m_ (h:=n_ (h:=m_ (h:=e_ (aw_block (?_))))))))))))))
    refine aw_loopW (fun m s => ∃ j : Nat, j ≤ es.length ∧ m = es.length - j ∧ s = ⟨look [(1, .fn 100 []), (5, .sl 2 ((es.take j).map entA) (some 0)), (14, .sl 2 (es.map entA) none), (15, .v (.int .i64 ((es.map entA).length : Int))), (16, .v (.int .i64 (j : Int)))], ⟨[], [(112, 2, (es.take j).map entA)]⟩⟩) (es.length) ((wk 0 1)) (⟨0, by omega, rfl, rfl⟩) ?_
    rintro m s ⟨j, hj, rfl, rfl⟩
    refine w_ (lt_ (h:=e_ (q_ (?_))))
    refine aw_cond rfl (fun hb2 => ?_) (fun hb2 => ?_)
    · have hc2 := bp hb2
      obtain ⟨hlt, x, hy, hrow, e⟩ := row_at entA hc2
      refine kt_ (q_ (aw_block (w_ (i_ (h:=l_ (h:=al_ (h:=s_ (h:=e_ (aw_region (m_ (h:=m_ (h:=l_ (h:=?_)))))))))))))
      refine al_p rfl (st_callC (cy := []) (ys := [.agg (entA x)]) rfl (by repeat (first | exact Args.nil | refine Args.cons _ _ _ _ _ rfl (argOk_clean rfl) ?_ | refine Args.cons _ _ _ _ _ rfl (argOk_nil _) ?_ | refine Args.cons _ _ _ _ _ rfl (argOk_era _) ?_ | refine Args.cons _ _ _ _ _ rfl (argOk_le rfl (by repeat (first | exact LeA.refl _ | exact LeA.nil _ | exact LeL.refl _ | refine LeA.agg ?_ | refine LeA.tup ?_ | exact LeL.nil | refine LeL.cons ?_ ?_ | exact LeA.any _))) ?_)) rfl rfl (PcopyEntry x) ?_)
      rintro r rfl
      refine bs_ (h:=?_)
      first | refine al_p rfl (s_append rfl rfl rfl (by simp; omega) (by repeat constructor) ?_) | refine al_p rfl (s_append0 rfl rfl (by simp; omega) (by repeat constructor) ?_)
      refine a_ (h:=al_nil (x_blockN (t_ (aw_region (ad_ (h:=m_ (h:=al_nil (?_))))))))
      refine x_then ?_
      refine ⟨_, _, ?_, ⟨j + 1, by omega, rfl, rfl⟩, (by rw [e]; exact (wk 0 1))⟩
      omega
    · have hc2 := bp hb2
      have e := row_no entA hj hc2
      subst e
      rw [List.take_length]
      refine aw_exit (x_thenE (x_thenE (ABlock_out (t_ (w_ (m_ (h:=a_ (h:=e_ (aw_ret (?_))))))))))
      refine e_ret ?_
      rfl

theorem PcopyNode (n : Nod) (hn : n.entries.length ≤ 1000) : AFn Try.prog 73 [.agg (nodA n)] (fun r => r = .agg (nodA n)) := by
  refine enter Try.func73 rfl rfl rfl rfl rfl 0 rfl ?_
  refine w_ (b_ (h:=al_ (h:=e_ (w_ (f_ (h:=l_ (h:=?_)))))))
  refine al_p rfl (q_call (PcopiedE n.entries hn) ?_)
  rintro r rfl
  refine f_ (h:=s_ (h:=e_ (w_ (l_ (h:=s_ (h:=e_ (aw_ret (?_))))))))
  refine e_ret ?_
  rfl

end
end Go.Proofs.Ytgliiknfmlmddaa
namespace Go.Proofs.Ytgliiknfmlmddaa
open Go.RowKit

section
variable {P : Program} {ev : Operand → Option AV} {h : AH} {R : AV → AH → Prop} {d : Option Tmp} {ty : TypeId} {pos : String} {af : Array Edge} {gd : Option (Nat × Bool)}
theorem st_eqPnil {T yT : TypeId} {x y : Operand} (hp : P.underlying T = some (.pointer (P.pointee T))) (hx : ev x = some (.v (.pointer none))) (hy : ev y = some (.v (.pointer none))) (hR : R (.v (.bool true)) h) : AStep P ⟨d, .binOp .eql T x y yT, ty, pos, af, gd⟩ ev h R :=
  st_bin hx hy (fun w => by simp [eqGuard, run_eql_pointer_nil (P := P) (w := w) T none hp]) hR
theorem st_eqPfp {T yT : TypeId} {x y : Operand} {row : List AV} (hp : P.underlying T = some (.pointer (P.pointee T))) (hx : ev x = some (.fp row)) (hy : ev y = some (.v (.pointer none))) (hR : R (.v (.bool false)) h) : AStep P ⟨d, .binOp .eql T x y yT, ty, pos, af, gd⟩ ev h R := by
  refine st_val (fun _ G w ec _ he => ?_) hR
  have h1 := he x (by simp [Op.operands]) _ hx
  have h2 := he y (by simp [Op.operands]) _ hy
  simp only [rep] at h1 h2
  obtain ⟨b, off, h3, _⟩ := h1
  refine ⟨.bool false, ?_, by simp only [rep]⟩
  simp [execOp, h2, h3, eqGuard, run_eql_pointer_nil (P := P) (w := w) T (some ⟨b, off, none⟩) hp]
end
section
set_option maxRecDepth 10000
set_option maxHeartbeats 1000000
theorem Pnode (f : Fls) (a : Fil) (hf : FlsB f) : AFn Try.prog 45 [.agg (flsA f), .agg (filA a)] (fun r => r = .tup [.agg (nodA (nodG f a)), .v (.bool (hasG f a))]) := by
  have hen := nodG_ents hf a
  refine enter Try.func45 rfl rfl rfl rfl rfl 0 rfl ?_
  refine w_ (b_ (h:=b_ (h:=al_ (h:=a_ (h:=e_ (w_ (l_ (h:=l_ (h:=?_)))))))))
  refine al_p rfl (q_call (Pfind f a hf) ?_)
  rintro r (⟨e, rfl⟩ | ⟨n, e, rfl⟩)
  · skip
    refine a_ (h:=e_ (q_ (w_ (m_ (h:=?_)))))
    first | refine al_p rfl (st_eqPnil (by kernel_rfl) rfl rfl ?_) | refine al_p rfl (st_eqPfp (by kernel_rfl) rfl rfl ?_)
    refine e_ (?_)
    refine aw_cond rfl (fun hb1 => ?_) (fun hb1 => ?_)
    · have hc1 := bp hb1
      refine w_ (bd_ (h:=s_ (h:=a_ (h:=e_ (aw_ret (x_thenR (?_)))))))
      refine rt_ (r := .tup [.agg (nodA (nodG f a)), .v (.bool (hasG f a))]) none (h5 := ?_) (h6 := ⟨rfl, rfl, rfl⟩)
      rw [show nodG f a = Nod.zero by simp [nodG, e], show hasG f a = false by simp [hasG, e]]
      exact (by repeat (first | exact LeA.refl _ | exact LeA.nil _ | exact LeL.refl _ | refine LeA.agg ?_ | refine LeA.tup ?_ | exact LeL.nil | refine LeL.cons ?_ ?_ | exact LeA.any _))
    · have hc1 := bp hb1
      exfalso; first | contradiction | omega
  · skip
    refine a_ (h:=e_ (q_ (w_ (m_ (h:=?_)))))
    first | refine al_p rfl (st_eqPnil (by kernel_rfl) rfl rfl ?_) | refine al_p rfl (st_eqPfp (by kernel_rfl) rfl rfl ?_)
    refine e_ (?_)
    refine aw_cond rfl (fun hb2 => ?_) (fun hb2 => ?_)
    · have hc2 := bp hb2
      exfalso; first | contradiction | omega
    · have hc2 := bp hb2
      refine kt_ (w_ (m_ (h:=k_ (h:=l_ (h:=?_)))))
      refine al_p rfl (q_call (PcopyNode n (by simpa [nodG, e] using hen)) ?_)
      rintro r rfl
      refine s_ (h:=a_ (h:=e_ (aw_ret (?_))))
      refine e_ret ?_
      rw [show nodG f a = n by simp [nodG, e], show hasG f a = true by simp [hasG, e]]
      rfl

end
end Go.Proofs.Ytgliiknfmlmddaa
namespace Go.Proofs.Ytgliiknfmlmddaa
open Go.RowKit

section
set_option maxRecDepth 10000
set_option maxHeartbeats 1000000
theorem PisDirM (s : Spc) (a : Fil) (hs : SpcB s) : AFn Try.prog 54 [.agg (spcA s), .agg (filA a)] (fun r => r = .v (.bool (dirL s.files a))) := by
  refine enter Try.func54 rfl rfl rfl rfl rfl 0 rfl ?_
  refine w_ (b_ (h:=b_ (h:=a_ (h:=e_ (w_ (f_ (h:=l_ (h:=l_ (h:=?_)))))))))
  refine al_p rfl (q_call (Pnode s.files a hs.files) ?_)
  rintro r rfl
  refine m_ (h:=x_ (h:=x_ (h:=al_ (h:=s_ (h:=a_ (h:=e_ (w_ (m_ (h:=m_ (h:=?_))))))))))
  refine al_gs true rfl rfl (fun hb1 => ?_) (fun hb1 => ?_)
  · have hc1 := bp hb1
    refine f_ (h:=l_ (h:=eq_ (h:=pt_ (h:=a_ (h:=e_ (aw_ret (?_)))))))
    refine e_ret ?_
    exact vb (by rw [dirL_eq]; simp [*])
  · have hc1 := bp hb1
    refine g0_ (h:=g0_ (h:=g0_ (h:=pf_ (h:=a_ (h:=e_ (aw_ret (?_)))))))
    refine e_ret ?_
    exact vb (by rw [dirL_eq]; simp [*])

theorem PdeviceM (s : Spc) (dev : Int) (hs : SpcB s) : AFn Try.prog 44 [.agg (spcA s), .v (.int .i64 dev)] (fun r => r = .v (.bool (decide (1 ≤ dev ∧ dev < (s.files.length : Int))))) := by
  have hfew := hs.files.few
  refine enter Try.func44 rfl rfl rfl rfl rfl 0 rfl ?_
  refine w_ (b_ (h:=a_ (h:=e_ (w_ (m_ (h:=ge_ (h:=m_ (h:=?_))))))))
  refine al_gs true rfl rfl (fun hb1 => ?_) (fun hb1 => ?_)
  · have hc1 := bp hb1
    refine m_ (h:=f_ (h:=f_ (h:=l_ (h:=n_ (h:=lt_ (h:=pt_ (h:=a_ (h:=e_ (aw_ret (?_))))))))))
    refine e_ret ?_
    exact vb (by rw [Bool.eq_iff_iff]; simp; omega)
  · have hc1 := bp hb1
    refine g0_ (h:=g0_ (h:=g0_ (h:=g0_ (h:=g0_ (h:=g0_ (h:=pf_ (h:=a_ (h:=e_ (aw_ret (?_))))))))))
    refine e_ret ?_
    exact vb (by rw [Bool.eq_iff_iff]; simp; omega)

end
end Go.Proofs.Ytgliiknfmlmddaa
namespace Go.Proofs.Ytgliiknfmlmddaa
open Go.RowKit

def chgA (c : Chg) : List AV := [.v (.int .i64 c.1.1), .v (.int .i64 c.1.2), .v (.string c.2.1), .v (.int .i64 c.2.2.1.1), .v (.int .i64 c.2.2.1.2), .v (.int .i64 c.2.2.2.1), .v (.int .i64 c.2.2.2.2)]
section
set_option maxRecDepth 10000
set_option maxHeartbeats 1000000
theorem Rone (d : Fil) (name : Str) (o n : Fil) : AFn Try.prog 85 [.agg (filA d), .v (.string name), .agg (filA o), .agg (filA n)] (fun r => r = .sl 7 [chgA (d, name, o, n)] none) := by
  refine enter Try.func85 rfl rfl rfl rfl rfl 0 rfl ?_
  refine w_ (b_ (h:=b_ (h:=b_ (h:=a_ (h:=e_ (w_ (l_ (h:=m_ (h:=l_ (h:=l_ (h:=bd_ (h:=bs_ (h:=a_ (h:=e_ (aw_ret (?_))))))))))))))))
  refine e_ret ?_
  rfl

theorem newL_bad {n : Int} (h : n < 1 ∨ 3 < n) : newL n = ([], 50) := by unfold newL; rw [if_pos h]
theorem newL_ok {k : Nat} (h1 : ¬ (k : Int) < 1) (h2 : ¬ 3 < (k : Int)) : newL (k : Int) = (List.replicate k rootDvc, 0) := by unfold newL; rw [if_neg (by omega)]; simp
theorem Rnew (n : Int) : AFn Try.prog 50 [.v (.int .i64 n)] (fun r => r = .tup [.agg (flsA (newL n).1), .v (.int .i64 (newL n).2)]) := by
  refine enter Try.func50 rfl rfl rfl rfl rfl 0 rfl ?_
  refine w_ (al_ (h:=a_ (h:=e_ (q_ (w_ (m_ (h:=lt_ (h:=m_ (h:=?_)))))))))
  refine al_gs false rfl rfl (fun hb1 => ?_) (fun hb1 => ?_)
  · have hc1 := bp hb1
    refine g0_ (h:=g0_ (h:=pt_ (h:=e_ (cy_ (h:=w_ (bd_ (h:=s_ (h:=a_ (h:=e_ (aw_ret (x_thenR (?_))))))))))))
    refine rt_ (r := .tup [.agg (flsA (newL n).1), .v (.int .i64 (newL n).2)]) none (h5 := ?_) (h6 := ⟨rfl, rfl, rfl⟩)
    rw [newL_bad (by omega)]
    exact (by repeat (first | exact LeA.refl _ | exact LeA.nil _ | exact LeL.refl _ | refine LeA.agg ?_ | refine LeA.tup ?_ | exact LeL.nil | refine LeL.cons ?_ ?_ | exact LeA.any _))
  · have hc1 := bp hb1
    refine m_ (h:=gt_ (h:=pf_ (h:=e_ (?_))))
    refine aw_cond rfl (fun hb2 => ?_) (fun hb2 => ?_)
    · have hc2 := bp hb2
      refine w_ (bd_ (h:=s_ (h:=a_ (h:=e_ (aw_ret (x_thenR (?_)))))))
      refine rt_ (r := .tup [.agg (flsA (newL n).1), .v (.int .i64 (newL n).2)]) none (h5 := ?_) (h6 := ⟨rfl, rfl, rfl⟩)
      rw [newL_bad (by omega)]
      exact (by repeat (first | exact LeA.refl _ | exact LeA.nil _ | exact LeL.refl _ | refine LeA.agg ?_ | refine LeA.tup ?_ | exact LeL.nil | refine LeL.cons ?_ ?_ | exact LeA.any _))
    · have hc2 := bp hb2
      obtain ⟨k, rfl⟩ := Int.eq_ofNat_of_zero_le (show 0 ≤ n by omega)
      refine kt_ (w_ (al_ (h:=e_ (q_ (w_ (a_ (h:=e_ (aw_block (?_)))))))))
      refine aw_nilTokB 1 0 68 2 rfl rfl (by repeat constructor) (by repeat constructor) (by repeat constructor) ?_
      refine aw_loopW (fun m s => ∃ j : Nat, j ≤ k ∧ m = k - j ∧ s = ⟨look [(0, .v (.int .i64 (k : Int))), (2, .bp 0 0), (4, .bp 1 0), (5, .v (.int .i64 (j : Int)))], ⟨[[.v (.slice none 0 0)], [.sl 2 ((List.replicate j rootDvc).map dvcA) (some 0)]], [(68, 2, (List.replicate j rootDvc).map dvcA)]⟩⟩) (k) ((wk 2 1)) (⟨0, by omega, rfl, rfl⟩) ?_
      rintro m s ⟨j, hj, rfl, rfl⟩
      refine q_ (w_ (m_ (h:=m_ (h:=lt_ (h:=e_ (?_))))))
      refine aw_cond rfl (fun hb3 => ?_) (fun hb3 => ?_)
      · have hc3 := bp hb3
        refine kt_ (q_ (aw_block (aw_region (f_ (h:=l_ (h:=?_))))))
        refine al_p rfl (st_le (y := .agg (nodA rootNod)) (st_build (by repeat (first | exact FillA.nil _ | (apply FillA.cons; (focus exact rfl); (focus exact rfl); (focus exact rfl); (focus exact rfl); (focus exact rfl); (focus (repeat constructor))))) ⟨rfl, rfl⟩) (by repeat (first | exact LeA.refl _ | exact LeA.nil _ | exact LeL.refl _ | refine LeA.agg ?_ | refine LeA.tup ?_ | exact LeL.nil | refine LeL.cons ?_ ?_ | exact LeA.any _)) ?_)
        refine bs_ (h:=bd_ (h:=bs_ (h:=?_)))
        first | refine al_p rfl (s_append rfl rfl rfl (by simp; omega) (by repeat constructor) ?_) | refine al_p rfl (s_append0 rfl rfl (by simp; omega) (by repeat constructor) ?_)
        refine f_ (h:=s_ (h:=al_nil (x_blockN (t_ (aw_region (m_ (h:=ad_ (h:=a_ (h:=al_nil (?_))))))))))
        refine x_then ?_
        refine ⟨_, _, ?_, ⟨j + 1, by omega, rfl, rfl⟩, (by rw [List.replicate_succ', List.map_append]; exact (wk 2 1))⟩
        omega
      · have hc3 := bp hb3
        obtain rfl : j = k := by omega
        refine aw_exit (x_thenE (x_thenE (ABlock_out (t_ (w_ (l_ (h:=s_ (h:=a_ (h:=e_ (aw_ret (?_)))))))))))
        refine e_ret ?_
        rw [newL_ok hc1 hc2]
        rfl

end
end Go.Proofs.Ytgliiknfmlmddaa
namespace Go.Proofs.Ytgliiknfmlmddaa
open Go.RowKit

def belF (f : Fls) (top : Fil) : Nat → Fil → Bool
  | 0, _ => false
  | n + 1, a => if a.1 ≠ top.1 then false else if a = top then true else belF f top n (a.1, (nodG f a).parent)
section
set_option maxRecDepth 10000
set_option maxHeartbeats 1000000
theorem Rbelow (f : Fls) (a top : Fil) (hf : FlsB f) : AFn Try.prog 113 [.agg (flsA f), .agg (filA a), .agg (filA top)] (fun r => r = .v (.bool (belF f top 17 a))) := by
  refine enter Try.func113 rfl rfl rfl rfl rfl 0 rfl ?_
  refine w_ (b_ (h:=b_ (h:=b_ (h:=a_ (h:=e_ (q_ (w_ (a_ (h:=e_ (aw_block (?_)))))))))))
  refine aw_loopW (fun m s => ∃ (j : Nat) (b : Fil), j ≤ 17 ∧ m = 17 - j ∧ belF f top (17 - j) b = belF f top 17 a ∧ s = ⟨look [(3, .bp 0 0), (4, .bp 1 0), (5, .bp 2 0), (7, .v (.int .i64 (j : Int)))], ⟨[flsA f, filA b, filA top], []⟩⟩) (17) ((wk 3 0)) (⟨0, a, by omega, rfl, rfl, rfl⟩) ?_
  rintro m s ⟨j, b, hj, rfl, hit, rfl⟩
  refine q_ (w_ (m_ (h:=le_ (h:=m_ (h:=?_)))))
  refine al_gs true rfl rfl (fun hb1 => ?_) (fun hb1 => ?_)
  · have hc1 := bp hb1
    obtain ⟨k, hk⟩ : ∃ k, 17 - j = k + 1 := ⟨16 - j, by omega⟩
    rw [hk, belF] at hit
    refine f_ (h:=l_ (h:=f_ (h:=l_ (h:=eq_ (h:=pt_ (h:=e_ (?_)))))))
    refine aw_cond rfl (fun hb2 => ?_) (fun hb2 => ?_)
    · have hc2 := bp hb2
      rw [if_neg (by simpa using hc2)] at hit
      refine kt_ (q_ (aw_block (q_ (w_ (l_ (h:=l_ (h:=?_)))))))
      refine al_p rfl (st_binA rfl rfl (by repeat constructor) (by repeat constructor) (fun w => eqlFil _ _ _ _ w) (by kernel_rfl) ?_)
      refine e_ (?_)
      refine aw_cond rfl (fun hb3 => ?_) (fun hb3 => ?_)
      · have hc3 := bp hb3
        rw [if_pos (show b = top from hc3)] at hit
        refine w_ (a_ (h:=e_ (aw_ret (x_thenR (x_blockR (x_thenR (x_thenR (x_blockR (x_thenR (?_))))))))))
        refine e_ret ?_
        exact vb hit
      · have hc3 := bp hb3
        rw [if_neg (show ¬ b = top from hc3)] at hit
        refine kt_ (w_ (l_ (h:=l_ (h:=?_))))
        refine al_p rfl (q_call (Rnode f b hf) ?_)
        rintro r rfl
        refine m_ (h:=x_ (h:=x_ (h:=al_ (h:=s_ (h:=a_ (h:=e_ (aw_region (f_ (h:=l_ (h:=f_ (h:=s_ (h:=al_nil (x_blockN (t_ (aw_region (m_ (h:=ad_ (h:=a_ (h:=al_nil (?_))))))))))))))))))))
        refine x_then ?_
        refine ⟨_, _, ?_, ⟨j + 1, (b.1, (nodG f b).parent), by omega, rfl, (by rw [show 17 - (j + 1) = k by omega]; exact hit), rfl⟩, (wk 3 0)⟩
        omega
    · have hc2 := bp hb2
      rw [if_pos hc2] at hit
      refine aw_exit (x_thenE (x_thenE (ABlock_out (t_ (w_ (a_ (h:=e_ (aw_ret (?_)))))))))
      refine e_ret ?_
      exact vb hit
  · have hc1 := bp hb1
    have ej : 17 - j = 0 := by omega
    rw [ej, belF] at hit
    refine g0_ (h:=g0_ (h:=g0_ (h:=g0_ (h:=g0_ (h:=pf_ (h:=e_ (cn_ (h:=aw_exit (x_thenE (x_thenE (ABlock_out (t_ (w_ (a_ (h:=e_ (aw_ret (?_)))))))))))))))))
    refine e_ret ?_
    exact vb hit

end
end Go.Proofs.Ytgliiknfmlmddaa
namespace Go.Proofs.Ytgliiknfmlmddaa
open Go.RowKit

theorem any_at {α : Type} {p : α → Bool} {l : List α} {j : Nat} {x : α} (hx : l[j]? = some x) (hp : p x = true) : l.any p = true := List.any_eq_true.2 ⟨x, List.mem_of_getElem? hx, hp⟩
theorem any_no {α : Type} {p : α → Bool} {l : List α} (h : ∀ i y, i < l.length → l[i]? = some y → p y = false) : l.any p = false := by
  rw [List.any_eq_false]
  intro x hx
  obtain ⟨i, hi, rfl⟩ := List.mem_iff_getElem.1 hx
  simp [h i _ hi (List.getElem?_eq_getElem hi)]
section
set_option maxRecDepth 10000
set_option maxHeartbeats 1000000
theorem Rparent (d : Dvc) (ino : Int) (hd : d.nodes.length ≤ 1000) : AFn Try.prog 116 [.agg (dvcA d), .v (.int .i64 ino)] (fun r => r = .v (.int .i64 (parentL d ino))) := by
  refine enter Try.func116 rfl rfl rfl rfl rfl 0 rfl ?_
  refine w_ (b_ (h:=a_ (h:=e_ (q_ (w_ (a_ (h:=e_ (aw_block (?_)))))))))
  refine aw_loopW (fun m s => ∃ j : Nat, j ≤ d.nodes.length ∧ m = d.nodes.length - j ∧ (∀ i y, i < j → d.nodes[i]? = some y → (y.ino == ino) = false) ∧ s = ⟨look [(1, .v (.int .i64 ino)), (2, .bp 0 0), (5, .v (.int .i64 (j : Int)))], ⟨[dvcA d], []⟩⟩) (d.nodes.length) ((wk 1 0)) (⟨0, by omega, rfl, fun i y hi => by omega, rfl⟩) ?_
  rintro m s ⟨j, hj, rfl, ha, rfl⟩
  refine q_ (w_ (m_ (h:=f_ (h:=l_ (h:=n_ (h:=lt_ (h:=e_ (?_))))))))
  refine aw_cond rfl (fun hb1 => ?_) (fun hb1 => ?_)
  · have hc1 := bp hb1
    obtain ⟨hlt, n, hy, hrow, -⟩ := row_at nodA hc1
    refine kt_ (q_ (aw_block (w_ (f_ (h:=l_ (h:=m_ (h:=i_ (h:=f_ (h:=l_ (h:=m_ (h:=eq_ (h:=e_ (?_)))))))))))))
    refine aw_cond rfl (fun hb2 => ?_) (fun hb2 => ?_)
    · have hc2 := bp hb2
      refine w_ (f_ (h:=l_ (h:=m_ (h:=i_ (h:=f_ (h:=l_ (h:=a_ (h:=e_ (aw_ret (x_blockR (x_thenR (x_thenR (x_blockR (x_thenR (?_)))))))))))))))
      refine e_ret ?_
      exact vi (by unfold parentL; rw [find_at hy (by simpa using hc2) ha])
    · have hc2 := bp hb2
      refine aw_skip (x_blockN (t_ (aw_region (m_ (h:=ad_ (h:=a_ (h:=al_nil (?_))))))))
      refine x_then ?_
      refine ⟨_, _, ?_, ⟨j + 1, by omega, rfl, upto_snoc hy ha (by simpa using hc2), rfl⟩, (wk 1 0)⟩
      omega
  · have hc1 := bp hb1
    have e := row_no nodA hj hc1
    subst e
    refine aw_exit (x_thenE (x_thenE (ABlock_out (t_ (w_ (a_ (h:=e_ (aw_ret (?_)))))))))
    refine e_ret ?_
    exact vi (by unfold parentL; rw [find_no (fun i y hi hy => ha i y hi hy)])

theorem Rholds (n : Nod) (ino : Int) (hn : n.entries.length ≤ 1000) : AFn Try.prog 103 [.agg (nodA n), .v (.int .i64 ino)] (fun r => r = .v (.bool (holdsL n ino))) := by
  refine enter Try.func103 rfl rfl rfl rfl rfl 0 rfl ?_
  refine w_ (b_ (h:=a_ (h:=e_ (q_ (w_ (a_ (h:=e_ (aw_block (?_)))))))))
  refine aw_loopW (fun m s => ∃ j : Nat, j ≤ n.entries.length ∧ m = n.entries.length - j ∧ (∀ i y, i < j → n.entries[i]? = some y → (y.2 == ino) = false) ∧ s = ⟨look [(1, .v (.int .i64 ino)), (2, .bp 0 0), (5, .v (.int .i64 (j : Int)))], ⟨[nodA n], []⟩⟩) (n.entries.length) ((wk 1 0)) (⟨0, by omega, rfl, fun i y hi => by omega, rfl⟩) ?_
  rintro m s ⟨j, hj, rfl, ha, rfl⟩
  refine q_ (w_ (m_ (h:=f_ (h:=l_ (h:=n_ (h:=lt_ (h:=e_ (?_))))))))
  refine aw_cond rfl (fun hb1 => ?_) (fun hb1 => ?_)
  · have hc1 := bp hb1
    obtain ⟨hlt, x, hy, hrow, -⟩ := row_at entA hc1
    refine kt_ (q_ (aw_block (w_ (f_ (h:=l_ (h:=m_ (h:=i_ (h:=f_ (h:=l_ (h:=m_ (h:=eq_ (h:=e_ (?_)))))))))))))
    refine aw_cond rfl (fun hb2 => ?_) (fun hb2 => ?_)
    · have hc2 := bp hb2
      refine w_ (a_ (h:=e_ (aw_ret (x_blockR (x_thenR (x_thenR (x_blockR (x_thenR (?_)))))))))
      refine e_ret ?_
      exact vb (by unfold holdsL; rw [any_at hy (by simpa using hc2)])
    · have hc2 := bp hb2
      refine aw_skip (x_blockN (t_ (aw_region (m_ (h:=ad_ (h:=a_ (h:=al_nil (?_))))))))
      refine x_then ?_
      refine ⟨_, _, ?_, ⟨j + 1, by omega, rfl, upto_snoc hy ha (by simpa using hc2), rfl⟩, (wk 1 0)⟩
      omega
  · have hc1 := bp hb1
    have e := row_no entA hj hc1
    subst e
    refine aw_exit (x_thenE (x_thenE (ABlock_out (t_ (w_ (a_ (h:=e_ (aw_ret (?_)))))))))
    refine e_ret ?_
    exact vb (by unfold holdsL; rw [any_no (fun i y hi hy => ha i y hi hy)])

end
end Go.Proofs.Ytgliiknfmlmddaa
namespace Go.Proofs.Ytgliiknfmlmddaa
open Go.RowKit

theorem range_no {p : Nat → Bool} {n j : Nat} (hj : j < n) (h : p j = false) : (List.range n).all p = false := List.all_eq_false.2 ⟨j, List.mem_range.2 hj, by rw [h]; simp⟩
theorem range_yes {p : Nat → Bool} {n : Nat} (h : ∀ i, i < n → p i = true) : (List.range n).all p = true := List.all_eq_true.2 fun i hi => h i (List.mem_range.1 hi)
theorem upto_next {p : Nat → Bool} {j : Nat} (h : ∀ i, i < j → p i = true) (hj : p j = true) : ∀ i, i < j + 1 → p i = true := fun i hi => by
  by_cases e : i = j
  · rw [e]; exact hj
  · exact h i (by omega)
structure FlsT (f : Fls) : Prop where
  b : FlsB f
  nm : ∀ d ∈ f, ∀ n ∈ d.nodes, ∀ e ∈ n.entries, e.1.size ≤ 100000
  tg : ∀ d ∈ f, ∀ n ∈ d.nodes, n.target.size ≤ 100000
def preE (es : List Ent) (i : Nat) (x : Ent) : Bool := match es[i - 1]? with
  | some y => !strLt y.1 x.1
  | none => false
def entAt (f : Fls) (dev : Int) (es : List Ent) (i : Nat) : Bool := match es[i]? with
  | none => true
  | some x => if nameL x.1 = false then false else if 0 < i ∧ preE es i x = true then false else if x.2 = 1 then false else if indexL f (dev, x.2) < 0 then false else true
def entsR (f : Fls) (dev : Int) (es : List Ent) : Bool := if 12 < es.length then false else (List.range es.length).all (entAt f dev es)
theorem ents_no {f : Fls} {dev : Int} {es : List Ent} {j : Nat} (hl : ¬ 12 < es.length) (hj : j < es.length) (h : entAt f dev es j = false) : entsR f dev es = false := by
  unfold entsR
  rw [if_neg hl]
  exact range_no hj h
theorem ents_yes {f : Fls} {dev : Int} {es : List Ent} (hl : ¬ 12 < es.length) (h : ∀ i, i < es.length → entAt f dev es i = true) : entsR f dev es = true := by
  unfold entsR
  rw [if_neg hl]
  exact range_yes h
theorem pre_at {es : List Ent} {i : Nat} {x y : Ent} (h : es[i - 1]? = some y) : preE es i x = !strLt y.1 x.1 := by unfold preE; rw [h]
def itP (d : Dvc) : Nat → Int → Int
  | 0, x => x
  | k + 1, x => itP d k (parentL d x)
def rchAt (d : Dvc) (i : Nat) : Bool := match d.nodes[i]? with
  | none => true
  | some n => if n.kind = 2 then decide (itP d d.nodes.length n.ino = 1) else true
def rchR (d : Dvc) : Bool := (List.range d.nodes.length).all (rchAt d)
section
set_option maxRecDepth 10000
set_option maxHeartbeats 1000000
theorem Rents (f : Fls) (dev : Int) (n : Nod) (hf : FlsB f) (hn : n.entries.length ≤ 1000) (hnm : ∀ e ∈ n.entries, e.1.size ≤ 100000) : AFn Try.prog 101 [.agg (flsA f), .v (.int .i64 dev), .agg (nodA n)] (fun r => r = .v (.bool (entsR f dev n.entries))) := by
  have hel : (n.entries.map entA).length = n.entries.length := by simp
  refine enter Try.func101 rfl rfl rfl rfl rfl 0 rfl ?_
  refine w_ (b_ (h:=b_ (h:=a_ (h:=e_ (q_ (w_ (f_ (h:=l_ (h:=n_ (h:=gt_ (h:=e_ (?_))))))))))))
  refine aw_cond rfl (fun hb1 => ?_) (fun hb1 => ?_)
  · have hc1 := bp hb1
    refine w_ (a_ (h:=e_ (aw_ret (x_thenR (?_)))))
    refine e_ret ?_
    exact vb (by unfold entsR; rw [if_pos (by omega)])
  · have hc1 := bp hb1
    refine kt_ (q_ (w_ (a_ (h:=e_ (aw_block (?_))))))
    refine aw_loopW (fun m t => ∃ j : Nat, j ≤ n.entries.length ∧ m = n.entries.length - j ∧ (∀ i, i < j → entAt f dev n.entries i = true) ∧ t = ⟨look [(1, .v (.int .i64 dev)), (3, .bp 0 0), (5, .bp 1 0), (7, .v (.int .i64 (j : Int)))], ⟨[flsA f, nodA n], []⟩⟩) (n.entries.length) ((wk 2 0)) (⟨0, by omega, rfl, fun i hi => by omega, rfl⟩) ?_
    rintro m t ⟨j, hj, rfl, ha, rfl⟩
    refine q_ (w_ (m_ (h:=f_ (h:=l_ (h:=n_ (h:=lt_ (h:=e_ (?_))))))))
    refine aw_cond rfl (fun hb2 => ?_) (fun hb2 => ?_)
    · have hc2 := bp hb2
      obtain ⟨hlt, x, hy, hrow, -⟩ := row_at entA hc2
      refine kt_ (q_ (aw_block (w_ (f_ (h:=l_ (h:=m_ (h:=i_ (h:=l_ (h:=al_ (h:=s_ (h:=e_ (q_ (yr_ 34 (h:=df_ 0 (h:=dl_ 1 (h:=?_))))))))))))))))
      refine c_ 2 rfl (q_call (Rname x.1 (hnm x (List.mem_of_getElem? hy))) ?_)
      rintro r rfl
      refine o_ (h:=dnt_ 3 (h:=dm_ 4 (h:=?_)))
      refine aa_both (j := 4) rfl (fun hb3 => ?_) (fun hb3 => ?_)
      · have hc3 := bp hb3
        refine d0_ 5 (h:=d0_ 6 (h:=d0_ 7 (h:=d0_ 8 (h:=d0_ 9 (h:=d0_ 10 (h:=d0_ 11 (h:=d0_ 12 (h:=d0_ 13 (h:=d0_ 14 (h:=d0_ 15 (h:=d0_ 16 (h:=d0_ 17 (h:=d0_ 18 (h:=dpt_ 19 (h:=dm_ 20 (h:=d0_ 21 (h:=d0_ 22 (h:=d0_ 23 (h:=dpt_ 24 (h:=dm_ 25 (h:=d0_ 26 (h:=d0_ 27 (h:=d0_ 28 (h:=?_))))))))))))))))))))))))
        refine d0_ 29 (h:=d0_ 30 (h:=d0_ 31 (h:=d0_ 32 (h:=dpt_ 33 (h:=z_ (h:=t_ (cy_ (h:=w_ (a_ (h:=e_ (aw_ret (x_blockR (x_thenR (x_thenR (x_blockR (x_thenR (?_)))))))))))))))))
        refine e_ret ?_
        exact vb (ents_no (by omega) hlt (by unfold entAt; simp only [hy]; simp_all [strLt])).symm
      · have hc3 := bp hb3
        refine dm_ 5 (h:=dgt_ 6 (h:=dm_ 7 (h:=?_)))
        refine aa_both (j := 7) rfl (fun hb4 => ?_) (fun hb4 => ?_)
        · have hc4 := bp hb4
          obtain ⟨hlt1, y, hy1, hrow1, -⟩ := row_at (l := n.entries) (k := j - 1) entA (by omega)
          have hpre := pre_at (x := x) hy1
          refine df_ 8 (h:=dl_ 9 (h:=dm_ 10 (h:=dsb_ 11 (h:=?_))))
          refine r_y (i := 12) rfl (st_index (n := j - 1) rfl rfl (by omega) hrow1 ⟨rfl, rfl⟩) ?_
          refine df_ 13 (h:=dl_ 14 (h:=df_ 15 (h:=dl_ 16 (h:=dge_ 17 (h:=dpt_ 18 (h:=dpf_ 19 (h:=dm_ 20 (h:=?_))))))))
          refine aa_both (j := 20) rfl (fun hb5 => ?_) (fun hb5 => ?_)
          · have hc5 := bp hb5
            refine d0_ 21 (h:=d0_ 22 (h:=d0_ 23 (h:=dpt_ 24 (h:=dm_ 25 (h:=d0_ 26 (h:=d0_ 27 (h:=d0_ 28 (h:=d0_ 29 (h:=d0_ 30 (h:=d0_ 31 (h:=d0_ 32 (h:=dpt_ 33 (h:=z_ (h:=t_ (cy_ (h:=w_ (a_ (h:=e_ (aw_ret (x_blockR (x_thenR (x_thenR (x_blockR (?_))))))))))))))))))))))))
            refine x_thenR (?_)
            refine e_ret ?_
            exact vb (ents_no (by omega) hlt (by unfold entAt; simp only [hy]; simp_all [strLt])).symm
          · have hc5 := bp hb5
            refine df_ 21 (h:=dl_ 22 (h:=deq_ 23 (h:=dpf_ 24 (h:=dm_ 25 (h:=?_)))))
            refine aa_both (j := 25) rfl (fun hb6 => ?_) (fun hb6 => ?_)
            · have hc6 := bp hb6
              refine d0_ 26 (h:=d0_ 27 (h:=d0_ 28 (h:=d0_ 29 (h:=d0_ 30 (h:=d0_ 31 (h:=d0_ 32 (h:=dpt_ 33 (h:=z_ (h:=t_ (cy_ (h:=w_ (a_ (h:=e_ (aw_ret (x_blockR (x_thenR (x_thenR (x_blockR (x_thenR (?_))))))))))))))))))))
              refine e_ret ?_
              exact vb (ents_no (by omega) hlt (by unfold entAt; simp only [hy]; simp_all [strLt])).symm
            · have hc6 := bp hb6
              refine dl_ 26 (h:=dm_ 27 (h:=df_ 28 (h:=dl_ 29 (h:=dbd_ 30 (h:=?_)))))
              refine c_ 31 rfl (q_call (Rindex f (dev, x.2) hf) ?_)
              rintro r rfl
              refine o_ (h:=dlt_ 32 (h:=dpf_ 33 (h:=z_ (h:=t_ (?_)))))
              refine aw_cond rfl (fun hb7 => ?_) (fun hb7 => ?_)
              · have hc7 := bp hb7
                refine w_ (a_ (h:=e_ (aw_ret (x_blockR (x_thenR (x_thenR (x_blockR (x_thenR (?_)))))))))
                refine e_ret ?_
                exact vb (ents_no (by omega) hlt (by unfold entAt; simp only [hy]; simp_all [strLt])).symm
              · have hc7 := bp hb7
                refine aw_skip (x_blockN (t_ (aw_region (m_ (h:=ad_ (h:=a_ (h:=al_nil (?_))))))))
                refine x_then ?_
                refine ⟨_, _, ?_, ⟨j + 1, by omega, rfl, upto_next ha (by unfold entAt; simp only [hy]; simp_all [strLt]), rfl⟩, (wk 2 0)⟩
                omega
        · have hc4 := bp hb4
          refine d0_ 8 (h:=d0_ 9 (h:=d0_ 10 (h:=d0_ 11 (h:=d0_ 12 (h:=d0_ 13 (h:=d0_ 14 (h:=d0_ 15 (h:=d0_ 16 (h:=d0_ 17 (h:=dpf_ 18 (h:=dpf_ 19 (h:=dm_ 20 (h:=df_ 21 (h:=dl_ 22 (h:=deq_ 23 (h:=dpf_ 24 (h:=dm_ 25 (h:=?_))))))))))))))))))
          refine aa_both (j := 25) rfl (fun hb8 => ?_) (fun hb8 => ?_)
          · have hc8 := bp hb8
            refine d0_ 26 (h:=d0_ 27 (h:=d0_ 28 (h:=d0_ 29 (h:=d0_ 30 (h:=d0_ 31 (h:=d0_ 32 (h:=dpt_ 33 (h:=z_ (h:=t_ (cy_ (h:=w_ (a_ (h:=e_ (aw_ret (x_blockR (x_thenR (x_thenR (x_blockR (x_thenR (?_))))))))))))))))))))
            refine e_ret ?_
            exact vb (ents_no (by omega) hlt (by unfold entAt; simp only [hy]; simp_all [strLt])).symm
          · have hc8 := bp hb8
            refine dl_ 26 (h:=dm_ 27 (h:=df_ 28 (h:=dl_ 29 (h:=dbd_ 30 (h:=?_)))))
            refine c_ 31 rfl (q_call (Rindex f (dev, x.2) hf) ?_)
            rintro r rfl
            refine o_ (h:=dlt_ 32 (h:=dpf_ 33 (h:=z_ (h:=t_ (?_)))))
            refine aw_cond rfl (fun hb9 => ?_) (fun hb9 => ?_)
            · have hc9 := bp hb9
              refine w_ (a_ (h:=e_ (aw_ret (x_blockR (x_thenR (x_thenR (x_blockR (x_thenR (?_)))))))))
              refine e_ret ?_
              exact vb (ents_no (by omega) hlt (by unfold entAt; simp only [hy]; simp_all [strLt])).symm
            · have hc9 := bp hb9
              refine aw_skip (x_blockN (t_ (aw_region (m_ (h:=ad_ (h:=a_ (h:=al_nil (?_))))))))
              refine x_then ?_
              refine ⟨_, _, ?_, ⟨j + 1, by omega, rfl, upto_next ha (by unfold entAt; simp only [hy]; simp_all [strLt]), rfl⟩, (wk 2 0)⟩
              omega
    · have hc2 := bp hb2
      refine aw_exit (x_thenE (x_thenE (ABlock_out (t_ (w_ (a_ (h:=e_ (aw_ret (?_)))))))))
      refine e_ret ?_
      exact vb (ents_yes (by omega) (fun i hi => ha i (by omega))).symm

theorem Rreached (d : Dvc) (hd : d.nodes.length ≤ 1000) : AFn Try.prog 104 [.agg (dvcA d)] (fun r => r = .v (.bool (rchR d))) := by
  have hel : (d.nodes.map nodA).length = d.nodes.length := by simp
  refine enter Try.func104 rfl rfl rfl rfl rfl 0 rfl ?_
  refine w_ (b_ (h:=a_ (h:=e_ (q_ (w_ (a_ (h:=e_ (aw_block (?_)))))))))
  refine aw_loopW (fun m t => ∃ j : Nat, j ≤ d.nodes.length ∧ m = d.nodes.length - j ∧ (∀ i, i < j → rchAt d i = true) ∧ t = ⟨look [(1, .bp 0 0), (3, .v (.int .i64 (j : Int)))], ⟨[dvcA d], []⟩⟩) (d.nodes.length) ((wk 1 0)) (⟨0, by omega, rfl, fun i hi => by omega, rfl⟩) ?_
  rintro m t ⟨j, hj, rfl, ha, rfl⟩
  refine q_ (w_ (m_ (h:=f_ (h:=l_ (h:=n_ (h:=lt_ (h:=e_ (?_))))))))
  refine aw_cond rfl (fun hb1 => ?_) (fun hb1 => ?_)
  · have hc1 := bp hb1
    obtain ⟨hlt, n, hy, hrow, -⟩ := row_at nodA hc1
    refine kt_ (q_ (aw_block (q_ (w_ (f_ (h:=l_ (h:=m_ (h:=?_))))))))
    refine al_p rfl (st_index (n := j) rfl rfl rfl hrow ?_)
    refine f_ (h:=l_ (h:=nq_ (h:=e_ (?_))))
    refine aw_cond rfl (fun hb2 => ?_) (fun hb2 => ?_)
    · have hc2 := bp hb2
      refine aw_exit (x_thenE (ABlock_out (t_ (aw_region (m_ (h:=ad_ (h:=a_ (h:=al_nil (?_)))))))))
      refine x_then ?_
      refine ⟨_, _, ?_, ⟨j + 1, by omega, rfl, upto_next ha (by unfold rchAt; simp only [hy]; simp_all [itP]), rfl⟩, (wk 1 0)⟩
      omega
    · have hc2 := bp hb2
      refine kt_ (w_ (f_ (h:=l_ (h:=m_ (h:=?_)))))
      refine al_p rfl (st_index (n := j) rfl rfl rfl hrow ?_)
      refine f_ (h:=l_ (h:=a_ (h:=e_ (q_ (w_ (a_ (h:=e_ (aw_block (?_)))))))))
      refine aw_loopW (fun m t => ∃ (k : Nat) (x : Int), k ≤ d.nodes.length ∧ m = d.nodes.length - k ∧ itP d (d.nodes.length - k) x = itP d d.nodes.length n.ino ∧ t = ⟨look [(1, .bp 0 0), (3, .v (.int .i64 (j : Int))), (4, .v (.int .i64 x)), (5, .v (.int .i64 (k : Int)))], ⟨[dvcA d], []⟩⟩) (d.nodes.length) ((wk 1 0)) (⟨0, n.ino, by omega, rfl, rfl, rfl⟩) ?_
      rintro m t ⟨k, x, hk, rfl, hx, rfl⟩
      refine q_ (w_ (m_ (h:=f_ (h:=l_ (h:=n_ (h:=lt_ (h:=e_ (?_))))))))
      refine aw_cond rfl (fun hb3 => ?_) (fun hb3 => ?_)
      · have hc3 := bp hb3
        refine kt_ (q_ (aw_block (aw_region (l_ (h:=m_ (h:=?_))))))
        refine al_p rfl (q_call (Rparent d x hd) ?_)
        rintro r rfl
        refine a_ (h:=al_nil (x_blockN (t_ (aw_region (m_ (h:=ad_ (h:=a_ (h:=al_nil (?_)))))))))
        refine x_then ?_
        refine ⟨_, _, ?_, ⟨k + 1, parentL d x, by omega, rfl, (by rw [← hx, show d.nodes.length - k = (d.nodes.length - (k + 1)) + 1 by omega]; rfl), rfl⟩, (wk 1 0)⟩
        omega
      · have hc3 := bp hb3
        have ek : k = d.nodes.length := by omega
        subst ek
        rw [Nat.sub_self] at hx
        refine aw_exit (x_thenE (x_thenE (ABlock_out (t_ (w_ (m_ (h:=nq_ (h:=e_ (?_)))))))))
        refine aw_cond rfl (fun hb4 => ?_) (fun hb4 => ?_)
        · have hc4 := bp hb4
          refine w_ (a_ (h:=e_ (aw_ret (x_blockR (x_thenR (x_thenR (x_blockR (x_thenR (?_)))))))))
          refine e_ret ?_
          exact vb (range_no hlt (by unfold rchAt; simp only [hy]; simp_all [itP])).symm
        · have hc4 := bp hb4
          refine aw_skip (x_blockN (t_ (aw_region (m_ (h:=ad_ (h:=a_ (h:=al_nil (?_))))))))
          refine x_then ?_
          refine ⟨_, _, ?_, ⟨j + 1, by omega, rfl, upto_next ha (by unfold rchAt; simp only [hy]; simp_all [itP]), rfl⟩, (wk 1 0)⟩
          omega
  · have hc1 := bp hb1
    refine aw_exit (x_thenE (x_thenE (ABlock_out (t_ (w_ (a_ (h:=e_ (aw_ret (?_)))))))))
    refine e_ret ?_
    exact vb (range_yes (fun i hi => ha i (by omega))).symm

end
end Go.Proofs.Ytgliiknfmlmddaa
