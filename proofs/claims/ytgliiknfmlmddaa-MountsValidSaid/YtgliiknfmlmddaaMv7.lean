/-
  Part 7 of the proof of MountsValidP: what the statement's proof uses of the texts in wip/tpl.
-/
import Derived.Lib.IndexLaws
import Derived.Test.YtgliiknfmlmddaaProg
import Derived.WalkKit
import Derived.WalkSpells
import Derived.WalkLawsBesides
import Derived.Deep.QuietTactic
import Derived.BigQuiet
import Derived.Lib.Hide
import Derived.Outline
import Derived.Maps.AppendAt
import Derived.OwnWalk
import Derived.Test.YtgliiknfmlmddaaMv6
namespace Go.Proofs.Ytgliiknfmlmddaa
open Go.RowKit

theorem Pname (s : Str) : AFn Try.prog 121 [.v (.string s)] (fun r => r = .v (.bool (nameL s))) := by
  rw [nameL_eq]
  exact afn_of (us := [.string s]) fun w => PName_any s w
theorem PidxB (s : Str) : AFn Try.prog 120 [.v (.string s), .v (.int .u8 0)] (fun r => r = .v (.int .i64 (Lib.indexByte s.data.toList 0))) :=
  afn_of (us := [.string s, .int .u8 0]) fun w => (Try.strings_IndexByte s 0 w).mono fun e w' ⟨h1, h2⟩ => ⟨h1, by rw [h2]; exact Below.refl _ _⟩
def attrP (m u g : Int) : Bool := decide (0 ≤ m ∧ m ≤ 511 ∧ 0 ≤ u ∧ u ≤ 4294967295 ∧ 0 ≤ g ∧ g ≤ 4294967295)
def entPAt (es : List Ent) (i : Nat) : Bool := match es[i]? with
  | none => true
  | some x => if nameL x.1 = false then false else if 0 < i ∧ preE es i x = true then false else true
def entsP (es : List Ent) : Bool := if 12 < es.length then false else (List.range es.length).all (entPAt es)
theorem idx_zero (s : Str) : decide (Lib.indexByte s.data.toList 0 < 0) = s.data.toList.all (fun c => !((c.toNat : Int) == 0)) := by
  have hge := Lib.indexByte_ge s.data.toList 0
  by_cases h : Lib.indexByte s.data.toList 0 < 0
  · rw [decide_eq_true h]
    have h1 := Lib.indexByte_none (l := s.data.toList) (c := 0) (by omega)
    refine (List.all_eq_true.2 fun c hc => ?_).symm
    obtain ⟨k, hk⟩ := List.getElem?_of_mem hc
    have h2 : c ≠ 0 := fun e => h1 k (by rw [hk, e])
    have h3 : (c.toNat : Int) ≠ 0 := fun e => h2 (UInt8.toNat_inj.1 (by show c.toNat = 0; omega))
    simpa using h3
  · rw [decide_eq_false h]
    obtain ⟨o, ho⟩ := Int.eq_ofNat_of_zero_le (show 0 ≤ Lib.indexByte s.data.toList 0 by omega)
    have h1 := (Lib.indexByte_some ho).1
    exact (List.all_eq_false.2 ⟨0, List.mem_of_getElem? h1, by decide⟩).symm
theorem str_pos {s : Str} (h : ¬ s = ⟨#[]⟩) : 1 ≤ s.size := by
  by_cases h0 : s.size = 0
  · refine absurd ?_ h
    refine ByteArray.ext (Array.toList_inj.1 ?_)
    exact List.eq_nil_of_length_eq_zero (by rw [← Lib.size_eq]; exact h0)
  · omega
def nodP (n : Nod) : Bool :=
  if attrP n.mode n.uid n.gid = false then false
  else if n.kind = 1 then decide (n.parent = 0) && (decide (n.target = ⟨#[]⟩) && decide (n.entries = []))
  else if n.kind = 3 then decide (n.parent = 0) && (targetL n.target && decide (n.entries = []))
  else if n.kind = 2 then decide (n.target = ⟨#[]⟩) && entsP n.entries
  else false
def lastI (ns : List Nod) : Nat → Int
  | 0 => 0
  | i + 1 => match ns[i]? with
    | some n => n.ino
    | none => 0
theorem last_at {ns : List Nod} {i : Nat} {n : Nod} (h : ns[i]? = some n) : lastI ns (i + 1) = n.ino := by show (match ns[i]? with | some n => n.ino | none => 0) = _; rw [h]
def nodPAt (d : Dvc) (i : Nat) : Bool := match d.nodes[i]? with
  | none => true
  | some n => if n.ino ≤ lastI d.nodes i then false else if d.next ≤ n.ino then false else if nodP n = false then false else true
def headP (d : Dvc) : Bool :=
  if d.next < 2 then false else if 1073741824 < d.next then false else if d.nodes.length < 1 then false else if 16 < d.nodes.length then false else match d.nodes[0]? with
  | none => false
  | some r => if r.ino ≠ 1 then false else if r.kind ≠ 2 then false else true
def nodsP (d : Dvc) : Bool := headP d && (List.range d.nodes.length).all (nodPAt d)
theorem nods_no0 {d : Dvc} (h : headP d = false) : nodsP d = false := by unfold nodsP; rw [h]; rfl
theorem nods_no {d : Dvc} {j : Nat} (_h0 : headP d = true) (hj : j < d.nodes.length) (h : nodPAt d j = false) : nodsP d = false := by unfold nodsP; rw [range_no hj h, Bool.and_false]
theorem nods_yes {d : Dvc} (h0 : headP d = true) (h : ∀ i, i < d.nodes.length → nodPAt d i = true) : nodsP d = true := by unfold nodsP; rw [h0, range_yes h]; rfl
section
set_option maxRecDepth 10000
set_option maxHeartbeats 1000000
theorem Pattr (m u g : Int) : AFn Try.prog 117 [.v (.int .i64 m), .v (.int .i64 u), .v (.int .i64 g)] (fun r => r = .v (.bool (attrP m u g))) := by
  refine enter Try.func117 rfl rfl rfl rfl rfl 0 rfl ?_
  refine w_ (a_ (h:=e_ (w_ (m_ (h:=ge_ (h:=m_ (h:=?_)))))))
  refine al_gs true rfl rfl (fun hb1 => ?_) (fun hb1 => ?_)
  · have hc1 := bp hb1
    refine m_ (h:=le_ (h:=pt_ (h:=m_ (h:=?_))))
    refine al_gs true rfl rfl (fun hb2 => ?_) (fun hb2 => ?_)
    · have hc2 := bp hb2
      refine m_ (h:=ge_ (h:=pt_ (h:=m_ (h:=?_))))
      refine al_gs true rfl rfl (fun hb3 => ?_) (fun hb3 => ?_)
      · have hc3 := bp hb3
        refine m_ (h:=le_ (h:=pt_ (h:=m_ (h:=?_))))
        refine al_gs true rfl rfl (fun hb4 => ?_) (fun hb4 => ?_)
        · have hc4 := bp hb4
          refine m_ (h:=ge_ (h:=pt_ (h:=m_ (h:=?_))))
          refine al_gs true rfl rfl (fun hb5 => ?_) (fun hb5 => ?_)
          · have hc5 := bp hb5
            refine m_ (h:=le_ (h:=pt_ (h:=a_ (h:=e_ (aw_ret (?_))))))
            refine e_ret ?_
            exact vb (by unfold attrP; rw [Bool.eq_iff_iff]; simp; try omega)
          · have hc5 := bp hb5
            refine g0_ (h:=g0_ (h:=pf_ (h:=a_ (h:=e_ (aw_ret (?_))))))
            refine e_ret ?_
            exact vb (by unfold attrP; rw [Bool.eq_iff_iff]; simp; try omega)
        · have hc4 := bp hb4
          refine g0_ (h:=g0_ (h:=pf_ (h:=m_ (h:=g0_ (h:=g0_ (h:=pf_ (h:=a_ (h:=e_ (aw_ret (?_))))))))))
          refine e_ret ?_
          exact vb (by unfold attrP; rw [Bool.eq_iff_iff]; simp; try omega)
      · have hc3 := bp hb3
        refine g0_ (h:=g0_ (h:=pf_ (h:=m_ (h:=g0_ (h:=g0_ (h:=pf_ (h:=m_ (h:=g0_ (h:=g0_ (h:=pf_ (h:=a_ (h:=e_ (aw_ret (?_))))))))))))))
        refine e_ret ?_
        exact vb (by unfold attrP; rw [Bool.eq_iff_iff]; simp; try omega)
    · have hc2 := bp hb2
      refine g0_ (h:=g0_ (h:=pf_ (h:=m_ (h:=g0_ (h:=g0_ (h:=pf_ (h:=m_ (h:=g0_ (h:=g0_ (h:=pf_ (h:=m_ (h:=g0_ (h:=g0_ (h:=pf_ (h:=a_ (h:=e_ (aw_ret (?_))))))))))))))))))
      refine e_ret ?_
      exact vb (by unfold attrP; rw [Bool.eq_iff_iff]; simp; try omega)
  · have hc1 := bp hb1
    refine g0_ (h:=g0_ (h:=pf_ (h:=m_ (h:=g0_ (h:=g0_ (h:=pf_ (h:=m_ (h:=g0_ (h:=g0_ (h:=pf_ (h:=m_ (h:=g0_ (h:=g0_ (h:=pf_ (h:=m_ (h:=g0_ (h:=g0_ (h:=pf_ (h:=a_ (h:=e_ (aw_ret (?_))))))))))))))))))))))
    refine e_ret ?_
    exact vb (by unfold attrP; rw [Bool.eq_iff_iff]; simp; try omega)

theorem PvalE (es : List Ent) (hn : es.length ≤ 1000) : AFn Try.prog 119 [.sl 2 (es.map entA) none] (fun r => r = .v (.bool (entsP es))) := by
  have hel : (es.map entA).length = es.length := by simp
  refine enter Try.func119 rfl rfl rfl rfl rfl 0 rfl ?_
  refine w_ (a_ (h:=e_ (q_ (w_ (m_ (h:=n_ (h:=gt_ (h:=e_ (?_)))))))))
  refine aw_cond rfl (fun hb1 => ?_) (fun hb1 => ?_)
  · have hc1 := bp hb1
    refine w_ (a_ (h:=e_ (aw_ret (x_thenR (?_)))))
    refine e_ret ?_
    exact vb (by unfold entsP; rw [if_pos (by omega)])
  · have hc1 := bp hb1
    refine kt_ (q_ (w_ (m_ (h:=n_ (h:=m_ (h:=e_ (aw_block (?_))))))))
    refine aw_loopW (fun m t => ∃ j : Nat, j ≤ es.length ∧ m = es.length - j ∧ (∀ i, i < j → entPAt es i = true) ∧ t = ⟨look [(0, .sl 2 (es.map entA) none), (8, .sl 2 (es.map entA) none), (9, .v (.int .i64 ((es.map entA).length : Int))), (10, .v (.int .i64 (j : Int)))], ⟨[], []⟩⟩) (es.length) ((wk 0 0)) (⟨0, by omega, rfl, fun i hi => by omega, rfl⟩) ?_
    rintro m t ⟨j, hj, rfl, ha, rfl⟩
    refine w_ (lt_ (h:=e_ (q_ (?_))))
    refine aw_cond rfl (fun hb2 => ?_) (fun hb2 => ?_)
    · have hc2 := bp hb2
      obtain ⟨hlt, x, hy, hrow, -⟩ := row_at entA hc2
      refine kt_ (q_ (aw_block (w_ (m_ (h:=?_)))))
      refine al_p rfl (st_index (n := j) rfl rfl rfl hrow ?_)
      refine l_ (h:=al_ (h:=a_ (h:=s_ (h:=e_ (q_ (yr_ 19 (h:=df_ 0 (h:=dl_ 1 (h:=?_)))))))))
      refine c_ 2 rfl (q_call (Pname x.1) ?_)
      rintro r rfl
      refine o_ (h:=dnt_ 3 (h:=dm_ 4 (h:=?_)))
      refine aa_both (j := 4) rfl (fun hb3 => ?_) (fun hb3 => ?_)
      · have hc3 := bp hb3
        refine d0_ 5 (h:=d0_ 6 (h:=d0_ 7 (h:=d0_ 8 (h:=d0_ 9 (h:=d0_ 10 (h:=d0_ 11 (h:=d0_ 12 (h:=d0_ 13 (h:=d0_ 14 (h:=d0_ 15 (h:=d0_ 16 (h:=d0_ 17 (h:=dpt_ 18 (h:=z_ (h:=t_ (cy_ (h:=w_ (a_ (h:=e_ (aw_ret (x_blockR (x_thenR (x_thenR (?_))))))))))))))))))))))))
        refine x_blockR (x_thenR (?_))
        refine e_ret ?_
        exact vb (by unfold entsP; rw [if_neg (by omega)]; exact (range_no hlt (by unfold entPAt; simp only [hy]; simp_all [strLt])).symm)
      · have hc3 := bp hb3
        refine dm_ 5 (h:=dgt_ 6 (h:=dm_ 7 (h:=?_)))
        refine aa_both (j := 7) rfl (fun hb4 => ?_) (fun hb4 => ?_)
        · have hc4 := bp hb4
          obtain ⟨hlt1, y, hy1, hrow1, -⟩ := row_at (l := es) (k := j - 1) entA (by omega)
          have hpre := pre_at (x := x) hy1
          refine dm_ 8 (h:=dm_ 9 (h:=dsb_ 10 (h:=?_)))
          refine r_y (i := 11) rfl (st_index (n := j - 1) rfl rfl (by omega) hrow1 ⟨rfl, rfl⟩) ?_
          refine df_ 12 (h:=dl_ 13 (h:=df_ 14 (h:=dl_ 15 (h:=dge_ 16 (h:=dpt_ 17 (h:=dpf_ 18 (h:=z_ (h:=t_ (?_)))))))))
          refine aw_cond rfl (fun hb5 => ?_) (fun hb5 => ?_)
          · have hc5 := bp hb5
            refine w_ (a_ (h:=e_ (aw_ret (x_blockR (x_thenR (x_thenR (x_blockR (x_thenR (?_)))))))))
            refine e_ret ?_
            exact vb (by unfold entsP; rw [if_neg (by omega)]; exact (range_no hlt (by unfold entPAt; simp only [hy]; simp_all [strLt])).symm)
          · have hc5 := bp hb5
            refine aw_skip (x_blockN (t_ (aw_region (ad_ (h:=m_ (h:=al_nil (?_)))))))
            refine x_then ?_
            refine ⟨_, _, ?_, ⟨j + 1, by omega, rfl, upto_next ha (by unfold entPAt; simp only [hy]; simp_all [strLt]), rfl⟩, (wk 0 0)⟩
            omega
        · have hc4 := bp hb4
          refine d0_ 8 (h:=d0_ 9 (h:=d0_ 10 (h:=d0_ 11 (h:=d0_ 12 (h:=d0_ 13 (h:=d0_ 14 (h:=d0_ 15 (h:=d0_ 16 (h:=dpf_ 17 (h:=dpf_ 18 (h:=z_ (h:=t_ (cn_ (h:=aw_skip (x_blockN (t_ (aw_region (ad_ (h:=m_ (h:=al_nil (?_)))))))))))))))))))))
          refine x_then ?_
          refine ⟨_, _, ?_, ⟨j + 1, by omega, rfl, upto_next ha (by unfold entPAt; simp only [hy]; simp_all [strLt]), rfl⟩, (wk 0 0)⟩
          omega
    · have hc2 := bp hb2
      refine aw_exit (x_thenE (x_thenE (ABlock_out (t_ (w_ (a_ (h:=e_ (aw_ret (?_)))))))))
      refine e_ret ?_
      exact vb (by unfold entsP; rw [if_neg (by omega)]; exact (range_yes (fun i hi => ha i (by omega))).symm)

theorem Ptarget (s : Str) (hs : s.size ≤ 100000) : AFn Try.prog 118 [.v (.string s)] (fun r => r = .v (.bool (targetL s))) := by
  refine enter Try.func118 rfl rfl rfl rfl rfl 0 rfl ?_
  refine w_ (a_ (h:=e_ (w_ (m_ (h:=nq_ (h:=m_ (h:=?_)))))))
  refine al_gs true rfl rfl (fun hb1 => ?_) (fun hb1 => ?_)
  · have hc1 := bp hb1
    refine m_ (h:=n_ (h:=le_ (h:=pt_ (h:=m_ (h:=?_)))))
    refine al_gs true rfl rfl (fun hb2 => ?_) (fun hb2 => ?_)
    · have hc2 := bp hb2
      refine m_ (h:=?_)
      refine g_y (q_call (PidxB s) ?_)
      rintro r rfl
      refine lt_ (h:=pt_ (h:=a_ (h:=e_ (aw_ret (?_)))))
      refine e_ret ?_
      exact vb (by rw [idx_zero]; unfold targetL; have := str_pos hc1; rw [decide_eq_true (show 1 ≤ s.size by omega), decide_eq_true (show s.size ≤ 128 by omega), Bool.and_true, Bool.and_true])
    · have hc2 := bp hb2
      refine g0_ (h:=g0_ (h:=g0_ (h:=pf_ (h:=a_ (h:=e_ (aw_ret (?_)))))))
      refine e_ret ?_
      exact vb (by unfold targetL; rw [decide_eq_false (show ¬ s.size ≤ 128 by omega), Bool.and_false])
  · have hc1 := bp hb1
    refine g0_ (h:=g0_ (h:=g0_ (h:=pf_ (h:=m_ (h:=g0_ (h:=g0_ (h:=g0_ (h:=pf_ (h:=a_ (h:=e_ (aw_ret (?_))))))))))))
    refine e_ret ?_
    exact vb (by rw [hc1]; rfl)

theorem PvalNode (n : Nod) (hn : n.entries.length ≤ 1000) (ht : n.target.size ≤ 100000) : AFn Try.prog 107 [.agg (nodA n)] (fun r => r = .v (.bool (nodP n))) := by
  have hel : (n.entries.map entA).length = n.entries.length := by simp
  refine enter Try.func107 rfl rfl rfl rfl rfl 0 rfl ?_
  refine w_ (b_ (h:=a_ (h:=e_ (q_ (w_ (f_ (h:=l_ (h:=f_ (h:=l_ (h:=f_ (h:=l_ (h:=?_))))))))))))
  refine al_p rfl (q_call (Pattr n.mode n.uid n.gid) ?_)
  rintro r rfl
  refine nt_ (h:=e_ (?_))
  refine aw_cond rfl (fun hb1 => ?_) (fun hb1 => ?_)
  · have hc1 := bp hb1
    refine w_ (a_ (h:=e_ (aw_ret (x_thenR (?_)))))
    refine e_ret ?_
    exact vb (by unfold nodP; simp_all)
  · have hc1 := bp hb1
    refine kt_ (q_ (w_ (f_ (h:=l_ (h:=e_ (aw_block (w_ (eq_ (h:=a_ (h:=e_ (?_)))))))))))
    refine aw_cond rfl (fun hb2 => ?_) (fun hb2 => ?_)
    · have hc2 := bp hb2
      refine w_ (f_ (h:=l_ (h:=eq_ (h:=m_ (h:=?_)))))
      refine al_gs true rfl rfl (fun hb3 => ?_) (fun hb3 => ?_)
      · have hc3 := bp hb3
        refine f_ (h:=l_ (h:=eq_ (h:=pt_ (h:=m_ (h:=?_)))))
        refine al_gs true rfl rfl (fun hb4 => ?_) (fun hb4 => ?_)
        · have hc4 := bp hb4
          refine f_ (h:=l_ (h:=n_ (h:=eq_ (h:=pt_ (h:=a_ (h:=e_ (aw_ret (x_blockR (x_thenR (?_))))))))))
          refine e_ret ?_
          exact vb (by unfold nodP; simp_all)
        · have hc4 := bp hb4
          refine g0_ (h:=g0_ (h:=g0_ (h:=g0_ (h:=pf_ (h:=a_ (h:=e_ (aw_ret (x_blockR (x_thenR (?_))))))))))
          refine e_ret ?_
          exact vb (by unfold nodP; simp_all)
      · have hc3 := bp hb3
        refine g0_ (h:=g0_ (h:=g0_ (h:=pf_ (h:=m_ (h:=g0_ (h:=g0_ (h:=g0_ (h:=g0_ (h:=pf_ (h:=a_ (h:=e_ (aw_ret (x_blockR (x_thenR (?_)))))))))))))))
        refine e_ret ?_
        exact vb (by unfold nodP; simp_all)
    · have hc2 := bp hb2
      refine w_ (eq_ (h:=a_ (h:=e_ (?_))))
      refine aw_cond rfl (fun hb5 => ?_) (fun hb5 => ?_)
      · have hc5 := bp hb5
        refine w_ (f_ (h:=l_ (h:=eq_ (h:=m_ (h:=?_)))))
        refine al_gs true rfl rfl (fun hb6 => ?_) (fun hb6 => ?_)
        · have hc6 := bp hb6
          refine f_ (h:=l_ (h:=?_))
          refine g_y (q_call (Ptarget n.target ht) ?_)
          rintro r rfl
          refine pt_ (h:=m_ (h:=?_))
          refine al_gs true rfl rfl (fun hb7 => ?_) (fun hb7 => ?_)
          · have hc7 := bp hb7
            refine f_ (h:=l_ (h:=n_ (h:=eq_ (h:=pt_ (h:=a_ (h:=e_ (aw_ret (x_blockR (x_thenR (?_))))))))))
            refine e_ret ?_
            exact vb (by unfold nodP; simp_all)
          · have hc7 := bp hb7
            refine g0_ (h:=g0_ (h:=g0_ (h:=g0_ (h:=pf_ (h:=a_ (h:=e_ (aw_ret (x_blockR (x_thenR (?_))))))))))
            refine e_ret ?_
            exact vb (by unfold nodP; simp_all)
        · have hc6 := bp hb6
          refine g0_ (h:=g0_ (h:=g0_ (h:=pf_ (h:=m_ (h:=g0_ (h:=g0_ (h:=g0_ (h:=g0_ (h:=pf_ (h:=a_ (h:=e_ (aw_ret (x_blockR (x_thenR (?_)))))))))))))))
          refine e_ret ?_
          exact vb (by unfold nodP; simp_all)
      · have hc5 := bp hb5
        refine w_ (eq_ (h:=a_ (h:=e_ (?_))))
        refine aw_cond rfl (fun hb8 => ?_) (fun hb8 => ?_)
        · have hc8 := bp hb8
          refine w_ (f_ (h:=l_ (h:=eq_ (h:=m_ (h:=?_)))))
          refine al_gs true rfl rfl (fun hb9 => ?_) (fun hb9 => ?_)
          · have hc9 := bp hb9
            refine f_ (h:=l_ (h:=?_))
            refine g_y (q_call (PvalE n.entries hn) ?_)
            rintro r rfl
            refine pt_ (h:=a_ (h:=e_ (aw_ret (x_blockR (x_thenR (?_))))))
            refine e_ret ?_
            exact vb (by unfold nodP; simp_all)
          · have hc9 := bp hb9
            refine g0_ (h:=g0_ (h:=g0_ (h:=pf_ (h:=a_ (h:=e_ (aw_ret (x_blockR (x_thenR (?_)))))))))
            refine e_ret ?_
            exact vb (by unfold nodP; simp_all)
        · have hc8 := bp hb8
          refine aw_skip (x_blockN (t_ (w_ (a_ (h:=e_ (aw_ret (?_)))))))
          refine e_ret ?_
          exact vb (by unfold nodP; simp_all)

theorem PvalNodes (d : Dvc) (hd : d.nodes.length ≤ 1000) (he : ∀ n ∈ d.nodes, n.entries.length ≤ 1000) (ht : ∀ n ∈ d.nodes, n.target.size ≤ 100000) : AFn Try.prog 90 [.agg (dvcA d)] (fun r => r = .v (.bool (nodsP d))) := by
  have hel : (d.nodes.map nodA).length = d.nodes.length := by simp
  refine enter Try.func90 rfl rfl rfl rfl rfl 0 rfl ?_
  refine w_ (b_ (h:=a_ (h:=e_ (q_ (w_ (f_ (h:=l_ (h:=lt_ (h:=m_ (h:=?_))))))))))
  refine al_gs false rfl rfl (fun hb1 => ?_) (fun hb1 => ?_)
  · have hc1 := bp hb1
    refine g0_ (h:=g0_ (h:=g0_ (h:=pt_ (h:=m_ (h:=g0_ (h:=g0_ (h:=g0_ (h:=g0_ (h:=pt_ (h:=m_ (h:=g0_ (h:=g0_ (h:=g0_ (h:=g0_ (h:=pt_ (h:=e_ (cy_ (h:=w_ (a_ (h:=e_ (aw_ret (x_thenR (?_)))))))))))))))))))))))
    refine e_ret ?_
    first | exact vb (nods_no hhd hlt (by unfold nodPAt; simp only [hy]; simp_all)).symm | exact vb (nods_yes hhd (fun i hi => ha i (by omega))).symm | exact vb (nods_no0 (by unfold headP; rw [if_pos (by omega)])).symm | exact vb (nods_no0 (by unfold headP; rw [if_neg (by omega), if_pos (by omega)])).symm | exact vb (nods_no0 (by unfold headP; rw [if_neg (by omega), if_neg (by omega), if_pos (by omega)])).symm | exact vb (nods_no0 (by unfold headP; rw [if_neg (by omega), if_neg (by omega), if_neg (by omega), if_pos (by omega)])).symm | exact vb (nods_no0 (by unfold headP; rw [if_neg (by omega), if_neg (by omega), if_neg (by omega), if_neg (by omega)]; simp only [hy0]; simp_all)).symm
  · have hc1 := bp hb1
    refine f_ (h:=l_ (h:=gt_ (h:=pf_ (h:=m_ (h:=?_)))))
    refine al_gs false rfl rfl (fun hb2 => ?_) (fun hb2 => ?_)
    · have hc2 := bp hb2
      refine g0_ (h:=g0_ (h:=g0_ (h:=g0_ (h:=pt_ (h:=m_ (h:=g0_ (h:=g0_ (h:=g0_ (h:=g0_ (h:=pt_ (h:=e_ (cy_ (h:=w_ (a_ (h:=e_ (aw_ret (x_thenR (?_))))))))))))))))))
      refine e_ret ?_
      first | exact vb (nods_no hhd hlt (by unfold nodPAt; simp only [hy]; simp_all)).symm | exact vb (nods_yes hhd (fun i hi => ha i (by omega))).symm | exact vb (nods_no0 (by unfold headP; rw [if_pos (by omega)])).symm | exact vb (nods_no0 (by unfold headP; rw [if_neg (by omega), if_pos (by omega)])).symm | exact vb (nods_no0 (by unfold headP; rw [if_neg (by omega), if_neg (by omega), if_pos (by omega)])).symm | exact vb (nods_no0 (by unfold headP; rw [if_neg (by omega), if_neg (by omega), if_neg (by omega), if_pos (by omega)])).symm | exact vb (nods_no0 (by unfold headP; rw [if_neg (by omega), if_neg (by omega), if_neg (by omega), if_neg (by omega)]; simp only [hy0]; simp_all)).symm
    · have hc2 := bp hb2
      refine f_ (h:=l_ (h:=n_ (h:=lt_ (h:=pf_ (h:=m_ (h:=?_))))))
      refine al_gs false rfl rfl (fun hb3 => ?_) (fun hb3 => ?_)
      · have hc3 := bp hb3
        refine g0_ (h:=g0_ (h:=g0_ (h:=g0_ (h:=pt_ (h:=e_ (cy_ (h:=w_ (a_ (h:=e_ (aw_ret (x_thenR (?_))))))))))))
        refine e_ret ?_
        first | exact vb (nods_no hhd hlt (by unfold nodPAt; simp only [hy]; simp_all)).symm | exact vb (nods_yes hhd (fun i hi => ha i (by omega))).symm | exact vb (nods_no0 (by unfold headP; rw [if_pos (by omega)])).symm | exact vb (nods_no0 (by unfold headP; rw [if_neg (by omega), if_pos (by omega)])).symm | exact vb (nods_no0 (by unfold headP; rw [if_neg (by omega), if_neg (by omega), if_pos (by omega)])).symm | exact vb (nods_no0 (by unfold headP; rw [if_neg (by omega), if_neg (by omega), if_neg (by omega), if_pos (by omega)])).symm | exact vb (nods_no0 (by unfold headP; rw [if_neg (by omega), if_neg (by omega), if_neg (by omega), if_neg (by omega)]; simp only [hy0]; simp_all)).symm
      · have hc3 := bp hb3
        refine f_ (h:=l_ (h:=n_ (h:=gt_ (h:=pf_ (h:=e_ (?_))))))
        refine aw_cond rfl (fun hb4 => ?_) (fun hb4 => ?_)
        · have hc4 := bp hb4
          refine w_ (a_ (h:=e_ (aw_ret (x_thenR (?_)))))
          refine e_ret ?_
          first | exact vb (nods_no hhd hlt (by unfold nodPAt; simp only [hy]; simp_all)).symm | exact vb (nods_yes hhd (fun i hi => ha i (by omega))).symm | exact vb (nods_no0 (by unfold headP; rw [if_pos (by omega)])).symm | exact vb (nods_no0 (by unfold headP; rw [if_neg (by omega), if_pos (by omega)])).symm | exact vb (nods_no0 (by unfold headP; rw [if_neg (by omega), if_neg (by omega), if_pos (by omega)])).symm | exact vb (nods_no0 (by unfold headP; rw [if_neg (by omega), if_neg (by omega), if_neg (by omega), if_pos (by omega)])).symm | exact vb (nods_no0 (by unfold headP; rw [if_neg (by omega), if_neg (by omega), if_neg (by omega), if_neg (by omega)]; simp only [hy0]; simp_all)).symm
        · have hc4 := bp hb4
          obtain ⟨hlt0, r0, hy0, hrow0, -⟩ := row_at (l := d.nodes) (k := 0) nodA (by omega)
          refine kt_ (q_ (w_ (f_ (h:=l_ (h:=?_)))))
          refine al_p rfl (st_index (n := 0) rfl rfl rfl hrow0 ?_)
          refine f_ (h:=l_ (h:=nq_ (h:=m_ (h:=?_))))
          refine al_gs false rfl rfl (fun hb5 => ?_) (fun hb5 => ?_)
          · have hc5 := bp hb5
            refine g0_ (h:=g0_ (h:=g0_ (h:=g0_ (h:=g0_ (h:=g0_ (h:=pt_ (h:=e_ (cy_ (h:=w_ (a_ (h:=e_ (aw_ret (x_thenR (?_))))))))))))))
            refine e_ret ?_
            first | exact vb (nods_no hhd hlt (by unfold nodPAt; simp only [hy]; simp_all)).symm | exact vb (nods_yes hhd (fun i hi => ha i (by omega))).symm | exact vb (nods_no0 (by unfold headP; rw [if_pos (by omega)])).symm | exact vb (nods_no0 (by unfold headP; rw [if_neg (by omega), if_pos (by omega)])).symm | exact vb (nods_no0 (by unfold headP; rw [if_neg (by omega), if_neg (by omega), if_pos (by omega)])).symm | exact vb (nods_no0 (by unfold headP; rw [if_neg (by omega), if_neg (by omega), if_neg (by omega), if_pos (by omega)])).symm | exact vb (nods_no0 (by unfold headP; rw [if_neg (by omega), if_neg (by omega), if_neg (by omega), if_neg (by omega)]; simp only [hy0]; simp_all)).symm
          · have hc5 := bp hb5
            refine f_ (h:=l_ (h:=?_))
            refine g_y (st_index (n := 0) rfl rfl rfl hrow0 ?_)
            refine f_ (h:=l_ (h:=nq_ (h:=pf_ (h:=e_ (?_)))))
            refine aw_cond rfl (fun hb6 => ?_) (fun hb6 => ?_)
            · have hc6 := bp hb6
              refine w_ (a_ (h:=e_ (aw_ret (x_thenR (?_)))))
              refine e_ret ?_
              first | exact vb (nods_no hhd hlt (by unfold nodPAt; simp only [hy]; simp_all)).symm | exact vb (nods_yes hhd (fun i hi => ha i (by omega))).symm | exact vb (nods_no0 (by unfold headP; rw [if_pos (by omega)])).symm | exact vb (nods_no0 (by unfold headP; rw [if_neg (by omega), if_pos (by omega)])).symm | exact vb (nods_no0 (by unfold headP; rw [if_neg (by omega), if_neg (by omega), if_pos (by omega)])).symm | exact vb (nods_no0 (by unfold headP; rw [if_neg (by omega), if_neg (by omega), if_neg (by omega), if_pos (by omega)])).symm | exact vb (nods_no0 (by unfold headP; rw [if_neg (by omega), if_neg (by omega), if_neg (by omega), if_neg (by omega)]; simp only [hy0]; simp_all)).symm
            · have hc6 := bp hb6
              have hhd : headP d = true := by unfold headP; rw [if_neg (by omega), if_neg (by omega), if_neg (by omega), if_neg (by omega)]; simp only [hy0]; simp_all
              refine kt_ (w_ (a_ (h:=e_ (q_ (w_ (f_ (h:=l_ (h:=n_ (h:=m_ (h:=e_ (aw_block (?_))))))))))))
              refine aw_loopW (fun m t => ∃ j : Nat, j ≤ d.nodes.length ∧ m = d.nodes.length - j ∧ (∀ i, i < j → nodPAt d i = true) ∧ t = ⟨look [(1, .bp 0 0), (3, .v (.int .i64 (lastI d.nodes j))), (41, .sl 8 (d.nodes.map nodA) none), (42, .v (.int .i64 ((d.nodes.map nodA).length : Int))), (43, .v (.int .i64 (j : Int)))], ⟨[dvcA d], []⟩⟩) (d.nodes.length) ((wk 1 0)) (⟨0, by omega, rfl, fun i hi => by omega, rfl⟩) ?_
              rintro m t ⟨j, hj, rfl, ha, rfl⟩
              refine w_ (lt_ (h:=e_ (q_ (?_))))
              refine aw_cond rfl (fun hb7 => ?_) (fun hb7 => ?_)
              · have hc7 := bp hb7
                obtain ⟨hlt, n, hy, hrow, -⟩ := row_at nodA hc7
                refine kt_ (q_ (aw_block (w_ (?_))))
                refine al_p rfl (st_index (n := j) rfl rfl rfl hrow ?_)
                refine l_ (h:=al_ (h:=s_ (h:=e_ (q_ (w_ (f_ (h:=l_ (h:=m_ (h:=le_ (h:=m_ (h:=?_)))))))))))
                refine al_gs false rfl rfl (fun hb8 => ?_) (fun hb8 => ?_)
                · have hc8 := bp hb8
                  refine g0_ (h:=g0_ (h:=g0_ (h:=g0_ (h:=g0_ (h:=pt_ (h:=m_ (h:=g0_ (h:=g0_ (h:=g0_ (h:=pt_ (h:=e_ (cy_ (h:=w_ (a_ (h:=e_ (aw_ret (x_thenR (x_blockR (x_thenR (x_thenR (x_blockR (x_thenR (?_)))))))))))))))))))))))
                  refine e_ret ?_
                  first | exact vb (nods_no hhd hlt (by unfold nodPAt; simp only [hy]; simp_all)).symm | exact vb (nods_yes hhd (fun i hi => ha i (by omega))).symm | exact vb (nods_no0 (by unfold headP; rw [if_pos (by omega)])).symm | exact vb (nods_no0 (by unfold headP; rw [if_neg (by omega), if_pos (by omega)])).symm | exact vb (nods_no0 (by unfold headP; rw [if_neg (by omega), if_neg (by omega), if_pos (by omega)])).symm | exact vb (nods_no0 (by unfold headP; rw [if_neg (by omega), if_neg (by omega), if_neg (by omega), if_pos (by omega)])).symm | exact vb (nods_no0 (by unfold headP; rw [if_neg (by omega), if_neg (by omega), if_neg (by omega), if_neg (by omega)]; simp only [hy0]; simp_all)).symm
                · have hc8 := bp hb8
                  refine f_ (h:=l_ (h:=f_ (h:=l_ (h:=ge_ (h:=pf_ (h:=m_ (h:=?_)))))))
                  refine al_gs false rfl rfl (fun hb9 => ?_) (fun hb9 => ?_)
                  · have hc9 := bp hb9
                    refine g0_ (h:=g0_ (h:=g0_ (h:=pt_ (h:=e_ (cy_ (h:=w_ (a_ (h:=e_ (aw_ret (x_thenR (x_blockR (x_thenR (x_thenR (x_blockR (x_thenR (?_))))))))))))))))
                    refine e_ret ?_
                    first | exact vb (nods_no hhd hlt (by unfold nodPAt; simp only [hy]; simp_all)).symm | exact vb (nods_yes hhd (fun i hi => ha i (by omega))).symm | exact vb (nods_no0 (by unfold headP; rw [if_pos (by omega)])).symm | exact vb (nods_no0 (by unfold headP; rw [if_neg (by omega), if_pos (by omega)])).symm | exact vb (nods_no0 (by unfold headP; rw [if_neg (by omega), if_neg (by omega), if_pos (by omega)])).symm | exact vb (nods_no0 (by unfold headP; rw [if_neg (by omega), if_neg (by omega), if_neg (by omega), if_pos (by omega)])).symm | exact vb (nods_no0 (by unfold headP; rw [if_neg (by omega), if_neg (by omega), if_neg (by omega), if_neg (by omega)]; simp only [hy0]; simp_all)).symm
                  · have hc9 := bp hb9
                    refine l_ (h:=?_)
                    refine g_y (q_call (PvalNode n (he n (List.mem_of_getElem? hy)) (ht n (List.mem_of_getElem? hy))) ?_)
                    rintro r rfl
                    refine nt_ (h:=pf_ (h:=e_ (?_)))
                    refine aw_cond rfl (fun hb10 => ?_) (fun hb10 => ?_)
                    · have hc10 := bp hb10
                      refine w_ (a_ (h:=e_ (aw_ret (x_thenR (x_blockR (x_thenR (x_thenR (x_blockR (x_thenR (?_))))))))))
                      refine e_ret ?_
                      first | exact vb (nods_no hhd hlt (by unfold nodPAt; simp only [hy]; simp_all)).symm | exact vb (nods_yes hhd (fun i hi => ha i (by omega))).symm | exact vb (nods_no0 (by unfold headP; rw [if_pos (by omega)])).symm | exact vb (nods_no0 (by unfold headP; rw [if_neg (by omega), if_pos (by omega)])).symm | exact vb (nods_no0 (by unfold headP; rw [if_neg (by omega), if_neg (by omega), if_pos (by omega)])).symm | exact vb (nods_no0 (by unfold headP; rw [if_neg (by omega), if_neg (by omega), if_neg (by omega), if_pos (by omega)])).symm | exact vb (nods_no0 (by unfold headP; rw [if_neg (by omega), if_neg (by omega), if_neg (by omega), if_neg (by omega)]; simp only [hy0]; simp_all)).symm
                    · have hc10 := bp hb10
                      refine kt_ (aw_region (f_ (h:=l_ (h:=a_ (h:=al_nil (x_blockN (t_ (aw_region (ad_ (h:=m_ (h:=al_nil (?_))))))))))))
                      refine x_then ?_
                      refine ⟨_, _, ?_, ⟨j + 1, by omega, rfl, upto_next ha (by unfold nodPAt; simp only [hy]; simp_all), rfl⟩, (by rw [last_at hy]; exact (wk 1 0))⟩
                      omega
              · have hc7 := bp hb7
                refine aw_exit (x_thenE (x_thenE (ABlock_out (t_ (w_ (a_ (h:=e_ (aw_ret (?_)))))))))
                refine e_ret ?_
                first | exact vb (nods_no hhd hlt (by unfold nodPAt; simp only [hy]; simp_all)).symm | exact vb (nods_yes hhd (fun i hi => ha i (by omega))).symm | exact vb (nods_no0 (by unfold headP; rw [if_pos (by omega)])).symm | exact vb (nods_no0 (by unfold headP; rw [if_neg (by omega), if_pos (by omega)])).symm | exact vb (nods_no0 (by unfold headP; rw [if_neg (by omega), if_neg (by omega), if_pos (by omega)])).symm | exact vb (nods_no0 (by unfold headP; rw [if_neg (by omega), if_neg (by omega), if_neg (by omega), if_pos (by omega)])).symm | exact vb (nods_no0 (by unfold headP; rw [if_neg (by omega), if_neg (by omega), if_neg (by omega), if_neg (by omega)]; simp only [hy0]; simp_all)).symm

end
end Go.Proofs.Ytgliiknfmlmddaa
namespace Go.Proofs.Ytgliiknfmlmddaa
open Go.RowKit

def belowP (f : Fls) (top : Fil) : Nat → Fil → Bool
  | 0, _ => false
  | k + 1, a => if a = top then true else match nodeL f a with
    | none => false
    | some n => if n.ino = 1 then false else belowP f top k (a.1, n.parent)
theorem below_succ (f : Fls) (top : Fil) (k : Nat) (a : Fil) : belowP f top (k + 1) a = if a = top then true else match nodeL f a with
    | none => false
    | some n => if n.ino = 1 then false else belowP f top k (a.1, n.parent) := rfl
def lnkAt (f : Fls) (dev : Int) (n : Nod) (i : Nat) : Bool := match n.entries[i]? with
  | none => true
  | some x => match nodeL f (dev, x.2) with
    | none => false
    | some m => if m.ino = 1 then false else if m.kind = 2 ∧ m.parent ≠ n.ino then false else true
def lnksAt (f : Fls) (dev : Int) (d : Dvc) (i : Nat) : Bool := match d.nodes[i]? with
  | none => true
  | some n => (List.range n.entries.length).all (lnkAt f dev n)
def upAt (f : Fls) (dev : Int) (d : Dvc) (i : Nat) : Bool := match d.nodes[i]? with
  | none => true
  | some n => if n.ino = 1 then decide (n.parent = 1) else if (linksF f (dev, n.ino) : Int) < 1 then false else if n.kind = 2 ∧ (1 < (linksF f (dev, n.ino) : Int) ∨ belowP f (dev, 1) d.nodes.length (dev, n.ino) = false) then false else true
def lnkP (f : Fls) (dev : Int) (d : Dvc) : Bool := (List.range d.nodes.length).all (lnksAt f dev d) && (List.range d.nodes.length).all (upAt f dev d)
theorem lnk_no1 {f : Fls} {dev : Int} {d : Dvc} {n : Nod} {j i : Nat} (hj : j < d.nodes.length) (hn : d.nodes[j]? = some n) (hi : i < n.entries.length) (h : lnkAt f dev n i = false) : lnkP f dev d = false := by
  unfold lnkP
  rw [range_no hj (by unfold lnksAt; simp only [hn]; exact range_no hi h), Bool.false_and]
theorem lnk_no2 {f : Fls} {dev : Int} {d : Dvc} {j : Nat} (hj : j < d.nodes.length) (h : upAt f dev d j = false) : lnkP f dev d = false := by
  unfold lnkP
  rw [range_no hj h, Bool.and_false]
theorem lnk_yes {f : Fls} {dev : Int} {d : Dvc} (h1 : ∀ i, i < d.nodes.length → lnksAt f dev d i = true) (h2 : ∀ i, i < d.nodes.length → upAt f dev d i = true) : lnkP f dev d = true := by
  unfold lnkP
  rw [range_yes h1, range_yes h2]
  rfl
def vldPAt (f : Fls) (i : Nat) : Bool := match f[i]? with
  | none => true
  | some d => nodsP d && lnkP f i d
def vldP (f : Fls) : Bool := if f.length < 1 then false else if 3 < f.length then false else (List.range f.length).all (vldPAt f)
section
set_option maxRecDepth 20000
set_option maxHeartbeats 4000000
theorem Plinks (f : Fls) (a : Fil) (hf : FlsB f) : AFn Try.prog 108 [.agg (flsA f), .agg (filA a)] (fun r => r = .v (.int .i64 (linksF f a : Int))) := by
  refine enter Try.func108 rfl rfl rfl rfl rfl 0 rfl ?_
  refine w_ (b_ (h:=b_ (h:=a_ (h:=e_ (q_ (w_ (l_ (h:=l_ (h:=?_)))))))))
  refine al_p rfl (q_call (Pfind f a hf) ?_)
  rintro r (⟨e, rfl⟩ | ⟨n, e, rfl⟩)
  · skip
    first | refine al_p rfl (st_eqPnil (by kernel_rfl) rfl rfl ?_) | refine al_p rfl (st_eqPfp (by kernel_rfl) rfl rfl ?_)
    refine e_ (?_)
    refine aw_cond rfl (fun hb1 => ?_) (fun hb1 => ?_)
    · have hc1 := bp hb1
      refine w_ (a_ (h:=e_ (aw_ret (x_thenR (?_)))))
      refine e_ret ?_
      exact vi (by simp [linksF, e])
    · have hc1 := bp hb1
      exfalso; first | contradiction | omega
  · skip
    first | refine al_p rfl (st_eqPnil (by kernel_rfl) rfl rfl ?_) | refine al_p rfl (st_eqPfp (by kernel_rfl) rfl rfl ?_)
    refine e_ (?_)
    refine aw_cond rfl (fun hb2 => ?_) (fun hb2 => ?_)
    · have hc2 := bp hb2
      exfalso; first | contradiction | omega
    · have hc2 := bp hb2
      obtain ⟨k, i0, d, n1, g1, g2, g3, g4, g5, g6⟩ := (index_node f a).resolve_left (fun h => by rw [h.2] at e; cases e)
      have hr1 : (f.map dvcA)[k]? = some (dvcA d) := by rw [List.getElem?_map, g2]; rfl
      have hdn := hf.nodes d (List.mem_of_getElem? g2)
      refine kt_ (w_ (a_ (h:=e_ (q_ (w_ (f_ (h:=l_ (h:=f_ (h:=l_ (h:=?_))))))))))
      refine al_p rfl (st_index (n := k) rfl rfl g1 hr1 ?_)
      refine f_ (h:=l_ (h:=n_ (h:=m_ (h:=e_ (aw_block (?_))))))
      refine aw_loopW (fun m s => ∃ j c : Nat, j ≤ d.nodes.length ∧ m = d.nodes.length - j ∧ c = cntN a.2 (d.nodes.take j) ∧ c ≤ 1000 * j ∧ s = ⟨look [(3, .bp 1 0), (5, .v (.int .i64 (c : Int))), (20, .sl 8 (d.nodes.map nodA) none), (21, .v (.int .i64 ((d.nodes.map nodA).length : Int))), (22, .v (.int .i64 (j : Int)))], ⟨[flsA f, filA a], []⟩⟩) (d.nodes.length) ((wk 2 0)) (⟨0, 0, by omega, rfl, rfl, by omega, rfl⟩) ?_
      rintro m s ⟨j, c, hj, rfl, hcn, hcb, rfl⟩
      refine w_ (lt_ (h:=e_ (q_ (?_))))
      refine aw_cond rfl (fun hb3 => ?_) (fun hb3 => ?_)
      · have hc3 := bp hb3
        obtain ⟨hlt, x, hx, hrow, -⟩ := row_at nodA hc3
        have hen := hf.ents d (List.mem_of_getElem? g2) x (List.mem_of_getElem? hx)
        refine kt_ (q_ (aw_block (w_ (?_))))
        refine al_p rfl (st_index (n := j) rfl rfl rfl hrow ?_)
        refine l_ (h:=al_ (h:=s_ (h:=e_ (w_ (f_ (h:=l_ (h:=n_ (h:=m_ (h:=e_ (aw_block (?_)))))))))))
        refine aw_loopW (fun m s => ∃ i c2 : Nat, i ≤ x.entries.length ∧ m = x.entries.length - i ∧ c2 = c + cntE a.2 (x.entries.take i) ∧ c2 ≤ c + i ∧ s = ⟨look [(3, .bp 1 0), (5, .v (.int .i64 (c2 : Int))), (20, .sl 8 (d.nodes.map nodA) none), (21, .v (.int .i64 ((d.nodes.map nodA).length : Int))), (22, .v (.int .i64 (j : Int))), (27, .sl 2 (x.entries.map entA) none), (28, .v (.int .i64 ((x.entries.map entA).length : Int))), (29, .v (.int .i64 (i : Int)))], ⟨[flsA f, filA a], []⟩⟩) (x.entries.length) ((wk 2 0)) (⟨0, c, by omega, rfl, rfl, by omega, rfl⟩) ?_
        rintro m s ⟨i, c2, hi, rfl, hc2n, hc2b, rfl⟩
        refine w_ (lt_ (h:=e_ (q_ (?_))))
        refine aw_cond rfl (fun hb4 => ?_) (fun hb4 => ?_)
        · have hc4 := bp hb4
          obtain ⟨hlt3, y, hy, hrow3, -⟩ := row_at entA hc4
          refine kt_ (q_ (aw_block (w_ (?_))))
          refine al_p rfl (st_index (n := i) rfl rfl rfl hrow3 ?_)
          refine l_ (h:=al_ (h:=s_ (h:=e_ (w_ (f_ (h:=l_ (h:=f_ (h:=l_ (h:=eq_ (h:=e_ (?_)))))))))))
          refine aw_cond rfl (fun hb5 => ?_) (fun hb5 => ?_)
          · have hc5 := bp hb5
            refine aw_region (m_ (h:=ad_ (h:=a_ (h:=al_nil (x_blockN (t_ (aw_region (ad_ (h:=m_ (h:=al_nil (?_)))))))))))
            refine x_then ?_
            first | (refine ⟨_, _, ?_, ⟨i + 1, c2 + 1, by omega, rfl, ?_, by omega, rfl⟩, (wk 2 0)⟩ <;> first | omega | (rw [cntE_snoc hy]; simp [hc5]; omega)) | (refine ⟨_, _, ?_, ⟨i + 1, c2, by omega, rfl, ?_, by omega, rfl⟩, (wk 2 0)⟩ <;> first | omega | (rw [cntE_snoc hy]; simp [hc5]; omega))
          · have hc5 := bp hb5
            refine aw_skip (x_blockN (t_ (aw_region (ad_ (h:=m_ (h:=al_nil (?_)))))))
            refine x_then ?_
            first | (refine ⟨_, _, ?_, ⟨i + 1, c2 + 1, by omega, rfl, ?_, by omega, rfl⟩, (wk 2 0)⟩ <;> first | omega | (rw [cntE_snoc hy]; simp [hc5]; omega)) | (refine ⟨_, _, ?_, ⟨i + 1, c2, by omega, rfl, ?_, by omega, rfl⟩, (wk 2 0)⟩ <;> first | omega | (rw [cntE_snoc hy]; simp [hc5]; omega))
        · have hc4 := bp hb4
          have e3 := row_no entA hi hc4
          subst e3
          refine aw_exit (x_thenE (x_thenE (ABlock_out (x_blockN (t_ (aw_region (ad_ (h:=m_ (h:=al_nil (?_))))))))))
          refine x_then ?_
          refine ⟨_, _, ?_, ⟨j + 1, c2, by omega, rfl, ?_, ?_, rfl⟩, (wk 2 0)⟩
          · omega
          · rw [hc2n, cntN_snoc hx, List.take_length]; omega
          · have := cntE_le a.2 (x.entries.take x.entries.length); simp at this; omega
      · have hc3 := bp hb3
        have e2 := row_no nodA hj hc3
        subst e2
        refine aw_exit (x_thenE (x_thenE (ABlock_out (t_ (w_ (m_ (h:=a_ (h:=e_ (aw_ret (?_))))))))))
        refine e_ret ?_
        exact vi (by rw [linksF_at g1 g2 g6, hcn, List.take_length])

theorem Pbelow (f : Fls) (top a : Fil) (q : Nat) (d : Dvc) (hf : FlsB f) (ht : top.1 = (q : Int)) (hq : f[q]? = some d) : AFn Try.prog 109 [.agg (flsA f), .agg (filA top), .agg (filA a)] (fun r => r = .v (.bool (belowP f top d.nodes.length a))) := by
  have hrq : (f.map dvcA)[q]? = some (dvcA d) := by rw [List.getElem?_map, hq]; rfl
  have hdn := hf.nodes d (List.mem_of_getElem? hq)
  have hel : (d.nodes.map nodA).length = d.nodes.length := by simp
  refine enter Try.func109 rfl rfl rfl rfl rfl 0 rfl ?_
  refine w_ (b_ (h:=b_ (h:=b_ (h:=a_ (h:=e_ (q_ (w_ (f_ (h:=l_ (h:=f_ (h:=l_ (h:=?_))))))))))))
  refine al_p rfl (st_index (n := q) rfl rfl ht hrq ?_)
  refine f_ (h:=l_ (h:=n_ (h:=m_ (h:=e_ (aw_block (?_))))))
  refine aw_loopW (fun m t => ∃ (j : Nat) (b : Fil), j ≤ d.nodes.length ∧ m = d.nodes.length - j ∧ belowP f top (d.nodes.length - j) b = belowP f top d.nodes.length a ∧ t = ⟨look [(3, .bp 0 0), (4, .bp 1 0), (5, .bp 2 0), (15, .v (.int .i64 ((d.nodes.map nodA).length : Int))), (16, .v (.int .i64 (j : Int)))], ⟨[flsA f, filA top, filA b], []⟩⟩) (d.nodes.length) ((wk 3 0)) (⟨0, a, by omega, rfl, rfl, rfl⟩) ?_
  rintro m t ⟨j, b, hj, rfl, hb, rfl⟩
  refine w_ (lt_ (h:=e_ (q_ (?_))))
  refine aw_cond rfl (fun hb1 => ?_) (fun hb1 => ?_)
  · have hc1 := bp hb1
    obtain ⟨k, hk⟩ : ∃ k, d.nodes.length - j = k + 1 := ⟨d.nodes.length - j - 1, by omega⟩
    rw [hk, below_succ] at hb
    refine kt_ (q_ (aw_block (q_ (w_ (l_ (h:=l_ (h:=?_)))))))
    refine al_p rfl (st_binA rfl rfl (by repeat constructor) (by repeat constructor) (fun w => eqlFil _ _ _ _ w) (by kernel_rfl) ?_)
    refine e_ (?_)
    refine aw_cond rfl (fun hb2 => ?_) (fun hb2 => ?_)
    · have hc2 := bp hb2
      refine w_ (a_ (h:=e_ (aw_ret (x_thenR (x_blockR (x_thenR (x_thenR (x_blockR (x_thenR (?_))))))))))
      refine e_ret ?_
      rw [if_pos (show b = top from hc2)] at hb
      exact vb hb
    · have hc2 := bp hb2
      rw [if_neg (show ¬ b = top from hc2)] at hb
      refine kt_ (w_ (l_ (h:=l_ (h:=?_))))
      refine al_p rfl (q_call (Pfind f b hf) ?_)
      rintro r (⟨e, rfl⟩ | ⟨n, e, rfl⟩)
      · skip
        refine a_ (h:=e_ (q_ (w_ (m_ (h:=?_)))))
        first | refine al_p rfl (st_eqPnil (by kernel_rfl) rfl rfl ?_) | refine al_p rfl (st_eqPfp (by kernel_rfl) rfl rfl ?_)
        refine m_ (h:=?_)
        refine al_gs false rfl rfl (fun hb3 => ?_) (fun hb3 => ?_)
        · have hc3 := bp hb3
          refine g0_ (h:=g0_ (h:=g0_ (h:=g0_ (h:=g0_ (h:=pt_ (h:=e_ (cy_ (h:=w_ (a_ (h:=e_ (aw_ret (x_thenR (x_blockR (x_thenR (x_thenR (x_blockR (x_thenR (?_))))))))))))))))))
          refine e_ret ?_
          rw [e] at hb
          exact vb hb
        · have hc3 := bp hb3
          exfalso; first | contradiction | omega
      · skip
        refine a_ (h:=e_ (q_ (w_ (m_ (h:=?_)))))
        first | refine al_p rfl (st_eqPnil (by kernel_rfl) rfl rfl ?_) | refine al_p rfl (st_eqPfp (by kernel_rfl) rfl rfl ?_)
        refine m_ (h:=?_)
        refine al_gs false rfl rfl (fun hb4 => ?_) (fun hb4 => ?_)
        · have hc4 := bp hb4
          exfalso; first | contradiction | omega
        · have hc4 := bp hb4
          refine m_ (h:=k_ (h:=f_ (h:=l_ (h:=eq_ (h:=pf_ (h:=e_ (?_)))))))
          refine aw_cond rfl (fun hb5 => ?_) (fun hb5 => ?_)
          · have hc5 := bp hb5
            refine w_ (a_ (h:=e_ (aw_ret (x_thenR (x_blockR (x_thenR (x_thenR (x_blockR (x_thenR (?_))))))))))
            refine e_ret ?_
            rw [e] at hb
            simp only [hc5, if_true] at hb
            exact vb hb
          · have hc5 := bp hb5
            rw [e] at hb
            simp only [hc5, if_false] at hb
            refine kt_ (aw_region (m_ (h:=k_ (h:=f_ (h:=l_ (h:=f_ (h:=s_ (h:=al_nil (x_blockN (t_ (aw_region (ad_ (h:=m_ (h:=al_nil (?_)))))))))))))))
            refine x_then ?_
            refine ⟨_, _, ?_, ⟨j + 1, (b.1, n.parent), by omega, rfl, (by rw [← hb, show d.nodes.length - (j + 1) = k by omega]), rfl⟩, (wk 3 0)⟩
            omega
  · have hc1 := bp hb1
    refine aw_exit (x_thenE (x_thenE (ABlock_out (t_ (w_ (a_ (h:=e_ (aw_ret (?_)))))))))
    refine e_ret ?_
    rw [show d.nodes.length - j = 0 by omega] at hb
    exact vb hb

end
end Go.Proofs.Ytgliiknfmlmddaa
namespace Go.Proofs.Ytgliiknfmlmddaa
open Go.RowKit

section
set_option maxRecDepth 20000
set_option maxHeartbeats 4000000
theorem Plinked (f : Fls) (q : Nat) (d : Dvc) (hf : FlsT f) (hq : f[q]? = some d) : AFn Try.prog 91 [.agg (flsA f), .v (.int .i64 (q : Int))] (fun r => r = .v (.bool (lnkP f (q : Int) d))) := by
  have hdm := List.mem_of_getElem? hq
  have hrq : (f.map dvcA)[q]? = some (dvcA d) := by rw [List.getElem?_map, hq]; rfl
  have hdn := hf.b.nodes d hdm
  have hel : (d.nodes.map nodA).length = d.nodes.length := by simp
  have hent : ∀ (i : Nat) (n : Nod), d.nodes[i]? = some n → n.entries.length ≤ 1000 := fun i n hn => hf.b.ents d hdm n (List.mem_of_getElem? hn)
  refine enter Try.func91 rfl rfl rfl rfl rfl 0 rfl ?_
  refine w_ (b_ (h:=a_ (h:=e_ (q_ (w_ (f_ (h:=l_ (h:=m_ (h:=?_)))))))))
  refine al_p rfl (st_index (n := q) rfl rfl rfl hrq ?_)
  refine f_ (h:=l_ (h:=n_ (h:=m_ (h:=e_ (aw_block (?_))))))
  refine aw_loopW (fun m t => ∃ j : Nat, j ≤ d.nodes.length ∧ m = d.nodes.length - j ∧ (∀ i, i < j → lnksAt f (q : Int) d i = true) ∧ t = ⟨look [(1, .v (.int .i64 (q : Int))), (2, .bp 0 0), (20, .sl 8 (d.nodes.map nodA) none), (21, .v (.int .i64 ((d.nodes.map nodA).length : Int))), (22, .v (.int .i64 (j : Int)))], ⟨[flsA f], []⟩⟩) (d.nodes.length) ((wk 1 0)) (⟨0, by omega, rfl, fun i hi => by omega, rfl⟩) ?_
  rintro m t ⟨j, hj, rfl, ha, rfl⟩
  refine w_ (lt_ (h:=e_ (q_ (?_))))
  refine aw_cond rfl (fun hb1 => ?_) (fun hb1 => ?_)
  · have hc1 := bp hb1
    obtain ⟨hlt, n, hy, hrow, -⟩ := row_at nodA hc1
    have hne := hent j n hy
    have hnl : (n.entries.map entA).length = n.entries.length := by simp
    refine kt_ (q_ (aw_block (w_ (?_))))
    refine al_p rfl (st_index (n := j) rfl rfl rfl hrow ?_)
    refine l_ (h:=al_ (h:=s_ (h:=e_ (w_ (f_ (h:=l_ (h:=n_ (h:=m_ (h:=e_ (aw_block (?_)))))))))))
    refine aw_loopW (fun m t => ∃ i : Nat, i ≤ n.entries.length ∧ m = n.entries.length - i ∧ (∀ k, k < i → lnkAt f (q : Int) n k = true) ∧ t = ⟨look [(1, .v (.int .i64 (q : Int))), (2, .bp 0 0), (6, .bp 1 0), (20, .sl 8 (d.nodes.map nodA) none), (21, .v (.int .i64 ((d.nodes.map nodA).length : Int))), (22, .v (.int .i64 (j : Int))), (27, .sl 2 (n.entries.map entA) none), (28, .v (.int .i64 ((n.entries.map entA).length : Int))), (29, .v (.int .i64 (i : Int)))], ⟨[flsA f, nodA n], []⟩⟩) (n.entries.length) ((wk 2 0)) (⟨0, by omega, rfl, fun i hi => by omega, rfl⟩) ?_
    rintro m t ⟨i, hi, rfl, hb, rfl⟩
    refine w_ (lt_ (h:=e_ (q_ (?_))))
    refine aw_cond rfl (fun hb2 => ?_) (fun hb2 => ?_)
    · have hc2 := bp hb2
      obtain ⟨hlt2, x, hy2, hrow2, -⟩ := row_at entA hc2
      refine kt_ (q_ (aw_block (w_ (?_))))
      refine al_p rfl (st_index (n := i) rfl rfl rfl hrow2 ?_)
      refine l_ (h:=al_ (h:=s_ (h:=e_ (w_ (l_ (h:=m_ (h:=f_ (h:=l_ (h:=bd_ (h:=?_))))))))))
      refine al_p rfl (q_call (Pfind f ((q : Int), x.2) hf.b) ?_)
      rintro r (⟨e, rfl⟩ | ⟨m, e, rfl⟩)
      · skip
        refine a_ (h:=e_ (q_ (yr_ 25 (h:=dm_ 0 (h:=?_)))))
        first | refine r_y (i := 1) rfl (st_eqPnil (by kernel_rfl) rfl rfl ⟨rfl, rfl⟩) ?_ | refine r_y (i := 1) rfl (st_eqPfp (by kernel_rfl) rfl rfl ⟨rfl, rfl⟩) ?_
        refine dm_ 2 (h:=?_)
        refine aa_both (j := 2) rfl (fun hb3 => ?_) (fun hb3 => ?_)
        · have hc3 := bp hb3
          refine d0_ 3 (h:=d0_ 4 (h:=d0_ 5 (h:=d0_ 6 (h:=d0_ 7 (h:=dpt_ 8 (h:=dm_ 9 (h:=d0_ 10 (h:=d0_ 11 (h:=d0_ 12 (h:=d0_ 13 (h:=d0_ 14 (h:=d0_ 15 (h:=d0_ 16 (h:=d0_ 17 (h:=d0_ 18 (h:=d0_ 19 (h:=d0_ 20 (h:=d0_ 21 (h:=d0_ 22 (h:=d0_ 23 (h:=dpt_ 24 (h:=z_ (h:=t_ (?_))))))))))))))))))))))))
          refine cy_ (h:=w_ (a_ (h:=e_ (aw_ret (x_blockR (x_thenR (x_thenR (x_blockR (x_blockR (x_thenR (x_thenR (x_blockR (x_thenR (?_))))))))))))))
          refine e_ret ?_
          first | exact vb (lnk_no1 hlt hy hlt2 (by unfold lnkAt; simp only [hy2, e]; try simp_all)).symm | exact vb (lnk_no2 hlt (by unfold upAt; simp only [hy]; simp_all)).symm | exact vb (lnk_yes hall (fun i hi => hu i (by omega))).symm
        · have hc3 := bp hb3
          exfalso; first | contradiction | omega
      · skip
        refine a_ (h:=e_ (q_ (yr_ 25 (h:=dm_ 0 (h:=?_)))))
        first | refine r_y (i := 1) rfl (st_eqPnil (by kernel_rfl) rfl rfl ⟨rfl, rfl⟩) ?_ | refine r_y (i := 1) rfl (st_eqPfp (by kernel_rfl) rfl rfl ⟨rfl, rfl⟩) ?_
        refine dm_ 2 (h:=?_)
        refine aa_both (j := 2) rfl (fun hb4 => ?_) (fun hb4 => ?_)
        · have hc4 := bp hb4
          exfalso; first | contradiction | omega
        · have hc4 := bp hb4
          refine dm_ 3 (h:=dk_ 4 (h:=df_ 5 (h:=dl_ 6 (h:=deq_ 7 (h:=dpf_ 8 (h:=dm_ 9 (h:=?_)))))))
          refine aa_both (j := 9) rfl (fun hb5 => ?_) (fun hb5 => ?_)
          · have hc5 := bp hb5
            refine d0_ 10 (h:=d0_ 11 (h:=d0_ 12 (h:=d0_ 13 (h:=d0_ 14 (h:=d0_ 15 (h:=d0_ 16 (h:=d0_ 17 (h:=d0_ 18 (h:=d0_ 19 (h:=d0_ 20 (h:=d0_ 21 (h:=d0_ 22 (h:=d0_ 23 (h:=dpt_ 24 (h:=z_ (h:=t_ (cy_ (h:=w_ (a_ (h:=e_ (aw_ret (x_blockR (x_thenR (?_))))))))))))))))))))))))
            refine x_thenR (x_blockR (x_blockR (x_thenR (x_thenR (x_blockR (x_thenR (?_)))))))
            refine e_ret ?_
            first | exact vb (lnk_no1 hlt hy hlt2 (by unfold lnkAt; simp only [hy2, e]; try simp_all)).symm | exact vb (lnk_no2 hlt (by unfold upAt; simp only [hy]; simp_all)).symm | exact vb (lnk_yes hall (fun i hi => hu i (by omega))).symm
          · have hc5 := bp hb5
            refine dm_ 10 (h:=dk_ 11 (h:=df_ 12 (h:=dl_ 13 (h:=deq_ 14 (h:=dm_ 15 (h:=?_))))))
            refine aa_both (j := 15) rfl (fun hb6 => ?_) (fun hb6 => ?_)
            · have hc6 := bp hb6
              refine dm_ 16 (h:=dk_ 17 (h:=df_ 18 (h:=dl_ 19 (h:=df_ 20 (h:=dl_ 21 (h:=dnq_ 22 (h:=dpt_ 23 (h:=dpf_ 24 (h:=z_ (h:=t_ (?_)))))))))))
              refine aw_cond rfl (fun hb7 => ?_) (fun hb7 => ?_)
              · have hc7 := bp hb7
                refine w_ (a_ (h:=e_ (aw_ret (x_blockR (x_thenR (x_thenR (x_blockR (x_blockR (x_thenR (x_thenR (x_blockR (x_thenR (?_)))))))))))))
                refine e_ret ?_
                first | exact vb (lnk_no1 hlt hy hlt2 (by unfold lnkAt; simp only [hy2, e]; try simp_all)).symm | exact vb (lnk_no2 hlt (by unfold upAt; simp only [hy]; simp_all)).symm | exact vb (lnk_yes hall (fun i hi => hu i (by omega))).symm
              · have hc7 := bp hb7
                refine aw_skip (x_blockN (t_ (aw_region (ad_ (h:=m_ (h:=al_nil (?_)))))))
                refine x_then ?_
                refine ⟨_, _, ?_, ⟨i + 1, by omega, rfl, upto_next hb (by unfold lnkAt; simp only [hy2, e]; try simp_all), rfl⟩, (wk 2 0)⟩
                omega
            · have hc6 := bp hb6
              refine d0_ 16 (h:=d0_ 17 (h:=d0_ 18 (h:=d0_ 19 (h:=d0_ 20 (h:=d0_ 21 (h:=d0_ 22 (h:=dpf_ 23 (h:=dpf_ 24 (h:=z_ (h:=t_ (cn_ (h:=aw_skip (x_blockN (t_ (aw_region (ad_ (h:=m_ (h:=al_nil (?_)))))))))))))))))))
              refine x_then ?_
              refine ⟨_, _, ?_, ⟨i + 1, by omega, rfl, upto_next hb (by unfold lnkAt; simp only [hy2, e]; try simp_all), rfl⟩, (wk 2 0)⟩
              omega
    · have hc2 := bp hb2
      refine aw_exit (x_thenE (x_thenE (ABlock_out (x_blockN (t_ (aw_region (ad_ (h:=m_ (h:=al_nil (?_))))))))))
      refine x_then ?_
      refine ⟨_, _, ?_, ⟨j + 1, by omega, rfl, upto_next ha (by unfold lnksAt; simp only [hy]; exact range_yes (fun k hk => hb k (by omega))), rfl⟩, (wk 1 0)⟩
      omega
  · have hc1 := bp hb1
    have hall : ∀ i, i < d.nodes.length → lnksAt f (q : Int) d i = true := fun i hi => ha i (by omega)
    refine aw_exit (x_thenE (x_thenE (ABlock_out (t_ (w_ (m_ (h:=bd_ (h:=al_ (h:=s_ (h:=e_ (q_ (w_ (f_ (h:=l_ (h:=m_ (h:=?_))))))))))))))))
    refine al_p rfl (st_index (n := q) rfl rfl rfl hrq ?_)
    refine f_ (h:=l_ (h:=n_ (h:=m_ (h:=e_ (aw_block (?_))))))
    refine aw_loopW (fun m t => ∃ j : Nat, j ≤ d.nodes.length ∧ m = d.nodes.length - j ∧ (∀ i, i < j → upAt f (q : Int) d i = true) ∧ t = ⟨look [(1, .v (.int .i64 (q : Int))), (2, .bp 0 0), (10, .bp 1 0), (73, .sl 8 (d.nodes.map nodA) none), (74, .v (.int .i64 ((d.nodes.map nodA).length : Int))), (75, .v (.int .i64 (j : Int)))], ⟨[flsA f, filA ((q : Int), 1)], []⟩⟩) (d.nodes.length) ((wk 2 0)) (⟨0, by omega, rfl, fun i hi => by omega, rfl⟩) ?_
    rintro m t ⟨j, hj, rfl, hu, rfl⟩
    refine w_ (lt_ (h:=e_ (q_ (?_))))
    refine aw_cond rfl (fun hb8 => ?_) (fun hb8 => ?_)
    · have hc8 := bp hb8
      obtain ⟨hlt, n, hy, hrow, -⟩ := row_at nodA hc8
      refine kt_ (q_ (aw_block (w_ (?_))))
      refine al_p rfl (st_index (n := j) rfl rfl rfl hrow ?_)
      refine l_ (h:=al_ (h:=s_ (h:=e_ (w_ (m_ (h:=f_ (h:=l_ (h:=bd_ (h:=al_ (h:=s_ (h:=e_ (w_ (l_ (h:=l_ (h:=?_)))))))))))))))
      refine al_p rfl (q_call (Plinks f ((q : Int), n.ino) hf.b) ?_)
      rintro r rfl
      refine a_ (h:=e_ (aw_block (w_ (l_ (h:=l_ (h:=?_))))))
      refine al_p rfl (st_binA rfl rfl (by repeat constructor) (by repeat constructor) (fun w => eqlFil _ _ _ _ w) (by kernel_rfl) ?_)
      refine a_ (h:=e_ (?_))
      refine aw_cond rfl (fun hb9 => ?_) (fun hb9 => ?_)
      · have hc9 := bp hb9
        have h91 : n.ino = 1 := (Prod.mk.inj hc9).2
        refine w_ (f_ (h:=l_ (h:=nq_ (h:=e_ (?_)))))
        refine aw_cond rfl (fun hb10 => ?_) (fun hb10 => ?_)
        · have hc10 := bp hb10
          refine w_ (a_ (h:=e_ (aw_ret (x_blockR (x_blockR (x_thenR (x_thenR (x_blockR (x_thenR (?_))))))))))
          refine e_ret ?_
          first | exact vb (lnk_no1 hlt hy hlt2 (by unfold lnkAt; simp only [hy2, e]; try simp_all)).symm | exact vb (lnk_no2 hlt (by unfold upAt; simp only [hy]; simp_all)).symm | exact vb (lnk_yes hall (fun i hi => hu i (by omega))).symm
        · have hc10 := bp hb10
          refine aw_skip (x_blockN (x_blockN (t_ (aw_region (ad_ (h:=m_ (h:=al_nil (?_))))))))
          refine x_then ?_
          refine ⟨_, _, ?_, ⟨j + 1, by omega, rfl, upto_next hu (by unfold upAt; simp only [hy]; simp_all), rfl⟩, (wk 2 0)⟩
          omega
      · have hc9 := bp hb9
        have h91 : ¬ n.ino = 1 := fun e => hc9 (by rw [e])
        refine q_ (w_ (m_ (h:=lt_ (h:=a_ (h:=e_ (?_))))))
        refine aw_cond rfl (fun hb11 => ?_) (fun hb11 => ?_)
        · have hc11 := bp hb11
          refine kt_ (cy_ (h:=w_ (a_ (h:=e_ (aw_ret (x_blockR (x_blockR (x_thenR (x_thenR (x_blockR (x_thenR (?_))))))))))))
          refine e_ret ?_
          first | exact vb (lnk_no1 hlt hy hlt2 (by unfold lnkAt; simp only [hy2, e]; try simp_all)).symm | exact vb (lnk_no2 hlt (by unfold upAt; simp only [hy]; simp_all)).symm | exact vb (lnk_yes hall (fun i hi => hu i (by omega))).symm
        · have hc11 := bp hb11
          refine aw_region (f_ (h:=l_ (h:=eq_ (h:=m_ (h:=?_)))))
          refine al_gs true rfl rfl (fun hb12 => ?_) (fun hb12 => ?_)
          · have hc12 := bp hb12
            refine m_ (h:=gt_ (h:=m_ (h:=?_)))
            refine al_gs false rfl rfl (fun hb13 => ?_) (fun hb13 => ?_)
            · have hc13 := bp hb13
              refine g0_ (h:=g0_ (h:=g0_ (h:=g0_ (h:=g0_ (h:=pt_ (h:=pt_ (h:=a_ (h:=e_ (cy_ (h:=w_ (a_ (h:=e_ (aw_ret (x_blockR (x_blockR (x_thenR (x_thenR (x_blockR (x_thenR (?_))))))))))))))))))))
              refine e_ret ?_
              first | exact vb (lnk_no1 hlt hy hlt2 (by unfold lnkAt; simp only [hy2, e]; try simp_all)).symm | exact vb (lnk_no2 hlt (by unfold upAt; simp only [hy]; simp_all)).symm | exact vb (lnk_yes hall (fun i hi => hu i (by omega))).symm
            · have hc13 := bp hb13
              refine l_ (h:=l_ (h:=l_ (h:=?_)))
              refine g_y (q_call (Pbelow f ((q : Int), 1) ((q : Int), n.ino) q d hf.b rfl hq) ?_)
              rintro r rfl
              refine nt_ (h:=pf_ (h:=pt_ (h:=a_ (h:=e_ (?_)))))
              refine aw_cond rfl (fun hb14 => ?_) (fun hb14 => ?_)
              · have hc14 := bp hb14
                refine w_ (a_ (h:=e_ (aw_ret (x_blockR (x_blockR (x_thenR (x_thenR (x_blockR (x_thenR (?_))))))))))
                refine e_ret ?_
                first | exact vb (lnk_no1 hlt hy hlt2 (by unfold lnkAt; simp only [hy2, e]; try simp_all)).symm | exact vb (lnk_no2 hlt (by unfold upAt; simp only [hy]; simp_all)).symm | exact vb (lnk_yes hall (fun i hi => hu i (by omega))).symm
              · have hc14 := bp hb14
                refine aw_skip (x_blockN (x_blockN (t_ (aw_region (ad_ (h:=m_ (h:=al_nil (?_))))))))
                refine x_then ?_
                refine ⟨_, _, ?_, ⟨j + 1, by omega, rfl, upto_next hu (by unfold upAt; simp only [hy]; simp_all), rfl⟩, (wk 2 0)⟩
                omega
          · have hc12 := bp hb12
            refine g0_ (h:=g0_ (h:=g0_ (h:=gu_ (h:=gu_ (h:=gu_ (h:=gu_ (h:=gu_ (h:=g0_ (h:=pf_ (h:=a_ (h:=e_ (cn_ (h:=aw_skip (x_blockN (x_blockN (t_ (aw_region (ad_ (h:=m_ (h:=al_nil (?_)))))))))))))))))))))
            refine x_then ?_
            refine ⟨_, _, ?_, ⟨j + 1, by omega, rfl, upto_next hu (by unfold upAt; simp only [hy]; simp_all), rfl⟩, (wk 2 0)⟩
            omega
    · have hc8 := bp hb8
      refine aw_exit (x_thenE (x_thenE (ABlock_out (t_ (w_ (a_ (h:=e_ (aw_ret (?_)))))))))
      refine e_ret ?_
      first | exact vb (lnk_no1 hlt hy hlt2 (by unfold lnkAt; simp only [hy2, e]; try simp_all)).symm | exact vb (lnk_no2 hlt (by unfold upAt; simp only [hy]; simp_all)).symm | exact vb (lnk_yes hall (fun i hi => hu i (by omega))).symm

theorem Pvalid5 (f : Fls) (hf : FlsT f) : AFn Try.prog 70 [.agg (flsA f)] (fun r => r = .v (.bool (vldP f))) := by
  have hfew := hf.b.few
  have hel : (f.map dvcA).length = f.length := by simp
  refine enter Try.func70 rfl rfl rfl rfl rfl 0 rfl ?_
  refine w_ (b_ (h:=a_ (h:=e_ (q_ (w_ (f_ (h:=l_ (h:=n_ (h:=lt_ (h:=m_ (h:=?_)))))))))))
  refine al_gs false rfl rfl (fun hb1 => ?_) (fun hb1 => ?_)
  · have hc1 := bp hb1
    refine g0_ (h:=g0_ (h:=g0_ (h:=g0_ (h:=pt_ (h:=e_ (cy_ (h:=w_ (a_ (h:=e_ (aw_ret (x_thenR (?_))))))))))))
    refine e_ret ?_
    exact vb (by unfold vldP; rw [if_pos (by omega)])
  · have hc1 := bp hb1
    refine f_ (h:=l_ (h:=n_ (h:=gt_ (h:=pf_ (h:=e_ (?_))))))
    refine aw_cond rfl (fun hb2 => ?_) (fun hb2 => ?_)
    · have hc2 := bp hb2
      refine w_ (a_ (h:=e_ (aw_ret (x_thenR (?_)))))
      refine e_ret ?_
      exact vb (by unfold vldP; rw [if_neg (by omega), if_pos (by omega)])
    · have hc2 := bp hb2
      refine kt_ (q_ (w_ (f_ (h:=l_ (h:=n_ (h:=m_ (h:=e_ (aw_block (?_)))))))))
      refine aw_loopW (fun m t => ∃ j : Nat, j ≤ f.length ∧ m = f.length - j ∧ (∀ i, i < j → vldPAt f i = true) ∧ t = ⟨look [(1, .bp 0 0), (16, .v (.int .i64 ((f.map dvcA).length : Int))), (17, .v (.int .i64 (j : Int)))], ⟨[flsA f], []⟩⟩) (f.length) ((wk 1 0)) (⟨0, by omega, rfl, fun i hi => by omega, rfl⟩) ?_
      rintro m t ⟨j, hj, rfl, ha, rfl⟩
      refine w_ (lt_ (h:=e_ (q_ (?_))))
      refine aw_cond rfl (fun hb3 => ?_) (fun hb3 => ?_)
      · have hc3 := bp hb3
        obtain ⟨hlt, d, hy, hrow, -⟩ := row_at dvcA hc3
        refine kt_ (q_ (aw_block (w_ (m_ (h:=a_ (h:=e_ (w_ (f_ (h:=l_ (h:=m_ (h:=?_)))))))))))
        refine al_p rfl (st_index (n := j) rfl rfl rfl hrow ?_)
        refine l_ (h:=?_)
        refine al_p rfl (q_call (PvalNodes d (hf.b.nodes d (List.mem_of_getElem? hy)) (hf.b.ents d (List.mem_of_getElem? hy)) (hf.tg d (List.mem_of_getElem? hy))) ?_)
        rintro r rfl
        refine nt_ (h:=m_ (h:=?_))
        refine al_gs false rfl rfl (fun hb4 => ?_) (fun hb4 => ?_)
        · have hc4 := bp hb4
          refine g0_ (h:=g0_ (h:=g0_ (h:=g0_ (h:=pt_ (h:=e_ (cy_ (h:=w_ (a_ (h:=e_ (aw_ret (x_blockR (x_thenR (x_thenR (x_blockR (x_thenR (?_))))))))))))))))
          refine e_ret ?_
          exact vb (by unfold vldP; rw [if_neg (by omega), if_neg (by omega)]; exact (range_no hlt (by unfold vldPAt; simp only [hy]; simp_all)).symm)
        · have hc4 := bp hb4
          refine l_ (h:=m_ (h:=?_))
          refine g_y (q_call (Plinked f j d hf hy) ?_)
          rintro r rfl
          refine nt_ (h:=pf_ (h:=e_ (?_)))
          refine aw_cond rfl (fun hb5 => ?_) (fun hb5 => ?_)
          · have hc5 := bp hb5
            refine w_ (a_ (h:=e_ (aw_ret (x_blockR (x_thenR (x_thenR (x_blockR (x_thenR (?_)))))))))
            refine e_ret ?_
            exact vb (by unfold vldP; rw [if_neg (by omega), if_neg (by omega)]; exact (range_no hlt (by unfold vldPAt; simp only [hy]; simp_all)).symm)
          · have hc5 := bp hb5
            refine aw_skip (x_blockN (t_ (aw_region (ad_ (h:=m_ (h:=al_nil (?_)))))))
            refine x_then ?_
            refine ⟨_, _, ?_, ⟨j + 1, by omega, rfl, upto_next ha (by unfold vldPAt; simp only [hy]; simp_all), rfl⟩, (wk 1 0)⟩
            omega
      · have hc3 := bp hb3
        refine aw_exit (x_thenE (x_thenE (ABlock_out (t_ (w_ (a_ (h:=e_ (aw_ret (?_)))))))))
        refine e_ret ?_
        exact vb (by unfold vldP; rw [if_neg (by omega), if_neg (by omega)]; exact (range_yes (fun i hi => ha i (by omega))).symm)

end
end Go.Proofs.Ytgliiknfmlmddaa
namespace Go.Proofs.Ytgliiknfmlmddaa
open Go.RowKit

theorem SetAt.det {α : Type} {l xs a b : List α} {n : Nat} (h : SetAt l n xs a) : SetAt l n xs b → a = b := by
  induction h generalizing b with
  | nil l n => intro k; cases k; rfl
  | here a x l xs l' _ ih => intro k; cases k with | here _ _ _ _ _ k => rw [ih k]
  | there a x l xs l' n _ ih => intro k; cases k with | there _ _ _ _ _ _ k => rw [ih k]
def rowsB (sz cap : Nat) (rows : List (List AV)) : List AV := rows.flatten ++ List.replicate ((cap - rows.length) * sz) .any
theorem rowsB_len {sz cap : Nat} {rows : List (List AV)} (h : ∀ r ∈ rows, r.length = sz) (hc : rows.length ≤ cap) : (rowsB sz cap rows).length = cap * sz := by
  unfold rowsB
  rw [List.length_append, flat_len h, List.length_replicate, ← Nat.add_mul]
  congr 1
  omega
theorem rowsB_take {sz cap : Nat} {rows : List (List AV)} (h : ∀ r ∈ rows, r.length = sz) : ((rowsB sz cap rows).drop 0).take (rows.length * sz) = rows.flatten := by
  unfold rowsB
  rw [List.drop_zero, List.take_left' (flat_len h)]
theorem rowsB_push {sz cap : Nat} {rows : List (List AV)} {r row' : List AV} (h : ∀ x ∈ rows, x.length = sz) (hr : r.length = sz) (hp : 0 < sz) (hc : rows.length + 1 ≤ cap) (hs : SetAt (rowsB sz cap rows) (0 + rows.length * sz) r row') : row' = rowsB sz cap (rows ++ [r]) := by
  refine hs.det ?_
  unfold rowsB
  have e : List.replicate ((cap - rows.length) * sz) AV.any = List.replicate sz AV.any ++ List.replicate ((cap - (rows ++ [r]).length) * sz) AV.any := by
    rw [List.replicate_append_replicate]
    congr 1
    rw [show (rows ++ [r]).length = rows.length + 1 by simp, show cap - rows.length = (cap - (rows.length + 1)) + 1 by omega, Nat.add_mul]
    omega
  rw [e, Nat.zero_add, List.flatten_append, List.append_assoc]
  have key := SetAt.right (SetAt.whole (xs := r) (l := List.replicate sz AV.any) (b := List.replicate ((cap - (rows ++ [r]).length) * sz) AV.any) (by simp [hr])) rows.flatten (fun e => by rw [e] at hr; simp at hr; omega)
  rw [flat_len h, Nat.add_zero] at key
  simpa using key
theorem rowsB_new {sz cap : Nat} {rows : List (List AV)} {r : List AV} (h : ∀ x ∈ rows, x.length = sz) {cap0 n : Nat} (hn : n = rows.length) : ((rowsB sz cap0 rows).drop 0).take (n * sz) ++ r ++ List.replicate ((cap - (n + 1)) * sz) .any = rowsB sz cap (rows ++ [r]) := by
  subst hn
  rw [rowsB_take h]
  unfold rowsB
  simp
end Go.Proofs.Ytgliiknfmlmddaa
namespace Go.Proofs.Ytgliiknfmlmddaa
open Go.RowKit

def devR (d : Dvc) (j cap1 : Nat) : List AV := [.v (.int .i64 d.next), .bs j 0 8 d.nodes.length cap1]
theorem dvcs_two (l : List Dvc) : ∀ r ∈ l.map dvcA, r.length = 2 := by
  intro r hr
  obtain ⟨d, _, rfl⟩ := List.mem_map.1 hr
  rfl
theorem nods_eight (l : List Nod) : ∀ r ∈ l.map nodA, r.length = 8 := by
  intro r hr
  obtain ⟨d, _, rfl⟩ := List.mem_map.1 hr
  rfl
end Go.Proofs.Ytgliiknfmlmddaa
namespace Go.Proofs.Ytgliiknfmlmddaa.Old
open Go.RowKit

def SameOn (D : Nat → Prop) (w w' : World) : Prop := ∀ b, D b → w'.heap[b]? = w.heap[b]?
def Old (w : World) : Nat → Prop := fun b => b < w.heap.size
def few : Nat := 65536

theorem below_drewN {B : Nat} {a w : World} (h : Below B a w) (n : Nat) : Below B a (w.drewN n) := ⟨h.os, h.tape, h.output, h.size, h.block⟩
theorem sameOn_old {w w' : World} (h : Below w.heap.size w w') : SameOn (Old w) w w' := fun b hb => h.block b hb
theorem grown_of_below {w w' : World} (h : Below w.heap.size w w') (g : Option Nat) : w.grownBy w' g := ⟨h.os, h.tape, h.output, h.size, fun k hk _ => h.block k hk⟩

def RowL {α : Type} (sz : Nat) (cell : α → Nat → Value) (w : World) (D : Nat → Prop) (A : Option Addr) (xs : List α) : Prop :=
  0 < xs.length → ∃ b off, A = some ⟨b, off, none⟩ ∧ D b ∧ ∀ i x j, xs[i]? = some x → j < sz → w.cell? ⟨b, off + i * sz + j, none⟩ = some (cell x j)
def ListR {α : Type} (sz : Nat) (cell : α → Nat → Value) (w : World) (D : Nat → Prop) (v : Value) (xs : List α) : Prop :=
  ∃ A c, v = .slice A xs.length c ∧ xs.length ≤ c ∧ xs.length ≤ few ∧ RowL sz cell w D A xs

section
variable {α : Type} {sz : Nat} {cell : α → Nat → Value} {w w' : World} {D D' : Nat → Prop} {A : Option Addr} {v : Value} {xs : List α}
theorem RowL.keep (h : RowL sz cell w D A xs) (hs : SameOn D w w') : RowL sz cell w' D A xs := by
  intro hn
  obtain ⟨b, off, rfl, hb, hc⟩ := h hn
  exact ⟨b, off, rfl, hb, fun i x j hi hj => (World.cell?_of_block (w := w) (a := ⟨b, off + i * sz + j, none⟩) (hs b hb)).trans (hc i x j hi hj)⟩
theorem ListR.keep (h : ListR sz cell w D v xs) (hs : SameOn D w w') : ListR sz cell w' D v xs := by
  obtain ⟨A, c, rfl, h1, h2, h3⟩ := h
  exact ⟨A, c, rfl, h1, h2, h3.keep hs⟩
end

def filCell (e : Fil) : Nat → Value
  | 0 => .int .i64 e.1
  | _ => .int .i64 e.2
def entCell (e : Ent) : Nat → Value
  | 0 => .string e.1
  | _ => .int .i64 e.2
def nodCell (n : Nod × Value) : Nat → Value
  | 0 => .int .i64 n.1.ino
  | 1 => .int .i64 n.1.kind
  | 2 => .int .i64 n.1.mode
  | 3 => .int .i64 n.1.uid
  | 4 => .int .i64 n.1.gid
  | 5 => .int .i64 n.1.parent
  | 6 => .string n.1.target
  | _ => n.2
def dvcCell (d : Dvc × Value) : Nat → Value
  | 0 => .int .i64 d.1.next
  | _ => d.2
abbrev EntsR := ListR 2 entCell
def FilV (at_ : Fil) : Value := .agg #[.int .i64 at_.1, .int .i64 at_.2]
def NodsR (w : World) (D : Nat → Prop) (v : Value) (ns : List Nod) : Prop :=
  ∃ xs : List (Nod × Value), xs.map (·.1) = ns ∧ ListR 8 nodCell w D v xs ∧ ∀ x ∈ xs, EntsR w D x.2 x.1.entries
def DvcsR (w : World) (D : Nat → Prop) (v : Value) (f : Fls) : Prop :=
  ∃ xs : List (Dvc × Value), xs.map (·.1) = f ∧ ListR 2 dvcCell w D v xs ∧ ∀ x ∈ xs, NodsR w D x.2 x.1.nodes
def FlsR (w : World) (D : Nat → Prop) (v : Value) (f : Fls) : Prop := ∃ d, v = .agg #[d] ∧ DvcsR w D d f

theorem ret_bool {a b : Bool} (h : a = b) : Ending.returned (.bool a) = .returned (.bool b) := by rw [h]
theorem map_len {α β : Type} {g : α → β} {xs : List α} {ys : List β} (h : xs.map g = ys) : xs.length = ys.length := by
  subst h
  simp

theorem cell_of {w : World} {g : Nat} {cs : Array Value} {t : TypeId} {fz : Nat × Nat} (h : w.heap[g]? = some (.cells cs t fz)) (i : Nat) : w.cell? ⟨g, i, none⟩ = cs[i]? := by
  simp [World.cell?, h]
theorem frozen_of {w : World} {g : Nat} {cs : Array Value} {t : TypeId} (h : w.heap[g]? = some (.cells cs t (0, 0))) (i : Nat) : w.frozen? ⟨g, i, none⟩ = false := by
  simp [World.frozen?, h]

theorem blk_grown' {w w' : World} {b : Nat} {row : Option Nat} {o : Obj} (h : w.heap[b]? = some o) (hg : w.grownBy w' row) (hne : some b ≠ row) : w'.heap[b]? = some o := by
  have hb : b < w.heap.size := by
    rcases Nat.lt_or_ge b w.heap.size with hlt | hge
    · exact hlt
    · rw [Array.getElem?_eq_none hge] at h; cases h
  exact (hg.block b hb hne).trans h
theorem blk_alloc {w : World} {b : Nat} {o : Obj} (h : w.heap[b]? = some o) (o' : Obj) : (w.alloc o').heap[b]? = some o := by
  have hb : b < w.heap.size := by
    rcases Nat.lt_or_ge b w.heap.size with hlt | hge
    · exact hlt
    · rw [Array.getElem?_eq_none hge] at h; cases h
  exact (Below.heap_alloc w o' b hb).trans h
theorem cells_of {w : World} {g : Nat} {cs : Array Value} {t : TypeId} (h : w.heap[g]? = some (.cells cs t (0, 0))) : (∀ i, w.cell? ⟨g, i, none⟩ = cs[i]?) ∧ (∀ i, w.frozen? ⟨g, i, none⟩ = false) :=
  ⟨fun i => cell_of h i, fun i => frozen_of h i⟩
theorem blk_set {w : World} {b : Nat} {cs : Array Value} {t : TypeId} {fz : Nat × Nat} (h : w.heap[b]? = some (.cells cs t fz)) (i : Nat) (u : Value) : (w.setCell ⟨b, i, none⟩ u).heap[b]? = some (.cells (cs.setIfInBounds i u) t fz) := by
  simp [World.setCell, Array.getElem?_modify, h]
theorem blk_far {w : World} {b : Nat} {o : Obj} (h : w.heap[b]? = some o) {p : Addr} (hp : b ≠ p.block) (u : Value) : (w.setCell p u).heap[b]? = some o := (Below.heap_setCell w p u b hp).trans h
theorem blk_below {w w' : World} {b B : Nat} {o : Obj} (h : w.heap[b]? = some o) (hg : Below B w w') (hb : b < B) : w'.heap[b]? = some o := (hg.block b hb).trans h


theorem below_a1 (w : World) (o1 : Obj) : Below w.heap.size w (w.alloc o1) := by
  exact (Below.refl _ w).alloc (Nat.le_refl _) _
theorem size_a1 (w : World) (o1 : Obj) : (w.alloc o1).heap.size = w.heap.size + 1 := by simp
theorem blk_a1_0 (w : World) (o1 : Obj) : (w.alloc o1).heap[w.heap.size]? = some o1 := (by have := heap_alloc_new w o1; simpa using this)
theorem after1 {w w1 : World} {o1 : Obj} (h : Below (w.alloc o1).heap.size (w.alloc o1) w1) : Below w.heap.size w w1 ∧ w.heap.size + 1 ≤ w1.heap.size ∧ w1.heap[w.heap.size]? = some o1 := by
  have hs := h.size
  rw [size_a1] at hs
  exact ⟨(below_a1 w o1).trans (h.mono (by simp <;> omega)), hs, blk_below (blk_a1_0 w o1) h (by simp)⟩
theorem below_a2 (w : World) (o1 o2 : Obj) : Below w.heap.size w ((w.alloc o1).alloc o2) := by
  exact (below_a1 w o1).alloc (by simp <;> omega) _
theorem size_a2 (w : World) (o1 o2 : Obj) : ((w.alloc o1).alloc o2).heap.size = w.heap.size + 2 := by simp
theorem blk_a2_0 (w : World) (o1 o2 : Obj) : ((w.alloc o1).alloc o2).heap[w.heap.size]? = some o1 := blk_alloc (blk_a1_0 w o1) _
theorem blk_a2_1 (w : World) (o1 o2 : Obj) : ((w.alloc o1).alloc o2).heap[w.heap.size + 1]? = some o2 := (by have := heap_alloc_new (w.alloc o1) o2; simpa using this)
theorem below_a3 (w : World) (o1 o2 o3 : Obj) : Below w.heap.size w (((w.alloc o1).alloc o2).alloc o3) := by
  exact (below_a2 w o1 o2).alloc (by simp <;> omega) _
theorem blk_a3_0 (w : World) (o1 o2 o3 : Obj) : (((w.alloc o1).alloc o2).alloc o3).heap[w.heap.size]? = some o1 := blk_alloc (blk_a2_0 w o1 o2) _
theorem blk_a3_1 (w : World) (o1 o2 o3 : Obj) : (((w.alloc o1).alloc o2).alloc o3).heap[w.heap.size + 1]? = some o2 := blk_alloc (blk_a2_1 w o1 o2) _
theorem blk_a3_2 (w : World) (o1 o2 o3 : Obj) : (((w.alloc o1).alloc o2).alloc o3).heap[w.heap.size + 1 + 1]? = some o3 := (by have := heap_alloc_new ((w.alloc o1).alloc o2) o3; simpa using this)
theorem below_a4 (w : World) (o1 o2 o3 o4 : Obj) : Below w.heap.size w ((((w.alloc o1).alloc o2).alloc o3).alloc o4) := by
  exact (below_a3 w o1 o2 o3).alloc (by simp <;> omega) _
theorem blk_a4_0 (w : World) (o1 o2 o3 o4 : Obj) : ((((w.alloc o1).alloc o2).alloc o3).alloc o4).heap[w.heap.size]? = some o1 := blk_alloc (blk_a3_0 w o1 o2 o3) _
theorem blk_a4_1 (w : World) (o1 o2 o3 o4 : Obj) : ((((w.alloc o1).alloc o2).alloc o3).alloc o4).heap[w.heap.size + 1]? = some o2 := blk_alloc (blk_a3_1 w o1 o2 o3) _
theorem blk_a4_2 (w : World) (o1 o2 o3 o4 : Obj) : ((((w.alloc o1).alloc o2).alloc o3).alloc o4).heap[w.heap.size + 1 + 1]? = some o3 := blk_alloc (blk_a3_2 w o1 o2 o3) _
theorem blk_a4_3 (w : World) (o1 o2 o3 o4 : Obj) : ((((w.alloc o1).alloc o2).alloc o3).alloc o4).heap[w.heap.size + 1 + 1 + 1]? = some o4 := (by have := heap_alloc_new (((w.alloc o1).alloc o2).alloc o3) o4; simpa using this)

end Go.Proofs.Ytgliiknfmlmddaa.Old
namespace Go.Proofs.Ytgliiknfmlmddaa.Old
open Go.RowKit

def flat {α : Type} (sz : Nat) (cell : α → Nat → Value) (xs : List α) : List Value := xs.flatMap fun x => (List.range sz).map (cell x)

section
variable {α : Type} {sz : Nat} {cell : α → Nat → Value}
theorem flat_length (xs : List α) : (flat sz cell xs).length = xs.length * sz := by
  induction xs with
  | nil => simp [flat]
  | cons x xs ih =>
    unfold flat at ih ⊢
    rw [List.flatMap_cons, List.length_append, ih]
    simp [Nat.add_mul, Nat.add_comm]
theorem flat_append (xs ys : List α) : flat sz cell (xs ++ ys) = flat sz cell xs ++ flat sz cell ys := by simp [flat]
theorem flat_get (xs : List α) : ∀ (i j : Nat) (x : α), xs[i]? = some x → j < sz → (flat sz cell xs)[i * sz + j]? = some (cell x j) := by
  induction xs with
  | nil => intro i j x h; simp at h
  | cons y ys ih =>
    intro i j x h hj
    have e : flat sz cell (y :: ys) = (List.range sz).map (cell y) ++ flat sz cell ys := by simp [flat]
    rw [e]
    cases i with
    | zero =>
      simp at h
      subst h
      rw [List.getElem?_append_left (by simpa using hj)]
      simp [hj]
    | succ i =>
      rw [List.getElem?_append_right (by simp [Nat.add_mul]; omega)]
      simp only [List.getElem?_cons_succ] at h
      have := ih i j x h hj
      rw [← this]
      congr 1
      simp [Nat.add_mul]
      omega
theorem flat_get_inv (xs : List α) (hsz : 0 < sz) {k : Nat} {u : Value} (h : (flat sz cell xs)[k]? = some u) : ∃ x, xs[k / sz]? = some x ∧ u = cell x (k % sz) := by
  have hk : k < xs.length * sz := by
    have := (List.getElem?_eq_some_iff.1 h).1
    rwa [flat_length] at this
  have hq : k / sz < xs.length := (Nat.div_lt_iff_lt_mul hsz).2 hk
  have hx : xs[k / sz]? = some xs[k / sz] := List.getElem?_eq_getElem hq
  have := flat_get (cell := cell) xs (k / sz) (k % sz) _ hx (Nat.mod_lt _ hsz)
  rw [Nat.mul_comm, Nat.div_add_mod, h] at this
  injection this with this
  exact ⟨_, hx, this⟩

def Ones (w : World) (v : Value) : Prop := ∀ (g : Nat) (cs : Array Value) (t : TypeId), v.ownBlock = some g → w.heap[g]? = some (.cells cs t (0, 0)) → ∀ u ∈ cs.toList, u.oneCell' = true
theorem Ones.of_block {w w' : World} {v : Value} (h : Ones w v) (hb : ∀ g, v.ownBlock = some g → w'.heap[g]? = w.heap[g]?) : Ones w' v := fun g cs t hg hc => h g cs t hg ((hb g hg).symm.trans hc)
theorem Ones.nil_ (w : World) : Ones w (.slice none 0 0) := fun g cs t hg => by simp [Value.ownBlock] at hg
def OwnL (sz : Nat) (cell : α → Nat → Value) (E : TypeId) (w : World) (base : Nat) (v : Value) (xs : List α) : Prop :=
  w.ownsRow base E sz v xs.length (flat sz cell xs) ∧ Ones w v

theorem OwnL.nil_ (E : TypeId) (w : World) (base : Nat) : OwnL sz cell E w base (.slice none 0 0) [] := ⟨World.ownsRow_nil w base E sz, Ones.nil_ w⟩
theorem OwnL.kept {E : TypeId} {w w' : World} {base : Nat} {v : Value} {xs : List α} (h : OwnL sz cell E w base v xs) {row : Option Nat} (hg : w.grownBy w' row) (hne : v.ownBlock = none ∨ v.ownBlock ≠ row) : OwnL sz cell E w' base v xs := by
  refine ⟨World.ownsRow.kept h.1 hg hne, h.2.of_block fun g hb => hg.block g (World.ownsRow.lt h.1 g hb).2 ?_⟩
  rcases hne with e | e
  · rw [e] at hb; cases hb
  · rw [← hb]; exact e
theorem OwnL.alloc {E : TypeId} {w : World} {base : Nat} {v : Value} {xs : List α} (h : OwnL sz cell E w base v xs) (o : Obj) : OwnL sz cell E (w.alloc o) base v xs :=
  ⟨World.ownsRow.alloc h.1 o, h.2.of_block fun g hb => heap_alloc_old w o (World.ownsRow.lt h.1 g hb).2⟩
theorem OwnL.below {E : TypeId} {w w' : World} {base : Nat} {v : Value} {xs : List α} (h : OwnL sz cell E w base v xs) (hb : Below w.heap.size w w') : OwnL sz cell E w' base v xs :=
  h.kept (grown_of_below hb none) (by cases v.ownBlock <;> simp)
theorem OwnL.set_ {E : TypeId} {w : World} {base : Nat} {v : Value} {xs : List α} (h : OwnL sz cell E w base v xs) {p : Addr} (hp : v.ownBlock ≠ some p.block) (u : Value) : OwnL sz cell E (w.setCell p u) base v xs :=
  h.kept (row := some p.block) ⟨rfl, rfl, rfl, by simp [World.setCell], fun k _ hne => Below.heap_setCell w p u k (fun e => hne (by rw [e]))⟩ (.inr hp)
theorem OwnL.setb {E : TypeId} {w : World} {base : Nat} {v : Value} {xs : List α} (h : OwnL sz cell E w base v xs) {p : Addr} (hp : p.block < base) (u : Value) : OwnL sz cell E (w.setCell p u) base v xs :=
  h.set_ (fun e => by have := (World.ownsRow.lt h.1 _ e).1; omega) u
theorem OwnL.lt {E : TypeId} {w : World} {base : Nat} {v : Value} {xs : List α} (h : OwnL sz cell E w base v xs) : ∀ k, v.ownBlock = some k → base ≤ k ∧ k < w.heap.size := World.ownsRow.lt h.1
theorem OwnL.ne_ {E : TypeId} {w : World} {base : Nat} {v : Value} {xs : List α} (h : OwnL sz cell E w base v xs) {g : Nat} {t : TypeId} {cs : Array Value} (hg : w.heap[g]? = some (.cells cs t (0, 0))) (hne : E ≠ t) : v.ownBlock ≠ some g := by
  rcases h.1.2 with ⟨rfl, _⟩ | ⟨g', cap, cur, rfl, _, hh, _⟩
  · simp [Value.ownBlock]
  · intro he
    have : g' = g := by simpa [Value.ownBlock] using he
    subst this
    rw [hg] at hh
    injection hh with hh
    injection hh with _ ht
    exact hne ht.symm
theorem OwnL.form {E : TypeId} {w : World} {base : Nat} {v : Value} {xs : List α} (h : OwnL sz cell E w base v xs) : ∃ A c, v = .slice A xs.length c := by
  rcases h.1.2 with ⟨rfl, hn⟩ | ⟨g, cap, cur, rfl, _⟩
  · exact ⟨none, 0, by rw [hn]⟩
  · exact ⟨_, _, rfl⟩
end

def ElemOK (T E sz bytes : Nat) : Prop := Try.prog.underlying T = some (.slice E) ∧ ∃ i z, Try.prog.info? E = some i ∧ i.zero = some z ∧ i.size = sz ∧ i.bytes = bytes ∧ z.cells.size = sz ∧ (z.cells.toList.all (·.oneCell')) = true
theorem elem_of {T E sz bytes : Nat} {z : Value} (hT : Try.prog.underlying T = some (.slice E)) (h : (Try.prog.info? E).map (fun i => (i.zero, i.size, i.bytes)) = some (some z, sz, bytes)) (hz : z.cells.size = sz) (h1 : (z.cells.toList.all (·.oneCell')) = true) : ElemOK T E sz bytes := by
  refine ⟨hT, ?_⟩
  cases hi : Try.prog.info? E with
  | none => rw [hi] at h; cases h
  | some i =>
    rw [hi] at h
    simp only [Option.map_some, Option.some.injEq, Prod.mk.injEq] at h
    exact ⟨i, z, rfl, h.1, h.2.1, h.2.2, hz, h1⟩

theorem run_append_nilsrc {P : Program} {w : World} {base : Nat} {t ty e : TypeId} {i : TypeInfo} {size : Nat} (ht : P.underlying t = some (.slice e)) (hi : P.info? e = some i)
    {v : Value} {n : Nat} {xs : List Value} (hown : w.ownsRow base e size v n xs) (c : Nat) : (Builtin.append_ #[t, t] ty #[v, .slice none 0 c]).run P w = .ok v w := by
  rcases hown.2 with ⟨rfl, rfl⟩ | ⟨g, cap, cur, rfl, _, _, hnc, _⟩
  · simp [Builtin.append_, run_underlying ht, sizeOf, typeInfo, hi, Builtin.lenOf, Builtin.firstCells]
  · simp [Builtin.append_, run_underlying ht, sizeOf, typeInfo, hi, Builtin.lenOf, Builtin.firstCells, hnc, storeCells]

section
variable {α : Type} {sz : Nat} {cell : α → Nat → Value}
theorem zeroCells_one {z : Array Value} (h : (z.toList.all (·.oneCell')) = true) {k : Nat} {u : Value} (hu : u ∈ Builtin.zeroCells z k) : u.oneCell' = true := by
  simp only [Builtin.zeroCells, Array.mem_map, Array.mem_range] at hu
  obtain ⟨i, hi2, rfl⟩ := hu
  have hpos : 0 < z.size := by
    rcases Nat.eq_zero_or_pos z.size with e | e
    · rw [e] at hi2; simp at hi2
    · exact e
  have hlt : i % z.size < z.size := Nat.mod_lt _ hpos
  rw [getElem!_pos z _ hlt]
  exact List.all_eq_true.1 h _ (by simp)
set_option maxRecDepth 10000 in
theorem append_ones {w : World} {T E bytes ty : Nat} (hE : ElemOK T E sz bytes) (hsz : 0 < sz) (hby : bytes ≤ 100000) {base : Nat} {v : Value} {n : Nat} {xs : List Value} (hown : w.ownsRow base E sz v n xs) (h1 : Ones w v)
    (ad : Addr) (m c : Nat) (news : List Value) (hl : news.length = m * sz) (hnews : ∀ j u, news[j]? = some u → w.cell? (ad.add j) = some u) (hone : ∀ u ∈ news, u.oneCell' = true) (hf : n ≤ 1000000) (hm : m ≤ 1000000) {v' : Value} {w' : World}
    (hrun : (Builtin.append_ #[T, T] ty #[v, .slice (some ad) m c]).run Try.prog w = .ok v' w') (hnil : v' = .slice none 0 0 ↔ v = .slice none 0 0 ∧ m = 0) : Ones w' v' := by
  obtain ⟨ht, i, z, hi, hz, hs, hb, hzs, hz1⟩ := hE
  subst hs
  have hbb : (n + m) * bytes ≤ 2000000 * 100000 := Nat.mul_le_mul (by omega) hby
  rcases hown.2 with ⟨rfl, rfl⟩ | ⟨g, cap, cur, rfl, hbg, hg, hnc, hcm, hcs, htk⟩
  · rcases Nat.eq_zero_or_pos m with h0 | h0
    · rw [hnil.2 ⟨rfl, h0⟩]; exact Ones.nil_ _
    · have hr := run_append_nil (P := Try.prog) w T ty E i z ht hi hz ad m c news hl hnews h0 (by omega) (by rw [hb]; rw [Nat.zero_add] at hbb; omega)
      have hq := hrun.symm.trans hr
      simp only [Result.ok.injEq] at hq
      obtain ⟨rfl, rfl⟩ := hq
      intro g cs t hgg hc u hu
      have : g = w.heap.size := by simpa [Value.ownBlock] using hgg.symm
      subst this
      have hn := heap_alloc_new w.drew (.cells (news.toArray ++ Builtin.zeroCells z.cells (grownCap w m 0 E - m)) E)
      have hn' : (w.drew.alloc (.cells (news.toArray ++ Builtin.zeroCells z.cells (grownCap w m 0 E - m)) E)).heap[w.heap.size]? = some (.cells (news.toArray ++ Builtin.zeroCells z.cells (grownCap w m 0 E - m)) E) := hn
      rw [hn'] at hc
      injection hc with hc
      injection hc with hc _
      subst hc
      rcases Array.mem_append.1 (Array.mem_toList_iff.1 hu) with h | h
      · exact hone u (by simpa using h)
      · exact zeroCells_one hz1 h
  · have hgc : w.heap[g]? = some (.cells cur.toList.toArray E (0, 0)) := by simpa using hg
    by_cases hroom : n + m ≤ cap
    · have hfit : n * i.size + news.length ≤ cur.size := by
        rw [hcs, hl, ← Nat.add_mul]
        exact Nat.mul_le_mul_right _ hroom
      have hr := run_append_room_cells (P := Try.prog) w T ty E i ht hi g 0 n cap ad m c news hl hnews hone hroom (fun j hj => by
        have : 0 + n * i.size + j < cur.size := by omega
        simp only [World.cell?, hg]; simp; omega) (fun j hj => by simp [World.frozen?, hg])
      have hq := hrun.symm.trans hr
      simp only [Result.ok.injEq] at hq
      obtain ⟨rfl, rfl⟩ := hq
      obtain ⟨r1, _⟩ := setCells_heap g E news (0 + n * i.size) cur.toList w hgc
      intro g' cs t hgg hc u hu
      have : g' = g := by simpa [Value.ownBlock] using hgg.symm
      subst this
      rw [r1] at hc
      injection hc with hc
      injection hc with hc _
      subst hc
      rcases setL_mem news _ _ u (by simpa using hu) with h | h
      · exact h1 g' cur E rfl hg u h
      · exact hone u h
    · have hr := run_append_grow (P := Try.prog) w T ty E i z ht hi hz ⟨g, 0, none⟩ n cap xs hown.1 (fun j u hj => by
        rw [Addr.add_mid]
        simp only [World.cell?, hg]
        rw [← htk, List.getElem?_take] at hj
        split at hj
        · simpa using hj
        · cases hj) ad m c news hl hnews (by omega) (by omega) (growslice_fits (by omega) (by rw [hb]; omega))
      have hq := hrun.symm.trans hr
      simp only [Result.ok.injEq] at hq
      obtain ⟨rfl, rfl⟩ := hq
      intro g' cs t hgg hc u hu
      have : g' = w.heap.size := by simpa [Value.ownBlock] using hgg.symm
      subst this
      have hn' : (w.drew.alloc (.cells (xs.toArray ++ news.toArray ++ Builtin.zeroCells z.cells (grownCap w (n + m) cap E - (n + m))) E)).heap[w.heap.size]? = some (.cells (xs.toArray ++ news.toArray ++ Builtin.zeroCells z.cells (grownCap w (n + m) cap E - (n + m))) E) := heap_alloc_new w.drew _
      rw [hn'] at hc
      injection hc with hc
      injection hc with hc _
      subst hc
      rcases Array.mem_append.1 (Array.mem_toList_iff.1 hu) with h | h
      · rcases Array.mem_append.1 h with h | h
        · have hx : u ∈ xs := by simpa using h
          rw [← htk] at hx
          exact h1 g cur E rfl hg u (List.mem_of_mem_take hx)
        · exact hone u (by simpa using h)
      · exact zeroCells_one hz1 h
theorem run_append_L {w : World} {T E bytes ty : Nat} (hE : ElemOK T E sz bytes) (hsz : 0 < sz) (hby : bytes ≤ 100000) {base : Nat} {v sv : Value} {xs ys : List α} {D : Nat → Prop} (hown : OwnL sz cell E w base v xs) (hr : ListR sz cell w D sv ys)
    (h1 : ∀ y ∈ ys, ∀ j, j < sz → (cell y j).oneCell' = true) (hf : xs.length ≤ 1000000) (hbase : base ≤ w.heap.size) :
    ∃ v' w', (Builtin.append_ #[T, T] ty #[v, sv]).run Try.prog w = .ok v' w' ∧ OwnL sz cell E w' base v' (xs ++ ys) ∧ w.grownBy w' v.ownBlock ∧ (v'.ownBlock = v.ownBlock ∨ v'.ownBlock = some w.heap.size) := by
  have hE0 := hE
  obtain ⟨ht, i, z, hi, hz, hs, hb, hzs, hz1⟩ := hE
  obtain ⟨A, c, rfl, hlc, hfew, hrow⟩ := hr
  unfold few at hfew
  rcases Nat.eq_zero_or_pos ys.length with h0 | h0
  · have hy : ys = [] := List.eq_nil_of_length_eq_zero h0
    subst hy
    rcases A with _ | ad
    · exact ⟨v, w, run_append_nilsrc ht hi hown.1 c, by simpa using hown, World.grownBy.refl w _, .inl rfl⟩
    · obtain ⟨v', w', hrun, h2, h3, h4, h5⟩ := run_append_own_at (P := Try.prog) w base T ty E i z sz bytes ht hi hz hs hb hzs hsz v xs.length _ hown.1 ad 0 c [] (by simp) (by simp) (by simp) (by unfold maxLen; omega) (by
        have : (xs.length + 0) * bytes ≤ 1000000 * 100000 := Nat.mul_le_mul (by omega) hby
        omega) hbase
      exact ⟨v', w', hrun, ⟨by simpa using h2, append_ones hE0 hsz hby hown.1 hown.2 ad 0 c [] (by simp) (by simp) (by simp) hf (by omega) hrun h4⟩, h3, h5⟩
  · obtain ⟨b, off, rfl, _, hcell⟩ := hrow h0
    have hcl : ∀ j u, (flat sz cell ys)[j]? = some u → w.cell? ((⟨b, off, none⟩ : Addr).add j) = some u := by
      intro j u hu
      obtain ⟨x, hx, rfl⟩ := flat_get_inv ys hsz hu
      have hcl := hcell _ x (j % sz) hx (Nat.mod_lt _ hsz)
      have hm : off + j / sz * sz + j % sz = off + j := by
        have := Nat.div_add_mod j sz
        rw [Nat.mul_comm] at this
        omega
      rw [hm] at hcl
      rw [Addr.add_lit]
      exact hcl
    have hon : ∀ u ∈ flat sz cell ys, u.oneCell' = true := by
      intro u hu
      obtain ⟨k, hk⟩ := List.mem_iff_getElem?.1 hu
      obtain ⟨x, hx, rfl⟩ := flat_get_inv ys hsz hk
      exact h1 x (List.mem_of_getElem? hx) _ (Nat.mod_lt _ hsz)
    obtain ⟨v', w', hrun, h2, h3, h4, h5⟩ := run_append_own_at (P := Try.prog) w base T ty E i z sz bytes ht hi hz hs hb hzs hsz v xs.length _ hown.1 ⟨b, off, none⟩ ys.length c (flat sz cell ys) (flat_length ys) hcl hon (by unfold maxLen; omega) (by
        have : (xs.length + ys.length) * bytes ≤ 1100000 * 100000 := Nat.mul_le_mul (by omega) hby
        omega) hbase
    exact ⟨v', w', hrun, ⟨by rw [flat_append, List.length_append]; exact h2, append_ones hE0 hsz hby hown.1 hown.2 _ _ c _ (flat_length ys) hcl hon hf (by omega) hrun h4⟩, h3, h5⟩

theorem wp_append_L {w : World} {o : Oper} {a : Act} {K : Act → World → Prop} {Q : Exit → Act → World → Prop} (s x : Operand) (T : TypeId)
    (ho : o.op = .call { callee := .builtin .append, args := #[s, x], argTypes := #[T, T] }) {E bytes : Nat} (hE : ElemOK T E sz bytes) (hsz : 0 < sz) (hby : bytes ≤ 100000)
    {base : Nat} {v sv : Value} {xs ys : List α} {D : Nat → Prop} (hs : a.eval s = v) (hx : a.eval x = sv) (hown : OwnL sz cell E w base v xs) (hr : ListR sz cell w D sv ys)
    (h1 : ∀ y ∈ ys, ∀ j, j < sz → (cell y j).oneCell' = true) (hf : xs.length ≤ 1000000) (hbase : base ≤ w.heap.size)
    (h : ∀ v' w', OwnL sz cell E w' base v' (xs ++ ys) → w.grownBy w' v.ownBlock → (v'.ownBlock = v.ownBlock ∨ v'.ownBlock = some w.heap.size) → K (a.put o.dst v') w') : o.wp Try.prog a w K Q := by
  obtain ⟨v', w', hrun, h2, h3, h4⟩ := run_append_L (ty := o.type) hE hsz hby hown hr h1 hf hbase
  unfold Oper.wp execOp
  simp only [ho, resolve, invoke, builtin, Sem.run_bind, Sem.run_pure, Result.andThen_ok, List.map_toArray, List.map_cons, List.map_nil, hs, hx, hrun]
  exact h v' w' h2 h3 h4
theorem wpList_append_L {w : World} {ops : Array Oper} {rest : List Oper} {o : Oper} {a : Act} {Q : Exit → Act → World → Prop} (hgd : o.guard = none) (s x : Operand) (T : TypeId)
    (ho : o.op = .call { callee := .builtin .append, args := #[s, x], argTypes := #[T, T] }) {E bytes : Nat} (hE : ElemOK T E sz bytes) (hsz : 0 < sz) (hby : bytes ≤ 100000)
    {base : Nat} {v sv : Value} {xs ys : List α} {D : Nat → Prop} (hs : a.eval s = v) (hx : a.eval x = sv) (hown : OwnL sz cell E w base v xs) (hr : ListR sz cell w D sv ys)
    (h1 : ∀ y ∈ ys, ∀ j, j < sz → (cell y j).oneCell' = true) (hf : xs.length ≤ 1000000) (hbase : base ≤ w.heap.size)
    (h : ∀ v' w', OwnL sz cell E w' base v' (xs ++ ys) → w.grownBy w' v.ownBlock → (v'.ownBlock = v.ownBlock ∨ v'.ownBlock = some w.heap.size) → wpList Try.prog ops Q rest (a.put o.dst v') w') : wpList Try.prog ops Q (o :: rest) a w :=
  wpList_plain hgd fun _ hK => wp_append_L s x T ho hE hsz hby hs hx hown hr h1 hf hbase fun v' w' h2 h3 h4 => hK _ _ (h v' w' h2 h3 h4)
theorem OwnL.mono {E : TypeId} {w : World} {base base' : Nat} {v : Value} {xs : List α} (h : OwnL sz cell E w base v xs) (hb : base' ≤ base) : OwnL sz cell E w base' v xs := by
  refine ⟨⟨h.1.1, ?_⟩, h.2⟩
  rcases h.1.2 with h' | ⟨g, cap, cur, hv, hg, r⟩
  · exact .inl h'
  · exact .inr ⟨g, cap, cur, hv, Nat.le_trans hb hg, r⟩
theorem wpList_clone_L {w : World} {ops : Array Oper} {rest : List Oper} {o : Oper} {a : Act} {Q : Exit → Act → World → Prop} (hgd : o.guard = none) (s x : Operand) (T : TypeId)
    (ho : o.op = .call { callee := .builtin .append, args := #[s, x], argTypes := #[T, T] }) {E bytes : Nat} (hE : ElemOK T E sz bytes) (hsz : 0 < sz) (hby : bytes ≤ 100000)
    (sv : Value) (ys : List α) {D : Nat → Prop} (hs : a.eval s = .slice none 0 0) (hx : a.eval x = sv) (hr : ListR sz cell w D sv ys)
    (h1 : ∀ y ∈ ys, ∀ j, j < sz → (cell y j).oneCell' = true)
    (h : ∀ A c w', OwnL sz cell E w' w.heap.size (.slice A ys.length c) ys → Below w.heap.size w w' → wpList Try.prog ops Q rest (a.put o.dst (.slice A ys.length c)) w') : wpList Try.prog ops Q (o :: rest) a w :=
  wpList_append_L hgd s x T ho hE hsz hby hs hx (OwnL.nil_ E w w.heap.size) hr h1 (by simp) (Nat.le_refl _) fun v' w' h2 h3 _ => by
    rw [List.nil_append] at h2
    obtain ⟨A, c, rfl⟩ := h2.form
    exact h A c w' h2 ⟨h3.os, h3.tape, h3.output, h3.size, fun k hk => h3.block k hk (by simp [Value.ownBlock])⟩
theorem listR_one {w : World} {cs : Array Value} {t : TypeId} {x : α} {B : Nat} (hB : B = w.heap.size) (hcs : ∀ j, j < sz → cs[j]? = some (cell x j)) {D : Nat → Prop} (hD : D w.heap.size) : ListR sz cell (w.alloc (.cells cs t)) D (.slice (some ⟨B, 0, none⟩) 1 1) [x] := by
  subst hB
  refine ⟨_, 1, rfl, Nat.le_refl _, by unfold few; simp, fun _ => ⟨_, _, rfl, hD, fun i y j hi hj => ?_⟩⟩
  cases i with
  | succ i => simp at hi
  | zero =>
    simp at hi
    subst hi
    rw [cell_of_row (w.alloc (.cells cs t)) w.heap.size _ cs t (0, 0) (heap_alloc_new w _)]
    simp [hcs j hj]
end

theorem elemEnt : ElemOK 69 112 2 24 := elem_of (z := .agg #[.string ⟨#[]⟩, .int .i64 0]) (by kernel_rfl) (by kernel_rfl) rfl rfl
theorem elemNod : ElemOK 66 71 8 88 := elem_of (z := .agg #[.int .i64 0, .int .i64 0, .int .i64 0, .int .i64 0, .int .i64 0, .int .i64 0, .string ⟨#[]⟩, .slice none 0 0]) (by kernel_rfl) (by kernel_rfl) rfl rfl
theorem elemDvc : ElemOK 27 68 2 32 := elem_of (z := .agg #[.int .i64 0, .slice none 0 0]) (by kernel_rfl) (by kernel_rfl) rfl rfl
end Go.Proofs.Ytgliiknfmlmddaa.Old
namespace Go.Proofs.Ytgliiknfmlmddaa.Old
open Go.RowKit

def blk (v : Value) : List Nat := v.ownBlock.toList
theorem mem_blk {v : Value} {b : Nat} : b ∈ blk v ↔ v.ownBlock = some b := by
  unfold blk
  cases v.ownBlock <;> simp [eq_comm]

section
variable {α : Type} {sz : Nat} {cell : α → Nat → Value} {E : TypeId} {w w' : World} {base : Nat} {v : Value} {xs : List α}
theorem OwnL.frame (h : OwnL sz cell E w base v xs) {row : Option Nat} (hg : w.grownBy w' row) (hne : ∀ b ∈ blk v, some b ≠ row) : OwnL sz cell E w' base v xs := by
  refine h.kept hg ?_
  cases hb : v.ownBlock with
  | none => exact .inl rfl
  | some b => exact .inr (hne b (mem_blk.2 hb))
theorem OwnL.blk_lt (h : OwnL sz cell E w base v xs) : ∀ b ∈ blk v, base ≤ b ∧ b < w.heap.size := fun b hb => h.lt b (mem_blk.1 hb)
theorem OwnL.not_mem (h : OwnL sz cell E w base v xs) {g : Nat} {t : TypeId} {cs : Array Value} (hg : w.heap[g]? = some (.cells cs t (0, 0))) (hne : E ≠ t) : g ∉ blk v := fun hm => h.ne_ hg hne (mem_blk.1 hm)
end

def fpN (v : Value) (ys : List (Nod × Value)) : List Nat := blk v ++ ys.flatMap fun y => blk y.2
def NodsAt (w : World) (base : Nat) (v : Value) (ys : List (Nod × Value)) : Prop :=
  OwnL 8 nodCell 71 w base v ys ∧ (∀ y ∈ ys, OwnL 2 entCell 112 w base y.2 y.1.entries ∧ y.1.entries.length ≤ few) ∧ (fpN v ys).Nodup
abbrev DvcL := Int × Value × List (Nod × Value)
def dvlCell (d : DvcL) : Nat → Value
  | 0 => .int .i64 d.1
  | _ => d.2.1
def fpD (v : Value) (L : List DvcL) : List Nat := blk v ++ L.flatMap fun x => fpN x.2.1 x.2.2
def DvcsAt (w : World) (base : Nat) (v : Value) (L : List DvcL) : Prop :=
  OwnL 2 dvlCell 68 w base v L ∧ (∀ x ∈ L, NodsAt w base x.2.1 x.2.2 ∧ x.2.2.length ≤ few) ∧ (fpD v L).Nodup ∧ L.length ≤ few
def dvcOf (x : DvcL) : Dvc := ⟨x.1, x.2.2.map (·.1)⟩
def flsOf (L : List DvcL) : Fls := L.map dvcOf

section
variable {w w' : World} {base : Nat} {v : Value}
theorem NodsAt.frame {ys : List (Nod × Value)} (h : NodsAt w base v ys) {row : Option Nat} (hg : w.grownBy w' row) (hne : ∀ b ∈ fpN v ys, some b ≠ row) : NodsAt w' base v ys := by
  obtain ⟨h1, h2, h3⟩ := h
  refine ⟨h1.frame hg fun b hb => hne b (List.mem_append_left _ hb), fun y hy => ⟨(h2 y hy).1.frame hg fun b hb => hne b (List.mem_append_right _ (List.mem_flatMap.2 ⟨y, hy, hb⟩)), (h2 y hy).2⟩, h3⟩
theorem NodsAt.fp_lt {ys : List (Nod × Value)} (h : NodsAt w base v ys) : ∀ b ∈ fpN v ys, base ≤ b ∧ b < w.heap.size := by
  intro b hb
  rcases List.mem_append.1 hb with hb | hb
  · exact h.1.blk_lt b hb
  · obtain ⟨y, hy, hb⟩ := List.mem_flatMap.1 hb
    exact (h.2.1 y hy).1.blk_lt b hb
theorem DvcsAt.frame {L : List DvcL} (h : DvcsAt w base v L) {row : Option Nat} (hg : w.grownBy w' row) (hne : ∀ b ∈ fpD v L, some b ≠ row) : DvcsAt w' base v L := by
  obtain ⟨h1, h2, h3, h4⟩ := h
  refine ⟨h1.frame hg fun b hb => hne b (List.mem_append_left _ hb), fun y hy => ⟨(h2 y hy).1.frame hg fun b hb => hne b (List.mem_append_right _ (List.mem_flatMap.2 ⟨y, hy, hb⟩)), (h2 y hy).2⟩, h3, h4⟩
theorem DvcsAt.fp_lt {L : List DvcL} (h : DvcsAt w base v L) : ∀ b ∈ fpD v L, base ≤ b ∧ b < w.heap.size := by
  intro b hb
  rcases List.mem_append.1 hb with hb | hb
  · exact h.1.blk_lt b hb
  · obtain ⟨y, hy, hb⟩ := List.mem_flatMap.1 hb
    exact (h.2.1 y hy).1.fp_lt b hb
theorem NodsAt.below {ys : List (Nod × Value)} (h : NodsAt w base v ys) (hb : Below w.heap.size w w') : NodsAt w' base v ys := h.frame (grown_of_below hb none) (by simp)
theorem DvcsAt.below {L : List DvcL} (h : DvcsAt w base v L) (hb : Below w.heap.size w w') : DvcsAt w' base v L := h.frame (grown_of_below hb none) (by simp)
theorem DvcsAt.set_ {L : List DvcL} (h : DvcsAt w base v L) {p : Addr} (hp : p.block ∉ fpD v L) (u : Value) : DvcsAt (w.setCell p u) base v L :=
  h.frame (row := some p.block) ⟨rfl, rfl, rfl, by simp [World.setCell], fun k _ hne => Below.heap_setCell w p u k (fun e => hne (by rw [e]))⟩ (fun b hb e => hp (by injection e with e; rwa [← e]))
theorem NodsAt.set_ {L : List (Nod × Value)} (h : NodsAt w base v L) {p : Addr} (hp : p.block ∉ fpN v L) (u : Value) : NodsAt (w.setCell p u) base v L :=
  h.frame (row := some p.block) ⟨rfl, rfl, rfl, by simp [World.setCell], fun k _ hne => Below.heap_setCell w p u k (fun e => hne (by rw [e]))⟩ (fun b hb e => hp (by injection e with e; rwa [← e]))
theorem DvcsAt.nil_ (w : World) (base : Nat) : DvcsAt w base (.slice none 0 0) [] := ⟨OwnL.nil_ _ _ _, by simp, by simp [fpD, blk, Value.ownBlock], by simp⟩
theorem NodsAt.nil_ (w : World) (base : Nat) : NodsAt w base (.slice none 0 0) [] := ⟨OwnL.nil_ _ _ _, by simp, by simp [fpN, blk, Value.ownBlock]⟩
end

end Go.Proofs.Ytgliiknfmlmddaa.Old
namespace Go.Proofs.Ytgliiknfmlmddaa.Old
open Go.RowKit

theorem cells8 {w : World} {b o : Nat} {x : Nod × Value} (h : ∀ j, j < 8 → w.cell? ⟨b, o + j, none⟩ = some (nodCell x j)) :
    w.cell? ⟨b, o, none⟩ = some (.int .i64 x.1.ino) ∧ w.cell? ⟨b, o + 1, none⟩ = some (.int .i64 x.1.kind) ∧ w.cell? ⟨b, o + 2, none⟩ = some (.int .i64 x.1.mode) ∧ w.cell? ⟨b, o + 3, none⟩ = some (.int .i64 x.1.uid) ∧
    w.cell? ⟨b, o + 4, none⟩ = some (.int .i64 x.1.gid) ∧ w.cell? ⟨b, o + 5, none⟩ = some (.int .i64 x.1.parent) ∧ w.cell? ⟨b, o + 6, none⟩ = some (.string x.1.target) ∧ w.cell? ⟨b, o + 7, none⟩ = some x.2 :=
  ⟨h 0 (by omega), h 1 (by omega), h 2 (by omega), h 3 (by omega), h 4 (by omega), h 5 (by omega), h 6 (by omega), h 7 (by omega)⟩
theorem entCell_one (y : Ent) (j : Nat) : (entCell y j).oneCell' = true := by
  unfold entCell
  split <;> rfl
end Go.Proofs.Ytgliiknfmlmddaa.Old
