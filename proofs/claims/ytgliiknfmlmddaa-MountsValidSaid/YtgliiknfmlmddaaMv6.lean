/-
  Part 6 of the proof of MountsValidP: what the statement's proof uses of the texts in wip/tpl.
-/
import Derived.Test.YtgliiknfmlmddaaProg
import Derived.WalkKit
import Derived.WalkSpells
import Derived.WalkLawsBesides
import Derived.Deep.QuietTactic
import Derived.BigQuiet
import Derived.Lib.Hide
import Derived.Outline
import Derived.Lib.Strings
import Derived.Lib.IndexLaws
import Derived.Lib.LastIndexByte
import Derived.Lib.IndexAny
import Derived.Test.YtgliiknfmlmddaaShelf
import Derived.Laws.RangeAny
import Derived.Deep.LoopGhost
import Derived.Lib.OthersKept
import Derived.Test.YtgliiknfmlmddaaMv5
namespace Go.Proofs.Ytgliiknfmlmddaa
open Go.RowKit

def preN (ns : List Nod) (i : Nat) (n : Nod) : Bool := match ns[i - 1]? with
  | some y => decide (n.ino ≤ y.ino)
  | none => false
theorem preN_at {ns : List Nod} {i : Nat} {n y : Nod} (h : ns[i - 1]? = some y) : preN ns i n = decide (n.ino ≤ y.ino) := by unfold preN; rw [h]
def devAt (f : Fls) (dev : Int) (d : Dvc) (i : Nat) : Bool := match d.nodes[i]? with
  | none => true
  | some n =>
    if d.next ≤ n.ino then false else if 0 < i ∧ preN d.nodes i n = true then false else if plainL n = false then false
    else if n.kind ≠ 2 ∧ (n.parent ≠ 0 ∨ 0 < n.entries.length) then false else if entsR f dev n.entries = false then false
    else if i = 0 then true
    else if n.kind = 2 then (if (linksF f (dev, n.ino) : Int) ≠ 1 then false else if hasG f (dev, n.parent) = false then false else holdsL (nodG f (dev, n.parent)) n.ino)
    else if (linksF f (dev, n.ino) : Int) < 1 then false else true
def headR (d : Dvc) : Bool :=
  if d.nodes.length < 1 then false else if 16 < d.nodes.length then false else if d.next < 2 then false else if 1073741824 < d.next then false else match d.nodes[0]? with
  | none => false
  | some r => if r.ino ≠ 1 then false else if r.kind ≠ 2 then false else if r.parent ≠ 1 then false else true
def devR5 (f : Fls) (dev : Int) (d : Dvc) : Bool := headR d && ((List.range d.nodes.length).all (devAt f dev d) && rchR d)
theorem dev_no0 {f : Fls} {dev : Int} {d : Dvc} (h : headR d = false) : devR5 f dev d = false := by unfold devR5; rw [h]; rfl
theorem dev_no {f : Fls} {dev : Int} {d : Dvc} {j : Nat} (hj : j < d.nodes.length) (h : devAt f dev d j = false) : devR5 f dev d = false := by
  unfold devR5
  rw [range_no hj h, Bool.false_and, Bool.and_false]
theorem dev_yes {f : Fls} {dev : Int} {d : Dvc} (h0 : headR d = true) (h : ∀ i, i < d.nodes.length → devAt f dev d i = true) : devR5 f dev d = rchR d := by
  unfold devR5
  rw [h0, range_yes h]
  rfl
def vldAt (f : Fls) (i : Nat) : Bool := match f[i]? with
  | none => true
  | some d => devR5 f i d
def vldR (f : Fls) : Bool := if f.length < 1 then false else if 3 < f.length then false else (List.range f.length).all (vldAt f)
section
set_option maxRecDepth 20000
set_option maxHeartbeats 4000000
theorem Rdev (f : Fls) (q : Nat) (d : Dvc) (hf : FlsT f) (hq : f[q]? = some d) : AFn Try.prog 79 [.agg (flsA f), .v (.int .i64 (q : Int))] (fun r => r = .v (.bool (devR5 f (q : Int) d))) := by
  have hdm := List.mem_of_getElem? hq
  have hdn := hf.b.nodes d hdm
  have hel : (d.nodes.map nodA).length = d.nodes.length := by simp
  have hrq : (f.map dvcA)[q]? = some (dvcA d) := by rw [List.getElem?_map, hq]; rfl
  have hent : ∀ (i : Nat) (n : Nod), d.nodes[i]? = some n → n.entries.length ≤ 1000 := fun i n hn => hf.b.ents d hdm n (List.mem_of_getElem? hn)
  have hnm : ∀ (i : Nat) (n : Nod), d.nodes[i]? = some n → ∀ e ∈ n.entries, e.1.size ≤ 100000 := fun i n hn => hf.nm d hdm n (List.mem_of_getElem? hn)
  have htg : ∀ (i : Nat) (n : Nod), d.nodes[i]? = some n → n.target.size ≤ 100000 := fun i n hn => hf.tg d hdm n (List.mem_of_getElem? hn)
  have hpe : ∀ a, (nodG f a).entries.length ≤ 1000 := nodG_ents hf.b
  refine enter Try.func79 rfl rfl rfl rfl rfl 0 rfl ?_
  refine w_ (b_ (h:=a_ (h:=e_ (w_ (f_ (h:=l_ (h:=m_ (h:=?_))))))))
  refine al_p rfl (st_index (n := q) rfl rfl rfl hrq ?_)
  refine l_ (h:=al_ (h:=s_ (h:=e_ (q_ (w_ (f_ (h:=l_ (h:=n_ (h:=lt_ (h:=m_ (h:=?_)))))))))))
  refine al_gs false rfl rfl (fun hb1 => ?_) (fun hb1 => ?_)
  · have hc1 := bp hb1
    refine g0_ (h:=g0_ (h:=g0_ (h:=g0_ (h:=pt_ (h:=m_ (h:=g0_ (h:=g0_ (h:=g0_ (h:=pt_ (h:=m_ (h:=g0_ (h:=g0_ (h:=g0_ (h:=pt_ (h:=m_ (h:=g0_ (h:=g0_ (h:=g0_ (h:=g0_ (h:=g0_ (h:=g0_ (h:=pt_ (h:=m_ (h:=?_))))))))))))))))))))))))
    refine g0_ (h:=g0_ (h:=g0_ (h:=g0_ (h:=g0_ (h:=g0_ (h:=pt_ (h:=m_ (h:=g0_ (h:=g0_ (h:=g0_ (h:=g0_ (h:=g0_ (h:=g0_ (h:=pt_ (h:=e_ (cy_ (h:=w_ (a_ (h:=e_ (aw_ret (x_thenR (?_))))))))))))))))))))))
    refine e_ret ?_
    first | exact vb (dev_no hlt (by unfold devAt; simp only [hy]; simp_all)).symm | exact vb (dev_yes hhd (fun i hi => ha i (by omega))).symm | exact vb (dev_no0 (by unfold headR; rw [if_pos (by omega)])).symm | exact vb (dev_no0 (by unfold headR; rw [if_neg (by omega), if_pos (by omega)])).symm | exact vb (dev_no0 (by unfold headR; rw [if_neg (by omega), if_neg (by omega)]; simp only [hy0]; simp_all)).symm
  · have hc1 := bp hb1
    obtain ⟨hlt0, r0, hy0, hrow0, -⟩ := row_at (l := d.nodes) (k := 0) nodA (by omega)
    refine f_ (h:=l_ (h:=n_ (h:=gt_ (h:=pf_ (h:=m_ (h:=?_))))))
    refine al_gs false rfl rfl (fun hb2 => ?_) (fun hb2 => ?_)
    · have hc2 := bp hb2
      refine g0_ (h:=g0_ (h:=g0_ (h:=pt_ (h:=m_ (h:=g0_ (h:=g0_ (h:=g0_ (h:=pt_ (h:=m_ (h:=g0_ (h:=g0_ (h:=g0_ (h:=g0_ (h:=g0_ (h:=g0_ (h:=pt_ (h:=m_ (h:=g0_ (h:=g0_ (h:=g0_ (h:=g0_ (h:=g0_ (h:=g0_ (h:=?_))))))))))))))))))))))))
      refine pt_ (h:=m_ (h:=g0_ (h:=g0_ (h:=g0_ (h:=g0_ (h:=g0_ (h:=g0_ (h:=pt_ (h:=e_ (cy_ (h:=w_ (a_ (h:=e_ (aw_ret (x_thenR (?_))))))))))))))))
      refine e_ret ?_
      first | exact vb (dev_no hlt (by unfold devAt; simp only [hy]; simp_all)).symm | exact vb (dev_yes hhd (fun i hi => ha i (by omega))).symm | exact vb (dev_no0 (by unfold headR; rw [if_pos (by omega)])).symm | exact vb (dev_no0 (by unfold headR; rw [if_neg (by omega), if_pos (by omega)])).symm | exact vb (dev_no0 (by unfold headR; rw [if_neg (by omega), if_neg (by omega)]; simp only [hy0]; simp_all)).symm
    · have hc2 := bp hb2
      refine f_ (h:=l_ (h:=lt_ (h:=pf_ (h:=m_ (h:=?_)))))
      refine al_gs false rfl rfl (fun hb3 => ?_) (fun hb3 => ?_)
      · have hc3 := bp hb3
        refine g0_ (h:=g0_ (h:=g0_ (h:=pt_ (h:=m_ (h:=g0_ (h:=g0_ (h:=g0_ (h:=g0_ (h:=g0_ (h:=g0_ (h:=pt_ (h:=m_ (h:=g0_ (h:=g0_ (h:=g0_ (h:=g0_ (h:=g0_ (h:=g0_ (h:=pt_ (h:=m_ (h:=g0_ (h:=g0_ (h:=g0_ (h:=?_))))))))))))))))))))))))
        refine g0_ (h:=g0_ (h:=g0_ (h:=pt_ (h:=e_ (cy_ (h:=w_ (a_ (h:=e_ (aw_ret (x_thenR (?_)))))))))))
        refine e_ret ?_
        first | exact vb (dev_no hlt (by unfold devAt; simp only [hy]; simp_all)).symm | exact vb (dev_yes hhd (fun i hi => ha i (by omega))).symm | exact vb (dev_no0 (by unfold headR; rw [if_pos (by omega)])).symm | exact vb (dev_no0 (by unfold headR; rw [if_neg (by omega), if_pos (by omega)])).symm | exact vb (dev_no0 (by unfold headR; rw [if_neg (by omega), if_neg (by omega)]; simp only [hy0]; simp_all)).symm
      · have hc3 := bp hb3
        refine f_ (h:=l_ (h:=gt_ (h:=pf_ (h:=m_ (h:=?_)))))
        refine al_gs false rfl rfl (fun hb4 => ?_) (fun hb4 => ?_)
        · have hc4 := bp hb4
          refine g0_ (h:=g0_ (h:=g0_ (h:=g0_ (h:=g0_ (h:=g0_ (h:=pt_ (h:=m_ (h:=g0_ (h:=g0_ (h:=g0_ (h:=g0_ (h:=g0_ (h:=g0_ (h:=pt_ (h:=m_ (h:=g0_ (h:=g0_ (h:=g0_ (h:=g0_ (h:=g0_ (h:=g0_ (h:=pt_ (h:=e_ (?_))))))))))))))))))))))))
          refine cy_ (h:=w_ (a_ (h:=e_ (aw_ret (x_thenR (?_))))))
          refine e_ret ?_
          first | exact vb (dev_no hlt (by unfold devAt; simp only [hy]; simp_all)).symm | exact vb (dev_yes hhd (fun i hi => ha i (by omega))).symm | exact vb (dev_no0 (by unfold headR; rw [if_pos (by omega)])).symm | exact vb (dev_no0 (by unfold headR; rw [if_neg (by omega), if_pos (by omega)])).symm | exact vb (dev_no0 (by unfold headR; rw [if_neg (by omega), if_neg (by omega)]; simp only [hy0]; simp_all)).symm
        · have hc4 := bp hb4
          refine f_ (h:=l_ (h:=?_))
          refine g_y (st_index (n := 0) rfl rfl rfl hrow0 ?_)
          refine f_ (h:=l_ (h:=nq_ (h:=pf_ (h:=m_ (h:=?_)))))
          refine al_gs false rfl rfl (fun hb5 => ?_) (fun hb5 => ?_)
          · have hc5 := bp hb5
            refine g0_ (h:=g0_ (h:=g0_ (h:=g0_ (h:=g0_ (h:=g0_ (h:=pt_ (h:=m_ (h:=g0_ (h:=g0_ (h:=g0_ (h:=g0_ (h:=g0_ (h:=g0_ (h:=pt_ (h:=e_ (cy_ (h:=w_ (a_ (h:=e_ (aw_ret (x_thenR (?_))))))))))))))))))))))
            refine e_ret ?_
            first | exact vb (dev_no hlt (by unfold devAt; simp only [hy]; simp_all)).symm | exact vb (dev_yes hhd (fun i hi => ha i (by omega))).symm | exact vb (dev_no0 (by unfold headR; rw [if_pos (by omega)])).symm | exact vb (dev_no0 (by unfold headR; rw [if_neg (by omega), if_pos (by omega)])).symm | exact vb (dev_no0 (by unfold headR; rw [if_neg (by omega), if_neg (by omega)]; simp only [hy0]; simp_all)).symm
          · have hc5 := bp hb5
            refine f_ (h:=l_ (h:=?_))
            refine g_y (st_index (n := 0) rfl rfl rfl hrow0 ?_)
            refine f_ (h:=l_ (h:=nq_ (h:=pf_ (h:=m_ (h:=?_)))))
            refine al_gs false rfl rfl (fun hb6 => ?_) (fun hb6 => ?_)
            · have hc6 := bp hb6
              refine g0_ (h:=g0_ (h:=g0_ (h:=g0_ (h:=g0_ (h:=g0_ (h:=pt_ (h:=e_ (cy_ (h:=w_ (a_ (h:=e_ (aw_ret (x_thenR (?_))))))))))))))
              refine e_ret ?_
              first | exact vb (dev_no hlt (by unfold devAt; simp only [hy]; simp_all)).symm | exact vb (dev_yes hhd (fun i hi => ha i (by omega))).symm | exact vb (dev_no0 (by unfold headR; rw [if_pos (by omega)])).symm | exact vb (dev_no0 (by unfold headR; rw [if_neg (by omega), if_pos (by omega)])).symm | exact vb (dev_no0 (by unfold headR; rw [if_neg (by omega), if_neg (by omega)]; simp only [hy0]; simp_all)).symm
            · have hc6 := bp hb6
              refine f_ (h:=l_ (h:=?_))
              refine g_y (st_index (n := 0) rfl rfl rfl hrow0 ?_)
              refine f_ (h:=l_ (h:=nq_ (h:=pf_ (h:=e_ (?_)))))
              refine aw_cond rfl (fun hb7 => ?_) (fun hb7 => ?_)
              · have hc7 := bp hb7
                refine w_ (a_ (h:=e_ (aw_ret (x_thenR (?_)))))
                refine e_ret ?_
                first | exact vb (dev_no hlt (by unfold devAt; simp only [hy]; simp_all)).symm | exact vb (dev_yes hhd (fun i hi => ha i (by omega))).symm | exact vb (dev_no0 (by unfold headR; rw [if_pos (by omega)])).symm | exact vb (dev_no0 (by unfold headR; rw [if_neg (by omega), if_pos (by omega)])).symm | exact vb (dev_no0 (by unfold headR; rw [if_neg (by omega), if_neg (by omega)]; simp only [hy0]; simp_all)).symm
              · have hc7 := bp hb7
                have hhd : headR d = true := by unfold headR; rw [if_neg (by omega), if_neg (by omega)]; simp only [hy0]; simp_all
                refine kt_ (q_ (w_ (a_ (h:=e_ (aw_block (?_))))))
                refine aw_loopW (fun m t => ∃ j : Nat, j ≤ d.nodes.length ∧ m = d.nodes.length - j ∧ (∀ i, i < j → devAt f (q : Int) d i = true) ∧ t = ⟨look [(1, .v (.int .i64 (q : Int))), (2, .bp 0 0), (5, .bp 1 0), (6, .v (.int .i64 (j : Int)))], ⟨[flsA f, dvcA d], []⟩⟩) (d.nodes.length) ((wk 2 0)) (⟨0, by omega, rfl, fun i hi => by omega, rfl⟩) ?_
                rintro m t ⟨j, hj, rfl, ha, rfl⟩
                refine q_ (w_ (m_ (h:=f_ (h:=l_ (h:=n_ (h:=lt_ (h:=e_ (?_))))))))
                refine aw_cond rfl (fun hb8 => ?_) (fun hb8 => ?_)
                · have hc8 := bp hb8
                  obtain ⟨hlt, n, hy, hrow, -⟩ := row_at nodA hc8
                  refine kt_ (q_ (aw_block (w_ (f_ (h:=l_ (h:=m_ (h:=?_)))))))
                  refine al_p rfl (st_index (n := j) rfl rfl rfl hrow ?_)
                  refine l_ (h:=al_ (h:=s_ (h:=e_ (q_ (q_ (yr_ 49 (h:=df_ 0 (h:=dl_ 1 (h:=df_ 2 (h:=dl_ 3 (h:=dge_ 4 (h:=dm_ 5 (h:=?_)))))))))))))
                  refine aa_both (j := 5) rfl (fun hb9 => ?_) (fun hb9 => ?_)
                  · have hc9 := bp hb9
                    refine d0_ 6 (h:=d0_ 7 (h:=d0_ 8 (h:=d0_ 9 (h:=d0_ 10 (h:=d0_ 11 (h:=d0_ 12 (h:=d0_ 13 (h:=d0_ 14 (h:=d0_ 15 (h:=d0_ 16 (h:=d0_ 17 (h:=d0_ 18 (h:=d0_ 19 (h:=dpt_ 20 (h:=dm_ 21 (h:=d0_ 22 (h:=d0_ 23 (h:=d0_ 24 (h:=dpt_ 25 (h:=dm_ 26 (h:=d0_ 27 (h:=d0_ 28 (h:=d0_ 29 (h:=?_))))))))))))))))))))))))
                    refine d0_ 30 (h:=d0_ 31 (h:=d0_ 32 (h:=d0_ 33 (h:=d0_ 34 (h:=d0_ 35 (h:=d0_ 36 (h:=d0_ 37 (h:=d0_ 38 (h:=d0_ 39 (h:=d0_ 40 (h:=dpt_ 41 (h:=dm_ 42 (h:=d0_ 43 (h:=d0_ 44 (h:=d0_ 45 (h:=d0_ 46 (h:=d0_ 47 (h:=dpt_ 48 (h:=z_ (h:=t_ (cy_ (h:=w_ (a_ (h:=?_))))))))))))))))))))))))
                    refine e_ (aw_ret (x_thenR (x_blockR (x_thenR (x_thenR (x_blockR (x_thenR (?_))))))))
                    refine e_ret ?_
                    first | exact vb (dev_no hlt (by unfold devAt; simp only [hy]; simp_all)).symm | exact vb (dev_yes hhd (fun i hi => ha i (by omega))).symm | exact vb (dev_no0 (by unfold headR; rw [if_pos (by omega)])).symm | exact vb (dev_no0 (by unfold headR; rw [if_neg (by omega), if_pos (by omega)])).symm | exact vb (dev_no0 (by unfold headR; rw [if_neg (by omega), if_neg (by omega)]; simp only [hy0]; simp_all)).symm
                  · have hc9 := bp hb9
                    refine dm_ 6 (h:=dgt_ 7 (h:=dm_ 8 (h:=?_)))
                    refine aa_both (j := 8) rfl (fun hb10 => ?_) (fun hb10 => ?_)
                    · have hc10 := bp hb10
                      obtain ⟨hlt1, y, hy1, hrow1, -⟩ := row_at (l := d.nodes) (k := j - 1) nodA (by omega)
                      have hpre := preN_at (n := n) hy1
                      refine df_ 9 (h:=dl_ 10 (h:=dm_ 11 (h:=dsb_ 12 (h:=?_))))
                      refine r_y (i := 13) rfl (st_index (n := j - 1) rfl rfl (by omega) hrow1 ⟨rfl, rfl⟩) ?_
                      refine df_ 14 (h:=dl_ 15 (h:=df_ 16 (h:=dl_ 17 (h:=dge_ 18 (h:=dpt_ 19 (h:=dpf_ 20 (h:=dm_ 21 (h:=?_))))))))
                      refine aa_both (j := 21) rfl (fun hb11 => ?_) (fun hb11 => ?_)
                      · have hc11 := bp hb11
                        refine d0_ 22 (h:=d0_ 23 (h:=d0_ 24 (h:=dpt_ 25 (h:=dm_ 26 (h:=d0_ 27 (h:=d0_ 28 (h:=d0_ 29 (h:=d0_ 30 (h:=d0_ 31 (h:=d0_ 32 (h:=d0_ 33 (h:=d0_ 34 (h:=d0_ 35 (h:=d0_ 36 (h:=d0_ 37 (h:=d0_ 38 (h:=d0_ 39 (h:=d0_ 40 (h:=dpt_ 41 (h:=dm_ 42 (h:=d0_ 43 (h:=d0_ 44 (h:=d0_ 45 (h:=?_))))))))))))))))))))))))
                        refine d0_ 46 (h:=d0_ 47 (h:=dpt_ 48 (h:=z_ (h:=t_ (cy_ (h:=w_ (a_ (h:=e_ (aw_ret (x_thenR (x_blockR (x_thenR (x_thenR (x_blockR (x_thenR (?_))))))))))))))))
                        refine e_ret ?_
                        first | exact vb (dev_no hlt (by unfold devAt; simp only [hy]; simp_all)).symm | exact vb (dev_yes hhd (fun i hi => ha i (by omega))).symm | exact vb (dev_no0 (by unfold headR; rw [if_pos (by omega)])).symm | exact vb (dev_no0 (by unfold headR; rw [if_neg (by omega), if_pos (by omega)])).symm | exact vb (dev_no0 (by unfold headR; rw [if_neg (by omega), if_neg (by omega)]; simp only [hy0]; simp_all)).symm
                      · have hc11 := bp hb11
                        refine dl_ 22 (h:=?_)
                        refine c_ 23 rfl (q_call (Rplain n (htg j n hy)) ?_)
                        rintro r rfl
                        refine o_ (h:=dnt_ 24 (h:=dpf_ 25 (h:=dm_ 26 (h:=?_))))
                        refine aa_both (j := 26) rfl (fun hb12 => ?_) (fun hb12 => ?_)
                        · have hc12 := bp hb12
                          refine d0_ 27 (h:=d0_ 28 (h:=d0_ 29 (h:=d0_ 30 (h:=d0_ 31 (h:=d0_ 32 (h:=d0_ 33 (h:=d0_ 34 (h:=d0_ 35 (h:=d0_ 36 (h:=d0_ 37 (h:=d0_ 38 (h:=d0_ 39 (h:=d0_ 40 (h:=dpt_ 41 (h:=dm_ 42 (h:=d0_ 43 (h:=d0_ 44 (h:=d0_ 45 (h:=d0_ 46 (h:=d0_ 47 (h:=dpt_ 48 (h:=z_ (h:=t_ (?_))))))))))))))))))))))))
                          refine cy_ (h:=w_ (a_ (h:=e_ (aw_ret (x_thenR (x_blockR (x_thenR (x_thenR (x_blockR (x_thenR (?_)))))))))))
                          refine e_ret ?_
                          first | exact vb (dev_no hlt (by unfold devAt; simp only [hy]; simp_all)).symm | exact vb (dev_yes hhd (fun i hi => ha i (by omega))).symm | exact vb (dev_no0 (by unfold headR; rw [if_pos (by omega)])).symm | exact vb (dev_no0 (by unfold headR; rw [if_neg (by omega), if_pos (by omega)])).symm | exact vb (dev_no0 (by unfold headR; rw [if_neg (by omega), if_neg (by omega)]; simp only [hy0]; simp_all)).symm
                        · have hc12 := bp hb12
                          refine df_ 27 (h:=dl_ 28 (h:=dnq_ 29 (h:=dm_ 30 (h:=?_))))
                          refine aa_both (j := 30) rfl (fun hb13 => ?_) (fun hb13 => ?_)
                          · have hc13 := bp hb13
                            refine df_ 31 (h:=dl_ 32 (h:=dnq_ 33 (h:=dm_ 34 (h:=?_))))
                            refine aa_both (j := 34) rfl (fun hb14 => ?_) (fun hb14 => ?_)
                            · have hc14 := bp hb14
                              refine d0_ 35 (h:=d0_ 36 (h:=d0_ 37 (h:=d0_ 38 (h:=dpt_ 39 (h:=dpt_ 40 (h:=dpf_ 41 (h:=dm_ 42 (h:=d0_ 43 (h:=d0_ 44 (h:=d0_ 45 (h:=d0_ 46 (h:=d0_ 47 (h:=dpt_ 48 (h:=z_ (h:=t_ (cy_ (h:=w_ (a_ (h:=e_ (aw_ret (x_thenR (x_blockR (x_thenR (?_))))))))))))))))))))))))
                              refine x_thenR (x_blockR (x_thenR (?_)))
                              refine e_ret ?_
                              first | exact vb (dev_no hlt (by unfold devAt; simp only [hy]; simp_all)).symm | exact vb (dev_yes hhd (fun i hi => ha i (by omega))).symm | exact vb (dev_no0 (by unfold headR; rw [if_pos (by omega)])).symm | exact vb (dev_no0 (by unfold headR; rw [if_neg (by omega), if_pos (by omega)])).symm | exact vb (dev_no0 (by unfold headR; rw [if_neg (by omega), if_neg (by omega)]; simp only [hy0]; simp_all)).symm
                            · have hc14 := bp hb14
                              refine df_ 35 (h:=dl_ 36 (h:=dn_ 37 (h:=dgt_ 38 (h:=dpf_ 39 (h:=dpt_ 40 (h:=dpf_ 41 (h:=dm_ 42 (h:=?_))))))))
                              refine aa_both (j := 42) rfl (fun hb15 => ?_) (fun hb15 => ?_)
                              · have hc15 := bp hb15
                                refine d0_ 43 (h:=d0_ 44 (h:=d0_ 45 (h:=d0_ 46 (h:=d0_ 47 (h:=dpt_ 48 (h:=z_ (h:=t_ (cy_ (h:=w_ (a_ (h:=e_ (aw_ret (x_thenR (x_blockR (x_thenR (x_thenR (x_blockR (x_thenR (?_)))))))))))))))))))
                                refine e_ret ?_
                                first | exact vb (dev_no hlt (by unfold devAt; simp only [hy]; simp_all)).symm | exact vb (dev_yes hhd (fun i hi => ha i (by omega))).symm | exact vb (dev_no0 (by unfold headR; rw [if_pos (by omega)])).symm | exact vb (dev_no0 (by unfold headR; rw [if_neg (by omega), if_pos (by omega)])).symm | exact vb (dev_no0 (by unfold headR; rw [if_neg (by omega), if_neg (by omega)]; simp only [hy0]; simp_all)).symm
                              · have hc15 := bp hb15
                                refine dl_ 43 (h:=dm_ 44 (h:=dl_ 45 (h:=?_)))
                                refine c_ 46 rfl (q_call (Rents f (q : Int) n hf.b (hent j n hy) (hnm j n hy)) ?_)
                                rintro r rfl
                                refine o_ (h:=dnt_ 47 (h:=dpf_ 48 (h:=z_ (h:=t_ (?_)))))
                                refine aw_cond rfl (fun hb16 => ?_) (fun hb16 => ?_)
                                · have hc16 := bp hb16
                                  refine w_ (a_ (h:=e_ (aw_ret (x_thenR (x_blockR (x_thenR (x_thenR (x_blockR (x_thenR (?_))))))))))
                                  refine e_ret ?_
                                  first | exact vb (dev_no hlt (by unfold devAt; simp only [hy]; simp_all)).symm | exact vb (dev_yes hhd (fun i hi => ha i (by omega))).symm | exact vb (dev_no0 (by unfold headR; rw [if_pos (by omega)])).symm | exact vb (dev_no0 (by unfold headR; rw [if_neg (by omega), if_pos (by omega)])).symm | exact vb (dev_no0 (by unfold headR; rw [if_neg (by omega), if_neg (by omega)]; simp only [hy0]; simp_all)).symm
                                · have hc16 := bp hb16
                                  refine kt_ (w_ (m_ (h:=f_ (h:=l_ (h:=bd_ (h:=al_ (h:=s_ (h:=e_ (q_ (w_ (m_ (h:=eq_ (h:=e_ (?_))))))))))))))
                                  refine aw_cond rfl (fun hb17 => ?_) (fun hb17 => ?_)
                                  · have hc17 := bp hb17
                                    refine aw_exit (x_thenE (ABlock_out (t_ (aw_region (m_ (h:=ad_ (h:=a_ (h:=al_nil (?_)))))))))
                                    refine x_then ?_
                                    refine ⟨_, _, ?_, ⟨j + 1, by omega, rfl, upto_next ha (by unfold devAt; simp only [hy]; simp_all), rfl⟩, (wk 2 0)⟩
                                    omega
                                  · have hc17 := bp hb17
                                    refine kt_ (w_ (l_ (h:=l_ (h:=?_))))
                                    refine al_p rfl (q_call (Rlinks f ((q : Int), n.ino) hf.b) ?_)
                                    rintro r rfl
                                    refine a_ (h:=e_ (q_ (w_ (f_ (h:=l_ (h:=nq_ (h:=m_ (h:=m_ (h:=lt_ (h:=pt_ (h:=e_ (?_))))))))))))
                                    refine aw_cond rfl (fun hb18 => ?_) (fun hb18 => ?_)
                                    · have hc18 := bp hb18
                                      refine w_ (a_ (h:=e_ (aw_ret (x_thenR (x_blockR (x_thenR (x_thenR (x_blockR (x_thenR (?_))))))))))
                                      refine e_ret ?_
                                      first | exact vb (dev_no hlt (by unfold devAt; simp only [hy]; simp_all)).symm | exact vb (dev_yes hhd (fun i hi => ha i (by omega))).symm | exact vb (dev_no0 (by unfold headR; rw [if_pos (by omega)])).symm | exact vb (dev_no0 (by unfold headR; rw [if_neg (by omega), if_pos (by omega)])).symm | exact vb (dev_no0 (by unfold headR; rw [if_neg (by omega), if_neg (by omega)]; simp only [hy0]; simp_all)).symm
                                    · have hc18 := bp hb18
                                      refine kt_ (w_ (f_ (h:=l_ (h:=eq_ (h:=e_ (cn_ (h:=aw_skip (x_blockN (t_ (aw_region (m_ (h:=ad_ (h:=a_ (h:=al_nil (?_)))))))))))))))
                                      refine x_then ?_
                                      refine ⟨_, _, ?_, ⟨j + 1, by omega, rfl, upto_next ha (by unfold devAt; simp only [hy]; simp_all), rfl⟩, (wk 2 0)⟩
                                      omega
                          · have hc13 := bp hb13
                            refine d0_ 31 (h:=d0_ 32 (h:=d0_ 33 (h:=d0_ 34 (h:=d0_ 35 (h:=d0_ 36 (h:=d0_ 37 (h:=d0_ 38 (h:=d0_ 39 (h:=dpf_ 40 (h:=dpf_ 41 (h:=dm_ 42 (h:=dl_ 43 (h:=dm_ 44 (h:=dl_ 45 (h:=?_)))))))))))))))
                            refine c_ 46 rfl (q_call (Rents f (q : Int) n hf.b (hent j n hy) (hnm j n hy)) ?_)
                            rintro r rfl
                            refine o_ (h:=dnt_ 47 (h:=dpf_ 48 (h:=z_ (h:=t_ (?_)))))
                            refine aw_cond rfl (fun hb19 => ?_) (fun hb19 => ?_)
                            · have hc19 := bp hb19
                              refine w_ (a_ (h:=e_ (aw_ret (x_thenR (x_blockR (x_thenR (x_thenR (x_blockR (x_thenR (?_))))))))))
                              refine e_ret ?_
                              first | exact vb (dev_no hlt (by unfold devAt; simp only [hy]; simp_all)).symm | exact vb (dev_yes hhd (fun i hi => ha i (by omega))).symm | exact vb (dev_no0 (by unfold headR; rw [if_pos (by omega)])).symm | exact vb (dev_no0 (by unfold headR; rw [if_neg (by omega), if_pos (by omega)])).symm | exact vb (dev_no0 (by unfold headR; rw [if_neg (by omega), if_neg (by omega)]; simp only [hy0]; simp_all)).symm
                            · have hc19 := bp hb19
                              refine kt_ (w_ (m_ (h:=f_ (h:=l_ (h:=bd_ (h:=al_ (h:=s_ (h:=e_ (q_ (w_ (m_ (h:=eq_ (h:=e_ (?_))))))))))))))
                              refine aw_cond rfl (fun hb20 => ?_) (fun hb20 => ?_)
                              · have hc20 := bp hb20
                                refine aw_exit (x_thenE (ABlock_out (t_ (aw_region (m_ (h:=ad_ (h:=a_ (h:=al_nil (?_)))))))))
                                refine x_then ?_
                                refine ⟨_, _, ?_, ⟨j + 1, by omega, rfl, upto_next ha (by unfold devAt; simp only [hy]; simp_all), rfl⟩, (wk 2 0)⟩
                                omega
                              · have hc20 := bp hb20
                                refine kt_ (w_ (l_ (h:=l_ (h:=?_))))
                                refine al_p rfl (q_call (Rlinks f ((q : Int), n.ino) hf.b) ?_)
                                rintro r rfl
                                refine a_ (h:=e_ (q_ (w_ (f_ (h:=l_ (h:=nq_ (h:=m_ (h:=g0_ (h:=g0_ (h:=pf_ (h:=e_ (cn_ (h:=kt_ (w_ (f_ (h:=l_ (h:=eq_ (h:=e_ (cy_ (h:=w_ (l_ (h:=m_ (h:=f_ (h:=?_))))))))))))))))))))))))
                                refine l_ (h:=bd_ (h:=?_))
                                refine al_p rfl (q_call (Rnode f ((q : Int), n.parent) hf.b) ?_)
                                rintro r rfl
                                refine m_ (h:=x_ (h:=x_ (h:=al_ (h:=s_ (h:=a_ (h:=e_ (w_ (m_ (h:=nq_ (h:=m_ (h:=?_)))))))))))
                                refine al_gs false rfl rfl (fun hb21 => ?_) (fun hb21 => ?_)
                                · have hc21 := bp hb21
                                  refine g0_ (h:=g0_ (h:=pt_ (h:=m_ (h:=g0_ (h:=g0_ (h:=g0_ (h:=g0_ (h:=g0_ (h:=pt_ (h:=e_ (cy_ (h:=w_ (a_ (h:=e_ (aw_ret (x_blockR (x_thenR (x_thenR (x_blockR (x_thenR (?_)))))))))))))))))))))
                                  refine e_ret ?_
                                  first | exact vb (dev_no hlt (by unfold devAt; simp only [hy]; simp_all)).symm | exact vb (dev_yes hhd (fun i hi => ha i (by omega))).symm | exact vb (dev_no0 (by unfold headR; rw [if_pos (by omega)])).symm | exact vb (dev_no0 (by unfold headR; rw [if_neg (by omega), if_pos (by omega)])).symm | exact vb (dev_no0 (by unfold headR; rw [if_neg (by omega), if_neg (by omega)]; simp only [hy0]; simp_all)).symm
                                · have hc21 := bp hb21
                                  refine m_ (h:=nt_ (h:=pf_ (h:=m_ (h:=?_))))
                                  refine al_gs false rfl rfl (fun hb22 => ?_) (fun hb22 => ?_)
                                  · have hc22 := bp hb22
                                    refine g0_ (h:=g0_ (h:=g0_ (h:=g0_ (h:=g0_ (h:=pt_ (h:=e_ (cy_ (h:=w_ (a_ (h:=e_ (aw_ret (x_blockR (x_thenR (x_thenR (x_blockR (x_thenR (?_)))))))))))))))))
                                    refine e_ret ?_
                                    first | exact vb (dev_no hlt (by unfold devAt; simp only [hy]; simp_all)).symm | exact vb (dev_yes hhd (fun i hi => ha i (by omega))).symm | exact vb (dev_no0 (by unfold headR; rw [if_pos (by omega)])).symm | exact vb (dev_no0 (by unfold headR; rw [if_neg (by omega), if_pos (by omega)])).symm | exact vb (dev_no0 (by unfold headR; rw [if_neg (by omega), if_neg (by omega)]; simp only [hy0]; simp_all)).symm
                                  · have hc22 := bp hb22
                                    refine l_ (h:=f_ (h:=l_ (h:=?_)))
                                    refine g_y (q_call (Rholds (nodG f ((q : Int), n.parent)) n.ino (hpe _)) ?_)
                                    rintro r rfl
                                    refine nt_ (h:=pf_ (h:=e_ (?_)))
                                    refine aw_cond rfl (fun hb23 => ?_) (fun hb23 => ?_)
                                    · have hc23 := bp hb23
                                      refine w_ (a_ (h:=e_ (aw_ret (x_blockR (x_thenR (x_thenR (x_blockR (x_thenR (?_)))))))))
                                      refine e_ret ?_
                                      first | exact vb (dev_no hlt (by unfold devAt; simp only [hy]; simp_all)).symm | exact vb (dev_yes hhd (fun i hi => ha i (by omega))).symm | exact vb (dev_no0 (by unfold headR; rw [if_pos (by omega)])).symm | exact vb (dev_no0 (by unfold headR; rw [if_neg (by omega), if_pos (by omega)])).symm | exact vb (dev_no0 (by unfold headR; rw [if_neg (by omega), if_neg (by omega)]; simp only [hy0]; simp_all)).symm
                                    · have hc23 := bp hb23
                                      refine aw_skip (x_blockN (t_ (aw_region (m_ (h:=ad_ (h:=a_ (h:=al_nil (?_))))))))
                                      refine x_then ?_
                                      refine ⟨_, _, ?_, ⟨j + 1, by omega, rfl, upto_next ha (by unfold devAt; simp only [hy]; simp_all), rfl⟩, (wk 2 0)⟩
                                      omega
                    · have hc10 := bp hb10
                      refine d0_ 9 (h:=d0_ 10 (h:=d0_ 11 (h:=d0_ 12 (h:=d0_ 13 (h:=d0_ 14 (h:=d0_ 15 (h:=d0_ 16 (h:=d0_ 17 (h:=d0_ 18 (h:=dpf_ 19 (h:=dpf_ 20 (h:=dm_ 21 (h:=dl_ 22 (h:=?_))))))))))))))
                      refine c_ 23 rfl (q_call (Rplain n (htg j n hy)) ?_)
                      rintro r rfl
                      refine o_ (h:=dnt_ 24 (h:=dpf_ 25 (h:=dm_ 26 (h:=?_))))
                      refine aa_both (j := 26) rfl (fun hb24 => ?_) (fun hb24 => ?_)
                      · have hc24 := bp hb24
                        refine d0_ 27 (h:=d0_ 28 (h:=d0_ 29 (h:=d0_ 30 (h:=d0_ 31 (h:=d0_ 32 (h:=d0_ 33 (h:=d0_ 34 (h:=d0_ 35 (h:=d0_ 36 (h:=d0_ 37 (h:=d0_ 38 (h:=d0_ 39 (h:=d0_ 40 (h:=dpt_ 41 (h:=dm_ 42 (h:=d0_ 43 (h:=d0_ 44 (h:=d0_ 45 (h:=d0_ 46 (h:=d0_ 47 (h:=dpt_ 48 (h:=z_ (h:=t_ (?_))))))))))))))))))))))))
                        refine cy_ (h:=w_ (a_ (h:=e_ (aw_ret (x_thenR (x_blockR (x_thenR (x_thenR (x_blockR (x_thenR (?_)))))))))))
                        refine e_ret ?_
                        first | exact vb (dev_no hlt (by unfold devAt; simp only [hy]; simp_all)).symm | exact vb (dev_yes hhd (fun i hi => ha i (by omega))).symm | exact vb (dev_no0 (by unfold headR; rw [if_pos (by omega)])).symm | exact vb (dev_no0 (by unfold headR; rw [if_neg (by omega), if_pos (by omega)])).symm | exact vb (dev_no0 (by unfold headR; rw [if_neg (by omega), if_neg (by omega)]; simp only [hy0]; simp_all)).symm
                      · have hc24 := bp hb24
                        refine df_ 27 (h:=dl_ 28 (h:=dnq_ 29 (h:=dm_ 30 (h:=?_))))
                        refine aa_both (j := 30) rfl (fun hb25 => ?_) (fun hb25 => ?_)
                        · have hc25 := bp hb25
                          refine df_ 31 (h:=dl_ 32 (h:=dnq_ 33 (h:=dm_ 34 (h:=?_))))
                          refine aa_both (j := 34) rfl (fun hb26 => ?_) (fun hb26 => ?_)
                          · have hc26 := bp hb26
                            refine d0_ 35 (h:=d0_ 36 (h:=d0_ 37 (h:=d0_ 38 (h:=dpt_ 39 (h:=dpt_ 40 (h:=dpf_ 41 (h:=dm_ 42 (h:=d0_ 43 (h:=d0_ 44 (h:=d0_ 45 (h:=d0_ 46 (h:=d0_ 47 (h:=dpt_ 48 (h:=z_ (h:=t_ (cy_ (h:=w_ (a_ (h:=e_ (aw_ret (x_thenR (x_blockR (x_thenR (?_))))))))))))))))))))))))
                            refine x_thenR (x_blockR (x_thenR (?_)))
                            refine e_ret ?_
                            first | exact vb (dev_no hlt (by unfold devAt; simp only [hy]; simp_all)).symm | exact vb (dev_yes hhd (fun i hi => ha i (by omega))).symm | exact vb (dev_no0 (by unfold headR; rw [if_pos (by omega)])).symm | exact vb (dev_no0 (by unfold headR; rw [if_neg (by omega), if_pos (by omega)])).symm | exact vb (dev_no0 (by unfold headR; rw [if_neg (by omega), if_neg (by omega)]; simp only [hy0]; simp_all)).symm
                          · have hc26 := bp hb26
                            refine df_ 35 (h:=dl_ 36 (h:=dn_ 37 (h:=dgt_ 38 (h:=dpf_ 39 (h:=dpt_ 40 (h:=dpf_ 41 (h:=dm_ 42 (h:=?_))))))))
                            refine aa_both (j := 42) rfl (fun hb27 => ?_) (fun hb27 => ?_)
                            · have hc27 := bp hb27
                              refine d0_ 43 (h:=d0_ 44 (h:=d0_ 45 (h:=d0_ 46 (h:=d0_ 47 (h:=dpt_ 48 (h:=z_ (h:=t_ (cy_ (h:=w_ (a_ (h:=e_ (aw_ret (x_thenR (x_blockR (x_thenR (x_thenR (x_blockR (x_thenR (?_)))))))))))))))))))
                              refine e_ret ?_
                              first | exact vb (dev_no hlt (by unfold devAt; simp only [hy]; simp_all)).symm | exact vb (dev_yes hhd (fun i hi => ha i (by omega))).symm | exact vb (dev_no0 (by unfold headR; rw [if_pos (by omega)])).symm | exact vb (dev_no0 (by unfold headR; rw [if_neg (by omega), if_pos (by omega)])).symm | exact vb (dev_no0 (by unfold headR; rw [if_neg (by omega), if_neg (by omega)]; simp only [hy0]; simp_all)).symm
                            · have hc27 := bp hb27
                              refine dl_ 43 (h:=dm_ 44 (h:=dl_ 45 (h:=?_)))
                              refine c_ 46 rfl (q_call (Rents f (q : Int) n hf.b (hent j n hy) (hnm j n hy)) ?_)
                              rintro r rfl
                              refine o_ (h:=dnt_ 47 (h:=dpf_ 48 (h:=z_ (h:=t_ (?_)))))
                              refine aw_cond rfl (fun hb28 => ?_) (fun hb28 => ?_)
                              · have hc28 := bp hb28
                                refine w_ (a_ (h:=e_ (aw_ret (x_thenR (x_blockR (x_thenR (x_thenR (x_blockR (x_thenR (?_))))))))))
                                refine e_ret ?_
                                first | exact vb (dev_no hlt (by unfold devAt; simp only [hy]; simp_all)).symm | exact vb (dev_yes hhd (fun i hi => ha i (by omega))).symm | exact vb (dev_no0 (by unfold headR; rw [if_pos (by omega)])).symm | exact vb (dev_no0 (by unfold headR; rw [if_neg (by omega), if_pos (by omega)])).symm | exact vb (dev_no0 (by unfold headR; rw [if_neg (by omega), if_neg (by omega)]; simp only [hy0]; simp_all)).symm
                              · have hc28 := bp hb28
                                refine kt_ (w_ (m_ (h:=f_ (h:=l_ (h:=bd_ (h:=al_ (h:=s_ (h:=e_ (q_ (w_ (m_ (h:=eq_ (h:=e_ (?_))))))))))))))
                                refine aw_cond rfl (fun hb29 => ?_) (fun hb29 => ?_)
                                · have hc29 := bp hb29
                                  refine aw_exit (x_thenE (ABlock_out (t_ (aw_region (m_ (h:=ad_ (h:=a_ (h:=al_nil (?_)))))))))
                                  refine x_then ?_
                                  refine ⟨_, _, ?_, ⟨j + 1, by omega, rfl, upto_next ha (by unfold devAt; simp only [hy]; simp_all), rfl⟩, (wk 2 0)⟩
                                  omega
                                · have hc29 := bp hb29
                                  refine kt_ (w_ (l_ (h:=l_ (h:=?_))))
                                  refine al_p rfl (q_call (Rlinks f ((q : Int), n.ino) hf.b) ?_)
                                  rintro r rfl
                                  refine a_ (h:=e_ (q_ (w_ (f_ (h:=l_ (h:=nq_ (h:=m_ (h:=m_ (h:=lt_ (h:=pt_ (h:=e_ (?_))))))))))))
                                  refine aw_cond rfl (fun hb30 => ?_) (fun hb30 => ?_)
                                  · have hc30 := bp hb30
                                    refine w_ (a_ (h:=e_ (aw_ret (x_thenR (x_blockR (x_thenR (x_thenR (x_blockR (x_thenR (?_))))))))))
                                    refine e_ret ?_
                                    first | exact vb (dev_no hlt (by unfold devAt; simp only [hy]; simp_all)).symm | exact vb (dev_yes hhd (fun i hi => ha i (by omega))).symm | exact vb (dev_no0 (by unfold headR; rw [if_pos (by omega)])).symm | exact vb (dev_no0 (by unfold headR; rw [if_neg (by omega), if_pos (by omega)])).symm | exact vb (dev_no0 (by unfold headR; rw [if_neg (by omega), if_neg (by omega)]; simp only [hy0]; simp_all)).symm
                                  · have hc30 := bp hb30
                                    refine kt_ (w_ (f_ (h:=l_ (h:=eq_ (h:=e_ (cn_ (h:=aw_skip (x_blockN (t_ (aw_region (m_ (h:=ad_ (h:=a_ (h:=al_nil (?_)))))))))))))))
                                    refine x_then ?_
                                    refine ⟨_, _, ?_, ⟨j + 1, by omega, rfl, upto_next ha (by unfold devAt; simp only [hy]; simp_all), rfl⟩, (wk 2 0)⟩
                                    omega
                        · have hc25 := bp hb25
                          refine d0_ 31 (h:=d0_ 32 (h:=d0_ 33 (h:=d0_ 34 (h:=d0_ 35 (h:=d0_ 36 (h:=d0_ 37 (h:=d0_ 38 (h:=d0_ 39 (h:=dpf_ 40 (h:=dpf_ 41 (h:=dm_ 42 (h:=dl_ 43 (h:=dm_ 44 (h:=dl_ 45 (h:=?_)))))))))))))))
                          refine c_ 46 rfl (q_call (Rents f (q : Int) n hf.b (hent j n hy) (hnm j n hy)) ?_)
                          rintro r rfl
                          refine o_ (h:=dnt_ 47 (h:=dpf_ 48 (h:=z_ (h:=t_ (?_)))))
                          refine aw_cond rfl (fun hb31 => ?_) (fun hb31 => ?_)
                          · have hc31 := bp hb31
                            refine w_ (a_ (h:=e_ (aw_ret (x_thenR (x_blockR (x_thenR (x_thenR (x_blockR (x_thenR (?_))))))))))
                            refine e_ret ?_
                            first | exact vb (dev_no hlt (by unfold devAt; simp only [hy]; simp_all)).symm | exact vb (dev_yes hhd (fun i hi => ha i (by omega))).symm | exact vb (dev_no0 (by unfold headR; rw [if_pos (by omega)])).symm | exact vb (dev_no0 (by unfold headR; rw [if_neg (by omega), if_pos (by omega)])).symm | exact vb (dev_no0 (by unfold headR; rw [if_neg (by omega), if_neg (by omega)]; simp only [hy0]; simp_all)).symm
                          · have hc31 := bp hb31
                            refine kt_ (w_ (m_ (h:=f_ (h:=l_ (h:=bd_ (h:=al_ (h:=s_ (h:=e_ (q_ (w_ (m_ (h:=eq_ (h:=e_ (?_))))))))))))))
                            refine aw_cond rfl (fun hb32 => ?_) (fun hb32 => ?_)
                            · have hc32 := bp hb32
                              refine aw_exit (x_thenE (ABlock_out (t_ (aw_region (m_ (h:=ad_ (h:=a_ (h:=al_nil (?_)))))))))
                              refine x_then ?_
                              refine ⟨_, _, ?_, ⟨j + 1, by omega, rfl, upto_next ha (by unfold devAt; simp only [hy]; simp_all), rfl⟩, (wk 2 0)⟩
                              omega
                            · have hc32 := bp hb32
                              refine kt_ (w_ (l_ (h:=l_ (h:=?_))))
                              refine al_p rfl (q_call (Rlinks f ((q : Int), n.ino) hf.b) ?_)
                              rintro r rfl
                              refine a_ (h:=e_ (q_ (w_ (f_ (h:=l_ (h:=nq_ (h:=m_ (h:=g0_ (h:=g0_ (h:=pf_ (h:=e_ (cn_ (h:=kt_ (w_ (f_ (h:=l_ (h:=eq_ (h:=e_ (cy_ (h:=w_ (l_ (h:=m_ (h:=f_ (h:=?_))))))))))))))))))))))))
                              refine l_ (h:=bd_ (h:=?_))
                              refine al_p rfl (q_call (Rnode f ((q : Int), n.parent) hf.b) ?_)
                              rintro r rfl
                              refine m_ (h:=x_ (h:=x_ (h:=al_ (h:=s_ (h:=a_ (h:=e_ (w_ (m_ (h:=nq_ (h:=m_ (h:=?_)))))))))))
                              refine al_gs false rfl rfl (fun hb33 => ?_) (fun hb33 => ?_)
                              · have hc33 := bp hb33
                                refine g0_ (h:=g0_ (h:=pt_ (h:=m_ (h:=g0_ (h:=g0_ (h:=g0_ (h:=g0_ (h:=g0_ (h:=pt_ (h:=e_ (cy_ (h:=w_ (a_ (h:=e_ (aw_ret (x_blockR (x_thenR (x_thenR (x_blockR (x_thenR (?_)))))))))))))))))))))
                                refine e_ret ?_
                                first | exact vb (dev_no hlt (by unfold devAt; simp only [hy]; simp_all)).symm | exact vb (dev_yes hhd (fun i hi => ha i (by omega))).symm | exact vb (dev_no0 (by unfold headR; rw [if_pos (by omega)])).symm | exact vb (dev_no0 (by unfold headR; rw [if_neg (by omega), if_pos (by omega)])).symm | exact vb (dev_no0 (by unfold headR; rw [if_neg (by omega), if_neg (by omega)]; simp only [hy0]; simp_all)).symm
                              · have hc33 := bp hb33
                                refine m_ (h:=nt_ (h:=pf_ (h:=m_ (h:=?_))))
                                refine al_gs false rfl rfl (fun hb34 => ?_) (fun hb34 => ?_)
                                · have hc34 := bp hb34
                                  refine g0_ (h:=g0_ (h:=g0_ (h:=g0_ (h:=g0_ (h:=pt_ (h:=e_ (cy_ (h:=w_ (a_ (h:=e_ (aw_ret (x_blockR (x_thenR (x_thenR (x_blockR (x_thenR (?_)))))))))))))))))
                                  refine e_ret ?_
                                  first | exact vb (dev_no hlt (by unfold devAt; simp only [hy]; simp_all)).symm | exact vb (dev_yes hhd (fun i hi => ha i (by omega))).symm | exact vb (dev_no0 (by unfold headR; rw [if_pos (by omega)])).symm | exact vb (dev_no0 (by unfold headR; rw [if_neg (by omega), if_pos (by omega)])).symm | exact vb (dev_no0 (by unfold headR; rw [if_neg (by omega), if_neg (by omega)]; simp only [hy0]; simp_all)).symm
                                · have hc34 := bp hb34
                                  refine l_ (h:=f_ (h:=l_ (h:=?_)))
                                  refine g_y (q_call (Rholds (nodG f ((q : Int), n.parent)) n.ino (hpe _)) ?_)
                                  rintro r rfl
                                  refine nt_ (h:=pf_ (h:=e_ (?_)))
                                  refine aw_cond rfl (fun hb35 => ?_) (fun hb35 => ?_)
                                  · have hc35 := bp hb35
                                    refine w_ (a_ (h:=e_ (aw_ret (x_blockR (x_thenR (x_thenR (x_blockR (x_thenR (?_)))))))))
                                    refine e_ret ?_
                                    first | exact vb (dev_no hlt (by unfold devAt; simp only [hy]; simp_all)).symm | exact vb (dev_yes hhd (fun i hi => ha i (by omega))).symm | exact vb (dev_no0 (by unfold headR; rw [if_pos (by omega)])).symm | exact vb (dev_no0 (by unfold headR; rw [if_neg (by omega), if_pos (by omega)])).symm | exact vb (dev_no0 (by unfold headR; rw [if_neg (by omega), if_neg (by omega)]; simp only [hy0]; simp_all)).symm
                                  · have hc35 := bp hb35
                                    refine aw_skip (x_blockN (t_ (aw_region (m_ (h:=ad_ (h:=a_ (h:=al_nil (?_))))))))
                                    refine x_then ?_
                                    refine ⟨_, _, ?_, ⟨j + 1, by omega, rfl, upto_next ha (by unfold devAt; simp only [hy]; simp_all), rfl⟩, (wk 2 0)⟩
                                    omega
                · have hc8 := bp hb8
                  refine aw_exit (x_thenE (x_thenE (ABlock_out (t_ (w_ (l_ (h:=?_)))))))
                  refine al_p rfl (q_call (Rreached d hdn) ?_)
                  rintro r rfl
                  refine a_ (h:=e_ (aw_ret (?_)))
                  refine e_ret ?_
                  first | exact vb (dev_no hlt (by unfold devAt; simp only [hy]; simp_all)).symm | exact vb (dev_yes hhd (fun i hi => ha i (by omega))).symm | exact vb (dev_no0 (by unfold headR; rw [if_pos (by omega)])).symm | exact vb (dev_no0 (by unfold headR; rw [if_neg (by omega), if_pos (by omega)])).symm | exact vb (dev_no0 (by unfold headR; rw [if_neg (by omega), if_neg (by omega)]; simp only [hy0]; simp_all)).symm

theorem Rvalid5 (f : Fls) (hf : FlsT f) : AFn Try.prog 49 [.agg (flsA f)] (fun r => r = .v (.bool (vldR f))) := by
  have hfew := hf.b.few
  have hel : (f.map dvcA).length = f.length := by simp
  refine enter Try.func49 rfl rfl rfl rfl rfl 0 rfl ?_
  refine w_ (b_ (h:=a_ (h:=e_ (q_ (w_ (f_ (h:=l_ (h:=n_ (h:=lt_ (h:=m_ (h:=?_)))))))))))
  refine al_gs false rfl rfl (fun hb1 => ?_) (fun hb1 => ?_)
  · have hc1 := bp hb1
    refine g0_ (h:=g0_ (h:=g0_ (h:=g0_ (h:=pt_ (h:=e_ (cy_ (h:=w_ (a_ (h:=e_ (aw_ret (x_thenR (?_))))))))))))
    refine e_ret ?_
    exact vb (by unfold vldR; rw [if_pos (by omega)])
  · have hc1 := bp hb1
    refine f_ (h:=l_ (h:=n_ (h:=gt_ (h:=pf_ (h:=e_ (?_))))))
    refine aw_cond rfl (fun hb2 => ?_) (fun hb2 => ?_)
    · have hc2 := bp hb2
      refine w_ (a_ (h:=e_ (aw_ret (x_thenR (?_)))))
      refine e_ret ?_
      exact vb (by unfold vldR; rw [if_neg (by omega), if_pos (by omega)])
    · have hc2 := bp hb2
      refine kt_ (q_ (w_ (a_ (h:=e_ (aw_block (?_))))))
      refine aw_loopW (fun m t => ∃ j : Nat, j ≤ f.length ∧ m = f.length - j ∧ (∀ i, i < j → vldAt f i = true) ∧ t = ⟨look [(1, .bp 0 0), (3, .v (.int .i64 (j : Int)))], ⟨[flsA f], []⟩⟩) (f.length) ((wk 1 0)) (⟨0, by omega, rfl, fun i hi => by omega, rfl⟩) ?_
      rintro m t ⟨j, hj, rfl, ha, rfl⟩
      refine q_ (w_ (m_ (h:=f_ (h:=l_ (h:=n_ (h:=lt_ (h:=e_ (?_))))))))
      refine aw_cond rfl (fun hb3 => ?_) (fun hb3 => ?_)
      · have hc3 := bp hb3
        obtain ⟨hlt, d, hy, hrow, -⟩ := row_at dvcA hc3
        refine kt_ (q_ (aw_block (w_ (l_ (h:=m_ (h:=?_))))))
        refine al_p rfl (q_call (Rdev f j d hf hy) ?_)
        rintro r rfl
        refine nt_ (h:=e_ (?_))
        refine aw_cond rfl (fun hb4 => ?_) (fun hb4 => ?_)
        · have hc4 := bp hb4
          refine w_ (a_ (h:=e_ (aw_ret (x_blockR (x_thenR (x_thenR (x_blockR (x_thenR (?_)))))))))
          refine e_ret ?_
          exact vb (by unfold vldR; rw [if_neg (by omega), if_neg (by omega)]; exact (range_no hlt (by unfold vldAt; simp only [hy]; simp_all)).symm)
        · have hc4 := bp hb4
          refine aw_skip (x_blockN (t_ (aw_region (m_ (h:=ad_ (h:=a_ (h:=al_nil (?_))))))))
          refine x_then ?_
          refine ⟨_, _, ?_, ⟨j + 1, by omega, rfl, upto_next ha (by unfold vldAt; simp only [hy]; simp_all), rfl⟩, (wk 1 0)⟩
          omega
      · have hc3 := bp hb3
        refine aw_exit (x_thenE (x_thenE (ABlock_out (t_ (w_ (a_ (h:=e_ (aw_ret (?_)))))))))
        refine e_ret ?_
        exact vb (by unfold vldR; rw [if_neg (by omega), if_neg (by omega)]; exact (range_yes (fun i hi => ha i (by omega))).symm)

end
end Go.Proofs.Ytgliiknfmlmddaa
namespace Go.Proofs.Ytgliiknfmlmddaa
open Go.RowKit

def Old (w : World) : Nat → Prop := fun b => b < w.heap.size
theorem below_drewN {B : Nat} {a w : World} (h : Below B a w) (n : Nat) : Below B a (w.drewN n) := ⟨h.os, h.tape, h.output, h.size, h.block⟩
theorem grown_of_below {w w' : World} (h : Below w.heap.size w w') (g : Option Nat) : w.grownBy w' g := ⟨h.os, h.tape, h.output, h.size, fun k hk _ => h.block k hk⟩


def FilV (at_ : Fil) : Value := .agg #[.int .i64 at_.1, .int .i64 at_.2]

theorem ret_bool {a b : Bool} (h : a = b) : Ending.returned (.bool a) = .returned (.bool b) := by rw [h]
theorem cell_of {w : World} {g : Nat} {cs : Array Value} {t : TypeId} {fz : Nat × Nat} (h : w.heap[g]? = some (.cells cs t fz)) (i : Nat) : w.cell? ⟨g, i, none⟩ = cs[i]? := by
  simp [World.cell?, h]
theorem frozen_of {w : World} {g : Nat} {cs : Array Value} {t : TypeId} (h : w.heap[g]? = some (.cells cs t (0, 0))) (i : Nat) : w.frozen? ⟨g, i, none⟩ = false := by
  simp [World.frozen?, h]

theorem blk_alloc {w : World} {b : Nat} {o : Obj} (h : w.heap[b]? = some o) (o' : Obj) : (w.alloc o').heap[b]? = some o := by
  have hb : b < w.heap.size := by
    rcases Nat.lt_or_ge b w.heap.size with hlt | hge
    · exact hlt
    · rw [Array.getElem?_eq_none hge] at h; cases h
  exact (Below.heap_alloc w o' b hb).trans h
theorem cells_of {w : World} {g : Nat} {cs : Array Value} {t : TypeId} (h : w.heap[g]? = some (.cells cs t (0, 0))) : (∀ i, w.cell? ⟨g, i, none⟩ = cs[i]?) ∧ (∀ i, w.frozen? ⟨g, i, none⟩ = false) :=
  ⟨fun i => cell_of h i, fun i => frozen_of h i⟩
theorem blk_set {w : World} {b : Nat} {cs : Array Value} {t : TypeId} {fz : Nat × Nat} (h : w.heap[b]? = some (.cells cs t fz)) (i : Nat) (u : Value) : (w.setCell ⟨b, i, none⟩ u).heap[b]? = some (.cells (cs.setIfInBounds i u) t fz) := by
  simp [World.setCell, Array.getElem?_modify, h]
theorem blk_far {w : World} {b : Nat} {o : Obj} (h : w.heap[b]? = some o) {p : Addr} (hp : b ≠ p.block) (u : Value) : (w.setCell p u).heap[b]? = some o := (Below.heap_setCell w p u b hp).trans h
theorem blk_below {w w' : World} {b B : Nat} {o : Obj} (h : w.heap[b]? = some o) (hg : Below B w w') (hb : b < B) : w'.heap[b]? = some o := (hg.block b hb).trans h


theorem below_a1 (w : World) (o1 : Obj) : Below w.heap.size w (w.alloc o1) := by
  exact (Below.refl _ w).alloc (Nat.le_refl _) _
theorem size_a1 (w : World) (o1 : Obj) : (w.alloc o1).heap.size = w.heap.size + 1 := by simp
theorem blk_a1_0 (w : World) (o1 : Obj) : (w.alloc o1).heap[w.heap.size]? = some o1 := (by have := heap_alloc_new w o1; simpa using this)
theorem below_a2 (w : World) (o1 o2 : Obj) : Below w.heap.size w ((w.alloc o1).alloc o2) := by
  exact (below_a1 w o1).alloc (by simp <;> omega) _
theorem size_a2 (w : World) (o1 o2 : Obj) : ((w.alloc o1).alloc o2).heap.size = w.heap.size + 2 := by simp
theorem blk_a2_0 (w : World) (o1 o2 : Obj) : ((w.alloc o1).alloc o2).heap[w.heap.size]? = some o1 := blk_alloc (blk_a1_0 w o1) _
theorem blk_a2_1 (w : World) (o1 o2 : Obj) : ((w.alloc o1).alloc o2).heap[w.heap.size + 1]? = some o2 := (by have := heap_alloc_new (w.alloc o1) o2; simpa using this)
theorem below_a3 (w : World) (o1 o2 o3 : Obj) : Below w.heap.size w (((w.alloc o1).alloc o2).alloc o3) := by
  exact (below_a2 w o1 o2).alloc (by simp <;> omega) _
theorem blk_a3_0 (w : World) (o1 o2 o3 : Obj) : (((w.alloc o1).alloc o2).alloc o3).heap[w.heap.size]? = some o1 := blk_alloc (blk_a2_0 w o1 o2) _
theorem blk_a3_1 (w : World) (o1 o2 o3 : Obj) : (((w.alloc o1).alloc o2).alloc o3).heap[w.heap.size + 1]? = some o2 := blk_alloc (blk_a2_1 w o1 o2) _
theorem blk_a3_2 (w : World) (o1 o2 o3 : Obj) : (((w.alloc o1).alloc o2).alloc o3).heap[w.heap.size + 1 + 1]? = some o3 := (by have := heap_alloc_new ((w.alloc o1).alloc o2) o3; simpa using this)
theorem below_a4 (w : World) (o1 o2 o3 o4 : Obj) : Below w.heap.size w ((((w.alloc o1).alloc o2).alloc o3).alloc o4) := by
  exact (below_a3 w o1 o2 o3).alloc (by simp <;> omega) _
theorem blk_a4_0 (w : World) (o1 o2 o3 o4 : Obj) : ((((w.alloc o1).alloc o2).alloc o3).alloc o4).heap[w.heap.size]? = some o1 := blk_alloc (blk_a3_0 w o1 o2 o3) _
theorem blk_a4_1 (w : World) (o1 o2 o3 o4 : Obj) : ((((w.alloc o1).alloc o2).alloc o3).alloc o4).heap[w.heap.size + 1]? = some o2 := blk_alloc (blk_a3_1 w o1 o2 o3) _
theorem blk_a4_2 (w : World) (o1 o2 o3 o4 : Obj) : ((((w.alloc o1).alloc o2).alloc o3).alloc o4).heap[w.heap.size + 1 + 1]? = some o3 := blk_alloc (blk_a3_2 w o1 o2 o3) _
theorem blk_a4_3 (w : World) (o1 o2 o3 o4 : Obj) : ((((w.alloc o1).alloc o2).alloc o3).alloc o4).heap[w.heap.size + 1 + 1 + 1]? = some o4 := (by have := heap_alloc_new (((w.alloc o1).alloc o2).alloc o3) o4; simpa using this)

end Go.Proofs.Ytgliiknfmlmddaa
namespace Go.Proofs.Ytgliiknfmlmddaa

abbrev Bs := List UInt8
def nmL (l : Bs) : Bool := decide (l ≠ [] ∧ l.length ≤ 12 ∧ l ≠ [46] ∧ l ≠ [46, 46] ∧ (0 : UInt8) ∉ l ∧ (47 : UInt8) ∉ l)
theorem nmL_iff {l : Bs} : nmL l = true ↔ l ≠ [] ∧ l.length ≤ 12 ∧ l ≠ [46] ∧ l ≠ [46, 46] ∧ (0 : UInt8) ∉ l ∧ (47 : UInt8) ∉ l := decide_eq_true_iff

end Go.Proofs.Ytgliiknfmlmddaa
namespace Go.Proofs.Ytgliiknfmlmddaa
open Go.RowKit

theorem toL (s : ByteArray) : s.toList = s.data.toList := Lib.toList_data s
theorem empty_iff' (s : ByteArray) : s.toList.isEmpty = decide (s.size = 0) := by
  rw [toL, Lib.size_eq, Bool.eq_iff_iff, List.isEmpty_iff, decide_eq_true_iff, List.length_eq_zero_iff]
end Go.Proofs.Ytgliiknfmlmddaa
namespace Go.Proofs.Ytgliiknfmlmddaa
open Go.RowKit

theorem encode_high (r : Int) (h0 : 128 ≤ r) (h1 : Lib.validRune r = true) :
    (∃ a b : UInt8, Utf8.encode r = ⟨#[a, b]⟩ ∧ 128 ≤ b.toNat) ∨ (∃ a b c : UInt8, Utf8.encode r = ⟨#[a, b, c]⟩) ∨ (∃ a b c d : UInt8, Utf8.encode r = ⟨#[a, b, c, d]⟩) := by
  have hv : Utf8.valid r = true := by
    have := of_decide_eq_true h1
    unfold Utf8.valid
    simp only [Bool.or_eq_true, Bool.and_eq_true, decide_eq_true_iff]
    omega
  unfold Utf8.encode
  simp only [hv, if_true]
  have hn : ¬ r.toNat < 128 := by omega
  rw [if_neg hn]
  by_cases h2 : r.toNat < 2048
  · rw [if_pos h2]
    refine .inl ⟨_, _, rfl, ?_⟩
    simp only [UInt8.toNat_ofNat']
    omega
  · rw [if_neg h2]
    by_cases h3 : r.toNat < 65536
    · rw [if_pos h3]
      exact .inr (.inl ⟨_, _, _, rfl⟩)
    · rw [if_neg h3]
      exact .inr (.inr ⟨_, _, _, _, rfl⟩)

set_option maxRecDepth 1000000 in
set_option maxHeartbeats 2000000 in
theorem IndexRune_bad (r : Int) (w : World) (h0 : 128 ≤ r) (h1 : r ≤ 2147483647) (h2 : r ≠ 65533) (hv : Lib.validRune r = false) :
    Calls Try.prog 126 #[.string ⟨#[0, 47]⟩, .int .i32 r] w fun e w' => e = .returned (.int .i64 (-1)) ∧ w = w' := by
  have h2' : (r == 65533) = false := by simpa using h2
  go_enter Try.func126, Try.ntmps126
  go_wp2_with (go_at_call 130; refine (Try.utf8_ValidRune _ _).mono ?_; rintro e w' ⟨rfl, rfl⟩; rw [hv])
  go_ret
  exact ⟨rfl, rfl⟩
set_option maxRecDepth 1000000 in
set_option maxHeartbeats 2000000 in
theorem IndexRune_good (r : Int) (w : World) (h0 : 128 ≤ r) (h1 : r ≤ 2147483647) (h2 : r ≠ 65533) (hv : Lib.validRune r = true) :
    Calls Try.prog 126 #[.string ⟨#[0, 47]⟩, .int .i32 r] w fun e w' => e = .returned (.int .i64 (-1)) ∧ Below w.heap.size w w' := by
  have h2' : (r == 65533) = false := by simpa using h2
  have hlt : decide (r < 128) = false := by simpa using h0
  rcases encode_high r h0 hv with ⟨a, b, he, hb⟩ | ⟨a, b, c, he⟩ | ⟨a, b, c, d, he⟩
  · have hne : ((((⟨#[0, 47]⟩ : ByteArray)[1]'(by decide)).toNat : Int) != (((⟨#[a, b]⟩ : ByteArray)[1]'(by show 1 < 2; decide)).toNat : Int)) = true := by
      show ((47 : Int) != (b.toNat : Int)) = true
      rw [bne_iff_ne]
      omega
    go_enter Try.func126, Try.ntmps126
    go_wp2_with (go_at_call 130; refine (Try.utf8_ValidRune _ _).mono ?_; rintro e w' ⟨rfl, rfl⟩; rw [hv])
    go_step3
    go_wp2
    refine wp_loop_rounds 1 ?_
    rw [rounds_succ]
    go_wp2
    go_step3
    go_wp2
    go_quiet (fail)
    have hb := below_drewN (Below.refl w'.heap.size w') nq
    generalize w'.drewN nq = wq at *
    go_wp2
    go_quiet ((go_at_call 120; exact Calls.quiet_of_same (Try.strings_IndexByte _ _ _)))
    go_wp2
    rw [Exit.noGoto_ret]
    go_wp2
    rw [Exit.noGoto_ret]
    go_wp2
    go_ret
    exact ⟨rfl, below_drewN hb _⟩
  · go_enter Try.func126, Try.ntmps126
    go_wp2_with (go_at_call 130; refine (Try.utf8_ValidRune _ _).mono ?_; rintro e w' ⟨rfl, rfl⟩; rw [hv])
    go_step3
    go_wp2
    refine wp_loop_rounds 1 ?_
    rw [rounds_succ]
    go_wp2
    rw [Exit.noGoto_ret]
    go_wp2
    go_ret
    exact ⟨rfl, Below.refl _ _⟩
  · go_enter Try.func126, Try.ntmps126
    go_wp2_with (go_at_call 130; refine (Try.utf8_ValidRune _ _).mono ?_; rintro e w' ⟨rfl, rfl⟩; rw [hv])
    go_step3
    go_wp2
    refine wp_loop_rounds 1 ?_
    rw [rounds_succ]
    go_wp2
    rw [Exit.noGoto_ret]
    go_wp2
    go_ret
    exact ⟨rfl, Below.refl _ _⟩

theorem two_at (i : Nat) (hi : i < 2) : ((⟨#[0, 47]⟩ : ByteArray)[i]'hi).toNat < 128 := by
  match i, hi with
  | 0, _ => show (0 : UInt8).toNat < 128; decide
  | 1, _ => show (47 : UInt8).toNat < 128; decide
set_option maxRecDepth 1000000 in
set_option maxHeartbeats 2000000 in
theorem IndexRune_err (w : World) :
    Calls Try.prog 126 #[.string ⟨#[0, 47]⟩, .int .i32 65533] w fun e w' => e = .returned (.int .i64 (-1)) ∧ Below w.heap.size w w' := by
  go_enter Try.func126, Try.ntmps126
  go_wp2
  go_loopg [5, 6] 2 (fun g _ _ wx => ∃ i : Nat, i + g = 2 ∧ wx = w.iter ⟨#[0, 47]⟩ i)
  case atStart => exact ⟨0, by omega, rfl⟩
  case round =>
    obtain ⟨i, hig, rfl⟩ := hrel
    cases gk with
    | zero =>
      obtain rfl : i = 2 := by omega
      have hnx := run_next_end (P := Try.prog) w ⟨#[0, 47]⟩ 2
      go_wp2
      go_ret
      exact ⟨rfl, (Below.refl _ _).alloc (Nat.le_refl _) _⟩
    | succ g =>
      have hi : i < 2 := by omega
      have hx := two_at i hi
      have hnx := fun ty => run_next_ascii (P := Try.prog) w ⟨#[0, 47]⟩ i ty hi hx
      generalize ((⟨#[0, 47]⟩ : ByteArray)[i]'hi) = x at *
      have hne : ((x.toNat : Int) == 65533) = false := beq_eq_false_iff_ne.2 (by omega)
      go_wp2
      go_roundg g
      case measure => omega
      case rel => exact ⟨i + 1, by omega, rfl⟩

end Go.Proofs.Ytgliiknfmlmddaa
namespace Go.Proofs.Ytgliiknfmlmddaa
open Go.RowKit

theorem decode_span (s : ByteArray) (i : Nat) (h : i < s.size) (ha : 128 ≤ (s[i]'h).toNat) :
    1 ≤ (Utf8.decode s i).2 ∧ i + (Utf8.decode s i).2 ≤ s.size ∧ ∀ k, k < (Utf8.decode s i).2 → 128 ≤ (s.get! (i + k)).toNat := by
  have hn : ¬ (s[i]'h).toNat < 128 := by omega
  have h0 : s.get! (i + 0) = s[i]'h := get_at s i h
  have g0 : 128 ≤ (s.get! (i + 0)).toNat := by rw [h0]; exact ha
  have c1 : ∀ k, (decide (i + k < s.size) && (s.get! (i + k)).toNat / 64 == 2) = true → i + k < s.size ∧ 128 ≤ (s.get! (i + k)).toNat := by
    intro k hk
    simp only [Bool.and_eq_true, decide_eq_true_iff, beq_iff_eq] at hk
    exact ⟨hk.1, by omega⟩
  have one : 1 ≤ 1 ∧ i + 1 ≤ s.size ∧ ∀ k, k < 1 → 128 ≤ (s.get! (i + k)).toNat := by
    refine ⟨Nat.le_refl _, h, fun k hk => ?_⟩
    obtain rfl : k = 0 := by omega
    exact g0
  unfold Utf8.decode
  simp only [h0, hn, if_false]
  split
  · rename_i hc
    rw [Bool.and_eq_true] at hc
    obtain ⟨a1, b1⟩ := c1 1 hc.2
    split
    · refine ⟨by simp, a1, fun k hk => ?_⟩
      have : k = 0 ∨ k = 1 := by simp at hk; omega
      rcases this with rfl | rfl
      · exact g0
      · exact b1
    · exact one
  · split
    · rename_i hc
      rw [Bool.and_eq_true, Bool.and_eq_true] at hc
      obtain ⟨a1, b1⟩ := c1 1 hc.1.2
      obtain ⟨a2, b2⟩ := c1 2 hc.2
      split
      · refine ⟨by simp, a2, fun k hk => ?_⟩
        have : k = 0 ∨ k = 1 ∨ k = 2 := by simp at hk; omega
        rcases this with rfl | rfl | rfl
        · exact g0
        · exact b1
        · exact b2
      · exact one
    · split
      · rename_i hc
        rw [Bool.and_eq_true, Bool.and_eq_true, Bool.and_eq_true] at hc
        obtain ⟨a1, b1⟩ := c1 1 hc.1.1.2
        obtain ⟨a2, b2⟩ := c1 2 hc.1.2
        obtain ⟨a3, b3⟩ := c1 3 hc.2
        split
        · refine ⟨by simp, a3, fun k hk => ?_⟩
          have : k = 0 ∨ k = 1 ∨ k = 2 ∨ k = 3 := by simp at hk; omega
          rcases this with rfl | rfl | rfl | rfl
          · exact g0
          · exact b1
          · exact b2
          · exact b3
        · exact one
      · exact one
theorem get!_at (s : ByteArray) (j : Nat) (hj : j < s.size) : s.data.toList[j]? = some (s.get! j) := by
  have := get_at s j hj
  rw [Nat.add_zero] at this
  rw [this]
  exact Lib.data_getElem? s j hj
theorem noAny_span {s : ByteArray} {i : Nat} (h : i < s.size) (ha : 128 ≤ (s[i]'h).toNat) (hno : Lib.NoAny s.data.toList [0, 47] i) : Lib.NoAny s.data.toList [0, 47] (i + (Utf8.decode s i).2) := by
  obtain ⟨_, h2, h3⟩ := decode_span s i h ha
  intro j b hj hb
  by_cases hlt : j < i
  · exact hno j b hlt hb
  · have := h3 (j - i) (by omega)
    rw [show i + (j - i) = j by omega] at this
    rw [get!_at s j (by omega)] at hb
    injection hb with hb
    rw [hb] at this
    have h0 : b ≠ 0 := by rintro rfl; simp at this
    have h47 : b ≠ 47 := by
      rintro rfl
      have : (47 : UInt8).toNat = 47 := rfl
      omega
    simp [h0, h47]

theorem IndexRune_high (r : Int) (w : World) (h0 : 128 ≤ r) (h1 : r ≤ 2147483647) :
    Calls Try.prog 126 #[.string ⟨#[0, 47]⟩, .int .i32 r] w fun e w' => e = .returned (.int .i64 (-1)) ∧ Below w.heap.size w w' := by
  by_cases h2 : r = 65533
  · subst h2; exact IndexRune_err w
  · cases hv : Lib.validRune r with
    | true => exact IndexRune_good r w h0 h1 h2 hv
    | false => exact (IndexRune_bad r w h0 h1 h2 hv).mono fun e w' h => ⟨h.1, by rw [← h.2]; exact Below.refl _ _⟩

def AnyQ (s : ByteArray) (w : World) (e : Ending) (w' : World) : Prop := ∃ v : Int, e = .returned (.int .i64 v) ∧ Below w.heap.size w w' ∧ ((0 ≤ v) ↔ ((0 : UInt8) ∈ s.data.toList ∨ (47 : UInt8) ∈ s.data.toList))
theorem any_none {s : ByteArray} (h : Lib.NoAny s.data.toList [0, 47] s.size) : ¬ ((0 : UInt8) ∈ s.data.toList ∨ (47 : UInt8) ∈ s.data.toList) := by
  rintro (h' | h')
  · obtain ⟨j, hj⟩ := List.mem_iff_getElem?.1 h'
    have := h j 0 (by rw [Lib.size_eq]; exact (List.getElem?_eq_some_iff.1 hj).1) hj
    simp at this
  · obtain ⟨j, hj⟩ := List.mem_iff_getElem?.1 h'
    have := h j 47 (by rw [Lib.size_eq]; exact (List.getElem?_eq_some_iff.1 hj).1) hj
    simp at this
theorem any_hit {s : ByteArray} {i : Nat} {x : UInt8} (hx : s.data.toList[i]? = some x) (h : [0, 47].contains x = true) : ((0 : UInt8) ∈ s.data.toList ∨ (47 : UInt8) ∈ s.data.toList) := by
  have hm := List.mem_of_getElem? hx
  simp at h
  rcases h with rfl | rfl
  · exact .inl hm
  · exact .inr hm

set_option maxRecDepth 1000000 in
set_option maxHeartbeats 4000000 in
theorem IndexAny_short (s : ByteArray) (w : World) (h8 : s.size ≤ 8) : Calls Try.prog 125 #[.string s, .string ⟨#[0, 47]⟩] w (AnyQ s w) := by
  have h8z : decide ((8 : Int) < (s.size : Int)) = false := decide_eq_false (by omega)
  go_enter Try.func125, Try.ntmps125
  go_wp2_with (go_at_call 127; refine (Try.strings_shouldUseASCIISet _ _).mono ?_; rintro e w' ⟨rfl, hw⟩; rw [hw, h8z])
  clear hw
  go_loopg [9, 10] s.size (fun g _ _ wx => ∃ i : Nat, s.size ≤ i + g ∧ i ≤ s.size ∧ wx.heap[w.heap.size]? = some (.stringIter s i) ∧ Below w.heap.size w wx ∧ Hid (Lib.NoAny s.data.toList [0, 47] i))
  case atStart => exact ⟨0, by omega, by omega, World.iter_heap w s 0, (Below.refl _ _).alloc (Nat.le_refl _) _, Lib.hid (Lib.NoAny.zero _ _)⟩
  case round =>
    obtain ⟨i, hg, hi, hit, hbel, hno⟩ := hrel
    have hks := hbel.size
    by_cases hlt : i < s.size
    · obtain ⟨g, rfl⟩ : ∃ g, gk = g + 1 := ⟨gk - 1, by omega⟩
      by_cases hx : (s[i]'hlt).toNat < 128
      · have hnx := fun ty => Lib.run_next_ascii_at (P := Try.prog) wr w.heap.size s i ty hit hlt hx
        have hxl : s.data.toList[i]? = some (s[i]'hlt) := Lib.data_getElem? s i hlt
        generalize (s[i]'hlt) = x at *
        have Hx := Lib.hid hxl
        have hit' := Lib.iterAt_heap wr w.heap.size s i (i + 1) hit
        have hbel' := Lib.below_iterAt hbel (Nat.le_refl _) s (i + 1)
        generalize wr.iterAt w.heap.size s (i + 1) = w1 at *
        have hcon := Lib.contains_iff_indexByte [0, 47] x
        have hback : ((x.toNat : Int)).toNat.toUInt8 = x := by simp
        have HI := Lib.hid hit'
        clear hxl hit hit'
        cases hin : [0, 47].contains x
        · rw [hin] at hcon
          have hneg : ¬ ((0 : Int) ≤ Lib.indexByte [0, 47] x) := of_decide_eq_false hcon.symm
          clear hcon
          go_wp2_with (go_at_call 126; refine (Try.strings_IndexRune_ascii _ _ _ (by omega) (by omega)).mono ?_; rintro e w' ⟨rfl, hw⟩; rw [hw, hback])
          go_roundg g
          case measure => omega
          case rel => exact ⟨i + 1, by omega, by omega, HI.out, hbel', Lib.hid (hno.out.succ Hx.out hin)⟩
        · rw [hin] at hcon
          have hpos : (0 : Int) ≤ Lib.indexByte [0, 47] x := of_decide_eq_true hcon.symm
          clear hcon
          go_wp2_with (go_at_call 126; refine (Try.strings_IndexRune_ascii _ _ _ (by omega) (by omega)).mono ?_; rintro e w' ⟨rfl, hw⟩; rw [hw, hback])
          go_ret
          exact ⟨_, rfl, hbel', ⟨fun _ => any_hit Hx.out hin, fun _ => by omega⟩⟩
      · have hx' : 128 ≤ (s[i]'hlt).toNat := by omega
        obtain ⟨p1, p2, _⟩ := decode_span s i hlt hx'
        have HN := Lib.hid (noAny_span hlt hx' hno.out)
        have q1 := (decode_high s i hlt hx').1
        have q2 := decode_le s i
        have hnx := fun ty => Lib.run_next_any_at (P := Try.prog) wr w.heap.size s i ty hit hlt
        generalize Utf8.decode s i = d at *
        obtain ⟨d1, d2⟩ := d
        simp only at *
        have hit' := Lib.iterAt_heap wr w.heap.size s i (i + d2) hit
        have hbel' := Lib.below_iterAt hbel (Nat.le_refl _) s (i + d2)
        have hsz := Lib.iterAt_size wr w.heap.size s (i + d2)
        generalize wr.iterAt w.heap.size s (i + d2) = w1 at *
        have hk1 : w.heap.size < w1.heap.size := (Array.getElem?_eq_some_iff.1 hit').1
        have HI := Lib.hid hit'
        clear hit hit' hsz
        go_wp2_with fail
        refine (IndexRune_high _ _ (by omega) (by omega)).mono ?_
        rintro e w2 ⟨rfl, hb2⟩
        go_wp2
        go_roundg g
        case measure => omega
        case rel => exact ⟨i + d2, by omega, by omega, (hb2.block _ hk1).trans HI.out, hbel'.trans (hb2.mono (by omega)), HN⟩
    · obtain rfl : i = s.size := by omega
      have hnx := fun ty => Lib.run_next_end_at (P := Try.prog) wr w.heap.size s s.size ty hit hlt
      go_wp2
      go_ret
      exact ⟨_, rfl, hbel, ⟨fun h => absurd h (by decide), fun h => absurd h (any_none hno.out)⟩⟩

end Go.Proofs.Ytgliiknfmlmddaa
namespace Go.Proofs.Ytgliiknfmlmddaa
open Go.RowKit

theorem indexAny_mem (s : ByteArray) : (0 ≤ Lib.indexAny s.data.toList [0, 47]) ↔ ((0 : UInt8) ∈ s.data.toList ∨ (47 : UInt8) ∈ s.data.toList) := by
  generalize s.data.toList = l
  induction l with
  | nil => simp [Lib.indexAny]
  | cons b l ih =>
    have hge := Lib.indexAny_ge [0, 47] l
    unfold Lib.indexAny
    by_cases hb : [0, 47].contains b = true
    · rw [if_pos hb]
      simp only [List.contains_cons, List.contains_nil, Bool.or_false, Bool.or_eq_true, beq_iff_eq] at hb
      rcases hb with rfl | rfl <;> simp
    · rw [if_neg hb]
      have h0 : (0 : UInt8) ≠ b := by rintro rfl; simp at hb
      have h47 : (47 : UInt8) ≠ b := by rintro rfl; simp at hb
      simp only [List.mem_cons, h0, h47, false_or]
      rw [← ih]
      split
      · rename_i h
        have : Lib.indexAny l [0, 47] = -1 := by simpa using h
        rw [this]
      · rename_i h
        have : Lib.indexAny l [0, 47] ≠ -1 := by simpa using h
        constructor <;> intro h' <;> omega
theorem IndexAny_any (s : ByteArray) (w : World) (hs : s.size ≤ 1000000) : Calls Try.prog 125 #[.string s, .string ⟨#[0, 47]⟩] w (AnyQ s w) := by
  by_cases h8 : s.size ≤ 8
  · exact IndexAny_short s w h8
  · refine (Try.strings_IndexAny_long (fun w => by kernel_rfl) s ⟨#[0, 47]⟩ w (by decide) (by omega) (by omega) (by decide) ?_).mono ?_
    · intro j b hj
      have : b ∈ [0, 47] := List.mem_of_getElem? hj
      simp at this
      rcases this with rfl | rfl <;> decide
    · rintro e w' ⟨rfl, rfl⟩
      exact ⟨_, rfl, below_a2 _ _ _, indexAny_mem s⟩
def badB (s : ByteArray) : Bool := decide ((0 : UInt8) ∈ s.data.toList ∨ (47 : UInt8) ∈ s.data.toList)
theorem ContainsAny_any (s : ByteArray) (w : World) (hs : s.size ≤ 1000000) :
    Calls Try.prog 123 #[.string s, .string ⟨#[0, 47]⟩] w fun e w' => e = .returned (.bool (badB s)) ∧ Below w.heap.size w w' := by
  go_enter Try.func123, Try.ntmps123
  go_wp2_with fail
  refine (IndexAny_any s w hs).mono ?_
  rintro e w' ⟨v, rfl, hb, hv⟩
  have HV := Lib.hid hv
  clear hv
  go_wp2
  go_ret
  exact ⟨ret_bool (decide_eq_decide.2 HV.out), hb⟩

theorem eq_dot (s : ByteArray) : (s.toList == [46]) = decide (s.data.toList = [46]) := by rw [toL, Bool.eq_iff_iff]; simp
theorem eq_dots (s : ByteArray) : (s.toList == [46, 46]) = decide (s.data.toList = [46, 46]) := by rw [toL, Bool.eq_iff_iff]; simp
set_option maxHeartbeats 1000000 in
theorem PName_any (s : ByteArray) (w : World) :
    Calls Try.prog 121 #[.string s] w fun e w' => e = .returned (.bool (nmL s.data.toList)) ∧ Below w.heap.size w w' := by
  have hsz := Lib.size_eq s
  by_cases h0 : s.size = 0
  · have he : s.toList.isEmpty = true := by rw [empty_iff']; simp [h0]
    have he' : s.toList = [] := List.isEmpty_iff.1 he
    have HF : Hid (nmL s.data.toList = false) := Lib.hid (by
      rw [← toL, he']; rfl)
    clear hsz
    go_enter Try.func121, Try.ntmps121
    go_wp2
    go_ret
    exact ⟨ret_bool HF.out.symm, Below.refl _ _⟩
  · have he : s.toList.isEmpty = false := by rw [empty_iff']; simp [h0]
    have hne : s.data.toList ≠ [] := by intro e; rw [e] at hsz; exact h0 hsz
    by_cases h12 : s.size ≤ 12
    · have hle : decide ((s.size : Int) ≤ 12) = true := decide_eq_true (by omega)
      by_cases h1 : s.data.toList = [46]
      · have e1 : (s.toList == [46]) = true := by rw [eq_dot]; simp [h1]
        have e1' : (s.toList != [46]) = false := by simp [bne, e1]
        have HF : Hid (nmL s.data.toList = false) := Lib.hid (by rw [h1]; rfl)
        clear hsz hne h1
        go_enter Try.func121, Try.ntmps121
        go_wp2
        go_ret
        exact ⟨ret_bool HF.out.symm, Below.refl _ _⟩
      · have e1 : (s.toList == [46]) = false := by rw [eq_dot]; simp [h1]
        have e1' : (s.toList != [46]) = true := by simp [bne, e1]
        by_cases h2 : s.data.toList = [46, 46]
        · have e2 : (s.toList == [46, 46]) = true := by rw [eq_dots]; simp [h2]
          have e2' : (s.toList != [46, 46]) = false := by simp [bne, e2]
          have HF : Hid (nmL s.data.toList = false) := Lib.hid (by rw [h2]; rfl)
          clear hsz hne h1 h2
          go_enter Try.func121, Try.ntmps121
          go_wp2
          go_ret
          exact ⟨ret_bool HF.out.symm, Below.refl _ _⟩
        · have e2 : (s.toList == [46, 46]) = false := by rw [eq_dots]; simp [h2]
          have e2' : (s.toList != [46, 46]) = true := by simp [bne, e2]
          have HF : Hid (nmL s.data.toList = !badB s) := Lib.hid (by
            unfold badB
            rw [Bool.eq_iff_iff, nmL_iff]
            simp only [Bool.not_eq_true', decide_eq_false_iff_not, not_or]
            exact ⟨fun h => h.2.2.2.2, fun h => ⟨hne, by omega, h1, h2, h⟩⟩)
          clear hsz hne h1 h2
          go_enter Try.func121, Try.ntmps121
          go_wp2_with fail
          refine (ContainsAny_any s _ (by omega)).mono ?_
          rintro e w' ⟨rfl, hb⟩
          go_wp2
          go_ret
          exact ⟨ret_bool HF.out.symm, hb⟩
    · have hle : decide ((s.size : Int) ≤ 12) = false := decide_eq_false (by omega)
      have HF : Hid (nmL s.data.toList = false) := Lib.hid (decide_eq_false (fun h => by have := h.2.1; omega))
      clear hsz hne
      go_enter Try.func121, Try.ntmps121
      go_wp2
      go_ret
      exact ⟨ret_bool HF.out.symm, Below.refl _ _⟩

end Go.Proofs.Ytgliiknfmlmddaa
namespace Go.Proofs.Ytgliiknfmlmddaa

theorem byte47 (x : UInt8) : ((x.toNat : Int) == 47) = decide (x = 47) := by
  rw [Bool.eq_iff_iff, beq_iff_eq, decide_eq_true_iff]
  constructor
  · intro h
    apply UInt8.toNat_inj.1
    have : (47 : UInt8).toNat = 47 := rfl
    omega
  · rintro rfl; rfl
theorem toLd (s : ByteArray) : s.toList = s.data.toList := Lib.toList_data s
theorem nameL_eq (s : Str) : nameL s = nmL s.data.toList := by
  have hs := Lib.size_eq s
  rw [Bool.eq_iff_iff, nmL_iff]
  unfold nameL
  by_cases h1 : s.size < 1 ∨ 12 < s.size
  · rw [if_pos h1]
    constructor
    · intro h; cases h
    · rintro ⟨h2, h3, _⟩
      have : 0 < s.data.toList.length := List.length_pos_iff.2 h2
      omega
  · rw [if_neg h1, eq_dot, eq_dots]
    have hne : s.data.toList ≠ [] := by intro e; rw [e] at hs; change s.size = 0 at hs; omega
    by_cases h2 : s.data.toList = [46]
    · rw [if_pos (decide_eq_true h2)]
      constructor
      · intro h; cases h
      · exact fun h => absurd h2 h.2.2.1
    · rw [if_neg (by simpa using h2)]
      by_cases h3 : s.data.toList = [46, 46]
      · rw [if_pos (decide_eq_true h3)]
        constructor
        · intro h; cases h
        · exact fun h => absurd h3 h.2.2.2.1
      · rw [if_neg (by simpa using h3), List.all_eq_true]
        have hb : ∀ c : UInt8, byteOK c = true ↔ c ≠ 0 ∧ c ≠ 47 := by
          intro c
          unfold byteOK
          rw [Bool.and_eq_true, byte47]
          have : ((c.toNat : Int) == 0) = decide (c = 0) := by
            rw [Bool.eq_iff_iff, beq_iff_eq, decide_eq_true_iff]
            constructor
            · intro h
              apply UInt8.toNat_inj.1
              have : (0 : UInt8).toNat = 0 := rfl
              omega
            · rintro rfl; rfl
          rw [this]
          simp
        constructor
        · intro h
          exact ⟨hne, by omega, h2, h3, fun h0 => ((hb _).1 (h _ h0)).1 rfl, fun h0 => ((hb _).1 (h _ h0)).2 rfl⟩
        · rintro ⟨_, _, _, _, h0, h47⟩ c hc
          exact (hb c).2 ⟨fun e => h0 (e ▸ hc), fun e => h47 (e ▸ hc)⟩
end Go.Proofs.Ytgliiknfmlmddaa
