/-
  Part 11 of the proof of FilesKeepP: what the statement's proof uses of the texts in wip/tpl.
-/
import Derived.Test.YthcbdkmhamhciaaProg
import Derived.WalkKit
import Derived.WalkSpells
import Derived.WalkLawsBesides
import Derived.Deep.QuietTactic
import Derived.BigQuiet
import Derived.Lib.Hide
import Derived.Outline
import Derived.Lib.Strings
import Derived.Lib.IndexLaws
import Derived.Lib.LastIndexByte
import Derived.Lib.IndexAny
import Derived.Test.YthcbdkmhamhciaaShelf
import Derived.Laws.RangeAny
import Derived.Deep.LoopGhost
import Derived.Lib.OthersKept
import Derived.Test.YthcbdkmhamhciaaQk10
namespace Go.Proofs.Ythcbdkmhamhciaa
open Go.RowKit
theorem NX_ino {ns : List Nod} {i j : Nat} {nI x : Nod} {e : AV} {cap1 : Nat} (hi : ns[i]? = some nI) (hx : ns[j]? = some x) : (NX ns i nI e cap1)[0 + j * 8 + 0]? = some (.v (.int .i64 x.ino)) := by
 by_cases h : i = j
 ·subst h
  rw [hi] at hx
  injection hx with hx
  subst hx
  exact NX_get (List.getElem?_eq_some_iff.1 hi).1 rfl
 refine rowsB_get (r := nodF x) (NX_eight _ _ _ _) ?_ rfl
 rw [List.getElem?_set_ne h, List.getElem?_map, hx]
 rfl
section
set_option maxRecDepth 10000
set_option maxHeartbeats 1000000
theorem PfindR0 (f : Fls) (K : Nat) (dK : Dvc) (i : Nat) (nI : Nod) (a : Fil) (R : List AV)  (hR : ∀ (j : Nat) (x : Nod), dK.nodes[j]? = some x → R[0 + j * 8 + 0]? = some (.v (.int .i64 x.ino))) (hbp : ∀ q, 2 ≤ q → bpLtL q 0 R = true)  (hK : K < f.length) (hi : dK.nodes[i]? = some nI) (hak : a.1 = (K : Int)) (hin : nI.ino = a.2) (hfst : ∀ k x, k < i → dK.nodes[k]? = some x → x.ino ≠ a.2) (hfew : f.length ≤ 1000) (hdn : dK.nodes.length ≤ 1000) : ACall Try.prog 65 [.agg [.bs 0 0 2 f.length f.length], .agg (filA a)] [DB f K dK 1 f.length dK.nodes.length, R] (fun r b t => t = [] ∧ r = .bp 1 (0 + i * 8) ∧ b = [DB f K dK 1 f.length dK.nodes.length, R]) := by
 have hKl := hK
 have hil := (List.getElem?_eq_some_iff.1 hi).1
 have hD : (DB f K dK 1 f.length dK.nodes.length)[0 + K * 2 + 1]? = some (.bs 1 0 8 dK.nodes.length dK.nodes.length) := DB_nodes hKl
 refine enter Try.func65 rfl rfl rfl rfl rfl 2 rfl ?_
 refine w_ (b_ (h:=b_ (h:=a_ (h:=e_ (q_ (w_ (f_ (h:=l_ (h:=lt_ (h:=m_ (h:=?_)))))))))))
 refine al_gs false rfl rfl (fun hb1 => ?_) (fun hb1 => ?_)
 ·have hc1 := bp hb1
  exfalso; omega
 have hc1 := bp hb1
 refine f_ (h:=l_ (h:=f_ (h:=l_ (h:=?_))))
 refine g_y (st_lenB rfl ?_)
 refine ge_ (h:=pf_ (h:=e_ (?_)))
 refine aw_cond rfl (fun hb2 => ?_) (fun hb2 => ?_)
 ·have hc2 := bp hb2
  exfalso; omega
 have hc2 := bp hb2
 refine kt_ (w_ (f_ (h:=l_ (h:=f_ (h:=l_ (h:=?_))))))
 refine al_p rfl (st_indexS (m := K) rfl rfl hak hKl ?_)
 refine f_ (h:=?_)
 refine al_p rfl (st_loadB1 rfl rfl hD ?_)
 refine a_ (h:=e_ (q_ (w_ (m_ (h:=?_)))))
 refine al_p rfl (st_lenB rfl ?_)
 refine m_ (h:=e_ (aw_block (?_)))
 refine aw_loopW (fun m t => ∃ j : Nat, j ≤ dK.nodes.length ∧ m = dK.nodes.length - j ∧ (∀ k x, k < j → dK.nodes[k]? = some x → x.ino ≠ a.2) ∧ t = ⟨look [(3, .bp 3 0), (5, .bs 1 0 8 dK.nodes.length dK.nodes.length), (26, .v (.int .i64 (dK.nodes.length : Int))), (27, .v (.int .i64 (j : Int)))], ⟨[DB f K dK 1 f.length dK.nodes.length, R, [.bs 0 0 2 f.length f.length], filA a], []⟩⟩) (dK.nodes.length) (wb_ 4 0 (by simp [bpLtB, bpLtL, bpLt, bp_DB, hbp, filA])) (⟨0, Nat.zero_le _, rfl, fun k x hk => by omega, rfl⟩) ?_
 rintro m t ⟨j, hj, rfl, hnot, rfl⟩
 refine w_ (lt_ (h:=e_ (q_ (?_))))
 refine aw_cond rfl (fun hb3 => ?_) (fun hb3 => ?_)
 ·have hc3 := bp hb3
  have hjl : j < dK.nodes.length := by omega
  obtain ⟨x, hy⟩ : ∃ x, dK.nodes[j]? = some x := ⟨_, List.getElem?_eq_getElem hjl⟩
  refine kt_ (q_ (aw_block (w_ (m_ (h:=a_ (h:=e_ (q_ (yr_ 8 (h:=dm_ 0 (h:=dm_ 1 (h:=?_)))))))))))
  refine r_y (i := 2) rfl (st_indexS (m := j) rfl rfl rfl hjl ⟨rfl, rfl⟩) ?_
  refine df_ 3 (h:=?_)
  refine r_y (i := 4) rfl (st_loadB1 rfl rfl (hR _ _ hy) ⟨rfl, rfl⟩) ?_
  refine df_ 5 (h:=dl_ 6 (h:=deq_ 7 (h:=z_ (h:=t_ (?_)))))
  refine aw_cond rfl (fun hb4 => ?_) (fun hb4 => ?_)
  ·have hc4 := bp hb4
   obtain rfl : j = i := by
    rcases Nat.lt_trichotomy j i with h | h | h
    ·exact absurd hc4 (hfst j x h hy)
    ·exact h
    exact absurd hin (hnot i nI h hi)
   refine w_ (m_ (h:=m_ (h:=?_)))
   refine al_p rfl (st_indexS (m := j) rfl rfl rfl hjl ?_)
   refine a_ (h:=e_ (aw_ret (x_blockR (x_thenR (x_thenR (x_blockR (x_thenR (?_))))))))
   refine abody_ret none (by repeat (first | exact ResA.nil | (apply ResA.tmp; (focus exact rfl)) | (apply ResA.cellN; (focus exact inferInstance); (focus exact rfl); (focus exact rfl); (focus exact rfl)) | (apply ResA.cell1; (focus exact inferInstance); (focus exact rfl); (focus exact rfl); (focus exact rfl)))) rfl rfl (by simp [bpLtB, bpLtL, bpLt, bp_DB, hbp, filA]) (LeA.refl _) ⟨rfl, rfl, rfl⟩
  have hc4 := bp hb4
  refine aw_skip (x_blockN (t_ (aw_region (ad_ (h:=m_ (h:=al_nil (?_)))))))
  refine x_then ?_
  refine ⟨dK.nodes.length - (j + 1), _, by omega, ⟨j + 1, by omega, rfl, fun k y hk hk2 => ?_, rfl⟩, wb_ 4 0 (by simp [bpLtB, bpLtL, bpLt, bp_DB, hbp, filA])⟩
  rcases Nat.lt_succ_iff_lt_or_eq.1 hk with h | rfl
  ·exact hnot k y h hk2
  rw [hy] at hk2; injection hk2 with hk2; subst hk2; assumption
 have hc3 := bp hb3
 exact absurd hin (hnot i nI (by omega) hi)
theorem back_findR0 {bx : List (List AV)} {i0 i1 : Nat} {f : Fls} {q : Nat} {d : Dvc} {c c1 : Nat} {R R' : List AV}  (h0 : bx[i0]? = some (DB f q d i1 c c1)) (h1 : bx[i1]? = some R') (g1 : renL (backS [i0, i1] bx.length) R = R')  : Back bx [i0, i1] [DB f q d 1 c c1, R] bx := by
 refine ⟨by simp, fun _ _ _ h => h, fun k j row hk hr => ?_, fun k row hk => by simp at hk⟩
 match k, hk, hr with
 | 0, hk, hr =>
   simp at hk hr; subst hk hr
   rw [h0, ren_DB (j' := i1) (by simp [backS])]
 | 1, hk, hr =>
   simp at hk hr; subst hk hr
   rw [h1, g1]
 | k + 2, hk, _ => simp at hk
theorem PfindR1 (f : Fls) (K : Nat) (dK : Dvc) (i : Nat) (nI : Nod) (a : Fil) (R : List AV) (E1 : List AV) (hR : ∀ (j : Nat) (x : Nod), dK.nodes[j]? = some x → R[0 + j * 8 + 0]? = some (.v (.int .i64 x.ino))) (hbp : ∀ q, 3 ≤ q → bpLtL q 0 R = true) (hbE1 : ∀ q, 3 ≤ q → bpLtL q 0 E1 = true) (hK : K < f.length) (hi : dK.nodes[i]? = some nI) (hak : a.1 = (K : Int)) (hin : nI.ino = a.2) (hfst : ∀ k x, k < i → dK.nodes[k]? = some x → x.ino ≠ a.2) (hfew : f.length ≤ 1000) (hdn : dK.nodes.length ≤ 1000) : ACall Try.prog 65 [.agg [.bs 0 0 2 f.length f.length], .agg (filA a)] [DB f K dK 1 f.length dK.nodes.length, R, E1] (fun r b t => t = [] ∧ r = .bp 1 (0 + i * 8) ∧ b = [DB f K dK 1 f.length dK.nodes.length, R, E1]) := by
 have hKl := hK
 have hil := (List.getElem?_eq_some_iff.1 hi).1
 have hD : (DB f K dK 1 f.length dK.nodes.length)[0 + K * 2 + 1]? = some (.bs 1 0 8 dK.nodes.length dK.nodes.length) := DB_nodes hKl
 refine enter Try.func65 rfl rfl rfl rfl rfl 3 rfl ?_
 refine w_ (b_ (h:=b_ (h:=a_ (h:=e_ (q_ (w_ (f_ (h:=l_ (h:=lt_ (h:=m_ (h:=?_)))))))))))
 refine al_gs false rfl rfl (fun hb1 => ?_) (fun hb1 => ?_)
 ·have hc1 := bp hb1
  exfalso; omega
 have hc1 := bp hb1
 refine f_ (h:=l_ (h:=f_ (h:=l_ (h:=?_))))
 refine g_y (st_lenB rfl ?_)
 refine ge_ (h:=pf_ (h:=e_ (?_)))
 refine aw_cond rfl (fun hb2 => ?_) (fun hb2 => ?_)
 ·have hc2 := bp hb2
  exfalso; omega
 have hc2 := bp hb2
 refine kt_ (w_ (f_ (h:=l_ (h:=f_ (h:=l_ (h:=?_))))))
 refine al_p rfl (st_indexS (m := K) rfl rfl hak hKl ?_)
 refine f_ (h:=?_)
 refine al_p rfl (st_loadB1 rfl rfl hD ?_)
 refine a_ (h:=e_ (q_ (w_ (m_ (h:=?_)))))
 refine al_p rfl (st_lenB rfl ?_)
 refine m_ (h:=e_ (aw_block (?_)))
 refine aw_loopW (fun m t => ∃ j : Nat, j ≤ dK.nodes.length ∧ m = dK.nodes.length - j ∧ (∀ k x, k < j → dK.nodes[k]? = some x → x.ino ≠ a.2) ∧ t = ⟨look [(3, .bp 4 0), (5, .bs 1 0 8 dK.nodes.length dK.nodes.length), (26, .v (.int .i64 (dK.nodes.length : Int))), (27, .v (.int .i64 (j : Int)))], ⟨[DB f K dK 1 f.length dK.nodes.length, R, E1, [.bs 0 0 2 f.length f.length], filA a], []⟩⟩) (dK.nodes.length) (wb_ 5 0 (by simp [bpLtB, bpLtL, bpLt, bp_DB, hbp, filA, hbE1])) (⟨0, Nat.zero_le _, rfl, fun k x hk => by omega, rfl⟩) ?_
 rintro m t ⟨j, hj, rfl, hnot, rfl⟩
 refine w_ (lt_ (h:=e_ (q_ (?_))))
 refine aw_cond rfl (fun hb3 => ?_) (fun hb3 => ?_)
 ·have hc3 := bp hb3
  have hjl : j < dK.nodes.length := by omega
  obtain ⟨x, hy⟩ : ∃ x, dK.nodes[j]? = some x := ⟨_, List.getElem?_eq_getElem hjl⟩
  refine kt_ (q_ (aw_block (w_ (m_ (h:=a_ (h:=e_ (q_ (yr_ 8 (h:=dm_ 0 (h:=dm_ 1 (h:=?_)))))))))))
  refine r_y (i := 2) rfl (st_indexS (m := j) rfl rfl rfl hjl ⟨rfl, rfl⟩) ?_
  refine df_ 3 (h:=?_)
  refine r_y (i := 4) rfl (st_loadB1 rfl rfl (hR _ _ hy) ⟨rfl, rfl⟩) ?_
  refine df_ 5 (h:=dl_ 6 (h:=deq_ 7 (h:=z_ (h:=t_ (?_)))))
  refine aw_cond rfl (fun hb4 => ?_) (fun hb4 => ?_)
  ·have hc4 := bp hb4
   obtain rfl : j = i := by
    rcases Nat.lt_trichotomy j i with h | h | h
    ·exact absurd hc4 (hfst j x h hy)
    ·exact h
    exact absurd hin (hnot i nI h hi)
   refine w_ (m_ (h:=m_ (h:=?_)))
   refine al_p rfl (st_indexS (m := j) rfl rfl rfl hjl ?_)
   refine a_ (h:=e_ (aw_ret (x_blockR (x_thenR (x_thenR (x_blockR (x_thenR (?_))))))))
   refine abody_ret none (by repeat (first | exact ResA.nil | (apply ResA.tmp; (focus exact rfl)) | (apply ResA.cellN; (focus exact inferInstance); (focus exact rfl); (focus exact rfl); (focus exact rfl)) | (apply ResA.cell1; (focus exact inferInstance); (focus exact rfl); (focus exact rfl); (focus exact rfl)))) rfl rfl (by simp [bpLtB, bpLtL, bpLt, bp_DB, hbp, filA, hbE1]) (LeA.refl _) ⟨rfl, rfl, rfl⟩
  have hc4 := bp hb4
  refine aw_skip (x_blockN (t_ (aw_region (ad_ (h:=m_ (h:=al_nil (?_)))))))
  refine x_then ?_
  refine ⟨dK.nodes.length - (j + 1), _, by omega, ⟨j + 1, by omega, rfl, fun k y hk hk2 => ?_, rfl⟩, wb_ 5 0 (by simp [bpLtB, bpLtL, bpLt, bp_DB, hbp, filA, hbE1])⟩
  rcases Nat.lt_succ_iff_lt_or_eq.1 hk with h | rfl
  ·exact hnot k y h hk2
  rw [hy] at hk2; injection hk2 with hk2; subst hk2; assumption
 have hc3 := bp hb3
 exact absurd hin (hnot i nI (by omega) hi)
theorem back_findR1 {bx : List (List AV)} {i0 i1 i2 : Nat} {f : Fls} {q : Nat} {d : Dvc} {c c1 : Nat} {R R' : List AV} {E1 : List AV} (h0 : bx[i0]? = some (DB f q d i1 c c1)) (h1 : bx[i1]? = some R') (g1 : renL (backS [i0, i1, i2] bx.length) R = R') (h2 : bx[i2]? = some E1) (g2 : ∀ g, renL g E1 = E1) : Back bx [i0, i1, i2] [DB f q d 1 c c1, R, E1] bx := by
 refine ⟨by simp, fun _ _ _ h => h, fun k j row hk hr => ?_, fun k row hk => by simp at hk⟩
 match k, hk, hr with
 | 0, hk, hr =>
   simp at hk hr; subst hk hr
   rw [h0, ren_DB (j' := i1) (by simp [backS])]
 | 1, hk, hr =>
   simp at hk hr; subst hk hr
   rw [h1, g1]
 | 2, hk, hr =>
   simp at hk hr; subst hk hr
   rw [h2, g2]
 | k + 3, hk, _ => simp at hk
theorem PfindR2 (f : Fls) (K : Nat) (dK : Dvc) (i : Nat) (nI : Nod) (a : Fil) (R : List AV) (E1 : List AV) (E2 : List AV) (hR : ∀ (j : Nat) (x : Nod), dK.nodes[j]? = some x → R[0 + j * 8 + 0]? = some (.v (.int .i64 x.ino))) (hbp : ∀ q, 4 ≤ q → bpLtL q 0 R = true) (hbE1 : ∀ q, 4 ≤ q → bpLtL q 0 E1 = true) (hbE2 : ∀ q, 4 ≤ q → bpLtL q 0 E2 = true) (hK : K < f.length) (hi : dK.nodes[i]? = some nI) (hak : a.1 = (K : Int)) (hin : nI.ino = a.2) (hfst : ∀ k x, k < i → dK.nodes[k]? = some x → x.ino ≠ a.2) (hfew : f.length ≤ 1000) (hdn : dK.nodes.length ≤ 1000) : ACall Try.prog 65 [.agg [.bs 0 0 2 f.length f.length], .agg (filA a)] [DB f K dK 1 f.length dK.nodes.length, R, E1, E2] (fun r b t => t = [] ∧ r = .bp 1 (0 + i * 8) ∧ b = [DB f K dK 1 f.length dK.nodes.length, R, E1, E2]) := by
 have hKl := hK
 have hil := (List.getElem?_eq_some_iff.1 hi).1
 have hD : (DB f K dK 1 f.length dK.nodes.length)[0 + K * 2 + 1]? = some (.bs 1 0 8 dK.nodes.length dK.nodes.length) := DB_nodes hKl
 refine enter Try.func65 rfl rfl rfl rfl rfl 4 rfl ?_
 refine w_ (b_ (h:=b_ (h:=a_ (h:=e_ (q_ (w_ (f_ (h:=l_ (h:=lt_ (h:=m_ (h:=?_)))))))))))
 refine al_gs false rfl rfl (fun hb1 => ?_) (fun hb1 => ?_)
 ·have hc1 := bp hb1
  exfalso; omega
 have hc1 := bp hb1
 refine f_ (h:=l_ (h:=f_ (h:=l_ (h:=?_))))
 refine g_y (st_lenB rfl ?_)
 refine ge_ (h:=pf_ (h:=e_ (?_)))
 refine aw_cond rfl (fun hb2 => ?_) (fun hb2 => ?_)
 ·have hc2 := bp hb2
  exfalso; omega
 have hc2 := bp hb2
 refine kt_ (w_ (f_ (h:=l_ (h:=f_ (h:=l_ (h:=?_))))))
 refine al_p rfl (st_indexS (m := K) rfl rfl hak hKl ?_)
 refine f_ (h:=?_)
 refine al_p rfl (st_loadB1 rfl rfl hD ?_)
 refine a_ (h:=e_ (q_ (w_ (m_ (h:=?_)))))
 refine al_p rfl (st_lenB rfl ?_)
 refine m_ (h:=e_ (aw_block (?_)))
 refine aw_loopW (fun m t => ∃ j : Nat, j ≤ dK.nodes.length ∧ m = dK.nodes.length - j ∧ (∀ k x, k < j → dK.nodes[k]? = some x → x.ino ≠ a.2) ∧ t = ⟨look [(3, .bp 5 0), (5, .bs 1 0 8 dK.nodes.length dK.nodes.length), (26, .v (.int .i64 (dK.nodes.length : Int))), (27, .v (.int .i64 (j : Int)))], ⟨[DB f K dK 1 f.length dK.nodes.length, R, E1, E2, [.bs 0 0 2 f.length f.length], filA a], []⟩⟩) (dK.nodes.length) (wb_ 6 0 (by simp [bpLtB, bpLtL, bpLt, bp_DB, hbp, filA, hbE1, hbE2])) (⟨0, Nat.zero_le _, rfl, fun k x hk => by omega, rfl⟩) ?_
 rintro m t ⟨j, hj, rfl, hnot, rfl⟩
 refine w_ (lt_ (h:=e_ (q_ (?_))))
 refine aw_cond rfl (fun hb3 => ?_) (fun hb3 => ?_)
 ·have hc3 := bp hb3
  have hjl : j < dK.nodes.length := by omega
  obtain ⟨x, hy⟩ : ∃ x, dK.nodes[j]? = some x := ⟨_, List.getElem?_eq_getElem hjl⟩
  refine kt_ (q_ (aw_block (w_ (m_ (h:=a_ (h:=e_ (q_ (yr_ 8 (h:=dm_ 0 (h:=dm_ 1 (h:=?_)))))))))))
  refine r_y (i := 2) rfl (st_indexS (m := j) rfl rfl rfl hjl ⟨rfl, rfl⟩) ?_
  refine df_ 3 (h:=?_)
  refine r_y (i := 4) rfl (st_loadB1 rfl rfl (hR _ _ hy) ⟨rfl, rfl⟩) ?_
  refine df_ 5 (h:=dl_ 6 (h:=deq_ 7 (h:=z_ (h:=t_ (?_)))))
  refine aw_cond rfl (fun hb4 => ?_) (fun hb4 => ?_)
  ·have hc4 := bp hb4
   obtain rfl : j = i := by
    rcases Nat.lt_trichotomy j i with h | h | h
    ·exact absurd hc4 (hfst j x h hy)
    ·exact h
    exact absurd hin (hnot i nI h hi)
   refine w_ (m_ (h:=m_ (h:=?_)))
   refine al_p rfl (st_indexS (m := j) rfl rfl rfl hjl ?_)
   refine a_ (h:=e_ (aw_ret (x_blockR (x_thenR (x_thenR (x_blockR (x_thenR (?_))))))))
   refine abody_ret none (by repeat (first | exact ResA.nil | (apply ResA.tmp; (focus exact rfl)) | (apply ResA.cellN; (focus exact inferInstance); (focus exact rfl); (focus exact rfl); (focus exact rfl)) | (apply ResA.cell1; (focus exact inferInstance); (focus exact rfl); (focus exact rfl); (focus exact rfl)))) rfl rfl (by simp [bpLtB, bpLtL, bpLt, bp_DB, hbp, filA, hbE1, hbE2]) (LeA.refl _) ⟨rfl, rfl, rfl⟩
  have hc4 := bp hb4
  refine aw_skip (x_blockN (t_ (aw_region (ad_ (h:=m_ (h:=al_nil (?_)))))))
  refine x_then ?_
  refine ⟨dK.nodes.length - (j + 1), _, by omega, ⟨j + 1, by omega, rfl, fun k y hk hk2 => ?_, rfl⟩, wb_ 6 0 (by simp [bpLtB, bpLtL, bpLt, bp_DB, hbp, filA, hbE1, hbE2])⟩
  rcases Nat.lt_succ_iff_lt_or_eq.1 hk with h | rfl
  ·exact hnot k y h hk2
  rw [hy] at hk2; injection hk2 with hk2; subst hk2; assumption
 have hc3 := bp hb3
 exact absurd hin (hnot i nI (by omega) hi)
theorem back_findR2 {bx : List (List AV)} {i0 i1 i2 i3 : Nat} {f : Fls} {q : Nat} {d : Dvc} {c c1 : Nat} {R R' : List AV} {E1 : List AV} {E2 : List AV} (h0 : bx[i0]? = some (DB f q d i1 c c1)) (h1 : bx[i1]? = some R') (g1 : renL (backS [i0, i1, i2, i3] bx.length) R = R') (h2 : bx[i2]? = some E1) (g2 : ∀ g, renL g E1 = E1) (h3 : bx[i3]? = some E2) (g3 : ∀ g, renL g E2 = E2) : Back bx [i0, i1, i2, i3] [DB f q d 1 c c1, R, E1, E2] bx := by
 refine ⟨by simp, fun _ _ _ h => h, fun k j row hk hr => ?_, fun k row hk => by simp at hk⟩
 match k, hk, hr with
 | 0, hk, hr =>
   simp at hk hr; subst hk hr
   rw [h0, ren_DB (j' := i1) (by simp [backS])]
 | 1, hk, hr =>
   simp at hk hr; subst hk hr
   rw [h1, g1]
 | 2, hk, hr =>
   simp at hk hr; subst hk hr
   rw [h2, g2]
 | 3, hk, hr =>
   simp at hk hr; subst hk hr
   rw [h3, g3]
 | k + 4, hk, _ => simp at hk
theorem PfindB0 (f : Fls) (K : Nat) (dK : Dvc) (i : Nat) (nI : Nod) (a : Fil) (hK : f[K]? = some dK) (hi : dK.nodes[i]? = some nI) (hak : a.1 = (K : Int)) (hin : nI.ino = a.2) (hfst : ∀ k x, k < i → dK.nodes[k]? = some x → x.ino ≠ a.2) (hfew : f.length ≤ 1000) (hdn : dK.nodes.length ≤ 1000) : ACall Try.prog 65 [.agg [.bs 0 0 2 f.length f.length], .agg (filA a)] [DB f K dK 1 f.length dK.nodes.length, NX dK.nodes i nI (.v (.slice none 0 0)) dK.nodes.length] (fun r b t => t = [] ∧ r = .bp 1 (0 + i * 8) ∧ b = [DB f K dK 1 f.length dK.nodes.length, NX dK.nodes i nI (.v (.slice none 0 0)) dK.nodes.length]) := by
 exact PfindR0 f K dK i nI a (NX dK.nodes i nI (.v (.slice none 0 0)) dK.nodes.length) (fun _ _ hx => NX_ino hi hx) (fun _ _ => bp_NX rfl) (List.getElem?_eq_some_iff.1 hK).1 hi hak hin hfst hfew hdn
theorem PfindBG (f : Fls) (K : Nat) (dK : Dvc) (i : Nat) (nI : Nod) (a : Fil) (hK : f[K]? = some dK) (hi : dK.nodes[i]? = some nI) (hak : a.1 = (K : Int)) (hin : nI.ino = a.2) (hfst : ∀ k x, k < i → dK.nodes[k]? = some x → x.ino ≠ a.2) (hfew : f.length ≤ 1000) (hdn : dK.nodes.length ≤ 1000) : ACall Try.prog 65 [.agg [.bs 0 0 2 f.length f.length], .agg (filA a)] [DB f K dK 1 f.length dK.nodes.length, NX dK.nodes i nI (.bs 2 0 2 nI.entries.length nI.entries.length) dK.nodes.length, EB nI.entries nI.entries.length] (fun r b t => t = [] ∧ r = .bp 1 (0 + i * 8) ∧ b = [DB f K dK 1 f.length dK.nodes.length, NX dK.nodes i nI (.bs 2 0 2 nI.entries.length nI.entries.length) dK.nodes.length, EB nI.entries nI.entries.length]) := by
 exact PfindR1 f K dK i nI a (NX dK.nodes i nI (.bs 2 0 2 nI.entries.length nI.entries.length) dK.nodes.length) (EB nI.entries nI.entries.length) (fun _ _ hx => NX_ino hi hx) (fun _ hq => bp_NX (by simp [bpLt]; omega)) (fun _ _ => bp_EB _ _) (List.getElem?_eq_some_iff.1 hK).1 hi hak hin hfst hfew hdn
end
def LeF (x y : AV) : Prop := ∀ (St : Nat → Nat → Prop) (w : World) (v : Value), fro St w x v → fro St w y v
def LeFL (xs ys : List AV) : Prop := xs.length = ys.length ∧ ∀ (i : Nat) (x y : AV), xs[i]? = some x → ys[i]? = some y → LeF x y
theorem LeF.refl (x : AV) : LeF x x := fun _ _ _ h => h
theorem LeFL.refl (xs : List AV) : LeFL xs xs := ⟨rfl, fun i x y hx hy => by rw [hx] at hy; injection hy with hy; subst hy; exact LeF.refl _⟩
theorem LeF.nil (sz : Nat) : LeF (.v (.slice none 0 0)) (.sl sz [] none) := fun St w v h => by
 simp only [fro] at h ⊢
 exact ⟨trivial, none, 0, h, Nat.le_refl _, Nat.zero_le _, .inl trivial⟩
theorem froC_le {St : Nat → Nat → Prop} {w : World} {b : Nat} : ∀ {xs ys : List AV} {off : Nat}, LeFL xs ys → froC St w b xs off → froC St w b ys off
 | [], [], _, _, h => h
 | [], _ :: _, _, h, _ => by have := h.1; simp at this
 | _ :: _, [], _, h, _ => by have := h.1; simp at this
 | x :: xs, y :: ys, off, h, k => by
   simp only [froC] at k ⊢
   obtain ⟨⟨k1, u, k2, k3, k4⟩, k5⟩ := k
   exact ⟨⟨k1, u, k2, k3, h.2 0 x y rfl rfl _ _ _ k4⟩, froC_le ⟨by simpa using h.1, fun i a b' ha hb => h.2 (i + 1) a b' (by simpa using ha) (by simpa using hb)⟩ k5⟩
theorem froR_le {St : Nat → Nat → Prop} {w : World} {b sz : Nat} : ∀ {rs rs' : List (List AV)} {off : Nat}, rs.length = rs'.length → (∀ (i : Nat) (r r' : List AV), rs[i]? = some r → rs'[i]? = some r' → LeFL r r') → froR St w b sz rs off → froR St w b sz rs' off
 | [], [], _, _, _, h => h
 | [], _ :: _, _, h, _, _ => by simp at h
 | _ :: _, [], _, h, _, _ => by simp at h
 | r :: rs, r' :: rs', off, h, hr, k => by
   simp only [froR] at k ⊢
   obtain ⟨⟨k1, k2⟩, k3⟩ := k
   have h0 := hr 0 r r' rfl rfl
   exact ⟨⟨by rw [← h0.1]; exact k1, froC_le h0 k2⟩, froR_le (by simpa using h) (fun i a b' ha hb => hr (i + 1) a b' (by simpa using ha) (by simpa using hb)) k3⟩
theorem LeF.rows {sz : Nat} {rs rs' : List (List AV)} (h : rs.length = rs'.length) (hr : ∀ (i : Nat) (r r' : List AV), rs[i]? = some r → rs'[i]? = some r' → LeFL r r') : LeF (.sl sz rs none) (.sl sz rs' none) := fun St w v k => by
 simp only [fro] at k ⊢
 obtain ⟨_, A, cap, k1, k2, k3, k4⟩ := k
 refine ⟨trivial, A, cap, by rw [← h]; exact k1, by rw [← h]; exact k2, k3, ?_⟩
 rcases k4 with k4 | ⟨b, off, k5, k6⟩
 ·subst k4
  exact .inl (List.eq_nil_of_length_eq_zero h.symm)
 exact .inr ⟨b, off, k5, froR_le h hr k6⟩
theorem LeF.toA {sz : Nat} {rs rs' : List (List AV)} (h : LeF (.sl sz rs none) (.sl sz rs' none)) : LeA (.sl sz rs none) (.sl sz rs' none) := fun G w v k => by
 simp only [rep] at k ⊢
 exact h _ _ _ k
theorem nodF_le (n : Nod) : LeFL (nodF n) (nodA n) := by
 refine ⟨rfl, fun i x y hx hy => ?_⟩
 match i, hx, hy with
 | 0, hx, hy => injection hx with hx; injection hy with hy; subst hx hy; exact LeF.refl _
 | 1, hx, hy => injection hx with hx; injection hy with hy; subst hx hy; exact LeF.refl _
 | 2, hx, hy => injection hx with hx; injection hy with hy; subst hx hy; exact LeF.refl _
 | 3, hx, hy => injection hx with hx; injection hy with hy; subst hx hy; exact LeF.refl _
 | 4, hx, hy => injection hx with hx; injection hy with hy; subst hx hy; exact LeF.refl _
 | 5, hx, hy => injection hx with hx; injection hy with hy; subst hx hy; exact LeF.refl _
 | 6, hx, hy => injection hx with hx; injection hy with hy; subst hx hy; exact LeF.refl _
 | 7, hx, hy =>
   injection hx with hx; injection hy with hy; subst hx hy
   unfold entX
   split
   ·rename_i h; rw [h]; exact LeF.nil _
   exact LeF.refl _
 | i + 8, hx, hy => simp [nodF, nodX] at hx
def resD (f : Fls) (q : Nat) (d : Dvc) (RN : List (List AV)) : List (List AV) := (f.map dvcA).set q [.v (.int .i64 d.next), .sl 8 RN none]
theorem resD_le {f : Fls} {q : Nat} {d d' : Dvc} {RN : List (List AV)} (hn : d.next = d'.next) (hl : RN.length = d'.nodes.length) (hr : ∀ (i : Nat) (r : List AV) (n : Nod), RN[i]? = some r → d'.nodes[i]? = some n → LeFL r (nodA n)) : LeA (.agg [.sl 2 (resD f q d RN) none]) (.agg (flsA (f.set q d'))) := by
 refine LeA.agg (LeL.cons (LeF.toA (LeF.rows (by simp [resD]) fun i r r' h1 h2 => ?_)) LeL.nil)
 unfold resD at h1
 rw [List.map_set] at h2
 rw [List.getElem?_set] at h1 h2
 by_cases e : q = i
 ·subst e
  rw [if_pos rfl] at h1 h2
  simp only [List.length_map] at h1 h2
  by_cases hq : q < f.length
  ·rw [if_pos hq] at h1 h2
   injection h1 with h1
   injection h2 with h2
   subst h1 h2
   refine ⟨rfl, fun k x y hx hy => ?_⟩
   match k, hx, hy with
   | 0, hx, hy => injection hx with hx; injection hy with hy; subst hx hy; rw [hn]; exact LeF.refl _
   | 1, hx, hy =>
     injection hx with hx; injection hy with hy; subst hx hy
     refine LeF.rows (by rw [hl, List.length_map]) fun k r r' g1 g2 => ?_
     rw [List.getElem?_map] at g2
     cases hm : d'.nodes[k]? with
     | none => rw [hm] at g2; cases g2
     | some m =>
       rw [hm] at g2
       injection g2 with g2
       subst g2
       exact hr k r m g1 hm
   | k + 2, hx, hy => simp at hx
  rw [if_neg hq] at h1; cases h1
 rw [if_neg e] at h1 h2
 rw [h1] at h2
 injection h2 with h2
 subst h2
 exact LeFL.refl _
theorem low_NX {g : Nat → Option (List AV)} (ns : List Nod) (i : Nat) (nI : Nod) {e e' : AV} (cap1 : Nat) (he : lowG g e = e') : lowGL g (NX ns i nI e cap1) = rowsB 8 cap1 ((ns.map nodF).set i (nodX nI e')) := by
 rw [lowGL_map]
 unfold NX
 rw [rowsB_map (lowG g) rfl, List.map_set]
 congr 1
 have e1 : ((ns.map nodF).map fun r => r.map (lowG g)) = ns.map nodF := by
  rw [List.map_map]
  apply List.map_congr_left
  intro n _
  exact map_nodF (fun _ => rfl) (fun _ _ => rfl) n
 rw [e1]
 congr 1
 simp [nodX, lowG, he]
theorem liv_NX {n : Nat} {bx : List (List AV)} {i0 i1 : Nat} {f : Fls} {q : Nat} {d : Dvc} {ns : List Nod} {i : Nat} {nI : Nod} {e e' : AV} {cap cap0 cap1 : Nat} (hq : q < f.length) (hc : f.length ≤ cap) (hc1 : ns.length ≤ cap1) (hns : ns.length = d.nodes.length) (hn0 : n ≤ i0) (hn1 : n ≤ i1) (h0 : bx[i0]? = some (DB f q d i1 cap cap1)) (h1 : bx[i1]? = some (NX ns i nI e cap1)) (he : lowG (frzG n bx 1) e = e') :
    livL n (frzG n bx 3) [.bs i0 0 2 f.length cap0] = [.sl 2 (resD f q d ((ns.map nodF).set i (nodX nI e'))) none] := by
 have b0 : Nat.blt i0 n = false := by rw [← Bool.not_eq_true, Nat.blt_eq]; omega
 have b1 : Nat.blt i1 n = false := by rw [← Bool.not_eq_true, Nat.blt_eq]; omega
 have f1 : frzG n bx 2 i1 = some (rowsB 8 cap1 ((ns.map nodF).set i (nodX nI e'))) := by
  rw [frzG, b1]
  simp only [h1, Option.map_some, low_NX ns i nI cap1 he]
 have hb : lowG (frzG n bx 2) (.bs i1 0 8 d.nodes.length cap1) = .sl 8 ((ns.map nodF).set i (nodX nI e')) none := lowG_rows f1 (NX_eight _ _ _ _) (by simp [hns]) (by simpa using hc1)
 have f0 : frzG n bx 3 i0 = some (rowsB 2 cap (resD f q d ((ns.map nodF).set i (nodX nI e')))) := by
  rw [frzG, b0]
  simp only [h0, Option.map_some]
  rw [lowGL_map]
  unfold DB devB resD
  rw [rowsB_map (lowG (frzG n bx 2)) rfl, List.map_set, map_dvcs rfl (fun _ => rfl) (fun _ _ => rfl)]
  congr 3
  simp only [devR, List.map_cons, List.map_nil, hb]
  rfl
 have hb0 : lowG (frzG n bx 3) (.bs i0 0 2 f.length cap0) = .sl 2 (resD f q d ((ns.map nodF).set i (nodX nI e'))) none := lowG_rows f0 (fun r hr => by
  unfold resD at hr
  rcases List.mem_or_eq_of_mem_set hr with h | h
  ·exact dvcs_two _ r h
  rw [h]; rfl) (by simp [resD]) (by simpa [resD] using hc)
 simp only [livL, liv, b0, hb0]
theorem low_EB {n : Nat} {bx : List (List AV)} {j : Nat} {es : List Ent} {cap l : Nat} (hn : n ≤ j) (hj : bx[j]? = some (EB es cap)) (hl : l = es.length) (hc : es.length ≤ cap) : lowG (frzG n bx 1) (.bs j 0 2 l cap) = .sl 2 (es.map entA) none :=
 lowG_rows (frz_plain (k := 0) hn hj (ent_plain es)) (ent_two es) (by rw [hl, List.length_map]) (by simpa using hc)
theorem rows_le {ns : List Nod} {i : Nat} {nI : Nod} {es : List Ent} (k : Nat) (r : List AV) (m : Nod) (h1 : ((ns.map nodF).set i (nodX nI (.sl 2 (es.map entA) none)))[k]? = some r) (h2 : (ns.set i { nI with entries := es })[k]? = some m) : LeFL r (nodA m) := by
 rw [List.getElem?_set] at h1 h2
 by_cases e : i = k
 ·subst e
  rw [if_pos rfl] at h1 h2
  simp only [List.length_map] at h1
  by_cases hi : i < ns.length
  ·rw [if_pos hi] at h1 h2
   injection h1 with h1
   injection h2 with h2
   subst h1 h2
   exact LeFL.refl _
  rw [if_neg hi] at h1; cases h1
 rw [if_neg e] at h1 h2
 rw [List.getElem?_map, h2] at h1
 injection h1 with h1
 subst h1
 exact nodF_le m
theorem fls_le {f : Fls} {q : Nat} {d : Dvc} {i : Nat} {nI : Nod} {es : List Ent} : LeA (.agg [.sl 2 (resD f q d ((d.nodes.map nodF).set i (nodX nI (.sl 2 (es.map entA) none)))) none]) (.agg (flsA (f.set q { d with nodes := d.nodes.set i { nI with entries := es } }))) :=
 resD_le rfl (by simp) fun k r m h1 h2 => rows_le k r m h1 h2
def dirE (f : Fls) (a : Fil) : Int := match nodeL f a with
 | none => 2
 | some n => if n.kind = 2 then 0 else 20
def entP (f : Fls) (a : Fil) (name : Str) : Fil × Bool := match nodeL f a with
 | none => ((0, 0), false)
 | some n => match n.entries.find? (fun e : Ent => decide (e.1 = name)) with
   | none => ((0, 0), false)
   | some e => ((a.1, e.2), true)
theorem lkE_two {f : Fls} {a : Fil} {name : Str} (h : dirE f a = 0) (h2 : (entP f a name).2 = false) : lookL f a name = ((0, 0), 2) := by
 unfold dirE at h
 unfold entP at h2
 unfold lookL
 cases hn : nodeL f a with
 | none => rfl
 | some n =>
   simp only [hn] at h h2 ⊢
   by_cases hk : n.kind = 2
   ·rw [if_pos hk]
    cases hf : n.entries.find? (fun e : Ent => decide (e.1 = name)) with
    | none => rfl
    | some e => rw [hf] at h2; cases h2
   rw [if_neg hk] at h; exact absurd h (by decide)
theorem lkE_yes {f : Fls} {a : Fil} {name : Str} (h : dirE f a = 0) (h2 : (entP f a name).2 = true) : lookL f a name = ((entP f a name).1, 0) := by
 unfold dirE at h
 unfold entP at h2 ⊢
 unfold lookL
 cases hn : nodeL f a with
 | none => rw [hn] at h2; cases h2
 | some n =>
   simp only [hn] at h h2 ⊢
   by_cases hk : n.kind = 2
   ·rw [if_pos hk]
    cases hf : n.entries.find? (fun e : Ent => decide (e.1 = name)) with
    | none => rw [hf] at h2; cases h2
    | some e => rfl
   rw [if_neg hk] at h; exact absurd h (by decide)
section
variable {P : Program} {ev : Operand → Option AV} {h : AH} {R : AV → AH → Prop} {d : Option Tmp} {ty : TypeId} {pos : String} {af : Array Edge} {gd : Option (Nat × Bool)}
theorem st_neqPnil {T yT : TypeId} {x y : Operand} (hp : P.underlying T = some (.pointer (P.pointee T))) (hx : ev x = some (.v (.pointer none))) (hy : ev y = some (.v (.pointer none))) (hR : R (.v (.bool false)) h) : AStep P ⟨d, .binOp .neq T x y yT, ty, pos, af, gd⟩ ev h R :=
 st_bin hx hy (fun w => by simp [eqGuard, run_neq_pointer_nil (P := P) (w := w) T none hp]) hR
theorem st_neqPfp {T yT : TypeId} {x y : Operand} {row : List AV} (hp : P.underlying T = some (.pointer (P.pointee T))) (hx : ev x = some (.fp row)) (hy : ev y = some (.v (.pointer none))) (hR : R (.v (.bool true)) h) : AStep P ⟨d, .binOp .neq T x y yT, ty, pos, af, gd⟩ ev h R := by
 refine st_val (fun _ G w ec _ he => ?_) hR
 have h1 := he x (by simp [Op.operands]) _ hx
 have h2 := he y (by simp [Op.operands]) _ hy
 simp only [rep] at h1 h2
 obtain ⟨b, off, h3, _⟩ := h1
 refine ⟨.bool true, ?_, by simp only [rep]⟩
 simp [execOp, h2, h3, eqGuard, run_neq_pointer_nil (P := P) (w := w) T (some ⟨b, off, none⟩) hp]
end
section
set_option maxRecDepth 10000
set_option maxHeartbeats 1000000
theorem PdirF (f : Fls) (a : Fil) (hf : FlsB f) : AFn Try.prog 58 [.agg (flsA f), .agg (filA a)] (fun r => r = .v (.int .i64 (dirE f a))) := by
 refine enter Try.func58 rfl rfl rfl rfl rfl 0 rfl ?_
 refine w_ (b_ (h:=b_ (h:=a_ (h:=e_ (w_ (l_ (h:=l_ (h:=?_))))))))
 refine al_p rfl (q_call (Pfind f a hf) ?_)
 rintro r (⟨e, rfl⟩ | ⟨n, e, rfl⟩)
 ·skip
  refine a_ (h:=e_ (q_ (aw_block (w_ (m_ (h:=?_))))))
  first | refine al_p rfl (st_eqPnil (by kernel_rfl) rfl rfl ?_) | refine al_p rfl (st_eqPfp (by kernel_rfl) rfl rfl ?_)
  refine a_ (h:=e_ (?_))
  refine aw_cond rfl (fun hb1 => ?_) (fun hb1 => ?_)
  ·have hc1 := bp hb1
   refine w_ (a_ (h:=e_ (aw_ret (x_blockR (x_thenR (?_))))))
   refine e_ret ?_
   rw [show dirE f a = 2 by simp only [dirE, e]]
   rfl
  have hc1 := bp hb1
  exfalso; first | contradiction | omega
 skip
 refine a_ (h:=e_ (q_ (aw_block (w_ (m_ (h:=?_))))))
 first | refine al_p rfl (st_eqPnil (by kernel_rfl) rfl rfl ?_) | refine al_p rfl (st_eqPfp (by kernel_rfl) rfl rfl ?_)
 refine a_ (h:=e_ (?_))
 refine aw_cond rfl (fun hb2 => ?_) (fun hb2 => ?_)
 ·have hc2 := bp hb2
  exfalso; first | contradiction | omega
 have hc2 := bp hb2
 refine w_ (m_ (h:=k_ (h:=f_ (h:=l_ (h:=nq_ (h:=a_ (h:=e_ (?_))))))))
 refine aw_cond rfl (fun hb3 => ?_) (fun hb3 => ?_)
 ·have hc3 := bp hb3
  refine w_ (a_ (h:=e_ (aw_ret (x_blockR (x_thenR (?_))))))
  refine e_ret ?_
  rw [show dirE f a = 20 by simp only [dirE, e]; exact if_neg hc3]
  rfl
 have hc3 := bp hb3
 refine aw_skip (x_blockN (t_ (w_ (a_ (h:=e_ (aw_ret (?_)))))))
 refine e_ret ?_
 rw [show dirE f a = 0 by simp only [dirE, e]; exact if_pos hc3]
 rfl
theorem Pentry (f : Fls) (a : Fil) (name : Str) (hf : FlsB f) : AFn Try.prog 61 [.agg (flsA f), .agg (filA a), .v (.string name)] (fun r => r = .tup [.agg (filA (entP f a name).1), .v (.bool (entP f a name).2)]) := by
 have hen := nodG_ents hf a
 refine enter Try.func61 rfl rfl rfl rfl rfl 0 rfl ?_
 refine w_ (b_ (h:=b_ (h:=al_ (h:=a_ (h:=e_ (w_ (l_ (h:=l_ (h:=?_)))))))))
 refine al_p rfl (q_call (Pfind f a hf) ?_)
 rintro r (⟨e, rfl⟩ | ⟨n, e, rfl⟩)
 ·skip
  refine a_ (h:=e_ (q_ (w_ (m_ (h:=?_)))))
  first | refine al_p rfl (st_eqPnil (by kernel_rfl) rfl rfl ?_) | refine al_p rfl (st_eqPfp (by kernel_rfl) rfl rfl ?_)
  refine e_ (?_)
  refine aw_cond rfl (fun hb1 => ?_) (fun hb1 => ?_)
  ·have hc1 := bp hb1
   refine w_ (bd_ (h:=s_ (h:=a_ (h:=e_ (aw_ret (x_thenR (?_)))))))
   refine e_ret ?_
   rw [show entP f a name = ((0, 0), false) by simp only [entP, e]]
   rfl
  have hc1 := bp hb1
  exfalso; first | contradiction | omega
 have hnl : n.entries.length ≤ 1000 := by simpa [nodG, e] using hen
 refine a_ (h:=e_ (q_ (w_ (m_ (h:=?_)))))
 first | refine al_p rfl (st_eqPnil (by kernel_rfl) rfl rfl ?_) | refine al_p rfl (st_eqPfp (by kernel_rfl) rfl rfl ?_)
 refine e_ (?_)
 refine aw_cond rfl (fun hb2 => ?_) (fun hb2 => ?_)
 ·have hc2 := bp hb2
  exfalso; first | contradiction | omega
 have hc2 := bp hb2
 refine kt_ (q_ (w_ (m_ (h:=k_ (h:=f_ (h:=l_ (h:=n_ (h:=m_ (h:=e_ (aw_block (?_)))))))))))
 refine aw_loopW (fun m t => ∃ j : Nat, j ≤ n.entries.length ∧ m = n.entries.length - j ∧ (∀ i y, i < j → n.entries[i]? = some y → decide (y.1 = name) = false) ∧ t = ⟨look [(2, .v (.string name)), (4, .bp 1 0), (6, .bp 2 0), (20, .sl 2 (n.entries.map entA) none), (21, .v (.int .i64 ((n.entries.map entA).length : Int))), (22, .v (.int .i64 (j : Int)))], ⟨[flsA f, filA a, [.v (.int .i64 0), .v (.int .i64 0)]], []⟩⟩) (n.entries.length) ((wk 3 0)) (⟨0, by omega, rfl, fun i y hi => by omega, rfl⟩) ?_
 rintro m t ⟨j, hj, rfl, ha, rfl⟩
 refine w_ (lt_ (h:=e_ (q_ (?_))))
 refine aw_cond rfl (fun hb3 => ?_) (fun hb3 => ?_)
 ·have hc3 := bp hb3
  obtain ⟨hlt, x, hy, hrow, -⟩ := row_at entA hc3
  refine kt_ (q_ (aw_block (w_ (i_ (h:=l_ (h:=al_ (h:=s_ (h:=e_ (w_ (f_ (h:=l_ (h:=m_ (h:=eq_ (h:=e_ (?_)))))))))))))))
  refine aw_cond rfl (fun hb4 => ?_) (fun hb4 => ?_)
  ·have hc4 := bp hb4
   refine w_ (f_ (h:=l_ (h:=f_ (h:=l_ (h:=bd_ (h:=s_ (h:=a_ (h:=e_ (aw_ret (x_blockR (x_thenR (x_thenR (x_blockR (x_thenR (?_)))))))))))))))
   refine e_ret ?_
   rw [show entP f a name = ((a.1, x.2), true) by simp only [entP, e]; rw [find_at hy (by simpa using hc4) ha]]
   rfl
  have hc4 := bp hb4
  refine aw_skip (x_blockN (t_ (aw_region (ad_ (h:=m_ (h:=al_nil (?_)))))))
  refine x_then ?_
  refine ⟨_, _, ?_, ⟨j + 1, by omega, rfl, upto_snoc hy ha (by simpa using hc4), rfl⟩, (wk 3 0)⟩
  omega
 have hc3 := bp hb3
 have e3 := row_no entA hj hc3
 subst e3
 refine aw_exit (x_thenE (x_thenE (ABlock_out (t_ (w_ (bd_ (h:=s_ (h:=a_ (h:=e_ (aw_ret (?_)))))))))))
 refine e_ret ?_
 rw [show entP f a name = ((0, 0), false) by simp only [entP, e]; rw [find_no ha]]
 rfl
theorem PisDir (f : Fls) (a : Fil) (hf : FlsB f) : AFn Try.prog 80 [.agg (flsA f), .agg (filA a)] (fun r => r = .v (.bool (dirL f a))) := by
 have hde := dirL_eq f a
 refine enter Try.func80 rfl rfl rfl rfl rfl 0 rfl ?_
 refine w_ (b_ (h:=b_ (h:=a_ (h:=e_ (w_ (l_ (h:=l_ (h:=?_))))))))
 refine al_p rfl (q_call (Pfind f a hf) ?_)
 rintro r (⟨e, rfl⟩ | ⟨n, e, rfl⟩)
 ·skip
  refine a_ (h:=e_ (w_ (m_ (h:=?_))))
  first | refine al_p rfl (st_neqPnil (by kernel_rfl) rfl rfl ?_) | refine al_p rfl (st_neqPfp (by kernel_rfl) rfl rfl ?_)
  refine m_ (h:=?_)
  refine al_gs true rfl rfl (fun hb1 => ?_) (fun hb1 => ?_)
  ·have hc1 := bp hb1
   exfalso; first | contradiction | omega
  have hc1 := bp hb1
  refine g0_ (h:=g0_ (h:=g0_ (h:=g0_ (h:=g0_ (h:=pf_ (h:=a_ (h:=e_ (aw_ret (?_)))))))))
  refine e_ret ?_
  rw [hde, show hasG f a = false by simp [hasG, e]]
  rfl
 skip
 refine a_ (h:=e_ (w_ (m_ (h:=?_))))
 first | refine al_p rfl (st_neqPnil (by kernel_rfl) rfl rfl ?_) | refine al_p rfl (st_neqPfp (by kernel_rfl) rfl rfl ?_)
 refine m_ (h:=?_)
 refine al_gs true rfl rfl (fun hb2 => ?_) (fun hb2 => ?_)
 ·have hc2 := bp hb2
  refine m_ (h:=k_ (h:=f_ (h:=l_ (h:=eq_ (h:=pt_ (h:=a_ (h:=e_ (aw_ret (?_)))))))))
  refine e_ret ?_
  rw [hde, show nodG f a = n by simp [nodG, e], show hasG f a = true by simp [hasG, e]]
  rfl
 have hc2 := bp hb2
 exfalso; first | contradiction | omega
theorem Pfull (f : Fls) (a : Fil) (hf : FlsB f) : AFn Try.prog 62 [.agg (flsA f), .agg (filA a)] (fun r => r = .v (.bool (fullL f a))) := by
 refine enter Try.func62 rfl rfl rfl rfl rfl 0 rfl ?_
 refine w_ (b_ (h:=b_ (h:=a_ (h:=e_ (w_ (l_ (h:=l_ (h:=?_))))))))
 refine al_p rfl (q_call (Pfind f a hf) ?_)
 rintro r (⟨e, rfl⟩ | ⟨n, e, rfl⟩)
 ·skip
  refine a_ (h:=e_ (w_ (m_ (h:=?_))))
  first | refine al_p rfl (st_neqPnil (by kernel_rfl) rfl rfl ?_) | refine al_p rfl (st_neqPfp (by kernel_rfl) rfl rfl ?_)
  refine m_ (h:=?_)
  refine al_gs true rfl rfl (fun hb1 => ?_) (fun hb1 => ?_)
  ·have hc1 := bp hb1
   exfalso; first | contradiction | omega
  have hc1 := bp hb1
  refine g0_ (h:=g0_ (h:=g0_ (h:=g0_ (h:=g0_ (h:=g0_ (h:=pf_ (h:=a_ (h:=e_ (aw_ret (?_))))))))))
  refine e_ret ?_
  rw [show fullL f a = false by simp only [fullL, e]]
  rfl
 have hnl : n.entries.length ≤ 1000 := by have := nodG_ents hf a; simpa [nodG, e] using this
 refine a_ (h:=e_ (w_ (m_ (h:=?_))))
 first | refine al_p rfl (st_neqPnil (by kernel_rfl) rfl rfl ?_) | refine al_p rfl (st_neqPfp (by kernel_rfl) rfl rfl ?_)
 refine m_ (h:=?_)
 refine al_gs true rfl rfl (fun hb2 => ?_) (fun hb2 => ?_)
 ·have hc2 := bp hb2
  refine m_ (h:=k_ (h:=f_ (h:=l_ (h:=n_ (h:=ge_ (h:=pt_ (h:=a_ (h:=e_ (aw_ret (?_))))))))))
  refine e_ret ?_
  rw [show fullL f a = decide (12 ≤ n.entries.length) by simp only [fullL, e]]
  exact vb (by rw [Bool.eq_iff_iff, decide_eq_true_iff, decide_eq_true_iff, List.length_map]; omega)
 have hc2 := bp hb2
 exfalso; first | contradiction | omega
end
theorem range_no {p : Nat → Bool} {n j : Nat} (hj : j < n) (h : p j = false) : (List.range n).all p = false := List.all_eq_false.2 ⟨j, List.mem_range.2 hj, by rw [h]; simp⟩
theorem range_yes {p : Nat → Bool} {n : Nat} (h : ∀ i, i < n → p i = true) : (List.range n).all p = true := List.all_eq_true.2 fun i hi => h i (List.mem_range.1 hi)
theorem upto_next {p : Nat → Bool} {j : Nat} (h : ∀ i, i < j → p i = true) (hj : p j = true) : ∀ i, i < j + 1 → p i = true := fun i hi => by
 by_cases e : i = j
 ·rw [e]; exact hj
 exact h i (by omega)
structure FlsT (f : Fls) : Prop where
 b : FlsB f
 nm : ∀ d ∈ f, ∀ n ∈ d.nodes, ∀ e ∈ n.entries, e.1.size ≤ 100000
 tg : ∀ d ∈ f, ∀ n ∈ d.nodes, n.target.size ≤ 100000
def preE (es : List Ent) (i : Nat) (x : Ent) : Bool := match es[i - 1]? with
 | some y => !strLt y.1 x.1
 | none => false
def entAt (f : Fls) (dev : Int) (es : List Ent) (i : Nat) : Bool := match es[i]? with
 | none => true
 | some x => if nameL x.1 = false then false else if 0 < i ∧ preE es i x = true then false else if x.2 = 1 then false else if indexL f (dev, x.2) < 0 then false else true
def entsR (f : Fls) (dev : Int) (es : List Ent) : Bool := if 12 < es.length then false else (List.range es.length).all (entAt f dev es)
theorem ents_no {f : Fls} {dev : Int} {es : List Ent} {j : Nat} (hl : ¬ 12 < es.length) (hj : j < es.length) (h : entAt f dev es j = false) : entsR f dev es = false := by
 unfold entsR
 rw [if_neg hl]
 exact range_no hj h
theorem ents_yes {f : Fls} {dev : Int} {es : List Ent} (hl : ¬ 12 < es.length) (h : ∀ i, i < es.length → entAt f dev es i = true) : entsR f dev es = true := by
 unfold entsR
 rw [if_neg hl]
 exact range_yes h
theorem pre_at {es : List Ent} {i : Nat} {x y : Ent} (h : es[i - 1]? = some y) : preE es i x = !strLt y.1 x.1 := by unfold preE; rw [h]
def itP (d : Dvc) : Nat → Int → Int
 | 0, x => x
 | k + 1, x => itP d k (parentL d x)
def rchAt (d : Dvc) (i : Nat) : Bool := match d.nodes[i]? with
 | none => true
 | some n => if n.kind = 2 then decide (itP d d.nodes.length n.ino = 1) else true
def rchR (d : Dvc) : Bool := (List.range d.nodes.length).all (rchAt d)
section
set_option maxRecDepth 10000
set_option maxHeartbeats 1000000
theorem Rents (f : Fls) (dev : Int) (n : Nod) (hf : FlsB f) (hn : n.entries.length ≤ 1000) (hnm : ∀ e ∈ n.entries, e.1.size ≤ 100000) : AFn Try.prog 100 [.agg (flsA f), .v (.int .i64 dev), .agg (nodA n)] (fun r => r = .v (.bool (entsR f dev n.entries))) := by
 have hel : (n.entries.map entA).length = n.entries.length := by simp
 refine enter Try.func100 rfl rfl rfl rfl rfl 0 rfl ?_
 refine w_ (b_ (h:=b_ (h:=a_ (h:=e_ (q_ (w_ (f_ (h:=l_ (h:=n_ (h:=gt_ (h:=e_ (?_))))))))))))
 refine aw_cond rfl (fun hb1 => ?_) (fun hb1 => ?_)
 ·have hc1 := bp hb1
  refine w_ (a_ (h:=e_ (aw_ret (x_thenR (?_)))))
  refine e_ret ?_
  exact vb (by unfold entsR; rw [if_pos (by omega)])
 have hc1 := bp hb1
 refine kt_ (q_ (w_ (a_ (h:=e_ (aw_block (?_))))))
 refine aw_loopW (fun m t => ∃ j : Nat, j ≤ n.entries.length ∧ m = n.entries.length - j ∧ (∀ i, i < j → entAt f dev n.entries i = true) ∧ t = ⟨look [(1, .v (.int .i64 dev)), (3, .bp 0 0), (5, .bp 1 0), (7, .v (.int .i64 (j : Int)))], ⟨[flsA f, nodA n], []⟩⟩) (n.entries.length) ((wk 2 0)) (⟨0, by omega, rfl, fun i hi => by omega, rfl⟩) ?_
 rintro m t ⟨j, hj, rfl, ha, rfl⟩
 refine q_ (w_ (m_ (h:=f_ (h:=l_ (h:=n_ (h:=lt_ (h:=e_ (?_))))))))
 refine aw_cond rfl (fun hb2 => ?_) (fun hb2 => ?_)
 ·have hc2 := bp hb2
  obtain ⟨hlt, x, hy, hrow, -⟩ := row_at entA hc2
  refine kt_ (q_ (aw_block (w_ (f_ (h:=l_ (h:=m_ (h:=i_ (h:=l_ (h:=al_ (h:=s_ (h:=e_ (q_ (yr_ 34 (h:=df_ 0 (h:=dl_ 1 (h:=?_))))))))))))))))
  refine c_ 2 rfl (q_call (Rname x.1 (hnm x (List.mem_of_getElem? hy))) ?_)
  rintro r rfl
  refine o_ (h:=dnt_ 3 (h:=dm_ 4 (h:=?_)))
  refine aa_both (j := 4) rfl (fun hb3 => ?_) (fun hb3 => ?_)
  ·have hc3 := bp hb3
   refine d0_ 5 (h:=d0_ 6 (h:=d0_ 7 (h:=d0_ 8 (h:=d0_ 9 (h:=d0_ 10 (h:=d0_ 11 (h:=d0_ 12 (h:=d0_ 13 (h:=d0_ 14 (h:=d0_ 15 (h:=d0_ 16 (h:=d0_ 17 (h:=d0_ 18 (h:=dpt_ 19 (h:=dm_ 20 (h:=d0_ 21 (h:=d0_ 22 (h:=d0_ 23 (h:=dpt_ 24 (h:=dm_ 25 (h:=d0_ 26 (h:=d0_ 27 (h:=d0_ 28 (h:=?_))))))))))))))))))))))))
   refine d0_ 29 (h:=d0_ 30 (h:=d0_ 31 (h:=d0_ 32 (h:=dpt_ 33 (h:=z_ (h:=t_ (cy_ (h:=w_ (a_ (h:=e_ (aw_ret (x_blockR (x_thenR (x_thenR (x_blockR (x_thenR (?_)))))))))))))))))
   refine e_ret ?_
   exact vb (ents_no (by omega) hlt (by unfold entAt; simp only [hy]; simp_all [strLt])).symm
  have hc3 := bp hb3
  refine dm_ 5 (h:=dgt_ 6 (h:=dm_ 7 (h:=?_)))
  refine aa_both (j := 7) rfl (fun hb4 => ?_) (fun hb4 => ?_)
  ·have hc4 := bp hb4
   obtain ⟨hlt1, y, hy1, hrow1, -⟩ := row_at (l := n.entries) (k := j - 1) entA (by omega)
   have hpre := pre_at (x := x) hy1
   refine df_ 8 (h:=dl_ 9 (h:=dm_ 10 (h:=dsb_ 11 (h:=?_))))
   refine r_y (i := 12) rfl (st_index (n := j - 1) rfl rfl (by omega) hrow1 ⟨rfl, rfl⟩) ?_
   refine df_ 13 (h:=dl_ 14 (h:=df_ 15 (h:=dl_ 16 (h:=dge_ 17 (h:=dpt_ 18 (h:=dpf_ 19 (h:=dm_ 20 (h:=?_))))))))
   refine aa_both (j := 20) rfl (fun hb5 => ?_) (fun hb5 => ?_)
   ·have hc5 := bp hb5
    refine d0_ 21 (h:=d0_ 22 (h:=d0_ 23 (h:=dpt_ 24 (h:=dm_ 25 (h:=d0_ 26 (h:=d0_ 27 (h:=d0_ 28 (h:=d0_ 29 (h:=d0_ 30 (h:=d0_ 31 (h:=d0_ 32 (h:=dpt_ 33 (h:=z_ (h:=t_ (cy_ (h:=w_ (a_ (h:=e_ (aw_ret (x_blockR (x_thenR (x_thenR (x_blockR (?_))))))))))))))))))))))))
    refine x_thenR (?_)
    refine e_ret ?_
    exact vb (ents_no (by omega) hlt (by unfold entAt; simp only [hy]; simp_all [strLt])).symm
   have hc5 := bp hb5
   refine df_ 21 (h:=dl_ 22 (h:=deq_ 23 (h:=dpf_ 24 (h:=dm_ 25 (h:=?_)))))
   refine aa_both (j := 25) rfl (fun hb6 => ?_) (fun hb6 => ?_)
   ·have hc6 := bp hb6
    refine d0_ 26 (h:=d0_ 27 (h:=d0_ 28 (h:=d0_ 29 (h:=d0_ 30 (h:=d0_ 31 (h:=d0_ 32 (h:=dpt_ 33 (h:=z_ (h:=t_ (cy_ (h:=w_ (a_ (h:=e_ (aw_ret (x_blockR (x_thenR (x_thenR (x_blockR (x_thenR (?_))))))))))))))))))))
    refine e_ret ?_
    exact vb (ents_no (by omega) hlt (by unfold entAt; simp only [hy]; simp_all [strLt])).symm
   have hc6 := bp hb6
   refine dl_ 26 (h:=dm_ 27 (h:=df_ 28 (h:=dl_ 29 (h:=dbd_ 30 (h:=?_)))))
   refine c_ 31 rfl (q_call (Rindex f (dev, x.2) hf) ?_)
   rintro r rfl
   refine o_ (h:=dlt_ 32 (h:=dpf_ 33 (h:=z_ (h:=t_ (?_)))))
   refine aw_cond rfl (fun hb7 => ?_) (fun hb7 => ?_)
   ·have hc7 := bp hb7
    refine w_ (a_ (h:=e_ (aw_ret (x_blockR (x_thenR (x_thenR (x_blockR (x_thenR (?_)))))))))
    refine e_ret ?_
    exact vb (ents_no (by omega) hlt (by unfold entAt; simp only [hy]; simp_all [strLt])).symm
   have hc7 := bp hb7
   refine aw_skip (x_blockN (t_ (aw_region (m_ (h:=ad_ (h:=a_ (h:=al_nil (?_))))))))
   refine x_then ?_
   refine ⟨_, _, ?_, ⟨j + 1, by omega, rfl, upto_next ha (by unfold entAt; simp only [hy]; simp_all [strLt]), rfl⟩, (wk 2 0)⟩
   omega
  have hc4 := bp hb4
  refine d0_ 8 (h:=d0_ 9 (h:=d0_ 10 (h:=d0_ 11 (h:=d0_ 12 (h:=d0_ 13 (h:=d0_ 14 (h:=d0_ 15 (h:=d0_ 16 (h:=d0_ 17 (h:=dpf_ 18 (h:=dpf_ 19 (h:=dm_ 20 (h:=df_ 21 (h:=dl_ 22 (h:=deq_ 23 (h:=dpf_ 24 (h:=dm_ 25 (h:=?_))))))))))))))))))
  refine aa_both (j := 25) rfl (fun hb8 => ?_) (fun hb8 => ?_)
  ·have hc8 := bp hb8
   refine d0_ 26 (h:=d0_ 27 (h:=d0_ 28 (h:=d0_ 29 (h:=d0_ 30 (h:=d0_ 31 (h:=d0_ 32 (h:=dpt_ 33 (h:=z_ (h:=t_ (cy_ (h:=w_ (a_ (h:=e_ (aw_ret (x_blockR (x_thenR (x_thenR (x_blockR (x_thenR (?_))))))))))))))))))))
   refine e_ret ?_
   exact vb (ents_no (by omega) hlt (by unfold entAt; simp only [hy]; simp_all [strLt])).symm
  have hc8 := bp hb8
  refine dl_ 26 (h:=dm_ 27 (h:=df_ 28 (h:=dl_ 29 (h:=dbd_ 30 (h:=?_)))))
  refine c_ 31 rfl (q_call (Rindex f (dev, x.2) hf) ?_)
  rintro r rfl
  refine o_ (h:=dlt_ 32 (h:=dpf_ 33 (h:=z_ (h:=t_ (?_)))))
  refine aw_cond rfl (fun hb9 => ?_) (fun hb9 => ?_)
  ·have hc9 := bp hb9
   refine w_ (a_ (h:=e_ (aw_ret (x_blockR (x_thenR (x_thenR (x_blockR (x_thenR (?_)))))))))
   refine e_ret ?_
   exact vb (ents_no (by omega) hlt (by unfold entAt; simp only [hy]; simp_all [strLt])).symm
  have hc9 := bp hb9
  refine aw_skip (x_blockN (t_ (aw_region (m_ (h:=ad_ (h:=a_ (h:=al_nil (?_))))))))
  refine x_then ?_
  refine ⟨_, _, ?_, ⟨j + 1, by omega, rfl, upto_next ha (by unfold entAt; simp only [hy]; simp_all [strLt]), rfl⟩, (wk 2 0)⟩
  omega
 have hc2 := bp hb2
 refine aw_exit (x_thenE (x_thenE (ABlock_out (t_ (w_ (a_ (h:=e_ (aw_ret (?_)))))))))
 refine e_ret ?_
 exact vb (ents_yes (by omega) (fun i hi => ha i (by omega))).symm
theorem Rreached (d : Dvc) (hd : d.nodes.length ≤ 1000) : AFn Try.prog 102 [.agg (dvcA d)] (fun r => r = .v (.bool (rchR d))) := by
 have hel : (d.nodes.map nodA).length = d.nodes.length := by simp
 refine enter Try.func102 rfl rfl rfl rfl rfl 0 rfl ?_
 refine w_ (b_ (h:=a_ (h:=e_ (q_ (w_ (a_ (h:=e_ (aw_block (?_)))))))))
 refine aw_loopW (fun m t => ∃ j : Nat, j ≤ d.nodes.length ∧ m = d.nodes.length - j ∧ (∀ i, i < j → rchAt d i = true) ∧ t = ⟨look [(1, .bp 0 0), (3, .v (.int .i64 (j : Int)))], ⟨[dvcA d], []⟩⟩) (d.nodes.length) ((wk 1 0)) (⟨0, by omega, rfl, fun i hi => by omega, rfl⟩) ?_
 rintro m t ⟨j, hj, rfl, ha, rfl⟩
 refine q_ (w_ (m_ (h:=f_ (h:=l_ (h:=n_ (h:=lt_ (h:=e_ (?_))))))))
 refine aw_cond rfl (fun hb1 => ?_) (fun hb1 => ?_)
 ·have hc1 := bp hb1
  obtain ⟨hlt, n, hy, hrow, -⟩ := row_at nodA hc1
  refine kt_ (q_ (aw_block (q_ (w_ (f_ (h:=l_ (h:=m_ (h:=?_))))))))
  refine al_p rfl (st_index (n := j) rfl rfl rfl hrow ?_)
  refine f_ (h:=l_ (h:=nq_ (h:=e_ (?_))))
  refine aw_cond rfl (fun hb2 => ?_) (fun hb2 => ?_)
  ·have hc2 := bp hb2
   refine aw_exit (x_thenE (ABlock_out (t_ (aw_region (m_ (h:=ad_ (h:=a_ (h:=al_nil (?_)))))))))
   refine x_then ?_
   refine ⟨_, _, ?_, ⟨j + 1, by omega, rfl, upto_next ha (by unfold rchAt; simp only [hy]; simp_all [itP]), rfl⟩, (wk 1 0)⟩
   omega
  have hc2 := bp hb2
  refine kt_ (w_ (f_ (h:=l_ (h:=m_ (h:=?_)))))
  refine al_p rfl (st_index (n := j) rfl rfl rfl hrow ?_)
  refine f_ (h:=l_ (h:=a_ (h:=e_ (q_ (w_ (a_ (h:=e_ (aw_block (?_)))))))))
  refine aw_loopW (fun m t => ∃ (k : Nat) (x : Int), k ≤ d.nodes.length ∧ m = d.nodes.length - k ∧ itP d (d.nodes.length - k) x = itP d d.nodes.length n.ino ∧ t = ⟨look [(1, .bp 0 0), (3, .v (.int .i64 (j : Int))), (4, .v (.int .i64 x)), (5, .v (.int .i64 (k : Int)))], ⟨[dvcA d], []⟩⟩) (d.nodes.length) ((wk 1 0)) (⟨0, n.ino, by omega, rfl, rfl, rfl⟩) ?_
  rintro m t ⟨k, x, hk, rfl, hx, rfl⟩
  refine q_ (w_ (m_ (h:=f_ (h:=l_ (h:=n_ (h:=lt_ (h:=e_ (?_))))))))
  refine aw_cond rfl (fun hb3 => ?_) (fun hb3 => ?_)
  ·have hc3 := bp hb3
   refine kt_ (q_ (aw_block (aw_region (l_ (h:=m_ (h:=?_))))))
   refine al_p rfl (q_call (Rparent d x hd) ?_)
   rintro r rfl
   refine a_ (h:=al_nil (x_blockN (t_ (aw_region (m_ (h:=ad_ (h:=a_ (h:=al_nil (?_)))))))))
   refine x_then ?_
   refine ⟨_, _, ?_, ⟨k + 1, parentL d x, by omega, rfl, (by rw [← hx, show d.nodes.length - k = (d.nodes.length - (k + 1)) + 1 by omega]; rfl), rfl⟩, (wk 1 0)⟩
   omega
  have hc3 := bp hb3
  have ek : k = d.nodes.length := by omega
  subst ek
  rw [Nat.sub_self] at hx
  refine aw_exit (x_thenE (x_thenE (ABlock_out (t_ (w_ (m_ (h:=nq_ (h:=e_ (?_)))))))))
  refine aw_cond rfl (fun hb4 => ?_) (fun hb4 => ?_)
  ·have hc4 := bp hb4
   refine w_ (a_ (h:=e_ (aw_ret (x_blockR (x_thenR (x_thenR (x_blockR (x_thenR (?_)))))))))
   refine e_ret ?_
   exact vb (range_no hlt (by unfold rchAt; simp only [hy]; simp_all [itP])).symm
  have hc4 := bp hb4
  refine aw_skip (x_blockN (t_ (aw_region (m_ (h:=ad_ (h:=a_ (h:=al_nil (?_))))))))
  refine x_then ?_
  refine ⟨_, _, ?_, ⟨j + 1, by omega, rfl, upto_next ha (by unfold rchAt; simp only [hy]; simp_all [itP]), rfl⟩, (wk 1 0)⟩
  omega
 have hc1 := bp hb1
 refine aw_exit (x_thenE (x_thenE (ABlock_out (t_ (w_ (a_ (h:=e_ (aw_ret (?_)))))))))
 refine e_ret ?_
 exact vb (range_yes (fun i hi => ha i (by omega))).symm
end
def preN (ns : List Nod) (i : Nat) (n : Nod) : Bool := match ns[i - 1]? with
 | some y => decide (n.ino ≤ y.ino)
 | none => false
theorem preN_at {ns : List Nod} {i : Nat} {n y : Nod} (h : ns[i - 1]? = some y) : preN ns i n = decide (n.ino ≤ y.ino) := by unfold preN; rw [h]
def devAt (f : Fls) (dev : Int) (d : Dvc) (i : Nat) : Bool := match d.nodes[i]? with
 | none => true
 | some n =>
   if d.next ≤ n.ino then false else if 0 < i ∧ preN d.nodes i n = true then false else if plainL n = false then false
   else if n.kind ≠ 2 ∧ (n.parent ≠ 0 ∨ 0 < n.entries.length) then false else if entsR f dev n.entries = false then false
   else if i = 0 then true
   else if n.kind = 2 then (if (linksF f (dev, n.ino) : Int) ≠ 1 then false else if hasG f (dev, n.parent) = false then false else holdsL (nodG f (dev, n.parent)) n.ino)
   else if (linksF f (dev, n.ino) : Int) < 1 then false else true
def headR (d : Dvc) : Bool :=
 if d.nodes.length < 1 then false else if 16 < d.nodes.length then false else if d.next < 2 then false else if 1073741824 < d.next then false else match d.nodes[0]? with
 | none => false
 | some r => if r.ino ≠ 1 then false else if r.kind ≠ 2 then false else if r.parent ≠ 1 then false else true
def devR5 (f : Fls) (dev : Int) (d : Dvc) : Bool := headR d && ((List.range d.nodes.length).all (devAt f dev d) && rchR d)
theorem dev_no0 {f : Fls} {dev : Int} {d : Dvc} (h : headR d = false) : devR5 f dev d = false := by unfold devR5; rw [h]; rfl
theorem dev_no {f : Fls} {dev : Int} {d : Dvc} {j : Nat} (hj : j < d.nodes.length) (h : devAt f dev d j = false) : devR5 f dev d = false := by
 unfold devR5
 rw [range_no hj h, Bool.false_and, Bool.and_false]
theorem dev_yes {f : Fls} {dev : Int} {d : Dvc} (h0 : headR d = true) (h : ∀ i, i < d.nodes.length → devAt f dev d i = true) : devR5 f dev d = rchR d := by
 unfold devR5
 rw [h0, range_yes h]
 rfl
def vldAt (f : Fls) (i : Nat) : Bool := match f[i]? with
 | none => true
 | some d => devR5 f i d
def vldR (f : Fls) : Bool := if f.length < 1 then false else if 3 < f.length then false else (List.range f.length).all (vldAt f)
section
set_option maxRecDepth 20000
set_option maxHeartbeats 4000000
theorem Rdev (f : Fls) (q : Nat) (d : Dvc) (hf : FlsT f) (hq : f[q]? = some d) : AFn Try.prog 78 [.agg (flsA f), .v (.int .i64 (q : Int))] (fun r => r = .v (.bool (devR5 f (q : Int) d))) := by
 have hdm := List.mem_of_getElem? hq
 have hdn := hf.b.nodes d hdm
 have hel : (d.nodes.map nodA).length = d.nodes.length := by simp
 have hrq : (f.map dvcA)[q]? = some (dvcA d) := by rw [List.getElem?_map, hq]; rfl
 have hent : ∀ (i : Nat) (n : Nod), d.nodes[i]? = some n → n.entries.length ≤ 1000 := fun i n hn => hf.b.ents d hdm n (List.mem_of_getElem? hn)
 have hnm : ∀ (i : Nat) (n : Nod), d.nodes[i]? = some n → ∀ e ∈ n.entries, e.1.size ≤ 100000 := fun i n hn => hf.nm d hdm n (List.mem_of_getElem? hn)
 have htg : ∀ (i : Nat) (n : Nod), d.nodes[i]? = some n → n.target.size ≤ 100000 := fun i n hn => hf.tg d hdm n (List.mem_of_getElem? hn)
 have hpe : ∀ a, (nodG f a).entries.length ≤ 1000 := nodG_ents hf.b
 refine enter Try.func78 rfl rfl rfl rfl rfl 0 rfl ?_
 refine w_ (b_ (h:=a_ (h:=e_ (w_ (f_ (h:=l_ (h:=m_ (h:=?_))))))))
 refine al_p rfl (st_index (n := q) rfl rfl rfl hrq ?_)
 refine l_ (h:=al_ (h:=s_ (h:=e_ (q_ (w_ (f_ (h:=l_ (h:=n_ (h:=lt_ (h:=m_ (h:=?_)))))))))))
 refine al_gs false rfl rfl (fun hb1 => ?_) (fun hb1 => ?_)
 ·have hc1 := bp hb1
  refine g0_ (h:=g0_ (h:=g0_ (h:=g0_ (h:=pt_ (h:=m_ (h:=g0_ (h:=g0_ (h:=g0_ (h:=pt_ (h:=m_ (h:=g0_ (h:=g0_ (h:=g0_ (h:=pt_ (h:=m_ (h:=g0_ (h:=g0_ (h:=g0_ (h:=g0_ (h:=g0_ (h:=g0_ (h:=pt_ (h:=m_ (h:=?_))))))))))))))))))))))))
  refine g0_ (h:=g0_ (h:=g0_ (h:=g0_ (h:=g0_ (h:=g0_ (h:=pt_ (h:=m_ (h:=g0_ (h:=g0_ (h:=g0_ (h:=g0_ (h:=g0_ (h:=g0_ (h:=pt_ (h:=e_ (cy_ (h:=w_ (a_ (h:=e_ (aw_ret (x_thenR (?_))))))))))))))))))))))
  refine e_ret ?_
  first | exact vb (dev_no hlt (by unfold devAt; simp only [hy]; simp_all)).symm | exact vb (dev_yes hhd (fun i hi => ha i (by omega))).symm | exact vb (dev_no0 (by unfold headR; rw [if_pos (by omega)])).symm
 have hc1 := bp hb1
 obtain ⟨hlt0, r0, hy0, hrow0, -⟩ := row_at (l := d.nodes) (k := 0) nodA (by omega)
 refine f_ (h:=l_ (h:=n_ (h:=gt_ (h:=pf_ (h:=m_ (h:=?_))))))
 refine al_gs false rfl rfl (fun hb2 => ?_) (fun hb2 => ?_)
 ·have hc2 := bp hb2
  refine g0_ (h:=g0_ (h:=g0_ (h:=pt_ (h:=m_ (h:=g0_ (h:=g0_ (h:=g0_ (h:=pt_ (h:=m_ (h:=g0_ (h:=g0_ (h:=g0_ (h:=g0_ (h:=g0_ (h:=g0_ (h:=pt_ (h:=m_ (h:=g0_ (h:=g0_ (h:=g0_ (h:=g0_ (h:=g0_ (h:=g0_ (h:=?_))))))))))))))))))))))))
  refine pt_ (h:=m_ (h:=g0_ (h:=g0_ (h:=g0_ (h:=g0_ (h:=g0_ (h:=g0_ (h:=pt_ (h:=e_ (cy_ (h:=w_ (a_ (h:=e_ (aw_ret (x_thenR (?_))))))))))))))))
  refine e_ret ?_
  first | exact vb (dev_no hlt (by unfold devAt; simp only [hy]; simp_all)).symm | exact vb (dev_yes hhd (fun i hi => ha i (by omega))).symm | exact vb (dev_no0 (by unfold headR; rw [if_pos (by omega)])).symm | exact vb (dev_no0 (by unfold headR; rw [if_neg (by omega), if_pos (by omega)])).symm
 have hc2 := bp hb2
 refine f_ (h:=l_ (h:=lt_ (h:=pf_ (h:=m_ (h:=?_)))))
 refine al_gs false rfl rfl (fun hb3 => ?_) (fun hb3 => ?_)
 ·have hc3 := bp hb3
  refine g0_ (h:=g0_ (h:=g0_ (h:=pt_ (h:=m_ (h:=g0_ (h:=g0_ (h:=g0_ (h:=g0_ (h:=g0_ (h:=g0_ (h:=pt_ (h:=m_ (h:=g0_ (h:=g0_ (h:=g0_ (h:=g0_ (h:=g0_ (h:=g0_ (h:=pt_ (h:=m_ (h:=g0_ (h:=g0_ (h:=g0_ (h:=?_))))))))))))))))))))))))
  refine g0_ (h:=g0_ (h:=g0_ (h:=pt_ (h:=e_ (cy_ (h:=w_ (a_ (h:=e_ (aw_ret (x_thenR (?_)))))))))))
  refine e_ret ?_
  first | exact vb (dev_no hlt (by unfold devAt; simp only [hy]; simp_all)).symm | exact vb (dev_yes hhd (fun i hi => ha i (by omega))).symm | exact vb (dev_no0 (by unfold headR; rw [if_pos (by omega)])).symm | exact vb (dev_no0 (by unfold headR; rw [if_neg (by omega), if_pos (by omega)])).symm | exact vb (dev_no0 (by unfold headR; rw [if_neg (by omega), if_neg (by omega)]; simp only [hy0]; simp_all)).symm
 have hc3 := bp hb3
 refine f_ (h:=l_ (h:=gt_ (h:=pf_ (h:=m_ (h:=?_)))))
 refine al_gs false rfl rfl (fun hb4 => ?_) (fun hb4 => ?_)
 ·have hc4 := bp hb4
  refine g0_ (h:=g0_ (h:=g0_ (h:=g0_ (h:=g0_ (h:=g0_ (h:=pt_ (h:=m_ (h:=g0_ (h:=g0_ (h:=g0_ (h:=g0_ (h:=g0_ (h:=g0_ (h:=pt_ (h:=m_ (h:=g0_ (h:=g0_ (h:=g0_ (h:=g0_ (h:=g0_ (h:=g0_ (h:=pt_ (h:=e_ (?_))))))))))))))))))))))))
  refine cy_ (h:=w_ (a_ (h:=e_ (aw_ret (x_thenR (?_))))))
  refine e_ret ?_
  first | exact vb (dev_no hlt (by unfold devAt; simp only [hy]; simp_all)).symm | exact vb (dev_yes hhd (fun i hi => ha i (by omega))).symm | exact vb (dev_no0 (by unfold headR; rw [if_pos (by omega)])).symm | exact vb (dev_no0 (by unfold headR; rw [if_neg (by omega), if_pos (by omega)])).symm | exact vb (dev_no0 (by unfold headR; rw [if_neg (by omega), if_neg (by omega)]; simp only [hy0]; simp_all)).symm
 have hc4 := bp hb4
 refine f_ (h:=l_ (h:=?_))
 refine g_y (st_index (n := 0) rfl rfl rfl hrow0 ?_)
 refine f_ (h:=l_ (h:=nq_ (h:=pf_ (h:=m_ (h:=?_)))))
 refine al_gs false rfl rfl (fun hb5 => ?_) (fun hb5 => ?_)
 ·have hc5 := bp hb5
  refine g0_ (h:=g0_ (h:=g0_ (h:=g0_ (h:=g0_ (h:=g0_ (h:=pt_ (h:=m_ (h:=g0_ (h:=g0_ (h:=g0_ (h:=g0_ (h:=g0_ (h:=g0_ (h:=pt_ (h:=e_ (cy_ (h:=w_ (a_ (h:=e_ (aw_ret (x_thenR (?_))))))))))))))))))))))
  refine e_ret ?_
  first | exact vb (dev_no hlt (by unfold devAt; simp only [hy]; simp_all)).symm | exact vb (dev_yes hhd (fun i hi => ha i (by omega))).symm | exact vb (dev_no0 (by unfold headR; rw [if_pos (by omega)])).symm | exact vb (dev_no0 (by unfold headR; rw [if_neg (by omega), if_pos (by omega)])).symm | exact vb (dev_no0 (by unfold headR; rw [if_neg (by omega), if_neg (by omega)]; simp only [hy0]; simp_all)).symm
 have hc5 := bp hb5
 refine f_ (h:=l_ (h:=?_))
 refine g_y (st_index (n := 0) rfl rfl rfl hrow0 ?_)
 refine f_ (h:=l_ (h:=nq_ (h:=pf_ (h:=m_ (h:=?_)))))
 refine al_gs false rfl rfl (fun hb6 => ?_) (fun hb6 => ?_)
 ·have hc6 := bp hb6
  refine g0_ (h:=g0_ (h:=g0_ (h:=g0_ (h:=g0_ (h:=g0_ (h:=pt_ (h:=e_ (cy_ (h:=w_ (a_ (h:=e_ (aw_ret (x_thenR (?_))))))))))))))
  refine e_ret ?_
  first | exact vb (dev_no hlt (by unfold devAt; simp only [hy]; simp_all)).symm | exact vb (dev_yes hhd (fun i hi => ha i (by omega))).symm | exact vb (dev_no0 (by unfold headR; rw [if_pos (by omega)])).symm | exact vb (dev_no0 (by unfold headR; rw [if_neg (by omega), if_pos (by omega)])).symm | exact vb (dev_no0 (by unfold headR; rw [if_neg (by omega), if_neg (by omega)]; simp only [hy0]; simp_all)).symm
 have hc6 := bp hb6
 refine f_ (h:=l_ (h:=?_))
 refine g_y (st_index (n := 0) rfl rfl rfl hrow0 ?_)
 refine f_ (h:=l_ (h:=nq_ (h:=pf_ (h:=e_ (?_)))))
 refine aw_cond rfl (fun hb7 => ?_) (fun hb7 => ?_)
 ·have hc7 := bp hb7
  refine w_ (a_ (h:=e_ (aw_ret (x_thenR (?_)))))
  refine e_ret ?_
  first | exact vb (dev_no hlt (by unfold devAt; simp only [hy]; simp_all)).symm | exact vb (dev_yes hhd (fun i hi => ha i (by omega))).symm | exact vb (dev_no0 (by unfold headR; rw [if_pos (by omega)])).symm | exact vb (dev_no0 (by unfold headR; rw [if_neg (by omega), if_pos (by omega)])).symm | exact vb (dev_no0 (by unfold headR; rw [if_neg (by omega), if_neg (by omega)]; simp only [hy0]; simp_all)).symm
 have hc7 := bp hb7
 have hhd : headR d = true := by unfold headR; rw [if_neg (by omega), if_neg (by omega)]; simp only [hy0]; simp_all
 refine kt_ (q_ (w_ (a_ (h:=e_ (aw_block (?_))))))
 refine aw_loopW (fun m t => ∃ j : Nat, j ≤ d.nodes.length ∧ m = d.nodes.length - j ∧ (∀ i, i < j → devAt f (q : Int) d i = true) ∧ t = ⟨look [(1, .v (.int .i64 (q : Int))), (2, .bp 0 0), (5, .bp 1 0), (6, .v (.int .i64 (j : Int)))], ⟨[flsA f, dvcA d], []⟩⟩) (d.nodes.length) ((wk 2 0)) (⟨0, by omega, rfl, fun i hi => by omega, rfl⟩) ?_
 rintro m t ⟨j, hj, rfl, ha, rfl⟩
 refine q_ (w_ (m_ (h:=f_ (h:=l_ (h:=n_ (h:=lt_ (h:=e_ (?_))))))))
 refine aw_cond rfl (fun hb8 => ?_) (fun hb8 => ?_)
 ·have hc8 := bp hb8
  obtain ⟨hlt, n, hy, hrow, -⟩ := row_at nodA hc8
  refine kt_ (q_ (aw_block (w_ (f_ (h:=l_ (h:=m_ (h:=?_)))))))
  refine al_p rfl (st_index (n := j) rfl rfl rfl hrow ?_)
  refine l_ (h:=al_ (h:=s_ (h:=e_ (q_ (q_ (yr_ 49 (h:=df_ 0 (h:=dl_ 1 (h:=df_ 2 (h:=dl_ 3 (h:=dge_ 4 (h:=dm_ 5 (h:=?_)))))))))))))
  refine aa_both (j := 5) rfl (fun hb9 => ?_) (fun hb9 => ?_)
  ·have hc9 := bp hb9
   refine d0_ 6 (h:=d0_ 7 (h:=d0_ 8 (h:=d0_ 9 (h:=d0_ 10 (h:=d0_ 11 (h:=d0_ 12 (h:=d0_ 13 (h:=d0_ 14 (h:=d0_ 15 (h:=d0_ 16 (h:=d0_ 17 (h:=d0_ 18 (h:=d0_ 19 (h:=dpt_ 20 (h:=dm_ 21 (h:=d0_ 22 (h:=d0_ 23 (h:=d0_ 24 (h:=dpt_ 25 (h:=dm_ 26 (h:=d0_ 27 (h:=d0_ 28 (h:=d0_ 29 (h:=?_))))))))))))))))))))))))
   refine d0_ 30 (h:=d0_ 31 (h:=d0_ 32 (h:=d0_ 33 (h:=d0_ 34 (h:=d0_ 35 (h:=d0_ 36 (h:=d0_ 37 (h:=d0_ 38 (h:=d0_ 39 (h:=d0_ 40 (h:=dpt_ 41 (h:=dm_ 42 (h:=d0_ 43 (h:=d0_ 44 (h:=d0_ 45 (h:=d0_ 46 (h:=d0_ 47 (h:=dpt_ 48 (h:=z_ (h:=t_ (cy_ (h:=w_ (a_ (h:=?_))))))))))))))))))))))))
   refine e_ (aw_ret (x_thenR (x_blockR (x_thenR (x_thenR (x_blockR (x_thenR (?_))))))))
   refine e_ret ?_
   exact vb (dev_no hlt (by unfold devAt; simp only [hy]; simp_all)).symm
  have hc9 := bp hb9
  refine dm_ 6 (h:=dgt_ 7 (h:=dm_ 8 (h:=?_)))
  refine aa_both (j := 8) rfl (fun hb10 => ?_) (fun hb10 => ?_)
  ·have hc10 := bp hb10
   obtain ⟨hlt1, y, hy1, hrow1, -⟩ := row_at (l := d.nodes) (k := j - 1) nodA (by omega)
   have hpre := preN_at (n := n) hy1
   refine df_ 9 (h:=dl_ 10 (h:=dm_ 11 (h:=dsb_ 12 (h:=?_))))
   refine r_y (i := 13) rfl (st_index (n := j - 1) rfl rfl (by omega) hrow1 ⟨rfl, rfl⟩) ?_
   refine df_ 14 (h:=dl_ 15 (h:=df_ 16 (h:=dl_ 17 (h:=dge_ 18 (h:=dpt_ 19 (h:=dpf_ 20 (h:=dm_ 21 (h:=?_))))))))
   refine aa_both (j := 21) rfl (fun hb11 => ?_) (fun hb11 => ?_)
   ·have hc11 := bp hb11
    refine d0_ 22 (h:=d0_ 23 (h:=d0_ 24 (h:=dpt_ 25 (h:=dm_ 26 (h:=d0_ 27 (h:=d0_ 28 (h:=d0_ 29 (h:=d0_ 30 (h:=d0_ 31 (h:=d0_ 32 (h:=d0_ 33 (h:=d0_ 34 (h:=d0_ 35 (h:=d0_ 36 (h:=d0_ 37 (h:=d0_ 38 (h:=d0_ 39 (h:=d0_ 40 (h:=dpt_ 41 (h:=dm_ 42 (h:=d0_ 43 (h:=d0_ 44 (h:=d0_ 45 (h:=?_))))))))))))))))))))))))
    refine d0_ 46 (h:=d0_ 47 (h:=dpt_ 48 (h:=z_ (h:=t_ (cy_ (h:=w_ (a_ (h:=e_ (aw_ret (x_thenR (x_blockR (x_thenR (x_thenR (x_blockR (x_thenR (?_))))))))))))))))
    refine e_ret ?_
    exact vb (dev_no hlt (by unfold devAt; simp only [hy]; simp_all)).symm
   have hc11 := bp hb11
   refine dl_ 22 (h:=?_)
   refine c_ 23 rfl (q_call (Rplain n (htg j n hy)) ?_)
   rintro r rfl
   refine o_ (h:=dnt_ 24 (h:=dpf_ 25 (h:=dm_ 26 (h:=?_))))
   refine aa_both (j := 26) rfl (fun hb12 => ?_) (fun hb12 => ?_)
   ·have hc12 := bp hb12
    refine d0_ 27 (h:=d0_ 28 (h:=d0_ 29 (h:=d0_ 30 (h:=d0_ 31 (h:=d0_ 32 (h:=d0_ 33 (h:=d0_ 34 (h:=d0_ 35 (h:=d0_ 36 (h:=d0_ 37 (h:=d0_ 38 (h:=d0_ 39 (h:=d0_ 40 (h:=dpt_ 41 (h:=dm_ 42 (h:=d0_ 43 (h:=d0_ 44 (h:=d0_ 45 (h:=d0_ 46 (h:=d0_ 47 (h:=dpt_ 48 (h:=z_ (h:=t_ (?_))))))))))))))))))))))))
    refine cy_ (h:=w_ (a_ (h:=e_ (aw_ret (x_thenR (x_blockR (x_thenR (x_thenR (x_blockR (x_thenR (?_)))))))))))
    refine e_ret ?_
    exact vb (dev_no hlt (by unfold devAt; simp only [hy]; simp_all)).symm
   have hc12 := bp hb12
   refine df_ 27 (h:=dl_ 28 (h:=dnq_ 29 (h:=dm_ 30 (h:=?_))))
   refine aa_both (j := 30) rfl (fun hb13 => ?_) (fun hb13 => ?_)
   ·have hc13 := bp hb13
    refine df_ 31 (h:=dl_ 32 (h:=dnq_ 33 (h:=dm_ 34 (h:=?_))))
    refine aa_both (j := 34) rfl (fun hb14 => ?_) (fun hb14 => ?_)
    ·have hc14 := bp hb14
     refine d0_ 35 (h:=d0_ 36 (h:=d0_ 37 (h:=d0_ 38 (h:=dpt_ 39 (h:=dpt_ 40 (h:=dpf_ 41 (h:=dm_ 42 (h:=d0_ 43 (h:=d0_ 44 (h:=d0_ 45 (h:=d0_ 46 (h:=d0_ 47 (h:=dpt_ 48 (h:=z_ (h:=t_ (cy_ (h:=w_ (a_ (h:=e_ (aw_ret (x_thenR (x_blockR (x_thenR (?_))))))))))))))))))))))))
     refine x_thenR (x_blockR (x_thenR (?_)))
     refine e_ret ?_
     exact vb (dev_no hlt (by unfold devAt; simp only [hy]; simp_all)).symm
    have hc14 := bp hb14
    refine df_ 35 (h:=dl_ 36 (h:=dn_ 37 (h:=dgt_ 38 (h:=dpf_ 39 (h:=dpt_ 40 (h:=dpf_ 41 (h:=dm_ 42 (h:=?_))))))))
    refine aa_both (j := 42) rfl (fun hb15 => ?_) (fun hb15 => ?_)
    ·have hc15 := bp hb15
     refine d0_ 43 (h:=d0_ 44 (h:=d0_ 45 (h:=d0_ 46 (h:=d0_ 47 (h:=dpt_ 48 (h:=z_ (h:=t_ (cy_ (h:=w_ (a_ (h:=e_ (aw_ret (x_thenR (x_blockR (x_thenR (x_thenR (x_blockR (x_thenR (?_)))))))))))))))))))
     refine e_ret ?_
     exact vb (dev_no hlt (by unfold devAt; simp only [hy]; simp_all)).symm
    have hc15 := bp hb15
    refine dl_ 43 (h:=dm_ 44 (h:=dl_ 45 (h:=?_)))
    refine c_ 46 rfl (q_call (Rents f (q : Int) n hf.b (hent j n hy) (hnm j n hy)) ?_)
    rintro r rfl
    refine o_ (h:=dnt_ 47 (h:=dpf_ 48 (h:=z_ (h:=t_ (?_)))))
    refine aw_cond rfl (fun hb16 => ?_) (fun hb16 => ?_)
    ·have hc16 := bp hb16
     refine w_ (a_ (h:=e_ (aw_ret (x_thenR (x_blockR (x_thenR (x_thenR (x_blockR (x_thenR (?_))))))))))
     refine e_ret ?_
     exact vb (dev_no hlt (by unfold devAt; simp only [hy]; simp_all)).symm
    have hc16 := bp hb16
    refine kt_ (w_ (m_ (h:=f_ (h:=l_ (h:=bd_ (h:=al_ (h:=s_ (h:=e_ (q_ (w_ (m_ (h:=eq_ (h:=e_ (?_))))))))))))))
    refine aw_cond rfl (fun hb17 => ?_) (fun hb17 => ?_)
    ·have hc17 := bp hb17
     refine aw_exit (x_thenE (ABlock_out (t_ (aw_region (m_ (h:=ad_ (h:=a_ (h:=al_nil (?_)))))))))
     refine x_then ?_
     refine ⟨_, _, ?_, ⟨j + 1, by omega, rfl, upto_next ha (by unfold devAt; simp only [hy]; simp_all), rfl⟩, (wk 2 0)⟩
     omega
    have hc17 := bp hb17
    refine kt_ (w_ (l_ (h:=l_ (h:=?_))))
    refine al_p rfl (q_call (Rlinks f ((q : Int), n.ino) hf.b) ?_)
    rintro r rfl
    refine a_ (h:=e_ (q_ (w_ (f_ (h:=l_ (h:=nq_ (h:=m_ (h:=m_ (h:=lt_ (h:=pt_ (h:=e_ (?_))))))))))))
    refine aw_cond rfl (fun hb18 => ?_) (fun hb18 => ?_)
    ·have hc18 := bp hb18
     refine w_ (a_ (h:=e_ (aw_ret (x_thenR (x_blockR (x_thenR (x_thenR (x_blockR (x_thenR (?_))))))))))
     refine e_ret ?_
     exact vb (dev_no hlt (by unfold devAt; simp only [hy]; simp_all)).symm
    have hc18 := bp hb18
    refine kt_ (w_ (f_ (h:=l_ (h:=eq_ (h:=e_ (cn_ (h:=aw_skip (x_blockN (t_ (aw_region (m_ (h:=ad_ (h:=a_ (h:=al_nil (?_)))))))))))))))
    refine x_then ?_
    refine ⟨_, _, ?_, ⟨j + 1, by omega, rfl, upto_next ha (by unfold devAt; simp only [hy]; simp_all), rfl⟩, (wk 2 0)⟩
    omega
   have hc13 := bp hb13
   refine d0_ 31 (h:=d0_ 32 (h:=d0_ 33 (h:=d0_ 34 (h:=d0_ 35 (h:=d0_ 36 (h:=d0_ 37 (h:=d0_ 38 (h:=d0_ 39 (h:=dpf_ 40 (h:=dpf_ 41 (h:=dm_ 42 (h:=dl_ 43 (h:=dm_ 44 (h:=dl_ 45 (h:=?_)))))))))))))))
   refine c_ 46 rfl (q_call (Rents f (q : Int) n hf.b (hent j n hy) (hnm j n hy)) ?_)
   rintro r rfl
   refine o_ (h:=dnt_ 47 (h:=dpf_ 48 (h:=z_ (h:=t_ (?_)))))
   refine aw_cond rfl (fun hb19 => ?_) (fun hb19 => ?_)
   ·have hc19 := bp hb19
    refine w_ (a_ (h:=e_ (aw_ret (x_thenR (x_blockR (x_thenR (x_thenR (x_blockR (x_thenR (?_))))))))))
    refine e_ret ?_
    exact vb (dev_no hlt (by unfold devAt; simp only [hy]; simp_all)).symm
   have hc19 := bp hb19
   refine kt_ (w_ (m_ (h:=f_ (h:=l_ (h:=bd_ (h:=al_ (h:=s_ (h:=e_ (q_ (w_ (m_ (h:=eq_ (h:=e_ (?_))))))))))))))
   refine aw_cond rfl (fun hb20 => ?_) (fun hb20 => ?_)
   ·have hc20 := bp hb20
    refine aw_exit (x_thenE (ABlock_out (t_ (aw_region (m_ (h:=ad_ (h:=a_ (h:=al_nil (?_)))))))))
    refine x_then ?_
    refine ⟨_, _, ?_, ⟨j + 1, by omega, rfl, upto_next ha (by unfold devAt; simp only [hy]; simp_all), rfl⟩, (wk 2 0)⟩
    omega
   have hc20 := bp hb20
   refine kt_ (w_ (l_ (h:=l_ (h:=?_))))
   refine al_p rfl (q_call (Rlinks f ((q : Int), n.ino) hf.b) ?_)
   rintro r rfl
   refine a_ (h:=e_ (q_ (w_ (f_ (h:=l_ (h:=nq_ (h:=m_ (h:=g0_ (h:=g0_ (h:=pf_ (h:=e_ (cn_ (h:=kt_ (w_ (f_ (h:=l_ (h:=eq_ (h:=e_ (cy_ (h:=w_ (l_ (h:=m_ (h:=f_ (h:=?_))))))))))))))))))))))))
   refine l_ (h:=bd_ (h:=?_))
   refine al_p rfl (q_call (Rnode f ((q : Int), n.parent) hf.b) ?_)
   rintro r rfl
   refine m_ (h:=x_ (h:=x_ (h:=al_ (h:=s_ (h:=a_ (h:=e_ (w_ (m_ (h:=nq_ (h:=m_ (h:=?_)))))))))))
   refine al_gs false rfl rfl (fun hb21 => ?_) (fun hb21 => ?_)
   ·have hc21 := bp hb21
    refine g0_ (h:=g0_ (h:=pt_ (h:=m_ (h:=g0_ (h:=g0_ (h:=g0_ (h:=g0_ (h:=g0_ (h:=pt_ (h:=e_ (cy_ (h:=w_ (a_ (h:=e_ (aw_ret (x_blockR (x_thenR (x_thenR (x_blockR (x_thenR (?_)))))))))))))))))))))
    refine e_ret ?_
    exact vb (dev_no hlt (by unfold devAt; simp only [hy]; simp_all)).symm
   have hc21 := bp hb21
   refine m_ (h:=nt_ (h:=pf_ (h:=m_ (h:=?_))))
   refine al_gs false rfl rfl (fun hb22 => ?_) (fun hb22 => ?_)
   ·have hc22 := bp hb22
    refine g0_ (h:=g0_ (h:=g0_ (h:=g0_ (h:=g0_ (h:=pt_ (h:=e_ (cy_ (h:=w_ (a_ (h:=e_ (aw_ret (x_blockR (x_thenR (x_thenR (x_blockR (x_thenR (?_)))))))))))))))))
    refine e_ret ?_
    exact vb (dev_no hlt (by unfold devAt; simp only [hy]; simp_all)).symm
   have hc22 := bp hb22
   refine l_ (h:=f_ (h:=l_ (h:=?_)))
   refine g_y (q_call (Rholds (nodG f ((q : Int), n.parent)) n.ino (hpe _)) ?_)
   rintro r rfl
   refine nt_ (h:=pf_ (h:=e_ (?_)))
   refine aw_cond rfl (fun hb23 => ?_) (fun hb23 => ?_)
   ·have hc23 := bp hb23
    refine w_ (a_ (h:=e_ (aw_ret (x_blockR (x_thenR (x_thenR (x_blockR (x_thenR (?_)))))))))
    refine e_ret ?_
    exact vb (dev_no hlt (by unfold devAt; simp only [hy]; simp_all)).symm
   have hc23 := bp hb23
   refine aw_skip (x_blockN (t_ (aw_region (m_ (h:=ad_ (h:=a_ (h:=al_nil (?_))))))))
   refine x_then ?_
   refine ⟨_, _, ?_, ⟨j + 1, by omega, rfl, upto_next ha (by unfold devAt; simp only [hy]; simp_all), rfl⟩, (wk 2 0)⟩
   omega
  have hc10 := bp hb10
  refine d0_ 9 (h:=d0_ 10 (h:=d0_ 11 (h:=d0_ 12 (h:=d0_ 13 (h:=d0_ 14 (h:=d0_ 15 (h:=d0_ 16 (h:=d0_ 17 (h:=d0_ 18 (h:=dpf_ 19 (h:=dpf_ 20 (h:=dm_ 21 (h:=dl_ 22 (h:=?_))))))))))))))
  refine c_ 23 rfl (q_call (Rplain n (htg j n hy)) ?_)
  rintro r rfl
  refine o_ (h:=dnt_ 24 (h:=dpf_ 25 (h:=dm_ 26 (h:=?_))))
  refine aa_both (j := 26) rfl (fun hb24 => ?_) (fun hb24 => ?_)
  ·have hc24 := bp hb24
   refine d0_ 27 (h:=d0_ 28 (h:=d0_ 29 (h:=d0_ 30 (h:=d0_ 31 (h:=d0_ 32 (h:=d0_ 33 (h:=d0_ 34 (h:=d0_ 35 (h:=d0_ 36 (h:=d0_ 37 (h:=d0_ 38 (h:=d0_ 39 (h:=d0_ 40 (h:=dpt_ 41 (h:=dm_ 42 (h:=d0_ 43 (h:=d0_ 44 (h:=d0_ 45 (h:=d0_ 46 (h:=d0_ 47 (h:=dpt_ 48 (h:=z_ (h:=t_ (?_))))))))))))))))))))))))
   refine cy_ (h:=w_ (a_ (h:=e_ (aw_ret (x_thenR (x_blockR (x_thenR (x_thenR (x_blockR (x_thenR (?_)))))))))))
   refine e_ret ?_
   exact vb (dev_no hlt (by unfold devAt; simp only [hy]; simp_all)).symm
  have hc24 := bp hb24
  refine df_ 27 (h:=dl_ 28 (h:=dnq_ 29 (h:=dm_ 30 (h:=?_))))
  refine aa_both (j := 30) rfl (fun hb25 => ?_) (fun hb25 => ?_)
  ·have hc25 := bp hb25
   refine df_ 31 (h:=dl_ 32 (h:=dnq_ 33 (h:=dm_ 34 (h:=?_))))
   refine aa_both (j := 34) rfl (fun hb26 => ?_) (fun hb26 => ?_)
   ·have hc26 := bp hb26
    refine d0_ 35 (h:=d0_ 36 (h:=d0_ 37 (h:=d0_ 38 (h:=dpt_ 39 (h:=dpt_ 40 (h:=dpf_ 41 (h:=dm_ 42 (h:=d0_ 43 (h:=d0_ 44 (h:=d0_ 45 (h:=d0_ 46 (h:=d0_ 47 (h:=dpt_ 48 (h:=z_ (h:=t_ (cy_ (h:=w_ (a_ (h:=e_ (aw_ret (x_thenR (x_blockR (x_thenR (?_))))))))))))))))))))))))
    refine x_thenR (x_blockR (x_thenR (?_)))
    refine e_ret ?_
    exact vb (dev_no hlt (by unfold devAt; simp only [hy]; simp_all)).symm
   have hc26 := bp hb26
   refine df_ 35 (h:=dl_ 36 (h:=dn_ 37 (h:=dgt_ 38 (h:=dpf_ 39 (h:=dpt_ 40 (h:=dpf_ 41 (h:=dm_ 42 (h:=?_))))))))
   refine aa_both (j := 42) rfl (fun hb27 => ?_) (fun hb27 => ?_)
   ·have hc27 := bp hb27
    refine d0_ 43 (h:=d0_ 44 (h:=d0_ 45 (h:=d0_ 46 (h:=d0_ 47 (h:=dpt_ 48 (h:=z_ (h:=t_ (cy_ (h:=w_ (a_ (h:=e_ (aw_ret (x_thenR (x_blockR (x_thenR (x_thenR (x_blockR (x_thenR (?_)))))))))))))))))))
    refine e_ret ?_
    exact vb (dev_no hlt (by unfold devAt; simp only [hy]; simp_all)).symm
   have hc27 := bp hb27
   refine dl_ 43 (h:=dm_ 44 (h:=dl_ 45 (h:=?_)))
   refine c_ 46 rfl (q_call (Rents f (q : Int) n hf.b (hent j n hy) (hnm j n hy)) ?_)
   rintro r rfl
   refine o_ (h:=dnt_ 47 (h:=dpf_ 48 (h:=z_ (h:=t_ (?_)))))
   refine aw_cond rfl (fun hb28 => ?_) (fun hb28 => ?_)
   ·have hc28 := bp hb28
    refine w_ (a_ (h:=e_ (aw_ret (x_thenR (x_blockR (x_thenR (x_thenR (x_blockR (x_thenR (?_))))))))))
    refine e_ret ?_
    exact vb (dev_no hlt (by unfold devAt; simp only [hy]; simp_all)).symm
   have hc28 := bp hb28
   refine kt_ (w_ (m_ (h:=f_ (h:=l_ (h:=bd_ (h:=al_ (h:=s_ (h:=e_ (q_ (w_ (m_ (h:=eq_ (h:=e_ (?_))))))))))))))
   refine aw_cond rfl (fun hb29 => ?_) (fun hb29 => ?_)
   ·have hc29 := bp hb29
    refine aw_exit (x_thenE (ABlock_out (t_ (aw_region (m_ (h:=ad_ (h:=a_ (h:=al_nil (?_)))))))))
    refine x_then ?_
    refine ⟨_, _, ?_, ⟨j + 1, by omega, rfl, upto_next ha (by unfold devAt; simp only [hy]; simp_all), rfl⟩, (wk 2 0)⟩
    omega
   have hc29 := bp hb29
   refine kt_ (w_ (l_ (h:=l_ (h:=?_))))
   refine al_p rfl (q_call (Rlinks f ((q : Int), n.ino) hf.b) ?_)
   rintro r rfl
   refine a_ (h:=e_ (q_ (w_ (f_ (h:=l_ (h:=nq_ (h:=m_ (h:=m_ (h:=lt_ (h:=pt_ (h:=e_ (?_))))))))))))
   refine aw_cond rfl (fun hb30 => ?_) (fun hb30 => ?_)
   ·have hc30 := bp hb30
    refine w_ (a_ (h:=e_ (aw_ret (x_thenR (x_blockR (x_thenR (x_thenR (x_blockR (x_thenR (?_))))))))))
    refine e_ret ?_
    exact vb (dev_no hlt (by unfold devAt; simp only [hy]; simp_all)).symm
   have hc30 := bp hb30
   refine kt_ (w_ (f_ (h:=l_ (h:=eq_ (h:=e_ (cn_ (h:=aw_skip (x_blockN (t_ (aw_region (m_ (h:=ad_ (h:=a_ (h:=al_nil (?_)))))))))))))))
   refine x_then ?_
   refine ⟨_, _, ?_, ⟨j + 1, by omega, rfl, upto_next ha (by unfold devAt; simp only [hy]; simp_all), rfl⟩, (wk 2 0)⟩
   omega
  have hc25 := bp hb25
  refine d0_ 31 (h:=d0_ 32 (h:=d0_ 33 (h:=d0_ 34 (h:=d0_ 35 (h:=d0_ 36 (h:=d0_ 37 (h:=d0_ 38 (h:=d0_ 39 (h:=dpf_ 40 (h:=dpf_ 41 (h:=dm_ 42 (h:=dl_ 43 (h:=dm_ 44 (h:=dl_ 45 (h:=?_)))))))))))))))
  refine c_ 46 rfl (q_call (Rents f (q : Int) n hf.b (hent j n hy) (hnm j n hy)) ?_)
  rintro r rfl
  refine o_ (h:=dnt_ 47 (h:=dpf_ 48 (h:=z_ (h:=t_ (?_)))))
  refine aw_cond rfl (fun hb31 => ?_) (fun hb31 => ?_)
  ·have hc31 := bp hb31
   refine w_ (a_ (h:=e_ (aw_ret (x_thenR (x_blockR (x_thenR (x_thenR (x_blockR (x_thenR (?_))))))))))
   refine e_ret ?_
   exact vb (dev_no hlt (by unfold devAt; simp only [hy]; simp_all)).symm
  have hc31 := bp hb31
  refine kt_ (w_ (m_ (h:=f_ (h:=l_ (h:=bd_ (h:=al_ (h:=s_ (h:=e_ (q_ (w_ (m_ (h:=eq_ (h:=e_ (?_))))))))))))))
  refine aw_cond rfl (fun hb32 => ?_) (fun hb32 => ?_)
  ·have hc32 := bp hb32
   refine aw_exit (x_thenE (ABlock_out (t_ (aw_region (m_ (h:=ad_ (h:=a_ (h:=al_nil (?_)))))))))
   refine x_then ?_
   refine ⟨_, _, ?_, ⟨j + 1, by omega, rfl, upto_next ha (by unfold devAt; simp only [hy]; simp_all), rfl⟩, (wk 2 0)⟩
   omega
  have hc32 := bp hb32
  refine kt_ (w_ (l_ (h:=l_ (h:=?_))))
  refine al_p rfl (q_call (Rlinks f ((q : Int), n.ino) hf.b) ?_)
  rintro r rfl
  refine a_ (h:=e_ (q_ (w_ (f_ (h:=l_ (h:=nq_ (h:=m_ (h:=g0_ (h:=g0_ (h:=pf_ (h:=e_ (cn_ (h:=kt_ (w_ (f_ (h:=l_ (h:=eq_ (h:=e_ (cy_ (h:=w_ (l_ (h:=m_ (h:=f_ (h:=?_))))))))))))))))))))))))
  refine l_ (h:=bd_ (h:=?_))
  refine al_p rfl (q_call (Rnode f ((q : Int), n.parent) hf.b) ?_)
  rintro r rfl
  refine m_ (h:=x_ (h:=x_ (h:=al_ (h:=s_ (h:=a_ (h:=e_ (w_ (m_ (h:=nq_ (h:=m_ (h:=?_)))))))))))
  refine al_gs false rfl rfl (fun hb33 => ?_) (fun hb33 => ?_)
  ·have hc33 := bp hb33
   refine g0_ (h:=g0_ (h:=pt_ (h:=m_ (h:=g0_ (h:=g0_ (h:=g0_ (h:=g0_ (h:=g0_ (h:=pt_ (h:=e_ (cy_ (h:=w_ (a_ (h:=e_ (aw_ret (x_blockR (x_thenR (x_thenR (x_blockR (x_thenR (?_)))))))))))))))))))))
   refine e_ret ?_
   exact vb (dev_no hlt (by unfold devAt; simp only [hy]; simp_all)).symm
  have hc33 := bp hb33
  refine m_ (h:=nt_ (h:=pf_ (h:=m_ (h:=?_))))
  refine al_gs false rfl rfl (fun hb34 => ?_) (fun hb34 => ?_)
  ·have hc34 := bp hb34
   refine g0_ (h:=g0_ (h:=g0_ (h:=g0_ (h:=g0_ (h:=pt_ (h:=e_ (cy_ (h:=w_ (a_ (h:=e_ (aw_ret (x_blockR (x_thenR (x_thenR (x_blockR (x_thenR (?_)))))))))))))))))
   refine e_ret ?_
   exact vb (dev_no hlt (by unfold devAt; simp only [hy]; simp_all)).symm
  have hc34 := bp hb34
  refine l_ (h:=f_ (h:=l_ (h:=?_)))
  refine g_y (q_call (Rholds (nodG f ((q : Int), n.parent)) n.ino (hpe _)) ?_)
  rintro r rfl
  refine nt_ (h:=pf_ (h:=e_ (?_)))
  refine aw_cond rfl (fun hb35 => ?_) (fun hb35 => ?_)
  ·have hc35 := bp hb35
   refine w_ (a_ (h:=e_ (aw_ret (x_blockR (x_thenR (x_thenR (x_blockR (x_thenR (?_)))))))))
   refine e_ret ?_
   exact vb (dev_no hlt (by unfold devAt; simp only [hy]; simp_all)).symm
  have hc35 := bp hb35
  refine aw_skip (x_blockN (t_ (aw_region (m_ (h:=ad_ (h:=a_ (h:=al_nil (?_))))))))
  refine x_then ?_
  refine ⟨_, _, ?_, ⟨j + 1, by omega, rfl, upto_next ha (by unfold devAt; simp only [hy]; simp_all), rfl⟩, (wk 2 0)⟩
  omega
 have hc8 := bp hb8
 refine aw_exit (x_thenE (x_thenE (ABlock_out (t_ (w_ (l_ (h:=?_)))))))
 refine al_p rfl (q_call (Rreached d hdn) ?_)
 rintro r rfl
 refine a_ (h:=e_ (aw_ret (?_)))
 refine e_ret ?_
 first | exact vb (dev_no hlt (by unfold devAt; simp only [hy]; simp_all)).symm | exact vb (dev_yes hhd (fun i hi => ha i (by omega))).symm
theorem Rvalid5 (f : Fls) (hf : FlsT f) : AFn Try.prog 41 [.agg (flsA f)] (fun r => r = .v (.bool (vldR f))) := by
 have hfew := hf.b.few
 have hel : (f.map dvcA).length = f.length := by simp
 refine enter Try.func41 rfl rfl rfl rfl rfl 0 rfl ?_
 refine w_ (b_ (h:=a_ (h:=e_ (q_ (w_ (f_ (h:=l_ (h:=n_ (h:=lt_ (h:=m_ (h:=?_)))))))))))
 refine al_gs false rfl rfl (fun hb1 => ?_) (fun hb1 => ?_)
 ·have hc1 := bp hb1
  refine g0_ (h:=g0_ (h:=g0_ (h:=g0_ (h:=pt_ (h:=e_ (cy_ (h:=w_ (a_ (h:=e_ (aw_ret (x_thenR (?_))))))))))))
  refine e_ret ?_
  exact vb (by unfold vldR; rw [if_pos (by omega)])
 have hc1 := bp hb1
 refine f_ (h:=l_ (h:=n_ (h:=gt_ (h:=pf_ (h:=e_ (?_))))))
 refine aw_cond rfl (fun hb2 => ?_) (fun hb2 => ?_)
 ·have hc2 := bp hb2
  refine w_ (a_ (h:=e_ (aw_ret (x_thenR (?_)))))
  refine e_ret ?_
  exact vb (by unfold vldR; rw [if_neg (by omega), if_pos (by omega)])
 have hc2 := bp hb2
 refine kt_ (q_ (w_ (a_ (h:=e_ (aw_block (?_))))))
 refine aw_loopW (fun m t => ∃ j : Nat, j ≤ f.length ∧ m = f.length - j ∧ (∀ i, i < j → vldAt f i = true) ∧ t = ⟨look [(1, .bp 0 0), (3, .v (.int .i64 (j : Int)))], ⟨[flsA f], []⟩⟩) (f.length) ((wk 1 0)) (⟨0, by omega, rfl, fun i hi => by omega, rfl⟩) ?_
 rintro m t ⟨j, hj, rfl, ha, rfl⟩
 refine q_ (w_ (m_ (h:=f_ (h:=l_ (h:=n_ (h:=lt_ (h:=e_ (?_))))))))
 refine aw_cond rfl (fun hb3 => ?_) (fun hb3 => ?_)
 ·have hc3 := bp hb3
  obtain ⟨hlt, d, hy, hrow, -⟩ := row_at dvcA hc3
  refine kt_ (q_ (aw_block (w_ (l_ (h:=m_ (h:=?_))))))
  refine al_p rfl (q_call (Rdev f j d hf hy) ?_)
  rintro r rfl
  refine nt_ (h:=e_ (?_))
  refine aw_cond rfl (fun hb4 => ?_) (fun hb4 => ?_)
  ·have hc4 := bp hb4
   refine w_ (a_ (h:=e_ (aw_ret (x_blockR (x_thenR (x_thenR (x_blockR (x_thenR (?_)))))))))
   refine e_ret ?_
   exact vb (by unfold vldR; rw [if_neg (by omega), if_neg (by omega)]; exact (range_no hlt (by unfold vldAt; simp only [hy]; simp_all)).symm)
  have hc4 := bp hb4
  refine aw_skip (x_blockN (t_ (aw_region (m_ (h:=ad_ (h:=a_ (h:=al_nil (?_))))))))
  refine x_then ?_
  refine ⟨_, _, ?_, ⟨j + 1, by omega, rfl, upto_next ha (by unfold vldAt; simp only [hy]; simp_all), rfl⟩, (wk 1 0)⟩
  omega
 have hc3 := bp hb3
 refine aw_exit (x_thenE (x_thenE (ABlock_out (t_ (w_ (a_ (h:=e_ (aw_ret (?_)))))))))
 refine e_ret ?_
 exact vb (by unfold vldR; rw [if_neg (by omega), if_neg (by omega)]; exact (range_yes (fun i hi => ha i (by omega))).symm)
end
def Old (w : World) : Nat → Prop := fun b => b < w.heap.size
theorem below_drewN {B : Nat} {a w : World} (h : Below B a w) (n : Nat) : Below B a (w.drewN n) := ⟨h.os, h.tape, h.output, h.size, h.block⟩
theorem ret_bool {a b : Bool} (h : a = b) : Ending.returned (.bool a) = .returned (.bool b) := by rw [h]
theorem below_a1 (w : World) (o1 : Obj) : Below w.heap.size w (w.alloc o1) := by
 exact (Below.refl _ w).alloc (Nat.le_refl _) _
theorem below_a2 (w : World) (o1 o2 : Obj) : Below w.heap.size w ((w.alloc o1).alloc o2) := by
 exact (below_a1 w o1).alloc (by simp <;> omega) _
end Go.Proofs.Ythcbdkmhamhciaa
namespace Go.Proofs.Ythcbdkmhamhciaa
abbrev Bs := List UInt8
def nmL (l : Bs) : Bool := decide (l ≠ [] ∧ l.length ≤ 12 ∧ l ≠ [46] ∧ l ≠ [46, 46] ∧ (0 : UInt8) ∉ l ∧ (47 : UInt8) ∉ l)
theorem nmL_iff {l : Bs} : nmL l = true ↔ l ≠ [] ∧ l.length ≤ 12 ∧ l ≠ [46] ∧ l ≠ [46, 46] ∧ (0 : UInt8) ∉ l ∧ (47 : UInt8) ∉ l := decide_eq_true_iff
end Go.Proofs.Ythcbdkmhamhciaa
namespace Go.Proofs.Ythcbdkmhamhciaa
open Go.RowKit
theorem toL (s : ByteArray) : s.toList = s.data.toList := Lib.toList_data s
theorem empty_iff' (s : ByteArray) : s.toList.isEmpty = decide (s.size = 0) := by
 rw [toL, Lib.size_eq, Bool.eq_iff_iff, List.isEmpty_iff, decide_eq_true_iff, List.length_eq_zero_iff]
theorem encode_high (r : Int) (h0 : 128 ≤ r) (h1 : Lib.validRune r = true) :
    (∃ a b : UInt8, Utf8.encode r = ⟨#[a, b]⟩ ∧ 128 ≤ b.toNat) ∨ (∃ a b c : UInt8, Utf8.encode r = ⟨#[a, b, c]⟩) ∨ (∃ a b c d : UInt8, Utf8.encode r = ⟨#[a, b, c, d]⟩) := by
 have hv : Utf8.valid r = true := by
  have := of_decide_eq_true h1
  unfold Utf8.valid
  simp only [Bool.or_eq_true, Bool.and_eq_true, decide_eq_true_iff]
  omega
 unfold Utf8.encode
 simp only [hv, if_true]
 have hn : ¬ r.toNat < 128 := by omega
 rw [if_neg hn]
 by_cases h2 : r.toNat < 2048
 ·rw [if_pos h2]
  refine .inl ⟨_, _, rfl, ?_⟩
  simp only [UInt8.toNat_ofNat']
  omega
 rw [if_neg h2]
 by_cases h3 : r.toNat < 65536
 ·rw [if_pos h3]
  exact .inr (.inl ⟨_, _, _, rfl⟩)
 rw [if_neg h3]
 exact .inr (.inr ⟨_, _, _, _, rfl⟩)
set_option maxRecDepth 1000000 in
set_option maxHeartbeats 2000000 in
theorem IndexRune_bad (r : Int) (w : World) (h0 : 128 ≤ r) (h1 : r ≤ 2147483647) (h2 : r ≠ 65533) (hv : Lib.validRune r = false) :
    Calls Try.prog 114 #[.string ⟨#[0, 47]⟩, .int .i32 r] w fun e w' => e = .returned (.int .i64 (-1)) ∧ w = w' := by
 have h2' : (r == 65533) = false := by simpa using h2
 go_enter Try.func114, Try.ntmps114
 go_wp2_with (go_at_call 120; refine (Try.utf8_ValidRune _ _).mono ?_; rintro e w' ⟨rfl, rfl⟩; rw [hv])
 go_ret
 exact ⟨rfl, rfl⟩
set_option maxRecDepth 1000000 in
set_option maxHeartbeats 2000000 in
theorem IndexRune_good (r : Int) (w : World) (h0 : 128 ≤ r) (h1 : r ≤ 2147483647) (h2 : r ≠ 65533) (hv : Lib.validRune r = true) :
    Calls Try.prog 114 #[.string ⟨#[0, 47]⟩, .int .i32 r] w fun e w' => e = .returned (.int .i64 (-1)) ∧ Below w.heap.size w w' := by
 have h2' : (r == 65533) = false := by simpa using h2
 have hlt : decide (r < 128) = false := by simpa using h0
 rcases encode_high r h0 hv with ⟨a, b, he, hb⟩ | ⟨a, b, c, he⟩ | ⟨a, b, c, d, he⟩
 ·have hne : ((((⟨#[0, 47]⟩ : ByteArray)[1]'(by decide)).toNat : Int) != (((⟨#[a, b]⟩ : ByteArray)[1]'(by show 1 < 2; decide)).toNat : Int)) = true := by
     show ((47 : Int) != (b.toNat : Int)) = true
     rw [bne_iff_ne]
     omega
  go_enter Try.func114, Try.ntmps114
  go_wp2_with (go_at_call 120; refine (Try.utf8_ValidRune _ _).mono ?_; rintro e w' ⟨rfl, rfl⟩; rw [hv])
  go_step3
  go_wp2
  refine wp_loop_rounds 1 ?_
  rw [rounds_succ]
  go_wp2
  go_step3
  go_wp2
  go_quiet (fail)
  have hb := below_drewN (Below.refl w'.heap.size w') nq
  generalize w'.drewN nq = wq at *
  go_wp2
  go_quiet ((go_at_call 107; exact Calls.quiet_of_same (Try.strings_IndexByte _ _ _)))
  go_wp2
  rw [Exit.noGoto_ret]
  go_wp2
  rw [Exit.noGoto_ret]
  go_wp2
  go_ret
  exact ⟨rfl, below_drewN hb _⟩
 ·go_enter Try.func114, Try.ntmps114
  go_wp2_with (go_at_call 120; refine (Try.utf8_ValidRune _ _).mono ?_; rintro e w' ⟨rfl, rfl⟩; rw [hv])
  go_step3
  go_wp2
  refine wp_loop_rounds 1 ?_
  rw [rounds_succ]
  go_wp2
  rw [Exit.noGoto_ret]
  go_wp2
  go_ret
  exact ⟨rfl, Below.refl _ _⟩
 go_enter Try.func114, Try.ntmps114
 go_wp2_with (go_at_call 120; refine (Try.utf8_ValidRune _ _).mono ?_; rintro e w' ⟨rfl, rfl⟩; rw [hv])
 go_step3
 go_wp2
 refine wp_loop_rounds 1 ?_
 rw [rounds_succ]
 go_wp2
 rw [Exit.noGoto_ret]
 go_wp2
 go_ret
 exact ⟨rfl, Below.refl _ _⟩
theorem two_at (i : Nat) (hi : i < 2) : ((⟨#[0, 47]⟩ : ByteArray)[i]'hi).toNat < 128 := by
 match i, hi with
 | 0, _ => show (0 : UInt8).toNat < 128; decide
 | 1, _ => show (47 : UInt8).toNat < 128; decide
set_option maxRecDepth 1000000 in
set_option maxHeartbeats 2000000 in
theorem IndexRune_err (w : World) :
    Calls Try.prog 114 #[.string ⟨#[0, 47]⟩, .int .i32 65533] w fun e w' => e = .returned (.int .i64 (-1)) ∧ Below w.heap.size w w' := by
 go_enter Try.func114, Try.ntmps114
 go_wp2
 go_loopg [5, 6] 2 (fun g _ _ wx => ∃ i : Nat, i + g = 2 ∧ wx = w.iter ⟨#[0, 47]⟩ i)
 case atStart => exact ⟨0, by omega, rfl⟩
 case round =>
  obtain ⟨i, hig, rfl⟩ := hrel
  cases gk with
  | zero =>
    obtain rfl : i = 2 := by omega
    have hnx := run_next_end (P := Try.prog) w ⟨#[0, 47]⟩ 2
    go_wp2
    go_ret
    exact ⟨rfl, (Below.refl _ _).alloc (Nat.le_refl _) _⟩
  | succ g =>
    have hi : i < 2 := by omega
    have hx := two_at i hi
    have hnx := fun ty => run_next_ascii (P := Try.prog) w ⟨#[0, 47]⟩ i ty hi hx
    generalize ((⟨#[0, 47]⟩ : ByteArray)[i]'hi) = x at *
    have hne : ((x.toNat : Int) == 65533) = false := beq_eq_false_iff_ne.2 (by omega)
    go_wp2
    go_roundg g
    case measure => omega
    case rel => exact ⟨i + 1, by omega, rfl⟩
theorem decode_span (s : ByteArray) (i : Nat) (h : i < s.size) (ha : 128 ≤ (s[i]'h).toNat) :
    1 ≤ (Utf8.decode s i).2 ∧ i + (Utf8.decode s i).2 ≤ s.size ∧ ∀ k, k < (Utf8.decode s i).2 → 128 ≤ (s.get! (i + k)).toNat := by
 have hn : ¬ (s[i]'h).toNat < 128 := by omega
 have h0 : s.get! (i + 0) = s[i]'h := get_at s i h
 have g0 : 128 ≤ (s.get! (i + 0)).toNat := by rw [h0]; exact ha
 have c1 : ∀ k, (decide (i + k < s.size) && (s.get! (i + k)).toNat / 64 == 2) = true → i + k < s.size ∧ 128 ≤ (s.get! (i + k)).toNat := by
  intro k hk
  simp only [Bool.and_eq_true, decide_eq_true_iff, beq_iff_eq] at hk
  exact ⟨hk.1, by omega⟩
 have one : 1 ≤ 1 ∧ i + 1 ≤ s.size ∧ ∀ k, k < 1 → 128 ≤ (s.get! (i + k)).toNat := by
  refine ⟨Nat.le_refl _, h, fun k hk => ?_⟩
  obtain rfl : k = 0 := by omega
  exact g0
 unfold Utf8.decode
 simp only [h0, hn, if_false]
 split
 ·rename_i hc
  rw [Bool.and_eq_true] at hc
  obtain ⟨a1, b1⟩ := c1 1 hc.2
  split
  ·refine ⟨by simp, a1, fun k hk => ?_⟩
   have : k = 0 ∨ k = 1 := by simp at hk; omega
   rcases this with rfl | rfl
   ·exact g0
   exact b1
  exact one
 split
 ·rename_i hc
  rw [Bool.and_eq_true, Bool.and_eq_true] at hc
  obtain ⟨a1, b1⟩ := c1 1 hc.1.2
  obtain ⟨a2, b2⟩ := c1 2 hc.2
  split
  ·refine ⟨by simp, a2, fun k hk => ?_⟩
   have : k = 0 ∨ k = 1 ∨ k = 2 := by simp at hk; omega
   rcases this with rfl | rfl | rfl
   ·exact g0
   ·exact b1
   exact b2
  exact one
 split
 ·rename_i hc
  rw [Bool.and_eq_true, Bool.and_eq_true, Bool.and_eq_true] at hc
  obtain ⟨a1, b1⟩ := c1 1 hc.1.1.2
  obtain ⟨a2, b2⟩ := c1 2 hc.1.2
  obtain ⟨a3, b3⟩ := c1 3 hc.2
  split
  ·refine ⟨by simp, a3, fun k hk => ?_⟩
   have : k = 0 ∨ k = 1 ∨ k = 2 ∨ k = 3 := by simp at hk; omega
   rcases this with rfl | rfl | rfl | rfl
   ·exact g0
   ·exact b1
   ·exact b2
   exact b3
  exact one
 exact one
theorem get!_at (s : ByteArray) (j : Nat) (hj : j < s.size) : s.data.toList[j]? = some (s.get! j) := by
 have := get_at s j hj
 rw [Nat.add_zero] at this
 rw [this]
 exact Lib.data_getElem? s j hj
theorem noAny_span {s : ByteArray} {i : Nat} (h : i < s.size) (ha : 128 ≤ (s[i]'h).toNat) (hno : Lib.NoAny s.data.toList [0, 47] i) : Lib.NoAny s.data.toList [0, 47] (i + (Utf8.decode s i).2) := by
 obtain ⟨_, h2, h3⟩ := decode_span s i h ha
 intro j b hj hb
 by_cases hlt : j < i
 ·exact hno j b hlt hb
 have := h3 (j - i) (by omega)
 rw [show i + (j - i) = j by omega] at this
 rw [get!_at s j (by omega)] at hb
 injection hb with hb
 rw [hb] at this
 have h0 : b ≠ 0 := by rintro rfl; simp at this
 have h47 : b ≠ 47 := by
  rintro rfl
  have : (47 : UInt8).toNat = 47 := rfl
  omega
 simp [h0, h47]
theorem IndexRune_high (r : Int) (w : World) (h0 : 128 ≤ r) (h1 : r ≤ 2147483647) :
    Calls Try.prog 114 #[.string ⟨#[0, 47]⟩, .int .i32 r] w fun e w' => e = .returned (.int .i64 (-1)) ∧ Below w.heap.size w w' := by
 by_cases h2 : r = 65533
 ·subst h2; exact IndexRune_err w
 cases hv : Lib.validRune r with
 | true => exact IndexRune_good r w h0 h1 h2 hv
 | false => exact (IndexRune_bad r w h0 h1 h2 hv).mono fun e w' h => ⟨h.1, by rw [← h.2]; exact Below.refl _ _⟩
def AnyQ (s : ByteArray) (w : World) (e : Ending) (w' : World) : Prop := ∃ v : Int, e = .returned (.int .i64 v) ∧ Below w.heap.size w w' ∧ ((0 ≤ v) ↔ ((0 : UInt8) ∈ s.data.toList ∨ (47 : UInt8) ∈ s.data.toList))
theorem any_none {s : ByteArray} (h : Lib.NoAny s.data.toList [0, 47] s.size) : ¬ ((0 : UInt8) ∈ s.data.toList ∨ (47 : UInt8) ∈ s.data.toList) := by
 rintro (h' | h')
 ·obtain ⟨j, hj⟩ := List.mem_iff_getElem?.1 h'
  have := h j 0 (by rw [Lib.size_eq]; exact (List.getElem?_eq_some_iff.1 hj).1) hj
  simp at this
 obtain ⟨j, hj⟩ := List.mem_iff_getElem?.1 h'
 have := h j 47 (by rw [Lib.size_eq]; exact (List.getElem?_eq_some_iff.1 hj).1) hj
 simp at this
theorem any_hit {s : ByteArray} {i : Nat} {x : UInt8} (hx : s.data.toList[i]? = some x) (h : [0, 47].contains x = true) : ((0 : UInt8) ∈ s.data.toList ∨ (47 : UInt8) ∈ s.data.toList) := by
 have hm := List.mem_of_getElem? hx
 simp at h
 rcases h with rfl | rfl
 ·exact .inl hm
 exact .inr hm
set_option maxRecDepth 1000000 in
set_option maxHeartbeats 4000000 in
theorem IndexAny_short (s : ByteArray) (w : World) (h8 : s.size ≤ 8) : Calls Try.prog 106 #[.string s, .string ⟨#[0, 47]⟩] w (AnyQ s w) := by
 have h8z : decide ((8 : Int) < (s.size : Int)) = false := decide_eq_false (by omega)
 go_enter Try.func106, Try.ntmps106
 go_wp2_with (go_at_call 115; refine (Try.strings_shouldUseASCIISet _ _).mono ?_; rintro e w' ⟨rfl, hw⟩; rw [hw, h8z])
 clear hw
 go_loopg [9, 10] s.size (fun g _ _ wx => ∃ i : Nat, s.size ≤ i + g ∧ i ≤ s.size ∧ wx.heap[w.heap.size]? = some (.stringIter s i) ∧ Below w.heap.size w wx ∧ Hid (Lib.NoAny s.data.toList [0, 47] i))
 case atStart => exact ⟨0, by omega, by omega, World.iter_heap w s 0, (Below.refl _ _).alloc (Nat.le_refl _) _, Lib.hid (Lib.NoAny.zero _ _)⟩
 case round =>
  obtain ⟨i, hg, hi, hit, hbel, hno⟩ := hrel
  have hks := hbel.size
  by_cases hlt : i < s.size
  ·obtain ⟨g, rfl⟩ : ∃ g, gk = g + 1 := ⟨gk - 1, by omega⟩
   by_cases hx : (s[i]'hlt).toNat < 128
   ·have hnx := fun ty => Lib.run_next_ascii_at (P := Try.prog) wr w.heap.size s i ty hit hlt hx
    have hxl : s.data.toList[i]? = some (s[i]'hlt) := Lib.data_getElem? s i hlt
    generalize (s[i]'hlt) = x at *
    have Hx := Lib.hid hxl
    have hit' := Lib.iterAt_heap wr w.heap.size s i (i + 1) hit
    have hbel' := Lib.below_iterAt hbel (Nat.le_refl _) s (i + 1)
    generalize wr.iterAt w.heap.size s (i + 1) = w1 at *
    have hcon := Lib.contains_iff_indexByte [0, 47] x
    have hback : ((x.toNat : Int)).toNat.toUInt8 = x := by simp
    have HI := Lib.hid hit'
    clear hxl hit hit'
    cases hin : [0, 47].contains x
    ·rw [hin] at hcon
     have hneg : ¬ ((0 : Int) ≤ Lib.indexByte [0, 47] x) := of_decide_eq_false hcon.symm
     clear hcon
     go_wp2_with (go_at_call 114; refine (Try.strings_IndexRune_ascii _ _ _ (by omega) (by omega)).mono ?_; rintro e w' ⟨rfl, hw⟩; rw [hw, hback])
     go_roundg g
     case measure => omega
     case rel => exact ⟨i + 1, by omega, by omega, HI.out, hbel', Lib.hid (hno.out.succ Hx.out hin)⟩
    rw [hin] at hcon
    have hpos : (0 : Int) ≤ Lib.indexByte [0, 47] x := of_decide_eq_true hcon.symm
    clear hcon
    go_wp2_with (go_at_call 114; refine (Try.strings_IndexRune_ascii _ _ _ (by omega) (by omega)).mono ?_; rintro e w' ⟨rfl, hw⟩; rw [hw, hback])
    go_ret
    exact ⟨_, rfl, hbel', ⟨fun _ => any_hit Hx.out hin, fun _ => by omega⟩⟩
   have hx' : 128 ≤ (s[i]'hlt).toNat := by omega
   obtain ⟨p1, p2, _⟩ := decode_span s i hlt hx'
   have HN := Lib.hid (noAny_span hlt hx' hno.out)
   have q1 := (decode_high s i hlt hx').1
   have q2 := decode_le s i
   have hnx := fun ty => Lib.run_next_any_at (P := Try.prog) wr w.heap.size s i ty hit hlt
   generalize Utf8.decode s i = d at *
   obtain ⟨d1, d2⟩ := d
   simp only at *
   have hit' := Lib.iterAt_heap wr w.heap.size s i (i + d2) hit
   have hbel' := Lib.below_iterAt hbel (Nat.le_refl _) s (i + d2)
   have hsz := Lib.iterAt_size wr w.heap.size s (i + d2)
   generalize wr.iterAt w.heap.size s (i + d2) = w1 at *
   have hk1 : w.heap.size < w1.heap.size := (Array.getElem?_eq_some_iff.1 hit').1
   have HI := Lib.hid hit'
   clear hit hit' hsz
   go_wp2_with fail
   refine (IndexRune_high _ _ (by omega) (by omega)).mono ?_
   rintro e w2 ⟨rfl, hb2⟩
   go_wp2
   go_roundg g
   case measure => omega
   case rel => exact ⟨i + d2, by omega, by omega, (hb2.block _ hk1).trans HI.out, hbel'.trans (hb2.mono (by omega)), HN⟩
  obtain rfl : i = s.size := by omega
  have hnx := fun ty => Lib.run_next_end_at (P := Try.prog) wr w.heap.size s s.size ty hit hlt
  go_wp2
  go_ret
  exact ⟨_, rfl, hbel, ⟨fun h => absurd h (by decide), fun h => absurd h (any_none hno.out)⟩⟩
end Go.Proofs.Ythcbdkmhamhciaa
