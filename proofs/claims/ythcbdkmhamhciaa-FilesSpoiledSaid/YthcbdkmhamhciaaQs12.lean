/-
  Part 12 of the proof of FilesSpoiledP: what the statement's proof uses of the texts in wip/tpl.
-/
import Derived.Test.YthcbdkmhamhciaaQs11
namespace Go.Proofs.Ythcbdkmhamhciaa
open Go.RowKit
section
set_option maxRecDepth 10000
set_option maxHeartbeats 1000000
theorem PcopiedD0 (f : Fls) (K : Nat) (dK : Dvc) (hf : FlsB f) (hK : f[K]? = some dK) (h0 : 0 < dK.nodes.length) : ACall Try.prog 91 [.sl 2 (f.map dvcA) none, .fn 92 []] [] (fun r b t => t = [] ∧ r = .bs 0 0 2 f.length f.length ∧ b = [DB f K dK 1 f.length dK.nodes.length, NF dK.nodes dK.nodes.length]) := by
 have hml : (f.map dvcA).length = f.length := by simp
 have hKl := (List.getElem?_eq_some_iff.1 hK).1
 have hfew := hf.few
 refine enter Try.func91 rfl rfl rfl rfl rfl 2 rfl ?_
 refine w_ (a_ (h:=e_ (q_ (w_ (m_ (h:=n_ (h:=eq_ (h:=e_ (?_)))))))))
 refine aw_cond rfl (fun hb1 => ?_) (fun hb1 => ?_)
 ·have hc1 := bp hb1
  exfalso; first | contradiction | omega
 have hc1 := bp hb1
 refine kt_ (w_ (m_ (h:=n_ (h:=?_))))
 refine al_p rfl (st_makeB (l := 0) (m := f.length) (k := 0) rfl rfl rfl (by simp) (Nat.zero_le _) (by omega) (by omega) (by repeat constructor) ?_)
 refine a_ (h:=e_ (q_ (w_ (m_ (h:=n_ (h:=m_ (h:=e_ (aw_block (?_)))))))))
 refine aw_loopW (fun m s => ∃ j : Nat, j ≤ f.length ∧ m = f.length - j ∧ ((j ≤ K ∧ s = ⟨look [(1, .fn 92 []), (5, .bs 0 0 2 j f.length), (14, .sl 2 (f.map dvcA) none), (15, .v (.int .i64 ((f.map dvcA).length : Int))), (16, .v (.int .i64 (j : Int)))], ⟨[FB (f.take j) f.length], []⟩⟩) ∨ (K < j ∧ s = ⟨look [(1, .fn 92 []), (5, .bs 0 0 2 j f.length), (14, .sl 2 (f.map dvcA) none), (15, .v (.int .i64 ((f.map dvcA).length : Int))), (16, .v (.int .i64 (j : Int)))], ⟨[DB (f.take j) K dK 1 f.length dK.nodes.length, NF dK.nodes dK.nodes.length], []⟩⟩))) (f.length) (wb_ 1 0 (by show (bpLtL 1 0 (FB [] f.length) && true) = true; rw [bp_FB]; rfl)) (⟨0, by omega, rfl, .inl ⟨by omega, rfl⟩⟩) ?_
 rintro m s ⟨j, hj, rfl, ⟨hji, rfl⟩ | ⟨hji, rfl⟩⟩
 rcases Nat.lt_or_eq_of_le hji with hji | rfl
 ·skip
  refine w_ (lt_ (h:=e_ (q_ (?_))))
  refine aw_cond rfl (fun hb2 => ?_) (fun hb2 => ?_)
  ·have hc2 := bp hb2
   obtain ⟨hlt, x, hy, hrow, -⟩ := row_at dvcA hc2
   have hxd := List.mem_of_getElem? hy
   have e : (f.take (j + 1)).map dvcA = (f.take j).map dvcA ++ [dvcA x] := by
    obtain ⟨hl, e0⟩ := List.getElem?_eq_some_iff.1 hy
    rw [List.take_succ_eq_append_getElem hl, e0, List.map_append]; rfl
   have hlj : ((f.take j).map dvcA).length = j := by simp; omega
   refine kt_ (q_ (aw_block (w_ (i_ (h:=l_ (h:=al_ (h:=s_ (h:=e_ (aw_region (m_ (h:=m_ (h:=l_ (h:=?_)))))))))))))
   refine al_p rfl (st_callC (cy := []) (ys := [.agg (dvcA x)]) rfl (by repeat (first | exact Args.nil | refine Args.cons _ _ _ _ _ rfl (argOk_clean rfl) ?_ | refine Args.cons _ _ _ _ _ rfl (argOk_nil _) ?_ | refine Args.cons _ _ _ _ _ rfl (argOk_era _) ?_ | refine Args.cons _ _ _ _ _ rfl (argOk_le rfl (by repeat (first | exact LeA.refl _ | exact LeA.nil _ | exact LeL.refl _ | refine LeA.agg ?_ | refine LeA.tup ?_ | exact LeL.nil | refine LeL.cons ?_ ?_ | exact LeA.any _))) ?_)) rfl rfl (PcopyDevA x (hf.nodes x hxd) (hf.ents x hxd)) ?_)
   rintro r rfl
   refine bs_ (h:=?_)
   refine al_p rfl (st_appendB rfl rfl rfl (by rw [FB, rowsB_len (dvcs_two _) (by simp; omega)]; omega) (SrcA.sl _ _) (by simp) (by simp; omega) ?_ (fun h => absurd h (by simp; omega)))
   intro _ row2 bx2 hs1 hs2
   obtain rfl : row2 = FB (f.take (j + 1)) f.length := by
    unfold FB
    rw [e]
    exact rowsB_push (dvcs_two _) rfl (by decide) (by rw [hlj]; omega) (by rw [hlj]; exact hs1)
   obtain rfl := (SetAt.one hs2).2
   refine a_ (h:=al_nil (x_blockN (t_ (aw_region (ad_ (h:=m_ (h:=al_nil (?_))))))))
   refine x_then ?_
   refine ⟨_, _, ?_, ⟨j + 1, by omega, rfl, .inl ⟨by omega, rfl⟩⟩, wb_ 1 0 (by simp [bpLtB, bp_FB])⟩
   omega
  have hc2 := bp hb2
  exfalso; first | contradiction | omega
 ·have hrow : (f.map dvcA)[j]? = some (dvcA dK) := by rw [List.getElem?_map, hK]; rfl
  refine w_ (lt_ (h:=e_ (q_ (?_))))
  refine aw_cond rfl (fun hb3 => ?_) (fun hb3 => ?_)
  ·have hc3 := bp hb3
   have hlj : ((f.take j).map dvcA).length = j := by simp; omega
   refine kt_ (q_ (aw_block (w_ (?_))))
   refine al_p rfl (st_index rfl rfl rfl hrow ?_)
   refine l_ (h:=al_ (h:=s_ (h:=e_ (aw_region (m_ (h:=m_ (h:=l_ (h:=?_))))))))
   refine al_p rfl (s_callMC [] rfl (.cons _ _ _ _ _ rfl (LeA.refl _) .nil) (by decide) .nil (PcopyDev0 dK h0 (hf.nodes dK (List.mem_of_getElem? hK)) (hf.ents dK (List.mem_of_getElem? hK))) ?_)
   rintro r bc tc ⟨rfl, rfl, rfl⟩
   refine ⟨rfl, _, (back_dev0 (n := 2) rfl dK dK.nodes.length dK.nodes dK.nodes.length : Back _ [] _ [_, _, _, _, _]), ?_⟩
   refine al_p rfl (st_slit1B rfl rfl rfl rfl (by repeat constructor) ?_)
   refine al_p rfl (st_appendB rfl rfl rfl (by rw [FB, rowsB_len (dvcs_two _) (by simp; omega)]; omega) (SrcA.bs 5 0 1 1 _ rfl (Nat.le_of_ble_eq_true rfl)) (by decide) (by omega) ?_ (fun h => absurd h (by omega)))
   intro _ row2 bx2 hs1 hs2
   obtain rfl : row2 = DB (f.take (j + 1)) j dK 4 f.length dK.nodes.length := by
    unfold DB
    rw [devB_here hK]
    exact rowsB_push (dvcs_two _) rfl (by decide) (by rw [hlj]; omega) (by rw [hlj]; exact hs1)
   obtain rfl := (SetAt.one hs2).2
   refine a_ (h:=al_nil (x_blockN (t_ (aw_region (ad_ (h:=m_ (h:=al_nil (?_))))))))
   refine x_then ?_
   refine ⟨_, _, ?_, ⟨j + 1, by omega, rfl, .inr ⟨by omega, rfl⟩⟩, weak_ren [0, 4] (fun i hi => absurd hi (Nat.not_lt_zero i)) (by decide) (.cons _ _ _ _ _ rfl (renK_DB (by rfl) _ _ _ _ _) (.cons _ _ _ _ _ rfl (renK_NF _ _ _) .nil)) (by repeat (first | exact SubK.nil | refine SubK.cons _ _ _ _ rfl (LeA.refl _) ?_))⟩
   omega
  have hc3 := bp hb3
  exfalso; first | contradiction | omega
 skip
 refine w_ (lt_ (h:=e_ (q_ (?_))))
 refine aw_cond rfl (fun hb4 => ?_) (fun hb4 => ?_)
 ·have hc4 := bp hb4
  obtain ⟨hlt, x, hy, hrow, -⟩ := row_at dvcA hc4
  have hxd := List.mem_of_getElem? hy
  have e := devB_succ (dK := dK) (j := 1) (cap := dK.nodes.length) hy hji
  have hlj : (devB (f.take j) K dK 1 dK.nodes.length).length = j := by rw [devB_len]; simp; omega
  refine kt_ (q_ (aw_block (w_ (i_ (h:=l_ (h:=al_ (h:=s_ (h:=e_ (aw_region (m_ (h:=m_ (h:=l_ (h:=?_)))))))))))))
  refine al_p rfl (st_callC (cy := []) (ys := [.agg (dvcA x)]) rfl (by repeat (first | exact Args.nil | refine Args.cons _ _ _ _ _ rfl (argOk_clean rfl) ?_ | refine Args.cons _ _ _ _ _ rfl (argOk_nil _) ?_ | refine Args.cons _ _ _ _ _ rfl (argOk_era _) ?_ | refine Args.cons _ _ _ _ _ rfl (argOk_le rfl (by repeat (first | exact LeA.refl _ | exact LeA.nil _ | exact LeL.refl _ | refine LeA.agg ?_ | refine LeA.tup ?_ | exact LeL.nil | refine LeL.cons ?_ ?_ | exact LeA.any _))) ?_)) rfl rfl (PcopyDevA x (hf.nodes x hxd) (hf.ents x hxd)) ?_)
  rintro r rfl
  refine bs_ (h:=?_)
  refine al_p rfl (st_appendB rfl rfl rfl (by rw [DB, rowsB_len (devB_two _ _ _ _ _) (by rw [hlj]; omega)]; omega) (SrcA.sl _ _) (by simp) (by simp; omega) ?_ (fun h => absurd h (by simp; omega)))
  intro _ row2 bx2 hs1 hs2
  obtain rfl : row2 = DB (f.take (j + 1)) K dK 1 f.length dK.nodes.length := by
   unfold DB
   rw [e]
   exact rowsB_push (devB_two _ _ _ _ _) rfl (by decide) (by rw [hlj]; omega) (by rw [hlj]; exact hs1)
  obtain rfl := (SetAt.one hs2).2
  refine a_ (h:=al_nil (x_blockN (t_ (aw_region (ad_ (h:=m_ (h:=al_nil (?_))))))))
  refine x_then ?_
  refine ⟨_, _, ?_, ⟨j + 1, by omega, rfl, .inr ⟨by omega, rfl⟩⟩, wb_ 2 0 (by simp [bpLtB, bp_DB, bp_NF])⟩
  omega
 have hc4 := bp hb4
 have e := row_no dvcA hj hc4
 subst e
 rw [List.take_length]
 refine aw_exit (x_thenE (x_thenE (ABlock_out (t_ (w_ (m_ (h:=a_ (h:=e_ (aw_ret (?_))))))))))
 refine abody_ret (r := .bs 0 0 2 f.length f.length) none (by repeat (first | exact ResA.nil | (apply ResA.tmp; (focus exact rfl)) | (apply ResA.cellN; (focus exact inferInstance); (focus exact rfl); (focus exact rfl); (focus exact rfl)) | (apply ResA.cell1; (focus exact inferInstance); (focus exact rfl); (focus exact rfl); (focus exact rfl)))) rfl rfl (by simp [bpLtB, bp_DB, bp_NF]) (LeA.refl _) ⟨rfl, rfl, rfl⟩
theorem PcopyFiles0 (f : Fls) (K : Nat) (dK : Dvc) (hf : FlsB f) (hK : f[K]? = some dK) (h0 : 0 < dK.nodes.length) : ACall Try.prog 63 [.agg (flsA f)] [] (fun r b t => t = [] ∧ r = .agg [.bs 2 0 2 f.length f.length] ∧ b = [[.bs 2 0 2 f.length f.length], [.bs 2 0 2 f.length f.length], DB f K dK 3 f.length dK.nodes.length, NF dK.nodes dK.nodes.length]) := by
 refine enter Try.func63 rfl rfl rfl rfl rfl 4 rfl ?_
 refine w_ (b_ (h:=al_ (h:=e_ (w_ (f_ (h:=l_ (h:=?_)))))))
 refine al_p rfl (s_callM [] rfl (.cons _ _ _ _ _ rfl (LeA.refl _) (.cons _ _ _ _ _ rfl (LeA.refl _) .nil)) (by decide) .nil (PcopiedD0 f K dK hf hK h0) ?_)
 rintro r bc tc ⟨rfl, rfl, rfl⟩
 refine ⟨rfl, _, (back_devs0 (n := 2) rfl f K dK f.length dK.nodes.length dK.nodes dK.nodes.length : Back _ [] _ [_, _, _, _]), ?_⟩
 refine f_ (h:=s_ (h:=e_ (w_ (l_ (h:=s_ (h:=e_ (aw_ret (?_))))))))
 refine abody_ret none (by repeat (first | exact ResA.nil | (apply ResA.tmp; (focus exact rfl)) | (apply ResA.cellN; (focus exact inferInstance); (focus exact rfl); (focus exact rfl); (focus exact rfl)) | (apply ResA.cell1; (focus exact inferInstance); (focus exact rfl); (focus exact rfl); (focus exact rfl)))) rfl rfl (by simp [bpLtB, bpLtL, bpLt, flsA, bp_DB, bp_NF, ren, backS]) (LeA.refl _) ⟨rfl, rfl, rfl⟩
theorem PcopiedDG (f : Fls) (K : Nat) (dK : Dvc) (i : Nat) (nI : Nod) (hf : FlsB f) (hK : f[K]? = some dK) (hi : dK.nodes[i]? = some nI) (hE : 0 < nI.entries.length) : ACall Try.prog 91 [.sl 2 (f.map dvcA) none, .fn 92 []] [] (fun r b t => t = [] ∧ r = .bs 0 0 2 f.length f.length ∧ b = [DB f K dK 1 f.length dK.nodes.length, NG dK.nodes i nI 2 nI.entries.length dK.nodes.length, EB nI.entries nI.entries.length]) := by
 have hml : (f.map dvcA).length = f.length := by simp
 have hKl := (List.getElem?_eq_some_iff.1 hK).1
 have hfew := hf.few
 have h0 : 0 < dK.nodes.length := Nat.lt_of_le_of_lt (Nat.zero_le _) (List.getElem?_eq_some_iff.1 hi).1
 refine enter Try.func91 rfl rfl rfl rfl rfl 3 rfl ?_
 refine w_ (a_ (h:=e_ (q_ (w_ (m_ (h:=n_ (h:=eq_ (h:=e_ (?_)))))))))
 refine aw_cond rfl (fun hb1 => ?_) (fun hb1 => ?_)
 ·have hc1 := bp hb1
  exfalso; first | contradiction | omega
 have hc1 := bp hb1
 refine kt_ (w_ (m_ (h:=n_ (h:=?_))))
 refine al_p rfl (st_makeB (l := 0) (m := f.length) (k := 0) rfl rfl rfl (by simp) (Nat.zero_le _) (by omega) (by omega) (by repeat constructor) ?_)
 refine a_ (h:=e_ (q_ (w_ (m_ (h:=n_ (h:=m_ (h:=e_ (aw_block (?_)))))))))
 refine aw_loopW (fun m s => ∃ j : Nat, j ≤ f.length ∧ m = f.length - j ∧ ((j ≤ K ∧ s = ⟨look [(1, .fn 92 []), (5, .bs 0 0 2 j f.length), (14, .sl 2 (f.map dvcA) none), (15, .v (.int .i64 ((f.map dvcA).length : Int))), (16, .v (.int .i64 (j : Int)))], ⟨[FB (f.take j) f.length], []⟩⟩) ∨ (K < j ∧ s = ⟨look [(1, .fn 92 []), (5, .bs 0 0 2 j f.length), (14, .sl 2 (f.map dvcA) none), (15, .v (.int .i64 ((f.map dvcA).length : Int))), (16, .v (.int .i64 (j : Int)))], ⟨[DB (f.take j) K dK 1 f.length dK.nodes.length, NG dK.nodes i nI 2 nI.entries.length dK.nodes.length, EB nI.entries nI.entries.length], []⟩⟩))) (f.length) (wb_ 1 0 (by show (bpLtL 1 0 (FB [] f.length) && true) = true; rw [bp_FB]; rfl)) (⟨0, by omega, rfl, .inl ⟨by omega, rfl⟩⟩) ?_
 rintro m s ⟨j, hj, rfl, ⟨hji, rfl⟩ | ⟨hji, rfl⟩⟩
 rcases Nat.lt_or_eq_of_le hji with hji | rfl
 ·skip
  refine w_ (lt_ (h:=e_ (q_ (?_))))
  refine aw_cond rfl (fun hb2 => ?_) (fun hb2 => ?_)
  ·have hc2 := bp hb2
   obtain ⟨hlt, x, hy, hrow, -⟩ := row_at dvcA hc2
   have hxd := List.mem_of_getElem? hy
   have e : (f.take (j + 1)).map dvcA = (f.take j).map dvcA ++ [dvcA x] := by
    obtain ⟨hl, e0⟩ := List.getElem?_eq_some_iff.1 hy
    rw [List.take_succ_eq_append_getElem hl, e0, List.map_append]; rfl
   have hlj : ((f.take j).map dvcA).length = j := by simp; omega
   refine kt_ (q_ (aw_block (w_ (i_ (h:=l_ (h:=al_ (h:=s_ (h:=e_ (aw_region (m_ (h:=m_ (h:=l_ (h:=?_)))))))))))))
   refine al_p rfl (st_callC (cy := []) (ys := [.agg (dvcA x)]) rfl (by repeat (first | exact Args.nil | refine Args.cons _ _ _ _ _ rfl (argOk_clean rfl) ?_ | refine Args.cons _ _ _ _ _ rfl (argOk_nil _) ?_ | refine Args.cons _ _ _ _ _ rfl (argOk_era _) ?_ | refine Args.cons _ _ _ _ _ rfl (argOk_le rfl (by repeat (first | exact LeA.refl _ | exact LeA.nil _ | exact LeL.refl _ | refine LeA.agg ?_ | refine LeA.tup ?_ | exact LeL.nil | refine LeL.cons ?_ ?_ | exact LeA.any _))) ?_)) rfl rfl (PcopyDevA x (hf.nodes x hxd) (hf.ents x hxd)) ?_)
   rintro r rfl
   refine bs_ (h:=?_)
   refine al_p rfl (st_appendB rfl rfl rfl (by rw [FB, rowsB_len (dvcs_two _) (by simp; omega)]; omega) (SrcA.sl _ _) (by simp) (by simp; omega) ?_ (fun h => absurd h (by simp; omega)))
   intro _ row2 bx2 hs1 hs2
   obtain rfl : row2 = FB (f.take (j + 1)) f.length := by
    unfold FB
    rw [e]
    exact rowsB_push (dvcs_two _) rfl (by decide) (by rw [hlj]; omega) (by rw [hlj]; exact hs1)
   obtain rfl := (SetAt.one hs2).2
   refine a_ (h:=al_nil (x_blockN (t_ (aw_region (ad_ (h:=m_ (h:=al_nil (?_))))))))
   refine x_then ?_
   refine ⟨_, _, ?_, ⟨j + 1, by omega, rfl, .inl ⟨by omega, rfl⟩⟩, wb_ 1 0 (by simp [bpLtB, bp_FB])⟩
   omega
  have hc2 := bp hb2
  exfalso; first | contradiction | omega
 ·have hrow : (f.map dvcA)[j]? = some (dvcA dK) := by rw [List.getElem?_map, hK]; rfl
  refine w_ (lt_ (h:=e_ (q_ (?_))))
  refine aw_cond rfl (fun hb3 => ?_) (fun hb3 => ?_)
  ·have hc3 := bp hb3
   have hlj : ((f.take j).map dvcA).length = j := by simp; omega
   refine kt_ (q_ (aw_block (w_ (?_))))
   refine al_p rfl (st_index rfl rfl rfl hrow ?_)
   refine l_ (h:=al_ (h:=s_ (h:=e_ (aw_region (m_ (h:=m_ (h:=l_ (h:=?_))))))))
   refine al_p rfl (s_callMC [] rfl (.cons _ _ _ _ _ rfl (LeA.refl _) .nil) (by decide) .nil (PcopyDevG dK i nI hi hE (hf.nodes dK (List.mem_of_getElem? hK)) (hf.ents dK (List.mem_of_getElem? hK))) ?_)
   rintro r bc tc ⟨rfl, rfl, rfl⟩
   refine ⟨rfl, _, (back_devG (n := 2) rfl dK dK.nodes.length dK.nodes i nI nI.entries.length dK.nodes.length nI.entries nI.entries.length : Back _ [] _ [_, _, _, _, _, _]), ?_⟩
   refine al_p rfl (st_slit1B rfl rfl rfl rfl (by repeat constructor) ?_)
   refine al_p rfl (st_appendB rfl rfl rfl (by rw [FB, rowsB_len (dvcs_two _) (by simp; omega)]; omega) (SrcA.bs 6 0 1 1 _ rfl (Nat.le_of_ble_eq_true rfl)) (by decide) (by omega) ?_ (fun h => absurd h (by omega)))
   intro _ row2 bx2 hs1 hs2
   obtain rfl : row2 = DB (f.take (j + 1)) j dK 4 f.length dK.nodes.length := by
    unfold DB
    rw [devB_here hK]
    exact rowsB_push (dvcs_two _) rfl (by decide) (by rw [hlj]; omega) (by rw [hlj]; exact hs1)
   obtain rfl := (SetAt.one hs2).2
   refine a_ (h:=al_nil (x_blockN (t_ (aw_region (ad_ (h:=m_ (h:=al_nil (?_))))))))
   refine x_then ?_
   refine ⟨_, _, ?_, ⟨j + 1, by omega, rfl, .inr ⟨by omega, rfl⟩⟩, weak_ren [0, 4, 5] (fun i hi => absurd hi (Nat.not_lt_zero i)) (by decide) (.cons _ _ _ _ _ rfl (renK_DB (by rfl) _ _ _ _ _) (.cons _ _ _ _ _ rfl (renK_NG (by rfl) _ _ _ _ _) (.cons _ _ _ _ _ rfl (renK_EB _ _ _) .nil))) (by repeat (first | exact SubK.nil | refine SubK.cons _ _ _ _ rfl (LeA.refl _) ?_))⟩
   omega
  have hc3 := bp hb3
  exfalso; first | contradiction | omega
 skip
 refine w_ (lt_ (h:=e_ (q_ (?_))))
 refine aw_cond rfl (fun hb4 => ?_) (fun hb4 => ?_)
 ·have hc4 := bp hb4
  obtain ⟨hlt, x, hy, hrow, -⟩ := row_at dvcA hc4
  have hxd := List.mem_of_getElem? hy
  have e := devB_succ (dK := dK) (j := 1) (cap := dK.nodes.length) hy hji
  have hlj : (devB (f.take j) K dK 1 dK.nodes.length).length = j := by rw [devB_len]; simp; omega
  refine kt_ (q_ (aw_block (w_ (i_ (h:=l_ (h:=al_ (h:=s_ (h:=e_ (aw_region (m_ (h:=m_ (h:=l_ (h:=?_)))))))))))))
  refine al_p rfl (st_callC (cy := []) (ys := [.agg (dvcA x)]) rfl (by repeat (first | exact Args.nil | refine Args.cons _ _ _ _ _ rfl (argOk_clean rfl) ?_ | refine Args.cons _ _ _ _ _ rfl (argOk_nil _) ?_ | refine Args.cons _ _ _ _ _ rfl (argOk_era _) ?_ | refine Args.cons _ _ _ _ _ rfl (argOk_le rfl (by repeat (first | exact LeA.refl _ | exact LeA.nil _ | exact LeL.refl _ | refine LeA.agg ?_ | refine LeA.tup ?_ | exact LeL.nil | refine LeL.cons ?_ ?_ | exact LeA.any _))) ?_)) rfl rfl (PcopyDevA x (hf.nodes x hxd) (hf.ents x hxd)) ?_)
  rintro r rfl
  refine bs_ (h:=?_)
  refine al_p rfl (st_appendB rfl rfl rfl (by rw [DB, rowsB_len (devB_two _ _ _ _ _) (by rw [hlj]; omega)]; omega) (SrcA.sl _ _) (by simp) (by simp; omega) ?_ (fun h => absurd h (by simp; omega)))
  intro _ row2 bx2 hs1 hs2
  obtain rfl : row2 = DB (f.take (j + 1)) K dK 1 f.length dK.nodes.length := by
   unfold DB
   rw [e]
   exact rowsB_push (devB_two _ _ _ _ _) rfl (by decide) (by rw [hlj]; omega) (by rw [hlj]; exact hs1)
  obtain rfl := (SetAt.one hs2).2
  refine a_ (h:=al_nil (x_blockN (t_ (aw_region (ad_ (h:=m_ (h:=al_nil (?_))))))))
  refine x_then ?_
  refine ⟨_, _, ?_, ⟨j + 1, by omega, rfl, .inr ⟨by omega, rfl⟩⟩, wb_ 3 0 (by simp [bpLtB, bp_DB, bp_NG, bp_EB])⟩
  omega
 have hc4 := bp hb4
 have e := row_no dvcA hj hc4
 subst e
 rw [List.take_length]
 refine aw_exit (x_thenE (x_thenE (ABlock_out (t_ (w_ (m_ (h:=a_ (h:=e_ (aw_ret (?_))))))))))
 refine abody_ret (r := .bs 0 0 2 f.length f.length) none (by repeat (first | exact ResA.nil | (apply ResA.tmp; (focus exact rfl)) | (apply ResA.cellN; (focus exact inferInstance); (focus exact rfl); (focus exact rfl); (focus exact rfl)) | (apply ResA.cell1; (focus exact inferInstance); (focus exact rfl); (focus exact rfl); (focus exact rfl)))) rfl rfl (by simp [bpLtB, bp_DB, bp_NG, bp_EB]) (LeA.refl _) ⟨rfl, rfl, rfl⟩
theorem PcopyFilesG (f : Fls) (K : Nat) (dK : Dvc) (i : Nat) (nI : Nod) (hf : FlsB f) (hK : f[K]? = some dK) (hi : dK.nodes[i]? = some nI) (hE : 0 < nI.entries.length) : ACall Try.prog 63 [.agg (flsA f)] [] (fun r b t => t = [] ∧ r = .agg [.bs 2 0 2 f.length f.length] ∧ b = [[.bs 2 0 2 f.length f.length], [.bs 2 0 2 f.length f.length], DB f K dK 3 f.length dK.nodes.length, NG dK.nodes i nI 4 nI.entries.length dK.nodes.length, EB nI.entries nI.entries.length]) := by
 refine enter Try.func63 rfl rfl rfl rfl rfl 5 rfl ?_
 refine w_ (b_ (h:=al_ (h:=e_ (w_ (f_ (h:=l_ (h:=?_)))))))
 refine al_p rfl (s_callM [] rfl (.cons _ _ _ _ _ rfl (LeA.refl _) (.cons _ _ _ _ _ rfl (LeA.refl _) .nil)) (by decide) .nil (PcopiedDG f K dK i nI hf hK hi hE) ?_)
 rintro r bc tc ⟨rfl, rfl, rfl⟩
 refine ⟨rfl, _, (back_devsG (n := 2) rfl f K dK f.length dK.nodes.length dK.nodes i nI nI.entries.length dK.nodes.length nI.entries nI.entries.length : Back _ [] _ [_, _, _, _, _]), ?_⟩
 refine f_ (h:=s_ (h:=e_ (w_ (l_ (h:=s_ (h:=e_ (aw_ret (?_))))))))
 refine abody_ret none (by repeat (first | exact ResA.nil | (apply ResA.tmp; (focus exact rfl)) | (apply ResA.cellN; (focus exact inferInstance); (focus exact rfl); (focus exact rfl); (focus exact rfl)) | (apply ResA.cell1; (focus exact inferInstance); (focus exact rfl); (focus exact rfl); (focus exact rfl)))) rfl rfl (by simp [bpLtB, bpLtL, bpLt, flsA, bp_DB, bp_NG, bp_EB, ren, backS]) (LeA.refl _) ⟨rfl, rfl, rfl⟩
end
theorem rowsB_pushL {sz cap : Nat} {rows news : List (List AV)} (h : ∀ x ∈ rows, x.length = sz) (hr : ∀ x ∈ news, x.length = sz) (hp : 0 < sz) (hn : news ≠ []) (hc : rows.length + news.length ≤ cap) : SetAt (rowsB sz cap rows) (0 + rows.length * sz) news.flatten (rowsB sz cap (rows ++ news)) := by
 unfold rowsB
 have hnl : news.flatten.length = news.length * sz := flat_len hr
 have e : List.replicate ((cap - rows.length) * sz) AV.any = List.replicate (news.length * sz) AV.any ++ List.replicate ((cap - (rows ++ news).length) * sz) AV.any := by
  rw [List.replicate_append_replicate, ← Nat.add_mul, List.length_append]
  congr 2
  omega
 rw [e, Nat.zero_add, List.flatten_append, List.append_assoc]
 have hne : news.flatten ≠ [] := fun e => by
  rw [e, List.length_nil] at hnl
  have : 0 < news.length * sz := Nat.mul_pos (List.length_pos_iff.2 hn) hp
  omega
 have key := SetAt.right (SetAt.whole (xs := news.flatten) (l := List.replicate (news.length * sz) AV.any) (b := List.replicate ((cap - (rows ++ news).length) * sz) AV.any) (by simp [hnl])) rows.flatten hne
 rw [flat_len h, Nat.add_zero] at key
 simpa using key
theorem ent_flat (es : List Ent) (cap i : Nat) (hi : i ≤ es.length) : ((EB es cap).drop 0).take (i * 2) = ((es.take i).map entA).flatten := by
 unfold EB rowsB
 have hs : es.map entA = (es.take i).map entA ++ (es.drop i).map entA := by rw [← List.map_append, List.take_append_drop]
 have hl : ((es.take i).map entA).flatten.length = i * 2 := by rw [flat_len (ent_two _)]; simp; omega
 rw [List.drop_zero, hs, List.flatten_append, List.append_assoc, List.take_left' hl]
theorem ent_flat2 (es : List Ent) (cap i : Nat) (hi : i ≤ es.length) : ((EB es cap).drop (0 + i * 2)).take ((es.length - i) * 2) = ((es.drop i).map entA).flatten := by
 unfold EB rowsB
 have hs : es.map entA = (es.take i).map entA ++ (es.drop i).map entA := by rw [← List.map_append, List.take_append_drop]
 have hl : ((es.take i).map entA).flatten.length = i * 2 := by rw [flat_len (ent_two _)]; simp; omega
 have hl2 : ((es.drop i).map entA).flatten.length = (es.length - i) * 2 := by rw [flat_len (ent_two _)]; simp
 rw [Nat.zero_add]
 conv => lhs; rw [hs]
 rw [List.flatten_append, List.append_assoc, List.drop_left' hl, List.take_left' hl2]
theorem EB_take (es : List Ent) (cap cap2 i : Nat) (hi : i ≤ es.length) : ((EB es cap).drop 0).take (i * 2) ++ List.replicate ((cap2 - i) * 2) .any = EB (es.take i) cap2 := by
 rw [ent_flat es cap i hi]
 unfold EB rowsB
 have : ((es.take i).map entA).length = i := by simp; omega
 rw [this]
theorem EB_len (es : List Ent) (cap : Nat) (h : es.length ≤ cap) : (EB es cap).length = cap * 2 := rowsB_len (ent_two _) (by simpa using h)
def insE (es : List Ent) (i : Nat) (e : Ent) : List Ent := es.take i ++ e :: es.drop i
theorem EB_snoc (es : List Ent) (e : Ent) (cap0 cap : Nat) : ((EB es cap0).drop 0).take (es.length * 2) ++ [entA e].flatten ++ List.replicate ((cap - (es.length + 1)) * 2) .any = EB (es ++ [e]) cap := by
 have := rowsB_new (cap := cap) (r := entA e) (ent_two es) (cap0 := cap0) (n := es.length) (by simp)
 unfold EB
 rw [List.map_append]
 exact this
theorem EB_put (es : List Ent) (i : Nat) (e : Ent) (cap : Nat) (hi : i ≤ es.length) (hc : i + 1 ≤ cap) : SetAt (EB (es.take i) cap) (0 + i * 2) [entA e].flatten (EB (es.take i ++ [e]) cap) := by
 have hl : ((es.take i).map entA).length = i := by simp; omega
 have := rowsB_pushL (sz := 2) (cap := cap) (rows := (es.take i).map entA) (news := [entA e]) (ent_two _) (fun x hx => by rw [List.mem_singleton.1 hx]; rfl) (by decide) (by simp) (by rw [hl]; simpa using hc)
 rw [hl] at this
 unfold EB
 rw [List.map_append]
 exact this
theorem EB_put2 (es : List Ent) (i : Nat) (e : Ent) (cap : Nat) (hi : i < es.length) (hc : es.length + 1 ≤ cap) : SetAt (EB (es.take i ++ [e]) cap) (0 + (i + 1) * 2) (((EB es es.length).drop (0 + i * 2)).take ((es.length - i) * 2)) (EB (insE es i e) cap) := by
 rw [ent_flat2 es es.length i (by omega)]
 have hl : ((es.take i ++ [e]).map entA).length = i + 1 := by simp; omega
 have := rowsB_pushL (sz := 2) (cap := cap) (rows := (es.take i ++ [e]).map entA) (news := (es.drop i).map entA) (ent_two _) (ent_two _) (by decide) (by intro h; have := congrArg List.length h; simp at this; omega) (by rw [hl]; simp; omega)
 rw [hl] at this
 unfold EB insE
 rw [show es.take i ++ e :: es.drop i = es.take i ++ [e] ++ es.drop i by simp, List.map_append (l₁ := es.take i ++ [e])]
 exact this
section
set_option maxRecDepth 10000
set_option maxHeartbeats 1000000
theorem PinsE0 (e : Ent) : AFn Try.prog 93 [.v (.slice none 0 0), .v (.int .i64 0), .sl 2 [entA e] none] (fun r => r = .sl 2 [entA e] none) := by
 refine enter Try.func93 rfl rfl rfl rfl rfl 0 rfl ?_
 refine w_ (a_ (h:=e_ (w_ (m_ (h:=m_ (h:=?_))))))
 refine al_p rfl (st_sliceNil rfl rfl ?_)
 refine e_ (w_ (m_ (h:=n_ (h:=a_ (h:=e_ (q_ (w_ (m_ (h:=eq_ (h:=e_ (?_)))))))))))
 refine aw_cond rfl (fun hb1 => ?_) (fun hb1 => ?_)
 ·have hc1 := bp hb1
  exact absurd hc1 (by simp)
 have hc1 := bp hb1
 refine kt_ (w_ (m_ (h:=n_ (h:=a_ (h:=e_ (q_ (w_ (m_ (h:=m_ (h:=eq_ (h:=e_ (?_))))))))))))
 refine aw_cond rfl (fun hb2 => ?_) (fun hb2 => ?_)
 ·have hc2 := bp hb2
  refine w_ (m_ (h:=m_ (h:=?_)))
  first | refine al_p rfl (s_append rfl rfl rfl (by simp) (by repeat constructor) ?_) | refine al_p rfl (s_append0 rfl rfl (by simp) (by repeat constructor) ?_)
  refine a_ (h:=e_ (aw_ret (x_thenR (?_))))
  refine e_ret ?_
  rfl
 have hc2 := bp hb2
 exact absurd rfl hc2
theorem PinsE (es : List Ent) (i : Nat) (e : Ent) (h0 : 0 < es.length) (hes : es.length ≤ 1000) (hi : i ≤ es.length) : ACall Try.prog 93 [.bs 0 0 2 es.length es.length, .v (.int .i64 (i : Int)), .sl 2 [entA e] none] [EB es es.length] (fun r b t => t = [] ∧ ∃ cap, es.length + 1 ≤ cap ∧ r = .bs 1 0 2 (es.length + 1) cap ∧ b = [EB es es.length, EB (insE es i e) cap]) := by
 have hl1 : ([entA e] : List (List AV)).length = 1 := rfl
 have hfit : 0 + es.length * 2 ≤ (EB es es.length).length := by rw [EB_len es _ (Nat.le_refl _)]; omega
 refine enter Try.func93 rfl rfl rfl rfl rfl 2 rfl ?_
 refine w_ (a_ (h:=e_ (w_ (m_ (h:=m_ (h:=?_))))))
 refine al_p rfl (st_sliceAny rfl rfl rfl hi ?_)
 refine e_ (w_ (m_ (h:=n_ (h:=a_ (h:=e_ (q_ (w_ (m_ (h:=eq_ (h:=e_ (?_)))))))))))
 refine aw_cond rfl (fun hb1 => ?_) (fun hb1 => ?_)
 ·have hc1 := bp hb1
  exact absurd hc1 (by simp)
 have hc1 := bp hb1
 refine kt_ (w_ (m_ (h:=?_)))
 refine al_p rfl (st_lenB rfl ?_)
 refine a_ (h:=e_ (q_ (w_ (m_ (h:=m_ (h:=eq_ (h:=e_ (?_))))))))
 refine aw_cond rfl (fun hb2 => ?_) (fun hb2 => ?_)
 ·have hc2 := bp hb2
  refine w_ (m_ (h:=m_ (h:=?_)))
  refine al_p rfl (st_appendB rfl rfl rfl hfit (SrcA.sl _ _) (by simp) (by simp; omega) (fun h => absurd h (by simp)) ?_)
  intro hg cap k bx2 hcp hs
  have hs2 : SnocAt [EB es es.length] (EB (es ++ [e]) cap) k bx2 := by rw [← EB_snoc es e es.length cap]; exact hs
  obtain ⟨rfl, rfl⟩ : k = 1 ∧ bx2 = [EB es es.length, EB (es ++ [e]) cap] := hs2.eq
  refine a_ (h:=e_ (aw_ret (x_thenR (?_))))
  refine abody_ret (r := .bs 1 0 2 (es.length + 1) cap) none (by repeat (first | exact ResA.nil | (apply ResA.tmp; (focus exact rfl)) | (apply ResA.cellN; (focus exact inferInstance); (focus exact rfl); (focus exact rfl); (focus exact rfl)) | (apply ResA.cell1; (focus exact inferInstance); (focus exact rfl); (focus exact rfl); (focus exact rfl)))) rfl rfl (by simp [bpLtB, bp_EB]) (LeA.refl _) ⟨rfl, cap, by omega, rfl, ?_⟩
  rw [show insE es i e = es ++ [e] by unfold insE; rw [List.take_of_length_le (by omega), List.drop_of_length_le (by omega)]]
  rfl
 have hc2 := bp hb2
 have hil : i < es.length := by omega
 refine kt_ (q_ (w_ (m_ (h:=m_ (h:=?_)))))
 refine al_p rfl (st_add64 rfl rfl (by omega) ?_)
 refine m_ (h:=?_)
 refine al_p rfl (st_capB rfl ?_)
 refine gt_ (h:=e_ (?_))
 refine aw_cond rfl (fun hb3 => ?_) (fun hb3 => ?_)
 ·have hc3 := bp hb3
  refine w_ (m_ (h:=m_ (h:=?_)))
  refine al_p rfl (st_sliceHiB (k := i) rfl rfl rfl hi ?_)
  refine m_ (h:=m_ (h:=?_))
  refine al_p rfl (st_add64 rfl rfl (by omega) ?_)
  refine m_ (h:=?_)
  refine al_p rfl (st_sub64 rfl rfl (by omega) ?_)
  refine al_p rfl (st_appendNB (q := es.length + 1 - i) Try.underlying3 rfl rfl (by omega) rfl hfit (by omega) (by omega) (by omega) ?_)
  intro cap k bx2 hcp hs
  rw [EB_take es es.length cap i hi] at hs
  obtain ⟨rfl, rfl⟩ : k = 1 ∧ bx2 = [EB es es.length, EB (es.take i) cap] := hs.eq
  refine a_ (h:=e_ (w_ (m_ (h:=m_ (h:=?_)))))
  refine al_p rfl (st_sliceLoB (l := i) rfl rfl rfl (by omega) ?_)
  refine m_ (h:=?_)
  refine al_p rfl (st_copyB rfl rfl rfl (SrcA.sl _ _) (by simp) (by rw [hl1]; omega) (by rw [EB_len _ _ (by simp; omega)]; omega) (EB_put es i e cap hi (by omega)) (by repeat constructor) ?_)
  refine e_ (q_ (yk_ ([(0, EB es es.length)]) 9 (h:=dm_ 0 (h:=dm_ 1 (h:=dm_ 2 (h:=?_))))))
  refine tk_ 3 rfl (fun _ hS => st_add64 rfl rfl (by omega) ⟨rfl, rfl⟩) ?_
  refine tk_ 4 rfl (fun _ hS => st_sliceLoB (l := i + 1) rfl rfl (by omega) (by omega) ⟨rfl, rfl⟩) ?_
  refine dm_ 5 (h:=dm_ 6 (h:=?_))
  refine tk_ 7 rfl (fun _ hS => st_sliceLoB (l := i) rfl rfl rfl (by omega) ⟨rfl, rfl⟩) ?_
  refine c_ 8 rfl (st_copyB rfl rfl rfl (SrcA.bs 0 (0 + i * 2) (es.length - i) (es.length - i) _ rfl (by omega)) (by omega) (by omega) (by rw [EB_len _ _ (by simp; omega)]; omega) (EB_put2 es i e cap hil (by omega)) (by repeat constructor) ?_)
  refine o_ (h:=z_ (h:=t_ (w_ (m_ (h:=a_ (h:=e_ (aw_ret (x_thenR (?_)))))))))
  refine abody_ret (r := .bs 1 0 2 (es.length + 1) cap) none (by repeat (first | exact ResA.nil | (apply ResA.tmp; (focus exact rfl)) | (apply ResA.cellN; (focus exact inferInstance); (focus exact rfl); (focus exact rfl); (focus exact rfl)) | (apply ResA.cell1; (focus exact inferInstance); (focus exact rfl); (focus exact rfl); (focus exact rfl)))) rfl rfl (by simp [bpLtB, bp_EB]) (LeA.of_eq (by rw [show reT none (tupA [AV.bs 1 0 2 (i + (es.length + 1 - i)) cap]) = AV.bs 1 0 2 (i + (es.length + 1 - i)) cap from rfl]; congr 1; omega)) ⟨rfl, cap, by omega, rfl, rfl⟩
 have hc3 := bp hb3
 exfalso; omega
end
theorem entGo_ins (name : Str) (ino : Int) : ∀ (es : List Ent) (p : Nat), (∀ e ∈ es, e.1 ≠ name) → p ≤ es.length → (∀ k e, k < p → es[k]? = some e → strLt e.1 name = true) → (∀ e, es[p]? = some e → strLt e.1 name = false) → entGo name ino false es = insE es p (name, ino)
 | [], p, _, hp, _, _ => by
   simp at hp
   subst hp
   rfl
 | e :: es, p, hn, hp, h1, h2 => by
   have hne : e.1 ≠ name := hn e (List.mem_cons_self ..)
   cases p with
   | zero =>
     have hs := h2 e rfl
     have hw : without name es = es := by
      unfold without
      rw [List.filter_eq_self]
      intro x hx
      simpa using hn x (List.mem_cons_of_mem _ hx)
     unfold entGo
     rw [hs, if_neg hne]
     simp only [Bool.not_false, Bool.and_self, if_true, Bool.or_true, Bool.false_or, entGo_done, hw]
     simp [insE]
   | succ p =>
     have hs := h1 0 e (Nat.succ_pos _) rfl
     have ih := entGo_ins name ino es p (fun x hx => hn x (List.mem_cons_of_mem _ hx)) (by simpa using hp) (fun k x hk hx => h1 (k + 1) x (by omega) (by simpa using hx)) (fun x hx => h2 x (by simpa using hx))
     unfold entGo
     rw [hs, if_neg hne]
     simp only [Bool.not_true, Bool.and_false, Bool.false_eq_true, if_false, List.nil_append, Bool.or_false]
     rw [ih]
     simp [insE]
theorem entL_ins {name : Str} {ino : Int} {es : List Ent} {p : Nat} (h0 : ino ≠ 0) (hn : ∀ e ∈ es, e.1 ≠ name) (hp : p ≤ es.length) (h1 : ∀ k e, k < p → es[k]? = some e → strLt e.1 name = true) (h2 : ∀ e, es[p]? = some e → strLt e.1 name = false) : entL es name ino = insE es p (name, ino) := by
 unfold entL
 rw [show (ino == 0) = false by simpa using h0]
 exact entGo_ins name ino es p hn hp h1 h2
def NX (ns : List Nod) (i : Nat) (nI : Nod) (e : AV) (cap1 : Nat) : List AV := rowsB 8 cap1 ((ns.map nodF).set i (nodX nI e))
theorem NX_eight (ns : List Nod) (i : Nat) (nI : Nod) (e : AV) : ∀ r ∈ (ns.map nodF).set i (nodX nI e), r.length = 8 := by
 intro r hr
 rcases List.mem_or_eq_of_mem_set hr with h | h
 ·exact nodF_eight _ r h
 rw [h]; rfl
theorem NX_get {ns : List Nod} {i : Nat} {nI : Nod} {e x : AV} {cap1 k : Nat} (hi : i < ns.length) (hx : (nodX nI e)[k]? = some x) : (NX ns i nI e cap1)[0 + i * 8 + k]? = some x := rowsB_get (NX_eight _ _ _ _) (by rw [List.getElem?_set_self (by simpa using hi)]) hx
theorem NX_set {ns : List Nod} {i : Nat} {nI : Nod} {e e' : AV} {cap1 : Nat} (hi : i < ns.length) : SetAt (NX ns i nI e cap1) (0 + i * 8 + 7) [e'] (NX ns i nI e' cap1) := by
 have := rowsB_set (cap := cap1) (q := i) (k := 7) (r := nodX nI e) (r' := nodX nI e') (cs := [e']) (NX_eight ns i nI e) (by rw [List.getElem?_set_self (by simpa using hi)]) (by repeat constructor) (by simp)
 rw [List.set_set] at this
 exact this
theorem bp_NX {n m : Nat} {ns : List Nod} {i : Nat} {nI : Nod} {e : AV} {cap1 : Nat} (he : bpLt n m e = true) : bpLtL n m (NX ns i nI e cap1) = true := by
 refine bpLt_rowsB fun r hr => ?_
 rcases List.mem_or_eq_of_mem_set hr with h | h
 ·obtain ⟨d, _, rfl⟩ := List.mem_map.1 h
  exact bp_nodF d
 rw [h]; simp [nodX, bpLtL, bpLt, he]
theorem back_E1 (a : List AV) (es es' : List Ent) (cap cap' : Nat) : Back [a, EB es cap] [1] [EB es cap, EB es' cap'] [a, EB es cap, EB es' cap'] := by
 have := back_F (bx := [a, EB es cap]) (is := [1]) (bc := [EB es cap, EB es' cap']) (by decide) (by simp) (by simp)
 simpa [backF, ren_EB] using this
theorem EB_get {es : List Ent} {cap j k : Nat} {e : Ent} {x : AV} (h : es[j]? = some e) (hx : (entA e)[k]? = some x) : (EB es cap)[0 + j * 2 + k]? = some x := rowsB_get (ent_two _) (by rw [List.getElem?_map, h]; rfl) hx
section
set_option maxRecDepth 10000
set_option maxHeartbeats 1000000
theorem PputB (R : List AV) (R1 : AV → List AV) (i : Nat) (es : List Ent) (name : Str) (ino : Int) (h7 : R[0 + i * 8 + 7]? = some (.bs 1 0 2 es.length es.length)) (hset : ∀ x, SetAt R (0 + i * 8 + 7) [x] (R1 x)) (hbp : bpLtL 2 0 R = true) (hbp3 : ∀ cap, bpLtL 3 0 (R1 (.bs 2 0 2 (es.length + 1) cap)) = true) (hE : 0 < es.length) (hEn : es.length ≤ 1000) (hino : ino ≠ 0) (hno : ∀ e ∈ es, e.1 ≠ name) : ACall Try.prog 64 [.bp 0 (0 + i * 8), .v (.string name), .v (.int .i64 ino)] [R, EB es es.length] (fun r b t => t = [] ∧ r = .tup [] ∧ ∃ cap, es.length + 1 ≤ cap ∧ b = [R1 (.bs 2 0 2 (es.length + 1) cap), EB es es.length, EB (entL es name ino) cap]) := by
 refine enter Try.func64 rfl rfl rfl rfl rfl 3 rfl ?_
 refine q_ (w_ (m_ (h:=k_ (h:=f_ (h:=?_)))))
 refine al_p rfl (st_loadB1 rfl rfl h7 ?_)
 refine al_p rfl (st_lenB rfl ?_)
 refine m_ (h:=e_ (aw_block (?_)))
 refine aw_loopW (fun m t => ∃ j : Nat, j ≤ es.length ∧ m = es.length - j ∧ (∀ k x, k < j → es[k]? = some x → x.1 ≠ name) ∧ t = ⟨look [(0, .bp 0 (0 + i * 8)), (1, .v (.string name)), (2, .v (.int .i64 ino)), (12, .v (.int .i64 (es.length : Int))), (13, .v (.int .i64 (j : Int)))], ⟨[R, EB es es.length], []⟩⟩) (es.length) (wb_ 2 0 (by simp [bpLtB, bp_EB, hbp])) (⟨0, Nat.zero_le _, rfl, fun k x hk => by omega, rfl⟩) ?_
 rintro m t ⟨j, hj, rfl, hnot, rfl⟩
 refine w_ (lt_ (h:=e_ (q_ (?_))))
 refine aw_cond rfl (fun hb1 => ?_) (fun hb1 => ?_)
 ·have hc1 := bp hb1
  have hjl : j < es.length := by omega
  obtain ⟨y, hy⟩ : ∃ y, es[j]? = some y := ⟨_, List.getElem?_eq_getElem hjl⟩
  refine kt_ (q_ (aw_block (w_ (m_ (h:=a_ (h:=e_ (w_ (m_ (h:=k_ (h:=f_ (h:=?_)))))))))))
  refine al_p rfl (st_loadB1 rfl rfl h7 ?_)
  refine m_ (h:=?_)
  refine al_p rfl (st_indexS (m := j) rfl rfl rfl hjl ?_)
  refine f_ (h:=?_)
  refine al_p rfl (st_loadB1 rfl rfl (EB_get hy rfl) ?_)
  refine m_ (h:=eq_ (h:=e_ (?_)))
  refine aw_cond rfl (fun hb2 => ?_) (fun hb2 => ?_)
  ·have hc2 := bp hb2
   exact absurd hc2 (hno y (List.mem_of_getElem? hy))
  have hc2 := bp hb2
  refine aw_skip (x_blockN (t_ (aw_region (ad_ (h:=m_ (h:=al_nil (?_)))))))
  refine x_then ?_
  refine ⟨es.length - (j + 1), _, by omega, ⟨j + 1, by omega, rfl, fun k x hk hk2 => ?_, rfl⟩, wb_ 2 0 (by simp [bpLtB, bp_EB, hbp])⟩
  rcases Nat.lt_succ_iff_lt_or_eq.1 hk with h | rfl
  ·exact hnot k x h hk2
  rw [hy] at hk2; injection hk2 with hk2; subst hk2; assumption
 have hc1 := bp hb1
 refine aw_exit (x_thenE (x_thenE (ABlock_out (t_ (w_ (a_ (h:=e_ (q_ (aw_block (?_))))))))))
 refine aw_loopW (fun m t => ∃ p : Nat, p ≤ es.length ∧ m = es.length - p ∧ (∀ k e, k < p → es[k]? = some e → strLt e.1 name = true) ∧ t = ⟨look [(0, .bp 0 (0 + i * 8)), (1, .v (.string name)), (2, .v (.int .i64 ino)), (7, .v (.int .i64 (p : Int)))], ⟨[R, EB es es.length], []⟩⟩) (es.length) (wb_ 2 0 (by simp [bpLtB, bp_EB, hbp])) (⟨0, Nat.zero_le _, rfl, fun k e hk => by omega, rfl⟩) ?_
 rintro m t ⟨p, hp, rfl, hlt, rfl⟩
 refine q_ (w_ (m_ (h:=m_ (h:=k_ (h:=f_ (h:=?_))))))
 refine al_p rfl (st_loadB1 rfl rfl h7 ?_)
 refine al_p rfl (st_lenB rfl ?_)
 refine lt_ (h:=m_ (h:=?_))
 refine al_gs true rfl rfl (fun hb3 => ?_) (fun hb3 => ?_)
 ·have hc3 := bp hb3
  have hpl : p < es.length := by omega
  obtain ⟨y, hy⟩ : ∃ y, es[p]? = some y := ⟨_, List.getElem?_eq_getElem hpl⟩
  refine m_ (h:=k_ (h:=f_ (h:=?_)))
  refine g_y (st_loadB1 rfl rfl h7 ?_)
  refine m_ (h:=?_)
  refine g_y (st_indexS (m := p) rfl rfl rfl hpl ?_)
  refine f_ (h:=?_)
  refine g_y (st_loadB1 rfl rfl (EB_get hy rfl) ?_)
  refine m_ (h:=lt_ (h:=pt_ (h:=e_ (?_))))
  refine aw_cond rfl (fun hb4 => ?_) (fun hb4 => ?_)
  ·have hc4 := bp hb4
   refine kt_ (aw_block (aw_region (m_ (h:=ad_ (h:=a_ (h:=al_nil (x_blockN (?_))))))))
   refine x_then ?_
   refine ⟨es.length - (p + 1), _, by omega, ⟨p + 1, by omega, rfl, fun k e hk he => ?_, rfl⟩, wb_ 2 0 (by simp [bpLtB, bp_EB, hbp])⟩
   rcases Nat.lt_succ_iff_lt_or_eq.1 hk with h | rfl
   ·exact hlt k e h he
   rw [hy] at he; injection he with he; subst he; exact hb4
  have hc4 := bp hb4
  refine aw_exit (x_thenE (x_thenE (ABlock_out (t_ (aw_region (m_ (h:=m_ (h:=k_ (h:=f_ (h:=?_))))))))))
  refine al_p rfl (st_loadB1 rfl rfl h7 ?_)
  refine m_ (h:=m_ (h:=m_ (h:=bd_ (h:=bs_ (h:=?_)))))
  refine al_p rfl (s_callM [1] rfl (.cons _ _ _ _ _ rfl (LeA.refl _) (.cons _ _ _ _ _ rfl (LeA.refl _) (.cons _ _ _ _ _ rfl (LeA.refl _) .nil))) (by decide) (.cons _ _ _ _ _ rfl (ren_EB _ _ _) .nil) (PinsE es p (name, ino) hE hEn hp) ?_)
  rintro r bc tc ⟨rfl, cap, hcap, rfl, rfl⟩
  refine ⟨rfl, _, (back_E1 _ _ _ _ _ : Back _ [1] _ [_, _, _]), ?_⟩
  refine k_ (h:=f_ (h:=?_))
  refine al_p0 (s_store rfl rfl rfl rfl rfl rfl (hset _) (by repeat constructor) ?_)
  refine al_nil (?_)
  refine abody_end (r := .tup []) none (by repeat (first | exact ResA.nil | (apply ResA.tmp; (focus exact rfl)) | (apply ResA.cellN; (focus exact inferInstance); (focus exact rfl); (focus exact rfl); (focus exact rfl)) | (apply ResA.cell1; (focus exact inferInstance); (focus exact rfl); (focus exact rfl); (focus exact rfl)))) rfl rfl (by show (bpLtL 3 0 (R1 (.bs 2 0 2 (es.length + 1) cap)) && (bpLtL 3 0 (EB es es.length) && (bpLtL 3 0 (EB (insE es p (name, ino)) cap) && true))) = true; rw [hbp3, bp_EB, bp_EB]; rfl) (LeA.refl _) ⟨rfl, rfl, cap, hcap, ?_⟩
  rw [entL_ins hino hno hp hlt (fun e he => by rw [hy] at he; injection he with he; subst he; exact hb4)]
  rfl
 have hc3 := bp hb3
 refine g0_ (h:=g0_ (h:=g0_ (h:=g0_ (h:=g0_ (h:=g0_ (h:=g0_ (h:=g0_ (h:=g0_ (h:=g0_ (h:=pf_ (h:=e_ (cn_ (h:=aw_exit (x_thenE (x_thenE (ABlock_out (t_ (aw_region (m_ (h:=m_ (h:=k_ (h:=f_ (h:=?_)))))))))))))))))))))))
 refine al_p rfl (st_loadB1 rfl rfl h7 ?_)
 refine m_ (h:=m_ (h:=m_ (h:=bd_ (h:=bs_ (h:=?_)))))
 refine al_p rfl (s_callM [1] rfl (.cons _ _ _ _ _ rfl (LeA.refl _) (.cons _ _ _ _ _ rfl (LeA.refl _) (.cons _ _ _ _ _ rfl (LeA.refl _) .nil))) (by decide) (.cons _ _ _ _ _ rfl (ren_EB _ _ _) .nil) (PinsE es p (name, ino) hE hEn hp) ?_)
 rintro r bc tc ⟨rfl, cap, hcap, rfl, rfl⟩
 refine ⟨rfl, _, (back_E1 _ _ _ _ _ : Back _ [1] _ [_, _, _]), ?_⟩
 refine k_ (h:=f_ (h:=?_))
 refine al_p0 (s_store rfl rfl rfl rfl rfl rfl (hset _) (by repeat constructor) ?_)
 refine al_nil (?_)
 refine abody_end (r := .tup []) none (by repeat (first | exact ResA.nil | (apply ResA.tmp; (focus exact rfl)) | (apply ResA.cellN; (focus exact inferInstance); (focus exact rfl); (focus exact rfl); (focus exact rfl)) | (apply ResA.cell1; (focus exact inferInstance); (focus exact rfl); (focus exact rfl); (focus exact rfl)))) rfl rfl (by show (bpLtL 3 0 (R1 (.bs 2 0 2 (es.length + 1) cap)) && (bpLtL 3 0 (EB es es.length) && (bpLtL 3 0 (EB (insE es p (name, ino)) cap) && true))) = true; rw [hbp3, bp_EB, bp_EB]; rfl) (LeA.refl _) ⟨rfl, rfl, cap, hcap, ?_⟩
 rw [entL_ins hino hno hp hlt (fun e he => by rw [List.getElem?_eq_none (by omega)] at he; cases he)]
 rfl
theorem Pput0Y (R : List AV) (R1 : AV → List AV) (i : Nat) (name : Str) (ino : Int) (h7 : R[0 + i * 8 + 7]? = some (.v (.slice none 0 0))) (hset : ∀ x, SetAt R (0 + i * 8 + 7) [x] (R1 x)) (hbp : bpLtL 1 0 R = true) (hbp3 : bpLtL 1 0 (R1 (.sl 2 [entA (name, ino)] none)) = true) : ACall Try.prog 64 [.bp 0 (0 + i * 8), .v (.string name), .v (.int .i64 ino)] [R] (fun r b t => t = [] ∧ r = .tup [] ∧ b = [R1 (.sl 2 [entA (name, ino)] none)]) := by
 refine enter Try.func64 rfl rfl rfl rfl rfl 1 rfl ?_
 refine q_ (w_ (m_ (h:=k_ (h:=f_ (h:=?_)))))
 refine al_p rfl (st_loadB1 rfl rfl h7 ?_)
 refine n_ (h:=m_ (h:=e_ (aw_block (?_))))
 refine aw_loopW (fun m t => t = ⟨look [(0, .bp 0 (0 + i * 8)), (1, .v (.string name)), (2, .v (.int .i64 ino)), (12, .v (.int .i64 0)), (13, .v (.int .i64 0))], ⟨[R], []⟩⟩) (0) (wb_ 1 0 (by simp [bpLtB, hbp])) (rfl) ?_
 rintro m t rfl
 refine w_ (lt_ (h:=e_ (q_ (?_))))
 refine aw_cond rfl (fun hb1 => ?_) (fun hb1 => ?_)
 ·have hc1 := bp hb1
  exfalso; omega
 have hc1 := bp hb1
 refine aw_exit (x_thenE (x_thenE (ABlock_out (t_ (w_ (a_ (h:=e_ (q_ (aw_block (?_))))))))))
 refine aw_loopW (fun m t => t = ⟨look [(0, .bp 0 (0 + i * 8)), (1, .v (.string name)), (2, .v (.int .i64 ino)), (7, .v (.int .i64 0))], ⟨[R], []⟩⟩) (0) (wb_ 1 0 (by simp [bpLtB, hbp])) (rfl) ?_
 rintro m t rfl
 refine q_ (w_ (m_ (h:=m_ (h:=k_ (h:=f_ (h:=?_))))))
 refine al_p rfl (st_loadB1 rfl rfl h7 ?_)
 refine n_ (h:=lt_ (h:=m_ (h:=?_)))
 refine al_gs true rfl rfl (fun hb2 => ?_) (fun hb2 => ?_)
 ·have hc2 := bp hb2
  exfalso; omega
 have hc2 := bp hb2
 refine g0_ (h:=g0_ (h:=g0_ (h:=g0_ (h:=g0_ (h:=g0_ (h:=g0_ (h:=g0_ (h:=g0_ (h:=g0_ (h:=pf_ (h:=e_ (cn_ (h:=aw_exit (x_thenE (x_thenE (ABlock_out (t_ (aw_region (m_ (h:=m_ (h:=k_ (h:=f_ (h:=?_)))))))))))))))))))))))
 refine al_p rfl (st_loadB1 rfl rfl h7 ?_)
 refine m_ (h:=m_ (h:=m_ (h:=bd_ (h:=bs_ (h:=?_)))))
 refine al_p rfl (q_call (PinsE0 (name, ino)) ?_)
 rintro r rfl
 refine k_ (h:=f_ (h:=?_))
 refine al_p0 (s_store rfl rfl rfl rfl rfl rfl (hset _) (by repeat constructor) ?_)
 refine al_nil (?_)
 refine abody_end (r := .tup []) none (by repeat (first | exact ResA.nil | (apply ResA.tmp; (focus exact rfl)) | (apply ResA.cellN; (focus exact inferInstance); (focus exact rfl); (focus exact rfl); (focus exact rfl)) | (apply ResA.cell1; (focus exact inferInstance); (focus exact rfl); (focus exact rfl); (focus exact rfl)))) rfl rfl (by show (bpLtL 1 0 (R1 (.sl 2 [entA (name, ino)] none)) && true) = true; rw [hbp3]; rfl) (LeA.refl _) ⟨rfl, rfl, rfl⟩
theorem Pput (ns : List Nod) (i : Nat) (nI : Nod) (name : Str) (ino : Int) (hil : i < ns.length) (hE : 0 < nI.entries.length) (hEn : nI.entries.length ≤ 1000) (hino : ino ≠ 0) (hno : ∀ e ∈ nI.entries, e.1 ≠ name) : ACall Try.prog 64 [.bp 0 (0 + i * 8), .v (.string name), .v (.int .i64 ino)] [NX ns i nI (.bs 1 0 2 nI.entries.length nI.entries.length) ns.length, EB nI.entries nI.entries.length] (fun r b t => t = [] ∧ r = .tup [] ∧ ∃ cap, nI.entries.length + 1 ≤ cap ∧ b = [NX ns i nI (.bs 2 0 2 (nI.entries.length + 1) cap) ns.length, EB nI.entries nI.entries.length, EB (entL nI.entries name ino) cap]) := by
 exact PputB (NX ns i nI (.bs 1 0 2 nI.entries.length nI.entries.length) ns.length) (fun x => NX ns i nI x ns.length) i nI.entries name ino (NX_get hil rfl) (fun x => NX_set hil) (bp_NX rfl) (fun _ => bp_NX rfl) hE hEn hino hno
theorem Pput0 (ns : List Nod) (i : Nat) (nI : Nod) (name : Str) (ino : Int) (hil : i < ns.length) : ACall Try.prog 64 [.bp 0 (0 + i * 8), .v (.string name), .v (.int .i64 ino)] [NX ns i nI (.v (.slice none 0 0)) ns.length] (fun r b t => t = [] ∧ r = .tup [] ∧ b = [NX ns i nI (.sl 2 [entA (name, ino)] none) ns.length]) := by
 exact Pput0Y (NX ns i nI (.v (.slice none 0 0)) ns.length) (fun x => NX ns i nI x ns.length) i name ino (NX_get hil rfl) (fun x => NX_set hil) (bp_NX rfl) (bp_NX rfl)
end
section
variable {P : Program} {ev : Operand → Option AV} {h : AH} {R : AV → AH → Prop} {d : Option Tmp} {ty : TypeId} {pos : String} {af : Array Edge} {gd : Option (Nat × Bool)}
theorem st_sliceEnd {T : TypeId} {x lo : Operand} {E sz bytes i off n cap : Nat} {iv : Int} [hE : Elm P T E sz bytes] (hx : ev x = some (.bs i off sz n cap)) (hl : ev lo = some (.v (.int .i64 iv))) (hl' : iv = (n : Int)) (hR : R (.sl sz [] none) h) : AStep P ⟨d, .slice T x (some lo) none none, ty, pos, af, gd⟩ ev h R := by
 refine st_val (fun _ G w ec _ he => ?_) hR
 have k1 := he x (by simp [Op.operands]) _ hx
 have k2 := he lo (by simp [Op.operands]) _ hl
 simp only [rep] at k1 k2
 obtain ⟨b, e1, e2, e3, e4⟩ := k1
 obtain ⟨hu, inf, z, hinf, hz, hzs, hs, hby, hp⟩ := elm_spec hE.eq
 subst hl'
 refine ⟨.slice (if cap = n then some ⟨b, off, none⟩ else Option.map (fun y : Addr => y.add (n * sz)) (some ⟨b, off, none⟩)) 0 (cap - n), ?_, ?_⟩
 ·simp [execOp, e2, k2, Instr.sliceAt, Instr.slice, Instr.sliceBounds, Instr.sliceBound, asIntOf, run_underlying hu, sizeOf, typeInfo, hinf, hs, e3]
 simp only [rep, fro]
 exact ⟨trivial, _, _, rfl, Nat.zero_le _, by omega, .inl trivial⟩
end
theorem NX_ino {ns : List Nod} {i j : Nat} {nI x : Nod} {e : AV} {cap1 : Nat} (hi : ns[i]? = some nI) (hx : ns[j]? = some x) : (NX ns i nI e cap1)[0 + j * 8 + 0]? = some (.v (.int .i64 x.ino)) := by
 by_cases h : i = j
 ·subst h
  rw [hi] at hx
  injection hx with hx
  subst hx
  exact NX_get (List.getElem?_eq_some_iff.1 hi).1 rfl
 refine rowsB_get (r := nodF x) (NX_eight _ _ _ _) ?_ rfl
 rw [List.getElem?_set_ne h, List.getElem?_map, hx]
 rfl
section
set_option maxRecDepth 10000
set_option maxHeartbeats 1000000
theorem PfindR0 (f : Fls) (K : Nat) (dK : Dvc) (i : Nat) (nI : Nod) (a : Fil) (R : List AV)  (hR : ∀ (j : Nat) (x : Nod), dK.nodes[j]? = some x → R[0 + j * 8 + 0]? = some (.v (.int .i64 x.ino))) (hbp : ∀ q, 2 ≤ q → bpLtL q 0 R = true)  (hK : K < f.length) (hi : dK.nodes[i]? = some nI) (hak : a.1 = (K : Int)) (hin : nI.ino = a.2) (hfst : ∀ k x, k < i → dK.nodes[k]? = some x → x.ino ≠ a.2) (hfew : f.length ≤ 1000) (hdn : dK.nodes.length ≤ 1000) : ACall Try.prog 65 [.agg [.bs 0 0 2 f.length f.length], .agg (filA a)] [DB f K dK 1 f.length dK.nodes.length, R] (fun r b t => t = [] ∧ r = .bp 1 (0 + i * 8) ∧ b = [DB f K dK 1 f.length dK.nodes.length, R]) := by
 have hKl := hK
 have hil := (List.getElem?_eq_some_iff.1 hi).1
 have hD : (DB f K dK 1 f.length dK.nodes.length)[0 + K * 2 + 1]? = some (.bs 1 0 8 dK.nodes.length dK.nodes.length) := DB_nodes hKl
 refine enter Try.func65 rfl rfl rfl rfl rfl 2 rfl ?_
 refine w_ (b_ (h:=b_ (h:=a_ (h:=e_ (q_ (w_ (f_ (h:=l_ (h:=lt_ (h:=m_ (h:=?_)))))))))))
 refine al_gs false rfl rfl (fun hb1 => ?_) (fun hb1 => ?_)
 ·have hc1 := bp hb1
  exfalso; omega
 have hc1 := bp hb1
 refine f_ (h:=l_ (h:=f_ (h:=l_ (h:=?_))))
 refine g_y (st_lenB rfl ?_)
 refine ge_ (h:=pf_ (h:=e_ (?_)))
 refine aw_cond rfl (fun hb2 => ?_) (fun hb2 => ?_)
 ·have hc2 := bp hb2
  exfalso; omega
 have hc2 := bp hb2
 refine kt_ (w_ (f_ (h:=l_ (h:=f_ (h:=l_ (h:=?_))))))
 refine al_p rfl (st_indexS (m := K) rfl rfl hak hKl ?_)
 refine f_ (h:=?_)
 refine al_p rfl (st_loadB1 rfl rfl hD ?_)
 refine a_ (h:=e_ (q_ (w_ (m_ (h:=?_)))))
 refine al_p rfl (st_lenB rfl ?_)
 refine m_ (h:=e_ (aw_block (?_)))
 refine aw_loopW (fun m t => ∃ j : Nat, j ≤ dK.nodes.length ∧ m = dK.nodes.length - j ∧ (∀ k x, k < j → dK.nodes[k]? = some x → x.ino ≠ a.2) ∧ t = ⟨look [(3, .bp 3 0), (5, .bs 1 0 8 dK.nodes.length dK.nodes.length), (26, .v (.int .i64 (dK.nodes.length : Int))), (27, .v (.int .i64 (j : Int)))], ⟨[DB f K dK 1 f.length dK.nodes.length, R, [.bs 0 0 2 f.length f.length], filA a], []⟩⟩) (dK.nodes.length) (wb_ 4 0 (by simp [bpLtB, bpLtL, bpLt, bp_DB, hbp, filA])) (⟨0, Nat.zero_le _, rfl, fun k x hk => by omega, rfl⟩) ?_
 rintro m t ⟨j, hj, rfl, hnot, rfl⟩
 refine w_ (lt_ (h:=e_ (q_ (?_))))
 refine aw_cond rfl (fun hb3 => ?_) (fun hb3 => ?_)
 ·have hc3 := bp hb3
  have hjl : j < dK.nodes.length := by omega
  obtain ⟨x, hy⟩ : ∃ x, dK.nodes[j]? = some x := ⟨_, List.getElem?_eq_getElem hjl⟩
  refine kt_ (q_ (aw_block (w_ (m_ (h:=a_ (h:=e_ (q_ (yr_ 8 (h:=dm_ 0 (h:=dm_ 1 (h:=?_)))))))))))
  refine r_y (i := 2) rfl (st_indexS (m := j) rfl rfl rfl hjl ⟨rfl, rfl⟩) ?_
  refine df_ 3 (h:=?_)
  refine r_y (i := 4) rfl (st_loadB1 rfl rfl (hR _ _ hy) ⟨rfl, rfl⟩) ?_
  refine df_ 5 (h:=dl_ 6 (h:=deq_ 7 (h:=z_ (h:=t_ (?_)))))
  refine aw_cond rfl (fun hb4 => ?_) (fun hb4 => ?_)
  ·have hc4 := bp hb4
   obtain rfl : j = i := by
    rcases Nat.lt_trichotomy j i with h | h | h
    ·exact absurd hc4 (hfst j x h hy)
    ·exact h
    exact absurd hin (hnot i nI h hi)
   refine w_ (m_ (h:=m_ (h:=?_)))
   refine al_p rfl (st_indexS (m := j) rfl rfl rfl hjl ?_)
   refine a_ (h:=e_ (aw_ret (x_blockR (x_thenR (x_thenR (x_blockR (x_thenR (?_))))))))
   refine abody_ret none (by repeat (first | exact ResA.nil | (apply ResA.tmp; (focus exact rfl)) | (apply ResA.cellN; (focus exact inferInstance); (focus exact rfl); (focus exact rfl); (focus exact rfl)) | (apply ResA.cell1; (focus exact inferInstance); (focus exact rfl); (focus exact rfl); (focus exact rfl)))) rfl rfl (by simp [bpLtB, bpLtL, bpLt, bp_DB, hbp, filA]) (LeA.refl _) ⟨rfl, rfl, rfl⟩
  have hc4 := bp hb4
  refine aw_skip (x_blockN (t_ (aw_region (ad_ (h:=m_ (h:=al_nil (?_)))))))
  refine x_then ?_
  refine ⟨dK.nodes.length - (j + 1), _, by omega, ⟨j + 1, by omega, rfl, fun k y hk hk2 => ?_, rfl⟩, wb_ 4 0 (by simp [bpLtB, bpLtL, bpLt, bp_DB, hbp, filA])⟩
  rcases Nat.lt_succ_iff_lt_or_eq.1 hk with h | rfl
  ·exact hnot k y h hk2
  rw [hy] at hk2; injection hk2 with hk2; subst hk2; assumption
 have hc3 := bp hb3
 exact absurd hin (hnot i nI (by omega) hi)
theorem PfindR1 (f : Fls) (K : Nat) (dK : Dvc) (i : Nat) (nI : Nod) (a : Fil) (R : List AV) (E1 : List AV) (hR : ∀ (j : Nat) (x : Nod), dK.nodes[j]? = some x → R[0 + j * 8 + 0]? = some (.v (.int .i64 x.ino))) (hbp : ∀ q, 3 ≤ q → bpLtL q 0 R = true) (hbE1 : ∀ q, 3 ≤ q → bpLtL q 0 E1 = true) (hK : K < f.length) (hi : dK.nodes[i]? = some nI) (hak : a.1 = (K : Int)) (hin : nI.ino = a.2) (hfst : ∀ k x, k < i → dK.nodes[k]? = some x → x.ino ≠ a.2) (hfew : f.length ≤ 1000) (hdn : dK.nodes.length ≤ 1000) : ACall Try.prog 65 [.agg [.bs 0 0 2 f.length f.length], .agg (filA a)] [DB f K dK 1 f.length dK.nodes.length, R, E1] (fun r b t => t = [] ∧ r = .bp 1 (0 + i * 8) ∧ b = [DB f K dK 1 f.length dK.nodes.length, R, E1]) := by
 have hKl := hK
 have hil := (List.getElem?_eq_some_iff.1 hi).1
 have hD : (DB f K dK 1 f.length dK.nodes.length)[0 + K * 2 + 1]? = some (.bs 1 0 8 dK.nodes.length dK.nodes.length) := DB_nodes hKl
 refine enter Try.func65 rfl rfl rfl rfl rfl 3 rfl ?_
 refine w_ (b_ (h:=b_ (h:=a_ (h:=e_ (q_ (w_ (f_ (h:=l_ (h:=lt_ (h:=m_ (h:=?_)))))))))))
 refine al_gs false rfl rfl (fun hb1 => ?_) (fun hb1 => ?_)
 ·have hc1 := bp hb1
  exfalso; omega
 have hc1 := bp hb1
 refine f_ (h:=l_ (h:=f_ (h:=l_ (h:=?_))))
 refine g_y (st_lenB rfl ?_)
 refine ge_ (h:=pf_ (h:=e_ (?_)))
 refine aw_cond rfl (fun hb2 => ?_) (fun hb2 => ?_)
 ·have hc2 := bp hb2
  exfalso; omega
 have hc2 := bp hb2
 refine kt_ (w_ (f_ (h:=l_ (h:=f_ (h:=l_ (h:=?_))))))
 refine al_p rfl (st_indexS (m := K) rfl rfl hak hKl ?_)
 refine f_ (h:=?_)
 refine al_p rfl (st_loadB1 rfl rfl hD ?_)
 refine a_ (h:=e_ (q_ (w_ (m_ (h:=?_)))))
 refine al_p rfl (st_lenB rfl ?_)
 refine m_ (h:=e_ (aw_block (?_)))
 refine aw_loopW (fun m t => ∃ j : Nat, j ≤ dK.nodes.length ∧ m = dK.nodes.length - j ∧ (∀ k x, k < j → dK.nodes[k]? = some x → x.ino ≠ a.2) ∧ t = ⟨look [(3, .bp 4 0), (5, .bs 1 0 8 dK.nodes.length dK.nodes.length), (26, .v (.int .i64 (dK.nodes.length : Int))), (27, .v (.int .i64 (j : Int)))], ⟨[DB f K dK 1 f.length dK.nodes.length, R, E1, [.bs 0 0 2 f.length f.length], filA a], []⟩⟩) (dK.nodes.length) (wb_ 5 0 (by simp [bpLtB, bpLtL, bpLt, bp_DB, hbp, filA, hbE1])) (⟨0, Nat.zero_le _, rfl, fun k x hk => by omega, rfl⟩) ?_
 rintro m t ⟨j, hj, rfl, hnot, rfl⟩
 refine w_ (lt_ (h:=e_ (q_ (?_))))
 refine aw_cond rfl (fun hb3 => ?_) (fun hb3 => ?_)
 ·have hc3 := bp hb3
  have hjl : j < dK.nodes.length := by omega
  obtain ⟨x, hy⟩ : ∃ x, dK.nodes[j]? = some x := ⟨_, List.getElem?_eq_getElem hjl⟩
  refine kt_ (q_ (aw_block (w_ (m_ (h:=a_ (h:=e_ (q_ (yr_ 8 (h:=dm_ 0 (h:=dm_ 1 (h:=?_)))))))))))
  refine r_y (i := 2) rfl (st_indexS (m := j) rfl rfl rfl hjl ⟨rfl, rfl⟩) ?_
  refine df_ 3 (h:=?_)
  refine r_y (i := 4) rfl (st_loadB1 rfl rfl (hR _ _ hy) ⟨rfl, rfl⟩) ?_
  refine df_ 5 (h:=dl_ 6 (h:=deq_ 7 (h:=z_ (h:=t_ (?_)))))
  refine aw_cond rfl (fun hb4 => ?_) (fun hb4 => ?_)
  ·have hc4 := bp hb4
   obtain rfl : j = i := by
    rcases Nat.lt_trichotomy j i with h | h | h
    ·exact absurd hc4 (hfst j x h hy)
    ·exact h
    exact absurd hin (hnot i nI h hi)
   refine w_ (m_ (h:=m_ (h:=?_)))
   refine al_p rfl (st_indexS (m := j) rfl rfl rfl hjl ?_)
   refine a_ (h:=e_ (aw_ret (x_blockR (x_thenR (x_thenR (x_blockR (x_thenR (?_))))))))
   refine abody_ret none (by repeat (first | exact ResA.nil | (apply ResA.tmp; (focus exact rfl)) | (apply ResA.cellN; (focus exact inferInstance); (focus exact rfl); (focus exact rfl); (focus exact rfl)) | (apply ResA.cell1; (focus exact inferInstance); (focus exact rfl); (focus exact rfl); (focus exact rfl)))) rfl rfl (by simp [bpLtB, bpLtL, bpLt, bp_DB, hbp, filA, hbE1]) (LeA.refl _) ⟨rfl, rfl, rfl⟩
  have hc4 := bp hb4
  refine aw_skip (x_blockN (t_ (aw_region (ad_ (h:=m_ (h:=al_nil (?_)))))))
  refine x_then ?_
  refine ⟨dK.nodes.length - (j + 1), _, by omega, ⟨j + 1, by omega, rfl, fun k y hk hk2 => ?_, rfl⟩, wb_ 5 0 (by simp [bpLtB, bpLtL, bpLt, bp_DB, hbp, filA, hbE1])⟩
  rcases Nat.lt_succ_iff_lt_or_eq.1 hk with h | rfl
  ·exact hnot k y h hk2
  rw [hy] at hk2; injection hk2 with hk2; subst hk2; assumption
 have hc3 := bp hb3
 exact absurd hin (hnot i nI (by omega) hi)
theorem PfindB0 (f : Fls) (K : Nat) (dK : Dvc) (i : Nat) (nI : Nod) (a : Fil) (hK : f[K]? = some dK) (hi : dK.nodes[i]? = some nI) (hak : a.1 = (K : Int)) (hin : nI.ino = a.2) (hfst : ∀ k x, k < i → dK.nodes[k]? = some x → x.ino ≠ a.2) (hfew : f.length ≤ 1000) (hdn : dK.nodes.length ≤ 1000) : ACall Try.prog 65 [.agg [.bs 0 0 2 f.length f.length], .agg (filA a)] [DB f K dK 1 f.length dK.nodes.length, NX dK.nodes i nI (.v (.slice none 0 0)) dK.nodes.length] (fun r b t => t = [] ∧ r = .bp 1 (0 + i * 8) ∧ b = [DB f K dK 1 f.length dK.nodes.length, NX dK.nodes i nI (.v (.slice none 0 0)) dK.nodes.length]) := by
 exact PfindR0 f K dK i nI a (NX dK.nodes i nI (.v (.slice none 0 0)) dK.nodes.length) (fun _ _ hx => NX_ino hi hx) (fun _ _ => bp_NX rfl) (List.getElem?_eq_some_iff.1 hK).1 hi hak hin hfst hfew hdn
theorem PfindBG (f : Fls) (K : Nat) (dK : Dvc) (i : Nat) (nI : Nod) (a : Fil) (hK : f[K]? = some dK) (hi : dK.nodes[i]? = some nI) (hak : a.1 = (K : Int)) (hin : nI.ino = a.2) (hfst : ∀ k x, k < i → dK.nodes[k]? = some x → x.ino ≠ a.2) (hfew : f.length ≤ 1000) (hdn : dK.nodes.length ≤ 1000) : ACall Try.prog 65 [.agg [.bs 0 0 2 f.length f.length], .agg (filA a)] [DB f K dK 1 f.length dK.nodes.length, NX dK.nodes i nI (.bs 2 0 2 nI.entries.length nI.entries.length) dK.nodes.length, EB nI.entries nI.entries.length] (fun r b t => t = [] ∧ r = .bp 1 (0 + i * 8) ∧ b = [DB f K dK 1 f.length dK.nodes.length, NX dK.nodes i nI (.bs 2 0 2 nI.entries.length nI.entries.length) dK.nodes.length, EB nI.entries nI.entries.length]) := by
 exact PfindR1 f K dK i nI a (NX dK.nodes i nI (.bs 2 0 2 nI.entries.length nI.entries.length) dK.nodes.length) (EB nI.entries nI.entries.length) (fun _ _ hx => NX_ino hi hx) (fun _ hq => bp_NX (by simp [bpLt]; omega)) (fun _ _ => bp_EB _ _) (List.getElem?_eq_some_iff.1 hK).1 hi hak hin hfst hfew hdn
end
def LeF (x y : AV) : Prop := ∀ (St : Nat → Nat → Prop) (w : World) (v : Value), fro St w x v → fro St w y v
def LeFL (xs ys : List AV) : Prop := xs.length = ys.length ∧ ∀ (i : Nat) (x y : AV), xs[i]? = some x → ys[i]? = some y → LeF x y
theorem LeF.refl (x : AV) : LeF x x := fun _ _ _ h => h
theorem LeFL.refl (xs : List AV) : LeFL xs xs := ⟨rfl, fun i x y hx hy => by rw [hx] at hy; injection hy with hy; subst hy; exact LeF.refl _⟩
theorem LeF.nil (sz : Nat) : LeF (.v (.slice none 0 0)) (.sl sz [] none) := fun St w v h => by
 simp only [fro] at h ⊢
 exact ⟨trivial, none, 0, h, Nat.le_refl _, Nat.zero_le _, .inl trivial⟩
theorem froC_le {St : Nat → Nat → Prop} {w : World} {b : Nat} : ∀ {xs ys : List AV} {off : Nat}, LeFL xs ys → froC St w b xs off → froC St w b ys off
 | [], [], _, _, h => h
 | [], _ :: _, _, h, _ => by have := h.1; simp at this
 | _ :: _, [], _, h, _ => by have := h.1; simp at this
 | x :: xs, y :: ys, off, h, k => by
   simp only [froC] at k ⊢
   obtain ⟨⟨k1, u, k2, k3, k4⟩, k5⟩ := k
   exact ⟨⟨k1, u, k2, k3, h.2 0 x y rfl rfl _ _ _ k4⟩, froC_le ⟨by simpa using h.1, fun i a b' ha hb => h.2 (i + 1) a b' (by simpa using ha) (by simpa using hb)⟩ k5⟩
theorem froR_le {St : Nat → Nat → Prop} {w : World} {b sz : Nat} : ∀ {rs rs' : List (List AV)} {off : Nat}, rs.length = rs'.length → (∀ (i : Nat) (r r' : List AV), rs[i]? = some r → rs'[i]? = some r' → LeFL r r') → froR St w b sz rs off → froR St w b sz rs' off
 | [], [], _, _, _, h => h
 | [], _ :: _, _, h, _, _ => by simp at h
 | _ :: _, [], _, h, _, _ => by simp at h
 | r :: rs, r' :: rs', off, h, hr, k => by
   simp only [froR] at k ⊢
   obtain ⟨⟨k1, k2⟩, k3⟩ := k
   have h0 := hr 0 r r' rfl rfl
   exact ⟨⟨by rw [← h0.1]; exact k1, froC_le h0 k2⟩, froR_le (by simpa using h) (fun i a b' ha hb => hr (i + 1) a b' (by simpa using ha) (by simpa using hb)) k3⟩
theorem LeF.rows {sz : Nat} {rs rs' : List (List AV)} (h : rs.length = rs'.length) (hr : ∀ (i : Nat) (r r' : List AV), rs[i]? = some r → rs'[i]? = some r' → LeFL r r') : LeF (.sl sz rs none) (.sl sz rs' none) := fun St w v k => by
 simp only [fro] at k ⊢
 obtain ⟨_, A, cap, k1, k2, k3, k4⟩ := k
 refine ⟨trivial, A, cap, by rw [← h]; exact k1, by rw [← h]; exact k2, k3, ?_⟩
 rcases k4 with k4 | ⟨b, off, k5, k6⟩
 ·subst k4
  exact .inl (List.eq_nil_of_length_eq_zero h.symm)
 exact .inr ⟨b, off, k5, froR_le h hr k6⟩
theorem LeF.toA {sz : Nat} {rs rs' : List (List AV)} (h : LeF (.sl sz rs none) (.sl sz rs' none)) : LeA (.sl sz rs none) (.sl sz rs' none) := fun G w v k => by
 simp only [rep] at k ⊢
 exact h _ _ _ k
theorem nodF_le (n : Nod) : LeFL (nodF n) (nodA n) := by
 refine ⟨rfl, fun i x y hx hy => ?_⟩
 match i, hx, hy with
 | 0, hx, hy => injection hx with hx; injection hy with hy; subst hx hy; exact LeF.refl _
 | 1, hx, hy => injection hx with hx; injection hy with hy; subst hx hy; exact LeF.refl _
 | 2, hx, hy => injection hx with hx; injection hy with hy; subst hx hy; exact LeF.refl _
 | 3, hx, hy => injection hx with hx; injection hy with hy; subst hx hy; exact LeF.refl _
 | 4, hx, hy => injection hx with hx; injection hy with hy; subst hx hy; exact LeF.refl _
 | 5, hx, hy => injection hx with hx; injection hy with hy; subst hx hy; exact LeF.refl _
 | 6, hx, hy => injection hx with hx; injection hy with hy; subst hx hy; exact LeF.refl _
 | 7, hx, hy =>
   injection hx with hx; injection hy with hy; subst hx hy
   unfold entX
   split
   ·rename_i h; rw [h]; exact LeF.nil _
   exact LeF.refl _
 | i + 8, hx, hy => simp [nodF, nodX] at hx
def resD (f : Fls) (q : Nat) (d : Dvc) (RN : List (List AV)) : List (List AV) := (f.map dvcA).set q [.v (.int .i64 d.next), .sl 8 RN none]
theorem resD_le {f : Fls} {q : Nat} {d d' : Dvc} {RN : List (List AV)} (hn : d.next = d'.next) (hl : RN.length = d'.nodes.length) (hr : ∀ (i : Nat) (r : List AV) (n : Nod), RN[i]? = some r → d'.nodes[i]? = some n → LeFL r (nodA n)) : LeA (.agg [.sl 2 (resD f q d RN) none]) (.agg (flsA (f.set q d'))) := by
 refine LeA.agg (LeL.cons (LeF.toA (LeF.rows (by simp [resD]) fun i r r' h1 h2 => ?_)) LeL.nil)
 unfold resD at h1
 rw [List.map_set] at h2
 rw [List.getElem?_set] at h1 h2
 by_cases e : q = i
 ·subst e
  rw [if_pos rfl] at h1 h2
  simp only [List.length_map] at h1 h2
  by_cases hq : q < f.length
  ·rw [if_pos hq] at h1 h2
   injection h1 with h1
   injection h2 with h2
   subst h1 h2
   refine ⟨rfl, fun k x y hx hy => ?_⟩
   match k, hx, hy with
   | 0, hx, hy => injection hx with hx; injection hy with hy; subst hx hy; rw [hn]; exact LeF.refl _
   | 1, hx, hy =>
     injection hx with hx; injection hy with hy; subst hx hy
     refine LeF.rows (by rw [hl, List.length_map]) fun k r r' g1 g2 => ?_
     rw [List.getElem?_map] at g2
     cases hm : d'.nodes[k]? with
     | none => rw [hm] at g2; cases g2
     | some m =>
       rw [hm] at g2
       injection g2 with g2
       subst g2
       exact hr k r m g1 hm
   | k + 2, hx, hy => simp at hx
  rw [if_neg hq] at h1; cases h1
 rw [if_neg e] at h1 h2
 rw [h1] at h2
 injection h2 with h2
 subst h2
 exact LeFL.refl _
theorem low_NX {g : Nat → Option (List AV)} (ns : List Nod) (i : Nat) (nI : Nod) {e e' : AV} (cap1 : Nat) (he : lowG g e = e') : lowGL g (NX ns i nI e cap1) = rowsB 8 cap1 ((ns.map nodF).set i (nodX nI e')) := by
 rw [lowGL_map]
 unfold NX
 rw [rowsB_map (lowG g) rfl, List.map_set]
 congr 1
 have e1 : ((ns.map nodF).map fun r => r.map (lowG g)) = ns.map nodF := by
  rw [List.map_map]
  apply List.map_congr_left
  intro n _
  exact map_nodF (fun _ => rfl) (fun _ _ => rfl) n
 rw [e1]
 congr 1
 simp [nodX, lowG, he]
theorem liv_NX {n : Nat} {bx : List (List AV)} {i0 i1 : Nat} {f : Fls} {q : Nat} {d : Dvc} {ns : List Nod} {i : Nat} {nI : Nod} {e e' : AV} {cap cap0 cap1 : Nat} (hq : q < f.length) (hc : f.length ≤ cap) (hc1 : ns.length ≤ cap1) (hns : ns.length = d.nodes.length) (hn0 : n ≤ i0) (hn1 : n ≤ i1) (h0 : bx[i0]? = some (DB f q d i1 cap cap1)) (h1 : bx[i1]? = some (NX ns i nI e cap1)) (he : lowG (frzG n bx 1) e = e') :
    livL n (frzG n bx 3) [.bs i0 0 2 f.length cap0] = [.sl 2 (resD f q d ((ns.map nodF).set i (nodX nI e'))) none] := by
 have b0 : Nat.blt i0 n = false := by rw [← Bool.not_eq_true, Nat.blt_eq]; omega
 have b1 : Nat.blt i1 n = false := by rw [← Bool.not_eq_true, Nat.blt_eq]; omega
 have f1 : frzG n bx 2 i1 = some (rowsB 8 cap1 ((ns.map nodF).set i (nodX nI e'))) := by
  rw [frzG, b1]
  simp only [h1, Option.map_some, low_NX ns i nI cap1 he]
 have hb : lowG (frzG n bx 2) (.bs i1 0 8 d.nodes.length cap1) = .sl 8 ((ns.map nodF).set i (nodX nI e')) none := lowG_rows f1 (NX_eight _ _ _ _) (by simp [hns]) (by simpa using hc1)
 have f0 : frzG n bx 3 i0 = some (rowsB 2 cap (resD f q d ((ns.map nodF).set i (nodX nI e')))) := by
  rw [frzG, b0]
  simp only [h0, Option.map_some]
  rw [lowGL_map]
  unfold DB devB resD
  rw [rowsB_map (lowG (frzG n bx 2)) rfl, List.map_set, map_dvcs rfl (fun _ => rfl) (fun _ _ => rfl)]
  congr 3
  simp only [devR, List.map_cons, List.map_nil, hb]
  rfl
 have hb0 : lowG (frzG n bx 3) (.bs i0 0 2 f.length cap0) = .sl 2 (resD f q d ((ns.map nodF).set i (nodX nI e'))) none := lowG_rows f0 (fun r hr => by
  unfold resD at hr
  rcases List.mem_or_eq_of_mem_set hr with h | h
  ·exact dvcs_two _ r h
  rw [h]; rfl) (by simp [resD]) (by simpa [resD] using hc)
 simp only [livL, liv, b0, hb0]
theorem low_EB {n : Nat} {bx : List (List AV)} {j : Nat} {es : List Ent} {cap l : Nat} (hn : n ≤ j) (hj : bx[j]? = some (EB es cap)) (hl : l = es.length) (hc : es.length ≤ cap) : lowG (frzG n bx 1) (.bs j 0 2 l cap) = .sl 2 (es.map entA) none :=
 lowG_rows (frz_plain (k := 0) hn hj (ent_plain es)) (ent_two es) (by rw [hl, List.length_map]) (by simpa using hc)
theorem rows_le {ns : List Nod} {i : Nat} {nI : Nod} {es : List Ent} (k : Nat) (r : List AV) (m : Nod) (h1 : ((ns.map nodF).set i (nodX nI (.sl 2 (es.map entA) none)))[k]? = some r) (h2 : (ns.set i { nI with entries := es })[k]? = some m) : LeFL r (nodA m) := by
 rw [List.getElem?_set] at h1 h2
 by_cases e : i = k
 ·subst e
  rw [if_pos rfl] at h1 h2
  simp only [List.length_map] at h1
  by_cases hi : i < ns.length
  ·rw [if_pos hi] at h1 h2
   injection h1 with h1
   injection h2 with h2
   subst h1 h2
   exact LeFL.refl _
  rw [if_neg hi] at h1; cases h1
 rw [if_neg e] at h1 h2
 rw [List.getElem?_map, h2] at h1
 injection h1 with h1
 subst h1
 exact nodF_le m
theorem fls_le {f : Fls} {q : Nat} {d : Dvc} {i : Nat} {nI : Nod} {es : List Ent} : LeA (.agg [.sl 2 (resD f q d ((d.nodes.map nodF).set i (nodX nI (.sl 2 (es.map entA) none)))) none]) (.agg (flsA (f.set q { d with nodes := d.nodes.set i { nI with entries := es } }))) :=
 resD_le rfl (by simp) fun k r m h1 h2 => rows_le k r m h1 h2
def dirE (f : Fls) (a : Fil) : Int := match nodeL f a with
 | none => 2
 | some n => if n.kind = 2 then 0 else 20
def entP (f : Fls) (a : Fil) (name : Str) : Fil × Bool := match nodeL f a with
 | none => ((0, 0), false)
 | some n => match n.entries.find? (fun e : Ent => decide (e.1 = name)) with
   | none => ((0, 0), false)
   | some e => ((a.1, e.2), true)
theorem lkE_two {f : Fls} {a : Fil} {name : Str} (h : dirE f a = 0) (h2 : (entP f a name).2 = false) : lookL f a name = ((0, 0), 2) := by
 unfold dirE at h
 unfold entP at h2
 unfold lookL
 cases hn : nodeL f a with
 | none => rfl
 | some n =>
   simp only [hn] at h h2 ⊢
   by_cases hk : n.kind = 2
   ·rw [if_pos hk]
    cases hf : n.entries.find? (fun e : Ent => decide (e.1 = name)) with
    | none => rfl
    | some e => rw [hf] at h2; cases h2
   rw [if_neg hk] at h; exact absurd h (by decide)
theorem lkE_yes {f : Fls} {a : Fil} {name : Str} (h : dirE f a = 0) (h2 : (entP f a name).2 = true) : lookL f a name = ((entP f a name).1, 0) := by
 unfold dirE at h
 unfold entP at h2 ⊢
 unfold lookL
 cases hn : nodeL f a with
 | none => rw [hn] at h2; cases h2
 | some n =>
   simp only [hn] at h h2 ⊢
   by_cases hk : n.kind = 2
   ·rw [if_pos hk]
    cases hf : n.entries.find? (fun e : Ent => decide (e.1 = name)) with
    | none => rw [hf] at h2; cases h2
    | some e => rfl
   rw [if_neg hk] at h; exact absurd h (by decide)
section
variable {P : Program} {ev : Operand → Option AV} {h : AH} {R : AV → AH → Prop} {d : Option Tmp} {ty : TypeId} {pos : String} {af : Array Edge} {gd : Option (Nat × Bool)}
theorem st_neqPnil {T yT : TypeId} {x y : Operand} (hp : P.underlying T = some (.pointer (P.pointee T))) (hx : ev x = some (.v (.pointer none))) (hy : ev y = some (.v (.pointer none))) (hR : R (.v (.bool false)) h) : AStep P ⟨d, .binOp .neq T x y yT, ty, pos, af, gd⟩ ev h R :=
 st_bin hx hy (fun w => by simp [eqGuard, run_neq_pointer_nil (P := P) (w := w) T none hp]) hR
theorem st_neqPfp {T yT : TypeId} {x y : Operand} {row : List AV} (hp : P.underlying T = some (.pointer (P.pointee T))) (hx : ev x = some (.fp row)) (hy : ev y = some (.v (.pointer none))) (hR : R (.v (.bool true)) h) : AStep P ⟨d, .binOp .neq T x y yT, ty, pos, af, gd⟩ ev h R := by
 refine st_val (fun _ G w ec _ he => ?_) hR
 have h1 := he x (by simp [Op.operands]) _ hx
 have h2 := he y (by simp [Op.operands]) _ hy
 simp only [rep] at h1 h2
 obtain ⟨b, off, h3, _⟩ := h1
 refine ⟨.bool true, ?_, by simp only [rep]⟩
 simp [execOp, h2, h3, eqGuard, run_neq_pointer_nil (P := P) (w := w) T (some ⟨b, off, none⟩) hp]
end
section
set_option maxRecDepth 10000
set_option maxHeartbeats 1000000
theorem PdirF (f : Fls) (a : Fil) (hf : FlsB f) : AFn Try.prog 58 [.agg (flsA f), .agg (filA a)] (fun r => r = .v (.int .i64 (dirE f a))) := by
 refine enter Try.func58 rfl rfl rfl rfl rfl 0 rfl ?_
 refine w_ (b_ (h:=b_ (h:=a_ (h:=e_ (w_ (l_ (h:=l_ (h:=?_))))))))
 refine al_p rfl (q_call (Pfind f a hf) ?_)
 rintro r (⟨e, rfl⟩ | ⟨n, e, rfl⟩)
 ·skip
  refine a_ (h:=e_ (q_ (aw_block (w_ (m_ (h:=?_))))))
  first | refine al_p rfl (st_eqPnil (by kernel_rfl) rfl rfl ?_) | refine al_p rfl (st_eqPfp (by kernel_rfl) rfl rfl ?_)
  refine a_ (h:=e_ (?_))
  refine aw_cond rfl (fun hb1 => ?_) (fun hb1 => ?_)
  ·have hc1 := bp hb1
   refine w_ (a_ (h:=e_ (aw_ret (x_blockR (x_thenR (?_))))))
   refine e_ret ?_
   rw [show dirE f a = 2 by simp only [dirE, e]]
   rfl
  have hc1 := bp hb1
  exfalso; first | contradiction | omega
 skip
 refine a_ (h:=e_ (q_ (aw_block (w_ (m_ (h:=?_))))))
 first | refine al_p rfl (st_eqPnil (by kernel_rfl) rfl rfl ?_) | refine al_p rfl (st_eqPfp (by kernel_rfl) rfl rfl ?_)
 refine a_ (h:=e_ (?_))
 refine aw_cond rfl (fun hb2 => ?_) (fun hb2 => ?_)
 ·have hc2 := bp hb2
  exfalso; first | contradiction | omega
 have hc2 := bp hb2
 refine w_ (m_ (h:=k_ (h:=f_ (h:=l_ (h:=nq_ (h:=a_ (h:=e_ (?_))))))))
 refine aw_cond rfl (fun hb3 => ?_) (fun hb3 => ?_)
 ·have hc3 := bp hb3
  refine w_ (a_ (h:=e_ (aw_ret (x_blockR (x_thenR (?_))))))
  refine e_ret ?_
  rw [show dirE f a = 20 by simp only [dirE, e]; exact if_neg hc3]
  rfl
 have hc3 := bp hb3
 refine aw_skip (x_blockN (t_ (w_ (a_ (h:=e_ (aw_ret (?_)))))))
 refine e_ret ?_
 rw [show dirE f a = 0 by simp only [dirE, e]; exact if_pos hc3]
 rfl
theorem Pentry (f : Fls) (a : Fil) (name : Str) (hf : FlsB f) : AFn Try.prog 61 [.agg (flsA f), .agg (filA a), .v (.string name)] (fun r => r = .tup [.agg (filA (entP f a name).1), .v (.bool (entP f a name).2)]) := by
 have hen := nodG_ents hf a
 refine enter Try.func61 rfl rfl rfl rfl rfl 0 rfl ?_
 refine w_ (b_ (h:=b_ (h:=al_ (h:=a_ (h:=e_ (w_ (l_ (h:=l_ (h:=?_)))))))))
 refine al_p rfl (q_call (Pfind f a hf) ?_)
 rintro r (⟨e, rfl⟩ | ⟨n, e, rfl⟩)
 ·skip
  refine a_ (h:=e_ (q_ (w_ (m_ (h:=?_)))))
  first | refine al_p rfl (st_eqPnil (by kernel_rfl) rfl rfl ?_) | refine al_p rfl (st_eqPfp (by kernel_rfl) rfl rfl ?_)
  refine e_ (?_)
  refine aw_cond rfl (fun hb1 => ?_) (fun hb1 => ?_)
  ·have hc1 := bp hb1
   refine w_ (bd_ (h:=s_ (h:=a_ (h:=e_ (aw_ret (x_thenR (?_)))))))
   refine e_ret ?_
   rw [show entP f a name = ((0, 0), false) by simp only [entP, e]]
   rfl
  have hc1 := bp hb1
  exfalso; first | contradiction | omega
 have hnl : n.entries.length ≤ 1000 := by simpa [nodG, e] using hen
 refine a_ (h:=e_ (q_ (w_ (m_ (h:=?_)))))
 first | refine al_p rfl (st_eqPnil (by kernel_rfl) rfl rfl ?_) | refine al_p rfl (st_eqPfp (by kernel_rfl) rfl rfl ?_)
 refine e_ (?_)
 refine aw_cond rfl (fun hb2 => ?_) (fun hb2 => ?_)
 ·have hc2 := bp hb2
  exfalso; first | contradiction | omega
 have hc2 := bp hb2
 refine kt_ (q_ (w_ (m_ (h:=k_ (h:=f_ (h:=l_ (h:=n_ (h:=m_ (h:=e_ (aw_block (?_)))))))))))
 refine aw_loopW (fun m t => ∃ j : Nat, j ≤ n.entries.length ∧ m = n.entries.length - j ∧ (∀ i y, i < j → n.entries[i]? = some y → decide (y.1 = name) = false) ∧ t = ⟨look [(2, .v (.string name)), (4, .bp 1 0), (6, .bp 2 0), (20, .sl 2 (n.entries.map entA) none), (21, .v (.int .i64 ((n.entries.map entA).length : Int))), (22, .v (.int .i64 (j : Int)))], ⟨[flsA f, filA a, [.v (.int .i64 0), .v (.int .i64 0)]], []⟩⟩) (n.entries.length) ((wk 3 0)) (⟨0, by omega, rfl, fun i y hi => by omega, rfl⟩) ?_
 rintro m t ⟨j, hj, rfl, ha, rfl⟩
 refine w_ (lt_ (h:=e_ (q_ (?_))))
 refine aw_cond rfl (fun hb3 => ?_) (fun hb3 => ?_)
 ·have hc3 := bp hb3
  obtain ⟨hlt, x, hy, hrow, -⟩ := row_at entA hc3
  refine kt_ (q_ (aw_block (w_ (i_ (h:=l_ (h:=al_ (h:=s_ (h:=e_ (w_ (f_ (h:=l_ (h:=m_ (h:=eq_ (h:=e_ (?_)))))))))))))))
  refine aw_cond rfl (fun hb4 => ?_) (fun hb4 => ?_)
  ·have hc4 := bp hb4
   refine w_ (f_ (h:=l_ (h:=f_ (h:=l_ (h:=bd_ (h:=s_ (h:=a_ (h:=e_ (aw_ret (x_blockR (x_thenR (x_thenR (x_blockR (x_thenR (?_)))))))))))))))
   refine e_ret ?_
   rw [show entP f a name = ((a.1, x.2), true) by simp only [entP, e]; rw [find_at hy (by simpa using hc4) ha]]
   rfl
  have hc4 := bp hb4
  refine aw_skip (x_blockN (t_ (aw_region (ad_ (h:=m_ (h:=al_nil (?_)))))))
  refine x_then ?_
  refine ⟨_, _, ?_, ⟨j + 1, by omega, rfl, upto_snoc hy ha (by simpa using hc4), rfl⟩, (wk 3 0)⟩
  omega
 have hc3 := bp hb3
 have e3 := row_no entA hj hc3
 subst e3
 refine aw_exit (x_thenE (x_thenE (ABlock_out (t_ (w_ (bd_ (h:=s_ (h:=a_ (h:=e_ (aw_ret (?_)))))))))))
 refine e_ret ?_
 rw [show entP f a name = ((0, 0), false) by simp only [entP, e]; rw [find_no ha]]
 rfl
theorem Pfull (f : Fls) (a : Fil) (hf : FlsB f) : AFn Try.prog 62 [.agg (flsA f), .agg (filA a)] (fun r => r = .v (.bool (fullL f a))) := by
 refine enter Try.func62 rfl rfl rfl rfl rfl 0 rfl ?_
 refine w_ (b_ (h:=b_ (h:=a_ (h:=e_ (w_ (l_ (h:=l_ (h:=?_))))))))
 refine al_p rfl (q_call (Pfind f a hf) ?_)
 rintro r (⟨e, rfl⟩ | ⟨n, e, rfl⟩)
 ·skip
  refine a_ (h:=e_ (w_ (m_ (h:=?_))))
  first | refine al_p rfl (st_neqPnil (by kernel_rfl) rfl rfl ?_) | refine al_p rfl (st_neqPfp (by kernel_rfl) rfl rfl ?_)
  refine m_ (h:=?_)
  refine al_gs true rfl rfl (fun hb1 => ?_) (fun hb1 => ?_)
  ·have hc1 := bp hb1
   exfalso; first | contradiction | omega
  have hc1 := bp hb1
  refine g0_ (h:=g0_ (h:=g0_ (h:=g0_ (h:=g0_ (h:=g0_ (h:=pf_ (h:=a_ (h:=e_ (aw_ret (?_))))))))))
  refine e_ret ?_
  rw [show fullL f a = false by simp only [fullL, e]]
  rfl
 have hnl : n.entries.length ≤ 1000 := by have := nodG_ents hf a; simpa [nodG, e] using this
 refine a_ (h:=e_ (w_ (m_ (h:=?_))))
 first | refine al_p rfl (st_neqPnil (by kernel_rfl) rfl rfl ?_) | refine al_p rfl (st_neqPfp (by kernel_rfl) rfl rfl ?_)
 refine m_ (h:=?_)
 refine al_gs true rfl rfl (fun hb2 => ?_) (fun hb2 => ?_)
 ·have hc2 := bp hb2
  refine m_ (h:=k_ (h:=f_ (h:=l_ (h:=n_ (h:=ge_ (h:=pt_ (h:=a_ (h:=e_ (aw_ret (?_))))))))))
  refine e_ret ?_
  rw [show fullL f a = decide (12 ≤ n.entries.length) by simp only [fullL, e]]
  exact vb (by rw [Bool.eq_iff_iff, decide_eq_true_iff, decide_eq_true_iff, List.length_map]; omega)
 have hc2 := bp hb2
 exfalso; first | contradiction | omega
end
theorem NF_NX {ns : List Nod} {i : Nat} {nI : Nod} {cap : Nat} (hi : ns[i]? = some nI) (hE : nI.entries = []) : NF ns cap = NX ns i nI (.v (.slice none 0 0)) cap := by
 unfold NF NX
 congr 1
 have e : nodX nI (.v (.slice none 0 0)) = nodF nI := by unfold nodF entX; rw [if_pos hE]
 obtain ⟨hl, e2⟩ := List.getElem?_eq_some_iff.1 hi
 rw [e]
 apply List.ext_getElem?
 intro k
 rw [List.getElem?_set]
 split
 ·rename_i h
  subst h
  simp [hl, e2]
 rfl
theorem ren_NX {g : Nat → Option Nat} {ns : List Nod} {i : Nat} {nI : Nod} {e e' : AV} {cap1 : Nat} (h : ren g e = e') : renL g (NX ns i nI e cap1) = NX ns i nI e' cap1 := by
 rw [renL_map]
 unfold NX
 rw [rowsB_map (ren g) rfl, List.map_set]
 congr 1
 have e1 : ((ns.map nodF).map fun r => r.map (ren g)) = ns.map nodF := by
  rw [List.map_map]
  apply List.map_congr_left
  intro n _
  exact map_nodF (fun _ => rfl) (fun _ _ => rfl) n
 rw [e1]
 congr 1
 simp [nodX, ren, h]
theorem back_copyG {bx : List (List AV)} {n : Nat} (hn : bx.length = n) (f : Fls) (K : Nat) (d : Dvc) (i : Nat) (nI : Nod) (L m l : Nat) : Back bx [] [[.bs 2 0 2 L L], [.bs 2 0 2 L L], DB f K d 3 L m, NG d.nodes i nI 4 l m, EB nI.entries l] (bx ++ [[.bs (n + 2) 0 2 L L], [.bs (n + 2) 0 2 L L], DB f K d (n + 3) L m, NX d.nodes i nI (.bs (n + 4) 0 2 nI.entries.length l) m, EB nI.entries l]) := by
 subst hn
 have := back_F (bx := bx) (is := []) (bc := [[.bs 2 0 2 L L], [.bs 2 0 2 L L], DB f K d 3 L m, NG d.nodes i nI 4 l m, EB nI.entries l]) List.nodup_nil (by simp) (by simp)
 have e1 : renL (backS [] bx.length) (DB f K d 3 L m) = DB f K d (bx.length + 3) L m := ren_DB (by simp [backS]) _ _ _ _ _
 have e2 : renL (backS [] bx.length) (NG d.nodes i nI 4 l m) = NX d.nodes i nI (.bs (bx.length + 4) 0 2 nI.entries.length l) m := ren_NG (by simp [backS]) _ _ _ _ _
 have e3 : renL (backS [] bx.length) [.bs 2 0 2 L L] = [.bs (bx.length + 2) 0 2 L L] := by simp [renL, ren, backS]
 simpa [backF, ren_EB, e1, e2, e3] using this
theorem back_copy0 {bx : List (List AV)} {n : Nat} (hn : bx.length = n) (f : Fls) (K : Nat) (d : Dvc) (i : Nat) (nI : Nod) (L m : Nat) : Back bx [] [[.bs 2 0 2 L L], [.bs 2 0 2 L L], DB f K d 3 L m, NX d.nodes i nI (.v (.slice none 0 0)) m] (bx ++ [[.bs (n + 2) 0 2 L L], [.bs (n + 2) 0 2 L L], DB f K d (n + 3) L m, NX d.nodes i nI (.v (.slice none 0 0)) m]) := by
 subst hn
 have := back_F (bx := bx) (is := []) (bc := [[.bs 2 0 2 L L], [.bs 2 0 2 L L], DB f K d 3 L m, NX d.nodes i nI (.v (.slice none 0 0)) m]) List.nodup_nil (by simp) (by simp)
 have e1 : renL (backS [] bx.length) (DB f K d 3 L m) = DB f K d (bx.length + 3) L m := ren_DB (by simp [backS]) _ _ _ _ _
 have e2 : renL (backS [] bx.length) (NX d.nodes i nI (.v (.slice none 0 0)) m) = NX d.nodes i nI (.v (.slice none 0 0)) m := ren_NX rfl
 have e3 : renL (backS [] bx.length) [.bs 2 0 2 L L] = [.bs (bx.length + 2) 0 2 L L] := by simp [renL, ren, backS]
 simpa [backF, e1, e2, e3] using this
theorem back_find {bx : List (List AV)} {i0 i1 i2 : Nat} {f : Fls} {q : Nat} {d : Dvc} {c c1 : Nat} {ns : List Nod} {i : Nat} {nI : Nod} {l l2 : Nat} {es : List Ent} {cap : Nat} (h0 : bx[i0]? = some (DB f q d i1 c c1)) (h1 : bx[i1]? = some (NX ns i nI (.bs i2 0 2 l l2) c1)) (h2 : bx[i2]? = some (EB es cap)) : Back bx [i0, i1, i2] [DB f q d 1 c c1, NX ns i nI (.bs 2 0 2 l l2) c1, EB es cap] bx := by
 refine ⟨by simp, fun _ _ _ h => h, fun k j row hk hr => ?_, fun k row hk => by simp at hk⟩
 match k, hk, hr with
 | 0, hk, hr =>
   simp at hk hr; subst hk hr
   rw [h0, ren_DB (j' := i1) (by simp [backS])]
 | 1, hk, hr =>
   simp at hk hr; subst hk hr
   rw [h1, ren_NX (e' := .bs i2 0 2 l l2) (by simp [ren, backS])]
 | 2, hk, hr =>
   simp at hk hr; subst hk hr
   rw [h2, ren_EB]
 | k + 3, hk, _ => simp at hk
theorem back_find0 {bx : List (List AV)} {i0 i1 : Nat} {f : Fls} {q : Nat} {d : Dvc} {c c1 : Nat} {ns : List Nod} {i : Nat} {nI : Nod} (h0 : bx[i0]? = some (DB f q d i1 c c1)) (h1 : bx[i1]? = some (NX ns i nI (.v (.slice none 0 0)) c1)) : Back bx [i0, i1] [DB f q d 1 c c1, NX ns i nI (.v (.slice none 0 0)) c1] bx := by
 refine ⟨by simp, fun _ _ _ h => h, fun k j row hk hr => ?_, fun k row hk => by simp at hk⟩
 match k, hk, hr with
 | 0, hk, hr =>
   simp at hk hr; subst hk hr
   rw [h0, ren_DB (j' := i1) (by simp [backS])]
 | 1, hk, hr =>
   simp at hk hr; subst hk hr
   rw [h1, ren_NX (e' := .v (.slice none 0 0)) rfl]
 | k + 2, hk, _ => simp at hk
theorem back_put {bx : List (List AV)} {n i1 i2 : Nat} (hn : bx.length = n) (h1 : i1 < n) (h2 : i2 < n) (hne : i1 ≠ i2) (ns : List Nod) (i : Nat) (nI : Nod) (l cap c1 : Nat) (es : List Ent) (c2 : Nat) (es' : List Ent) : Back bx [i1, i2] [NX ns i nI (.bs 2 0 2 l cap) c1, EB es c2, EB es' cap] (((bx.set i1 (NX ns i nI (.bs n 0 2 l cap) c1)).set i2 (EB es c2)) ++ [EB es' cap]) := by
 subst hn
 have := back_F (bx := bx) (is := [i1, i2]) (bc := [NX ns i nI (.bs 2 0 2 l cap) c1, EB es c2, EB es' cap]) (by simpa using hne) (by simp [h1, h2]) (by simp)
 have e1 : renL (backS [i1, i2] bx.length) (NX ns i nI (.bs 2 0 2 l cap) c1) = NX ns i nI (.bs bx.length 0 2 l cap) c1 := ren_NX (by simp [ren, backS])
 simpa [backF, ren_EB, e1] using this
theorem back_put0 {bx : List (List AV)} {i1 : Nat} (h1 : i1 < bx.length) (ns : List Nod) (i : Nat) (nI : Nod) (e : List (List AV)) (c1 : Nat) : Back bx [i1] [NX ns i nI (.sl 2 e none) c1] (bx.set i1 (NX ns i nI (.sl 2 e none) c1)) := by
 have := back_F (bx := bx) (is := [i1]) (bc := [NX ns i nI (.sl 2 e none) c1]) (by simp) (by simp [h1]) (by simp)
 have e1 : renL (backS [i1] bx.length) (NX ns i nI (.sl 2 e none) c1) = NX ns i nI (.sl 2 e none) c1 := ren_NX rfl
 simpa [backF, e1] using this
theorem place_dir {f : Fls} {dir : Fil} {name : Str} (h : ¬ dirE f dir = 0) : placeL f dir name = dirE f dir := by
 unfold dirE at h ⊢
 unfold placeL
 cases hn : nodeL f dir with
 | none => rfl
 | some n =>
   simp only [hn] at h ⊢
   by_cases hk : n.kind = 2
   ·rw [if_pos hk] at h; exact absurd rfl h
   rw [if_neg hk, if_neg hk]
theorem place_kind {f : Fls} {dir : Fil} (h : dirE f dir = 0) : ∃ n, nodeL f dir = some n ∧ n.kind = 2 := by
 unfold dirE at h
 cases hn : nodeL f dir with
 | none => rw [hn] at h; exact absurd h (by decide)
 | some n =>
   simp only [hn] at h
   by_cases hk : n.kind = 2
   ·exact ⟨n, rfl, hk⟩
   rw [if_neg hk] at h; exact absurd h (by decide)
theorem place_nm {f : Fls} {dir : Fil} {name : Str} (h : dirE f dir = 0) (hn : nameL name = false) : placeL f dir name = 22 := by
 obtain ⟨n, h1, h2⟩ := place_kind h
 simp [placeL, h1, h2, hn]
theorem place_zero {f : Fls} {dir : Fil} {name : Str} (h : dirE f dir = 0) (hn : nameL name = true) : placeL f dir name = 0 := by
 obtain ⟨n, h1, h2⟩ := place_kind h
 simp [placeL, h1, h2, hn]
theorem idx_first {f : Fls} {a : Fil} {q i : Nat} {d : Dvc} (ha : a.1 = (q : Int)) (hq : f[q]? = some d) (hi : indexL f a = (i : Int)) : ∀ (k : Nat) (x : Nod), k < i → d.nodes[k]? = some x → x.ino ≠ a.2 := by
 rw [indexL_at ha hq] at hi
 unfold idxBy at hi
 intro k x hk hx e
 cases h : d.nodes.findIdx? (fun n : Nod => n.ino == a.2) with
 | none => rw [h] at hi; exact absurd hi (by show ¬ (-1 : Int) = (i : Int); omega)
 | some j =>
   rw [h] at hi
   obtain ⟨hl, hp, hf⟩ := List.findIdx?_eq_some_iff_getElem.1 h
   have hji : j = i := by
    have : ((j : Nat) : Int) = (i : Int) := hi
    omega
   have h1 := hf k (by omega)
   obtain ⟨l2, e2⟩ := List.getElem?_eq_some_iff.1 hx
   rw [e2] at h1
   exact h1 (by simpa using e)
theorem ent_none {f : Fls} {dir : Fil} {name : Str} {n : Nod} (hn : nodeL f dir = some n) (h : (entP f dir name).2 = false) : ∀ e ∈ n.entries, e.1 ≠ name := by
 unfold entP at h
 simp only [hn] at h
 cases hf : n.entries.find? (fun e : Ent => decide (e.1 = name)) with
 | none =>
   intro e he
   have := List.find?_eq_none.1 hf e he
   simpa using this
 | some e => rw [hf] at h; cases h
theorem entL_new {name : Str} {ino : Int} {es : List Ent} (h0 : ino ≠ 0) (hn : ∀ e ∈ es, e.1 ≠ name) : (entL es name ino).length = es.length + 1 := by
 have h1 := (entL_perm es name h0).length_eq
 have h2 : without name es = es := by
  unfold without
  rw [List.filter_eq_self]
  intro x hx
  simpa using hn x hx
 rw [h1, h2]
 rfl
theorem entL_nil {name : Str} {ino : Int} {es : List Ent} (h : es = []) (h0 : ino ≠ 0) : entL es name ino = [(name, ino)] := by
 subst h
 unfold entL
 rw [show (ino == 0) = false by simpa using h0]
 rfl
theorem node_ino0 {f : Fls} {a : Fil} {n : Nod} (hv : FlsV f) (h : nodeL f a = some n) : a.2 ≠ 0 := by
 rcases index_node f a with ⟨-, h'⟩ | ⟨k, i, d, m, -, h1, h2, h3, -, -⟩
 ·rw [h] at h'; cases h'
 have := (hv.vd d (List.mem_of_getElem? h1)).pos (List.mem_of_getElem? h2)
 omega
section
set_option maxRecDepth 10000
set_option maxHeartbeats 2000000
theorem PlinkG (f : Fls) (dir : Fil) (name : Str) (a : Fil) (hv : FlsV f) (hE0 : 0 < (nodG f dir).entries.length) : AFn Try.prog 27 [.agg (flsA f), .agg (filA dir), .v (.string name), .agg (filA a)] (fun r => r = chgR (linkL f dir name a)) := by
 have hf := hv.b
 refine enter Try.func27 rfl rfl rfl rfl rfl 0 rfl ?_
 refine w_ (b_ (h:=b_ (h:=b_ (h:=al_ (h:=a_ (h:=a_ (h:=e_ (q_ (w_ (l_ (h:=l_ (h:=?_))))))))))))
 refine al_p rfl (q_call (PdirF f dir hf) ?_)
 rintro r rfl
 refine a_ (h:=e_ (w_ (m_ (h:=nq_ (h:=e_ (?_))))))
 refine aw_cond rfl (fun hb1 => ?_) (fun hb1 => ?_)
 ·have hc1 := bp hb1
  refine w_ (bd_ (h:=m_ (h:=s_ (h:=a_ (h:=a_ (h:=e_ (aw_ret (x_thenR (?_)))))))))
  refine rt_ (r := chgR (linkL f dir name a)) none (h5 := ?_) (h6 := ⟨rfl, rfl, rfl⟩)
  rw [linkL, if_pos (show placeL f dir name ≠ 0 by rw [place_dir hc1]; exact hc1), place_dir hc1]
  exact err_le _
 have hc1 := bp hb1
 refine kt_ (q_ (w_ (m_ (h:=?_))))
 refine al_p rfl (q_call (Pname name) ?_)
 rintro r rfl
 refine nt_ (h:=e_ (?_))
 refine aw_cond rfl (fun hb2 => ?_) (fun hb2 => ?_)
 ·have hc2 := bp hb2
  refine w_ (bd_ (h:=s_ (h:=a_ (h:=a_ (h:=e_ (aw_ret (x_thenR (?_))))))))
  refine rt_ (r := chgR (linkL f dir name a)) none (h5 := ?_) (h6 := ⟨rfl, rfl, rfl⟩)
  rw [linkL, show placeL f dir name = 22 from place_nm (by omega) hc2, if_pos (by decide)]
  exact err_le _
 have hc2 := bp hb2
 have hpl : placeL f dir name = 0 := place_zero (by omega) hc2
 refine kt_ (w_ (l_ (h:=l_ (h:=?_))))
 refine al_p rfl (q_call (Pfind f a hf) ?_)
 rintro r (⟨e, rfl⟩ | ⟨n, e, rfl⟩)
 ·skip
  refine a_ (h:=e_ (q_ (w_ (m_ (h:=?_)))))
  first | refine al_p rfl (st_eqPnil (by kernel_rfl) rfl rfl ?_) | refine al_p rfl (st_eqPfp (by kernel_rfl) rfl rfl ?_)
  refine e_ (?_)
  refine aw_cond rfl (fun hb3 => ?_) (fun hb3 => ?_)
  ·have hc3 := bp hb3
   refine w_ (bd_ (h:=s_ (h:=a_ (h:=a_ (h:=e_ (aw_ret (x_thenR (?_))))))))
   refine rt_ (r := chgR (linkL f dir name a)) none (h5 := ?_) (h6 := ⟨rfl, rfl, rfl⟩)
   rw [linkL, if_neg (by rw [hpl]; simp), if_pos (show hasG f a = false by simp [hasG, e])]
   exact err_le _
  have hc3 := bp hb3
  exfalso; first | contradiction | omega
 skip
 refine a_ (h:=e_ (q_ (w_ (m_ (h:=?_)))))
 first | refine al_p rfl (st_eqPnil (by kernel_rfl) rfl rfl ?_) | refine al_p rfl (st_eqPfp (by kernel_rfl) rfl rfl ?_)
 refine e_ (?_)
 refine aw_cond rfl (fun hb4 => ?_) (fun hb4 => ?_)
 ·have hc4 := bp hb4
  exfalso; first | contradiction | omega
 have hc4 := bp hb4
 refine kt_ (q_ (w_ (f_ (h:=l_ (h:=f_ (h:=l_ (h:=nq_ (h:=e_ (?_)))))))))
 refine aw_cond rfl (fun hb5 => ?_) (fun hb5 => ?_)
 ·have hc5 := bp hb5
  refine w_ (bd_ (h:=s_ (h:=a_ (h:=a_ (h:=e_ (aw_ret (x_thenR (?_))))))))
  refine rt_ (r := chgR (linkL f dir name a)) none (h5 := ?_) (h6 := ⟨rfl, rfl, rfl⟩)
  rw [linkL, if_neg (by rw [hpl]; simp), if_neg (show ¬ hasG f a = false by simp [hasG, e]), if_pos hc5]
  exact err_le _
 have hc5 := bp hb5
 refine kt_ (q_ (w_ (m_ (h:=k_ (h:=f_ (h:=l_ (h:=eq_ (h:=e_ (?_)))))))))
 refine aw_cond rfl (fun hb6 => ?_) (fun hb6 => ?_)
 ·have hc6 := bp hb6
  refine w_ (bd_ (h:=s_ (h:=a_ (h:=a_ (h:=e_ (aw_ret (x_thenR (?_))))))))
  refine rt_ (r := chgR (linkL f dir name a)) none (h5 := ?_) (h6 := ⟨rfl, rfl, rfl⟩)
  rw [linkL, if_neg (by rw [hpl]; simp), if_neg (show ¬ hasG f a = false by simp [hasG, e]), if_neg (not_not_intro hc5), if_pos (show (nodG f a).kind = 2 by simpa [nodG, e] using hc6)]
  exact err_le _
 have hc6 := bp hb6
 refine kt_ (q_ (w_ (l_ (h:=l_ (h:=m_ (h:=?_))))))
 refine al_p rfl (q_call (Pentry f dir name hf) ?_)
 rintro r rfl
 refine m_ (h:=x_ (h:=x_ (h:=al_ (h:=s_ (h:=a_ (h:=e_ (w_ (m_ (h:=e_ (?_))))))))))
 refine aw_cond rfl (fun hb7 => ?_) (fun hb7 => ?_)
 ·have hc7 := bp hb7
  refine w_ (bd_ (h:=s_ (h:=a_ (h:=a_ (h:=e_ (aw_ret (x_thenR (?_))))))))
  refine rt_ (r := chgR (linkL f dir name a)) none (h5 := ?_) (h6 := ⟨rfl, rfl, rfl⟩)
  rw [linkL, if_neg (by rw [hpl]; simp), if_neg (show ¬ hasG f a = false by simp [hasG, e]), if_neg (not_not_intro hc5), if_neg (show ¬ (nodG f a).kind = 2 by simpa [nodG, e] using hc6), if_pos (show (lookL f dir name).2 = 0 by rw [lkE_yes (by omega) hc7])]
  exact err_le _
 have hc7 := bp hb7
 refine kt_ (q_ (w_ (l_ (h:=l_ (h:=?_)))))
 refine al_p rfl (q_call (Pfull f dir hf) ?_)
 rintro r rfl
 refine e_ (?_)
 refine aw_cond rfl (fun hb8 => ?_) (fun hb8 => ?_)
 ·have hc8 := bp hb8
  refine w_ (bd_ (h:=s_ (h:=a_ (h:=a_ (h:=e_ (aw_ret (x_thenR (?_))))))))
  refine rt_ (r := chgR (linkL f dir name a)) none (h5 := ?_) (h6 := ⟨rfl, rfl, rfl⟩)
  rw [linkL, if_neg (by rw [hpl]; simp), if_neg (show ¬ hasG f a = false by simp [hasG, e]), if_neg (not_not_intro hc5), if_neg (show ¬ (nodG f a).kind = 2 by simpa [nodG, e] using hc6), if_neg (show ¬ (lookL f dir name).2 = 0 by rw [lkE_two (by omega) hc7]; decide), if_pos hc8]
  exact err_le _
 have hc8 := bp hb8
 obtain ⟨q, i, d, n0, hdq, hq, hn0, hino, hidx, hnode, hk0, hnm⟩ := place_ok hpl
 have hil := (List.getElem?_eq_some_iff.1 hn0).1
 have hql := (List.getElem?_eq_some_iff.1 hq).1
 have hdn := hf.nodes d (List.mem_of_getElem? hq)
 have hen0 := hf.ents d (List.mem_of_getElem? hq) n0 (List.mem_of_getElem? hn0)
 have hfst := idx_first hdq hq hidx
 have hno := ent_none hnode hc7
 have hfew := hf.few
 have hino0 : a.2 ≠ 0 := node_ino0 hv e
 have hE : 0 < n0.entries.length := by simpa [nodG, hnode] using hE0
 refine kt_ (w_ (l_ (h:=?_)))
 refine al_p rfl (s_callM [] rfl (.cons _ _ _ _ _ rfl (LeA.refl _) .nil) (by decide) .nil (PcopyFilesG f q d i n0 hf hq hn0 hE) ?_)
 rintro r bc tc ⟨rfl, rfl, rfl⟩
 refine ⟨rfl, _, (back_copyG (n := 5) rfl f q d i n0 f.length d.nodes.length n0.entries.length : Back _ [] _ [_, _, _, _, _, _, _, _, _, _]), ?_⟩
 refine s_ (h:=e_ (q_ (yk_ ([(0, [.bs 7 0 2 f.length f.length]), (1, filA dir), (2, filA a)]) 7 (h:=dl_ 0 (h:=dl_ 1 (h:=dm_ 3 (h:=df_ 4 (h:=dl_ 5 (h:=?_)))))))))
 refine c_ 2 rfl (s_callM [7, 8, 9] rfl (.cons _ _ _ _ _ rfl (LeA.refl _) (.cons _ _ _ _ _ rfl (LeA.refl _) .nil)) (by decide) (.cons _ _ _ _ _ rfl (ren_DB (by rfl) _ _ _ _ _) (.cons _ _ _ _ _ rfl (ren_NX (by rfl)) (.cons _ _ _ _ _ rfl (ren_EB _ _ _) .nil))) (PfindBG f q d i n0 dir hq hn0 hdq hino hfst (by omega) (by omega)) ?_)
 rintro r bc tc ⟨rfl, rfl, rfl⟩
 refine ⟨rfl, _, back_find rfl rfl rfl, ?_⟩
 refine o_ (h:=?_)
 refine c_ 6 rfl (s_callM [8, 9] rfl (.cons _ _ _ _ _ rfl (LeA.refl _) (.cons _ _ _ _ _ rfl (LeA.refl _) (.cons _ _ _ _ _ rfl (LeA.refl _) .nil))) (by decide) (.cons _ _ _ _ _ rfl (ren_NX (by rfl)) (.cons _ _ _ _ _ rfl (ren_EB _ _ _) .nil)) (Pput d.nodes i n0 name a.2 hil hE (by omega) hino0 hno) ?_)
 rintro r bc tc ⟨rfl, rfl, cap, hcap, rfl⟩
 refine ⟨rfl, _, (back_put (n := 10) rfl (Nat.le_of_ble_eq_true rfl) (Nat.le_of_ble_eq_true rfl) (by decide) d.nodes i n0 (n0.entries.length + 1) cap d.nodes.length n0.entries n0.entries.length (entL n0.entries name a.2) : Back _ [8, 9] _ [_, _, _, _, _, _, _, _, _, _, _]), ?_⟩
 refine o_ (h:=z_ (h:=t_ (?_)))
 refine aw_midI (fun t => t = ⟨look [(8, .bp 3 0), (9, .sl 7 [chgA (dir, name, (0, 0), a)] none), (10, .v (.int .i64 0))], ⟨[[.sl 2 (resD f q d ((d.nodes.map nodF).set i (nodX n0 (.sl 2 ((entL n0.entries name a.2).map entA) none)))) none], filA dir, filA a, [.sl 2 (resD f q d ((d.nodes.map nodF).set i (nodX n0 (.sl 2 ((entL n0.entries name a.2).map entA) none)))) none]], []⟩⟩) ?_ ?_
 ·skip
  refine yk_ ([(0, [.bs 7 0 2 f.length f.length]), (1, filA dir), (2, filA a)]) 9 (h:=dl_ 0 (h:=dl_ 1 (h:=dm_ 2 (h:=dl_ 3 (h:=?_)))))
  refine tk_ 4 rfl (fun _ hS => st_le (y := .agg (chgA (dir, name, (0, 0), a))) (st_build (by repeat (first | exact FillA.nil _ | (apply FillA.cons; (focus exact rfl); (focus exact rfl); (focus exact rfl); (focus exact rfl); (focus exact rfl); (focus (repeat constructor))))) ⟨rfl, rfl⟩) (by repeat (first | exact LeA.refl _ | exact LeA.nil _ | exact LeL.refl _ | refine LeA.agg ⟨rfl, rfl⟩ | refine LeA.tup ⟨rfl, rfl⟩ | exact LeL.nil | refine LeL.cons ⟨rfl, rfl⟩ ⟨rfl, rfl⟩ | exact LeA.any _)) ⟨rfl, rfl⟩) ?_
  refine dbs_ 5 (h:=?_)
  refine c0_ 6 rfl (s_store rfl rfl rfl rfl rfl rfl (by repeat constructor) (by repeat constructor) ?_)
  refine o_ (h:=da_ 7 (h:=da_ 8 (h:=z_ (h:=?_))))
  refine x_then ?_
  have hcap2 : (entL n0.entries name a.2).length ≤ cap := Nat.le_trans (entL_len _ _ _) hcap
  have hll : n0.entries.length + 1 = (entL n0.entries name a.2).length := (entL_new hino0 hno).symm
  exact ⟨_, rfl, weak_fz 4 3 rfl (congrArg (fun x : List AV => [x, filA dir, filA a, x]) (liv_NX (n := 4) (i0 := 7) (i1 := 8) (f := f) (q := q) (d := d) (ns := d.nodes) (i := i) (nI := n0) (cap := f.length) (cap0 := f.length) (cap1 := d.nodes.length) hql (Nat.le_refl _) (Nat.le_refl _) rfl (Nat.le_of_ble_eq_true rfl) (Nat.le_of_ble_eq_true rfl) (by rfl) (by rfl) (by exact low_EB (j := 10) (by decide) rfl hll hcap2))) (.cons _ _ _ _ rfl (LeA.refl _) (.cons _ _ _ _ rfl (LeA.refl _) (.cons _ _ _ _ rfl (LeA.refl _) .nil)))⟩
 rintro t rfl
 refine aw_ret (?_)
 refine rt_ (r := chgR (linkL f dir name a)) none (h5 := ?_) (h6 := ⟨rfl, rfl, rfl⟩)
 rw [linkL, if_neg (by rw [hpl]; simp), if_neg (show ¬ hasG f a = false by simp [hasG, e]), if_neg (not_not_intro hc5), if_neg (show ¬ (nodG f a).kind = 2 by simpa [nodG, e] using hc6), if_neg (show ¬ (lookL f dir name).2 = 0 by rw [lkE_two (by omega) hc7]; decide), if_neg (by simp [hc8]), hdq, Int.toNat_natCast, onD_set hq, ← hino, ← entS_D (hv.vd d (List.mem_of_getElem? hq)) hn0]
 exact LeA.tup (.cons fls_le (.cons (LeA.refl _) (.cons (LeA.refl _) .nil)))
end
end Go.Proofs.Ythcbdkmhamhciaa
