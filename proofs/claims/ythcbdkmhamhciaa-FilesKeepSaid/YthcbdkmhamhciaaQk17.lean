/-
  Part 17 of the proof of FilesKeepP: what the statement's proof uses of the texts in wip/tpl.
-/
import Derived.Test.YthcbdkmhamhciaaQk16
namespace Go.Proofs.Ythcbdkmhamhciaa
open Go.RowKit
theorem ChgOf.none {f : Fls} {Q : ChgRes} (h : ChgOf f Q) : Q.2.1.length ≤ 2 ∧ (Q.2.2 ≠ 0 → Q.1 = [] ∧ Q.2.1 = []) := by
 rcases h with ⟨_, _, _, rfl⟩ | ⟨_, _, rfl⟩ | ⟨_, _, rfl⟩ | ⟨_, _, _, _, rfl⟩ | ⟨_, _, _, rfl⟩
 ·unfold linkL; repeat' split
  all_goals first | exact ⟨Nat.zero_le _, fun _ => ⟨rfl, rfl⟩⟩ | exact ⟨by simp, fun h => absurd rfl h⟩
 ·unfold unlinkL; repeat' split
  all_goals first | exact ⟨Nat.zero_le _, fun _ => ⟨rfl, rfl⟩⟩ | exact ⟨by simp, fun h => absurd rfl h⟩
 ·unfold rmdirL; repeat' split
  all_goals first | exact ⟨Nat.zero_le _, fun _ => ⟨rfl, rfl⟩⟩ | exact ⟨by simp, fun h => absurd rfl h⟩
 ·unfold renameL; repeat' split
  all_goals first | exact ⟨Nat.zero_le _, fun _ => ⟨rfl, rfl⟩⟩ | exact ⟨by simp, fun h => absurd rfl h⟩
 unfold mkL; repeat' split
 all_goals first | exact ⟨Nat.zero_le _, fun _ => ⟨rfl, rfl⟩⟩ | exact ⟨by simp, fun h => absurd rfl h⟩
theorem two_of {α : Type} : ∀ {l : List α}, l.length = 2 → ∃ a b, l = [a, b]
 | [a, b], _ => ⟨a, b, rfl⟩
section
set_option maxRecDepth 20000
set_option maxHeartbeats 4000000
theorem Lkeep (l : List Int) : AFn Try.prog 13 [.sl 1 (l.map intA) none] (fun r => r = .v (.bool true)) := by
 refine enter Try.func13 rfl rfl rfl rfl rfl 0 rfl ?_
 refine w_ (a_ (h:=e_ (w_ (m_ (h:=?_)))))
 refine al_p rfl (s_callN rfl (by repeat (first | exact Args.nil | refine Args.cons _ _ _ _ _ rfl (argOk_clean rfl) ?_ | refine Args.cons _ _ _ _ _ rfl (argOk_nil _) ?_ | refine Args.cons _ _ _ _ _ rfl (argOk_era _) ?_ | refine Args.cons _ _ _ _ _ rfl (argOk_le rfl (by repeat (first | exact LeA.refl _ | exact LeA.nil _ | exact LeL.refl _ | refine LeA.agg ?_ | refine LeA.tup ?_ | exact LeL.nil | refine LeL.cons ?_ ?_ | exact LeA.any _))) ?_)) rfl (Gnew l) (by repeat constructor) ?_)
 skip
 refine a_ (h:=e_ (w_ (m_ (h:=?_))))
 refine al_p rfl (s_gen 0 (hc := Gfiles l _ (by omega)) (hR := ?_))
 rintro r a1 ha1 ⟨f0, rfl, hv0, hp0⟩
 refine ⟨rfl, _, (by repeat constructor), ?_⟩
 refine al_ (h:=s_ (h:=e_ (q_ (w_ (a_ (h:=e_ (aw_block (?_))))))))
 refine aw_loopW (fun m t => ∃ (j b : Nat) (f : Fls), j ≤ 8 ∧ m = 8 - j ∧ b ≤ 1000 + 100 * j ∧ FlsV f ∧ 0 < f.length ∧ t = ⟨look [(3, .bp 0 0), (4, .bp 1 0), (5, .v (.int .i64 (j : Int)))], ⟨[srcA l b, flsA f], []⟩⟩) (8) (wk 2 0) (⟨0, _, f0, by omega, rfl, by omega, hv0, hp0, rfl⟩) ?_
 rintro m t ⟨j, b, f, hj, rfl, hbb, hv, hp, rfl⟩
 refine q_ (w_ (m_ (h:=lt_ (h:=e_ (?_)))))
 refine aw_cond rfl (fun hb1 => ?_) (fun hb1 => ?_)
 ·have hc1 := bp hb1
  refine kt_ (q_ (aw_block (w_ (m_ (h:=l_ (h:=?_))))))
  refine al_p rfl (s_gen 0 (hc := Lchange l _ f (by omega) hv) (hR := ?_))
  rintro r a2 ha2 ⟨Q, rfl, hQ⟩
  refine ⟨rfl, _, (by repeat constructor), ?_⟩
  have hqn := hQ.none
  have hqm : (Q.2.1.map chgA).length = Q.2.1.length := by simp
  have hmg : (Q.1.map dvcA).length = Q.1.length := by simp
  refine m_ (h:=x_ (h:=x_ (h:=x_ (h:=al_ (h:=s_ (h:=a_ (h:=a_ (h:=e_ (q_ (w_ (m_ (h:=nq_ (h:=e_ (?_))))))))))))))
  refine aw_cond rfl (fun hb2 => ?_) (fun hb2 => ?_)
  ·have hc2 := bp hb2
   refine q_ (w_ (f_ (h:=l_ (h:=n_ (h:=nq_ (h:=m_ (h:=?_)))))))
   refine al_gs false rfl rfl (fun hb3 => ?_) (fun hb3 => ?_)
   ·have hc3 := bp hb3
    exfalso; rw [(hqn.2 hc2).1] at hc3
    exact absurd rfl hc3
   have hc3 := bp hb3
   refine m_ (h:=n_ (h:=nq_ (h:=pf_ (h:=e_ (?_)))))
   refine aw_cond rfl (fun hb4 => ?_) (fun hb4 => ?_)
   ·have hc4 := bp hb4
    exfalso; rw [(hqn.2 hc2).2] at hc4
    exact absurd rfl hc4
   have hc4 := bp hb4
   refine kt_ (aw_exit (x_thenE (ABlock_out (t_ (aw_region (m_ (h:=ad_ (h:=a_ (h:=al_nil (?_))))))))))
   refine x_then ?_
   first
   | (refine ⟨_, _, ?_, ⟨j + 1, a2, Q.1, by omega, rfl, by omega, hg.1, by omega, rfl⟩, wk 2 0⟩; omega)
   | (refine ⟨_, _, ?_, ⟨j + 1, a2, f, by omega, rfl, by omega, hv, hp, rfl⟩, wk 2 0⟩; omega)
  have hc2 := bp hb2
  have hg := hQ.okay hv hc2
  have hkp := keep_law hv hQ hc2
  have hval : AFn Try.prog 41 [.agg (flsA Q.1)] (fun r => r = .v (.bool true)) := (Rvalid5 Q.1 hg.1.t).mono fun r hr => by rw [hr, vldR_true hg.1 (by omega)]
  have halike := fun h1 h2 => (Ralike (stepL (entsL f) Q.2.1) (entsL Q.1) h1 h2).mono fun r hr => (by rw [hr, hkp.alike] : r = .v (.bool true))
  refine kt_ (?_)
  refine aw_midI (fun t => t = ⟨look [(3, .bp 0 0), (4, .bp 1 0), (5, .v (.int .i64 (j : Int))), (6, .bp 2 0), (7, .sl 7 (Q.2.1.map chgA) none)], ⟨[srcA l a2, flsA f, flsA Q.1], []⟩⟩) ?_ ?_
  ·skip
   refine q_ (yr_ 40 (h:=dl_ 0 (h:=?_)))
   refine c_ 1 rfl (q_call (hval) ?_)
   rintro r rfl
   refine o_ (h:=dnt_ 2 (h:=dm_ 3 (h:=?_)))
   refine aa_both (j := 3) rfl (fun hb5 => ?_) (fun hb5 => ?_)
   ·have hc5 := bp hb5
    exfalso; exact Bool.noConfusion hc5
   have hc5 := bp hb5
   refine dl_ 4 (h:=dm_ 6 (h:=dl_ 8 (h:=?_)))
   refine c_ 5 rfl (q_call (RentsK f hv) ?_)
   rintro r ⟨hE1, rfl⟩
   refine o_ (h:=?_)
   refine c_ 7 rfl (q_call (Rstep (entsL f) Q.2.1 (by omega) (by omega)) ?_)
   rintro r ⟨hE3, rfl⟩
   refine o_ (h:=?_)
   refine c_ 9 rfl (q_call (RentsK Q.1 hg.1) ?_)
   rintro r ⟨hE2, rfl⟩
   refine o_ (h:=?_)
   refine c_ 10 rfl (q_call (halike (by omega) (by omega)) ?_)
   rintro r rfl
   refine o_ (h:=dnt_ 11 (h:=dpf_ 12 (h:=dm_ 13 (h:=?_))))
   refine aa_both (j := 13) rfl (fun hb6 => ?_) (fun hb6 => ?_)
   ·have hc6 := bp hb6
    exfalso; exact Bool.noConfusion hc6
   have hc6 := bp hb6
   refine dm_ 14 (h:=dn_ 15 (h:=deq_ 16 (h:=dm_ 17 (h:=?_))))
   refine aa_both (j := 17) rfl (fun hb7 => ?_) (fun hb7 => ?_)
   ·have hc7 := bp hb7
    obtain ⟨c1, c2, hcs⟩ := two_of (l := Q.2.1) (by omega)
    have hr0 : (Q.2.1.map chgA)[0]? = some (chgA c1) := by rw [hcs]; rfl
    have hr1 : (Q.2.1.map chgA)[1]? = some (chgA c2) := by rw [hcs]; rfl
    refine dm_ 18 (h:=?_)
    refine r_y (i := 19) rfl (st_index (n := 0) rfl rfl rfl hr0 ⟨rfl, rfl⟩) ?_
    refine df_ 20 (h:=dl_ 21 (h:=dm_ 22 (h:=?_)))
    refine r_y (i := 23) rfl (st_index (n := 1) rfl rfl rfl hr1 ⟨rfl, rfl⟩) ?_
    refine df_ 24 (h:=dl_ 25 (h:=?_))
    refine r_y (i := 26) rfl (st_binA rfl rfl (by repeat constructor) (by repeat constructor) (fun w => eqlFil _ _ _ _ w) (by kernel_rfl) ⟨rfl, rfl⟩) ?_
    refine dpt_ 27 (h:=dm_ 28 (h:=?_))
    refine aa_both (j := 28) rfl (fun hb8 => ?_) (fun hb8 => ?_)
    ·have hc8 := bp hb8
     refine dm_ 29 (h:=?_)
     refine r_y (i := 30) rfl (st_index (n := 0) rfl rfl rfl hr0 ⟨rfl, rfl⟩) ?_
     refine df_ 31 (h:=dl_ 32 (h:=dm_ 33 (h:=?_)))
     refine r_y (i := 34) rfl (st_index (n := 1) rfl rfl rfl hr1 ⟨rfl, rfl⟩) ?_
     refine df_ 35 (h:=dl_ 36 (h:=deq_ 37 (h:=dpt_ 38 (h:=dpf_ 39 (h:=z_ (h:=t_ (?_)))))))
     refine aw_cond rfl (fun hb9 => ?_) (fun hb9 => ?_)
     ·have hc9 := bp hb9
      exfalso; exact hkp.twice c1 c2 hcs ⟨hc8, hc9⟩
     have hc9 := bp hb9
     refine aw_skip (?_)
     refine x_then ?_
     exact ⟨_, rfl, wk 3 0⟩
    have hc8 := bp hb8
    refine d0_ 29 (h:=d0_ 30 (h:=d0_ 31 (h:=d0_ 32 (h:=d0_ 33 (h:=d0_ 34 (h:=d0_ 35 (h:=d0_ 36 (h:=d0_ 37 (h:=dpf_ 38 (h:=dpf_ 39 (h:=z_ (h:=t_ (cn_ (h:=aw_skip (?_)))))))))))))))
    refine x_then ?_
    exact ⟨_, rfl, wk 3 0⟩
   have hc7 := bp hb7
   refine d0_ 18 (h:=d0_ 19 (h:=d0_ 20 (h:=d0_ 21 (h:=d0_ 22 (h:=d0_ 23 (h:=d0_ 24 (h:=d0_ 25 (h:=d0_ 26 (h:=dpf_ 27 (h:=dm_ 28 (h:=d0_ 29 (h:=d0_ 30 (h:=d0_ 31 (h:=d0_ 32 (h:=d0_ 33 (h:=d0_ 34 (h:=d0_ 35 (h:=d0_ 36 (h:=d0_ 37 (h:=dpf_ 38 (h:=dpf_ 39 (h:=z_ (h:=t_ (?_))))))))))))))))))))))))
   refine cn_ (h:=aw_skip (?_))
   refine x_then ?_
   exact ⟨_, rfl, wk 3 0⟩
  rintro t rfl
  refine q_ (w_ (a_ (h:=e_ (aw_block (?_)))))
  refine aw_loopW (fun m t => ∃ k : Nat, k ≤ Q.2.1.length ∧ m = Q.2.1.length - k ∧ t = ⟨look [(3, .bp 0 0), (4, .bp 1 0), (5, .v (.int .i64 (j : Int))), (6, .bp 2 0), (7, .sl 7 (Q.2.1.map chgA) none), (9, .v (.int .i64 (k : Int)))], ⟨[srcA l a2, flsA f, flsA Q.1], []⟩⟩) (Q.2.1.length) (wk 3 0) (⟨0, by omega, rfl, rfl⟩) ?_
  rintro m t ⟨k, hk, rfl, rfl⟩
  refine q_ (w_ (m_ (h:=m_ (h:=n_ (h:=lt_ (h:=e_ (?_)))))))
  refine aw_cond rfl (fun hb10 => ?_) (fun hb10 => ?_)
  ·have hc10 := bp hb10
   obtain ⟨hlt, c, hcc, hrow, -⟩ := row_at chgA hc10
   have hlk := hkp.look c (List.mem_of_getElem? hcc)
   refine kt_ (q_ (aw_block (?_)))
   refine aw_midI (fun t => t = ⟨look [(3, .bp 0 0), (4, .bp 1 0), (5, .v (.int .i64 (j : Int))), (6, .bp 2 0), (7, .sl 7 (Q.2.1.map chgA) none), (9, .v (.int .i64 (k : Int))), (10, .bp 3 0)], ⟨[srcA l a2, flsA f, flsA Q.1, filA (lookL f c.1 c.2.1).1], []⟩⟩) ?_ ?_
   ·skip
    refine yk_ ([(1, flsA f)]) 18 (h:=dl_ 0 (h:=dm_ 1 (h:=dm_ 2 (h:=?_))))
    refine tk_ 3 rfl (fun _ hS => st_index (n := k) rfl rfl rfl hrow ⟨rfl, rfl⟩) ?_
    refine df_ 4 (h:=dl_ 5 (h:=dm_ 6 (h:=dm_ 7 (h:=?_))))
    refine tk_ 8 rfl (fun _ hS => st_index (n := k) rfl rfl rfl hrow ⟨rfl, rfl⟩) ?_
    refine df_ 9 (h:=dl_ 10 (h:=?_))
    refine c2_ 11 15 rfl rfl ?_ ?_
    ·refine q_call (Rlook f c.1 c.2.1 hv.b) ?_
     rintro r rfl
     refine o_ (h:=?_)
     refine dm_ 12 (h:=dx_ 13 (h:=dx_ 14 (h:=?_)))
     refine c_ 15 rfl (s_alloc (by repeat constructor) ?_)
     refine o_ (h:=?_)
     refine c0_ 16 rfl (s_store rfl rfl rfl rfl rfl rfl (by repeat constructor) (by repeat constructor) ?_)
     refine o_ (h:=da_ 17 (h:=z_ (h:=?_)))
     refine x_then ?_
     exact ⟨_, rfl, wk 4 0⟩
    refine s_alloc (by repeat constructor) ?_
    refine o_ (h:=?_)
    refine c_ 11 rfl (q_call (Rlook f c.1 c.2.1 hv.b) ?_)
    rintro r rfl
    refine o_ (h:=dm_ 12 (h:=dx_ 13 (h:=dx_ 14 (h:=?_))))
    refine c0_ 16 rfl (s_store rfl rfl rfl rfl rfl rfl (by repeat constructor) (by repeat constructor) ?_)
    refine o_ (h:=da_ 17 (h:=z_ (h:=?_)))
    refine x_then ?_
    exact ⟨_, rfl, wk 4 0⟩
   rintro t rfl
   refine aw_midI (fun t => t = ⟨look [(3, .bp 0 0), (4, .bp 1 0), (5, .v (.int .i64 (j : Int))), (6, .bp 2 0), (7, .sl 7 (Q.2.1.map chgA) none), (9, .v (.int .i64 (k : Int))), (10, .bp 3 0), (12, .bp 4 0)], ⟨[srcA l a2, flsA f, flsA Q.1, filA (lookL f c.1 c.2.1).1, filA (lookL Q.1 c.1 c.2.1).1], []⟩⟩) ?_ ?_
   ·skip
    refine yk_ ([(2, flsA Q.1)]) 18 (h:=dl_ 0 (h:=dm_ 1 (h:=dm_ 2 (h:=?_))))
    refine tk_ 3 rfl (fun _ hS => st_index (n := k) rfl rfl rfl hrow ⟨rfl, rfl⟩) ?_
    refine df_ 4 (h:=dl_ 5 (h:=dm_ 6 (h:=dm_ 7 (h:=?_))))
    refine tk_ 8 rfl (fun _ hS => st_index (n := k) rfl rfl rfl hrow ⟨rfl, rfl⟩) ?_
    refine df_ 9 (h:=dl_ 10 (h:=?_))
    refine c2_ 11 15 rfl rfl ?_ ?_
    ·refine q_call (Rlook Q.1 c.1 c.2.1 hg.1.b) ?_
     rintro r rfl
     refine o_ (h:=?_)
     refine dm_ 12 (h:=dx_ 13 (h:=dx_ 14 (h:=?_)))
     refine c_ 15 rfl (s_alloc (by repeat constructor) ?_)
     refine o_ (h:=?_)
     refine c0_ 16 rfl (s_store rfl rfl rfl rfl rfl rfl (by repeat constructor) (by repeat constructor) ?_)
     refine o_ (h:=da_ 17 (h:=z_ (h:=?_)))
     refine x_then ?_
     exact ⟨_, rfl, wk 5 0⟩
    refine s_alloc (by repeat constructor) ?_
    refine o_ (h:=?_)
    refine c_ 11 rfl (q_call (Rlook Q.1 c.1 c.2.1 hg.1.b) ?_)
    rintro r rfl
    refine o_ (h:=dm_ 12 (h:=dx_ 13 (h:=dx_ 14 (h:=?_))))
    refine c0_ 16 rfl (s_store rfl rfl rfl rfl rfl rfl (by repeat constructor) (by repeat constructor) ?_)
    refine o_ (h:=da_ 17 (h:=z_ (h:=?_)))
    refine x_then ?_
    exact ⟨_, rfl, wk 5 0⟩
   rintro t rfl
   refine q_ (yr_ 21 (h:=dm_ 0 (h:=dm_ 1 (h:=?_))))
   refine r_y (i := 2) rfl (st_index (n := k) rfl rfl rfl hrow ⟨rfl, rfl⟩) ?_
   refine df_ 3 (h:=dl_ 4 (h:=dl_ 5 (h:=?_)))
   refine r_y (i := 6) rfl (st_binA rfl rfl (by repeat constructor) (by repeat constructor) (fun w => neqlFil _ _ _ _ w) (by kernel_rfl) ⟨rfl, rfl⟩) ?_
   refine dm_ 7 (h:=?_)
   refine aa_both (j := 7) rfl (fun hb11 => ?_) (fun hb11 => ?_)
   ·have hc11 := bp hb11
    exfalso; exact hc11 hlk.1.symm
   have hc11 := bp hb11
   refine dm_ 8 (h:=dm_ 9 (h:=?_))
   refine r_y (i := 10) rfl (st_index (n := k) rfl rfl rfl hrow ⟨rfl, rfl⟩) ?_
   refine df_ 11 (h:=dl_ 12 (h:=dl_ 13 (h:=?_)))
   refine r_y (i := 14) rfl (st_binA rfl rfl (by repeat constructor) (by repeat constructor) (fun w => neqlFil _ _ _ _ w) (by kernel_rfl) ⟨rfl, rfl⟩) ?_
   refine dpf_ 15 (h:=dm_ 16 (h:=?_))
   refine aa_both (j := 16) rfl (fun hb12 => ?_) (fun hb12 => ?_)
   ·have hc12 := bp hb12
    exfalso; exact hc12 hlk.2.1.symm
   have hc12 := bp hb12
   refine dl_ 17 (h:=dl_ 18 (h:=?_))
   refine r_y (i := 19) rfl (st_binA rfl rfl (by repeat constructor) (by repeat constructor) (fun w => eqlFil _ _ _ _ w) (by kernel_rfl) ⟨rfl, rfl⟩) ?_
   refine dpf_ 20 (h:=z_ (h:=t_ (?_)))
   refine aw_cond rfl (fun hb13 => ?_) (fun hb13 => ?_)
   ·have hc13 := bp hb13
    exfalso; exact hlk.2.2 (hlk.1.symm.trans (hc13.trans hlk.2.1))
   have hc13 := bp hb13
   refine aw_skip (x_blockN (t_ (aw_region (m_ (h:=ad_ (h:=a_ (h:=al_nil (?_))))))))
   refine x_then ?_
   refine ⟨_, _, ?_, ⟨k + 1, by omega, rfl, rfl⟩, wk 3 0⟩
   omega
  have hc10 := bp hb10
  refine aw_exit (x_thenE (x_thenE (ABlock_out (t_ (aw_region (l_ (h:=s_ (h:=al_nil (x_blockN (t_ (aw_region (m_ (h:=ad_ (h:=a_ (h:=al_nil (?_))))))))))))))))
  refine x_then ?_
  first
  | (refine ⟨_, _, ?_, ⟨j + 1, a2, Q.1, by omega, rfl, by omega, hg.1, by omega, rfl⟩, wk 2 0⟩; omega)
  | (refine ⟨_, _, ?_, ⟨j + 1, a2, f, by omega, rfl, by omega, hv, hp, rfl⟩, wk 2 0⟩; omega)
 have hc1 := bp hb1
 refine aw_exit (x_thenE (x_thenE (ABlock_out (t_ (w_ (?_))))))
 refine al_p rfl (q_call (Lawake5) ?_)
 rintro r rfl
 refine a_ (h:=e_ (aw_ret (?_)))
 refine e_ret ?_
 rfl
end
theorem FilesKeep_walk {H : Type} {enc : TypeId × Value → H} {sp : Nat → Bool} {held : Bool} {base : Nat} (a : Option Addr) (n c : Nat) (w : World) {d : DataW H} {p : List MemPlace} (h : DataW.Trod enc Try.prog w base sp held 31 (.slice a n c) d p) :
    Calls Try.prog 13 #[.slice a n c] w fun e w' => e = .returned (.bool true) ∧ Below w.heap.size w w' := walk_ints Lkeep a n c w h
end Go.Proofs.Ythcbdkmhamhciaa
