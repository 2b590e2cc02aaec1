/-
  The law RulesBuilt.
-/
import Derived.Test.YtokaaebbmcldaaaGreatDoorSy
namespace Go.Proofs.YtokaaebbmcldaaaGreatDoor
open Go.RowKit

section
set_option maxRecDepth 10000
set_option maxHeartbeats 4000000
theorem Lbuilt (l : List Int) (bits : Int) : AFn Tryz.prog 3 [.sl 1 (l.map intA) none, .v (.int .i64 bits)] (fun x => x = .v (.bool true)) := by
  refine enter Tryz.func3 rfl rfl rfl rfl rfl 0 rfl ?_
  refine aw_seq (fun K hK => ?_)
  refine aw_region ?_
  refine al_p rfl (st_assign rfl ?_)
  refine al_nil ?_
  refine x_then ?_
  refine hK _ ?_
  clear hK K
  refine aw_seq (fun K hK => ?_)
  refine aw_region ?_
  refine al_p rfl (st_move rfl ?_)
  refine al_p rfl (s_callN rfl (by repeat (first | exact Args.nil | refine Args.cons _ _ _ _ _ rfl (argOk_clean rfl) ?_ | refine Args.cons _ _ _ _ _ rfl (argOk_nil _) ?_ | refine Args.cons _ _ _ _ _ rfl (argOk_era _) ?_ | refine Args.cons _ _ _ _ _ rfl (argOk_le rfl (by repeat (first | exact LeA.refl _ | exact LeA.nil _ | exact LeL.refl _ | refine LeA.agg ?_ | refine LeA.tup ?_ | exact LeL.nil | refine LeL.cons ?_ ?_ | exact LeA.any _))) ?_)) rfl (Gnew l) (by repeat constructor) ?_)
  skip
  refine al_p rfl (st_assign rfl ?_)
  refine al_nil ?_
  refine x_then ?_
  refine hK _ ?_
  clear hK K
  refine aw_seq (fun K hK => ?_)
  refine aw_region ?_
  refine al_p rfl (st_move rfl ?_)
  refine al_p rfl (s_gen 0 (hc := Grules l _ 8 (by omega) (by omega)) (hR := ?_))
  rintro r a1 ha1 ⟨L, hL, rfl⟩
  refine ⟨rfl, _, (by repeat constructor), ?_⟩
  have hLl := hL.len
  have hmap : (L.map rulA).length = L.length := by simp
  have ht : ∀ r ∈ L, r.tests.length ≤ 1000 := fun r hr => (hL.ins r hr).2.2.2
  refine al_p rfl (st_move rfl ?_)
  refine al_p rfl (s_gen 0 (hc := Gcontext l _ (by omega)) (hR := ?_))
  rintro r a2 ha2 ⟨c, k, hc, rfl⟩
  refine ⟨rfl, _, (by repeat constructor), ?_⟩
  refine al_p rfl (s_alloc (by repeat constructor) ?_)
  refine al_p rfl (st_assign rfl ?_)
  refine al_p0 (s_store rfl rfl rfl rfl rfl rfl (by repeat constructor) (by repeat constructor) ?_)
  refine al_nil ?_
  refine x_then ?_
  refine hK _ ?_
  clear hK K
  refine aw_seq (fun K hK => ?_)
  refine aw_region ?_
  refine al_p rfl (st_move rfl ?_)
  refine al_p rfl (st_move rfl ?_)
  first | refine al_p rfl (st_len rfl ?_) | refine al_p rfl (st_lenS (by kernel_rfl) rfl ?_) | refine al_p rfl (st_len0 rfl ?_)
  first | refine al_p rfl (st_add64 rfl rfl (by omega) ?_) | refine al_p rfl (st_addS rfl rfl (by omega) ?_) | refine al_p rfl (st_add rfl rfl ?_)
  refine al_p rfl (s_gen 0 (hc := Gn l _ (((L.map rulA).length : Int) + 2) (by omega) (by omega)) (hR := ?_))
  rintro r a3 ha3 ⟨k3, rfl, p3, q3, o3⟩
  refine ⟨rfl, _, (by repeat constructor), ?_⟩
  obtain ⟨m, rfl⟩ := Int.eq_ofNat_of_zero_le p3
  refine al_p rfl (st_move rfl ?_)
  refine al_p rfl (q_call (Lbools m bits (by omega)) ?_)
  rintro r ⟨hits, hh, rfl⟩
  refine al_p rfl (st_assign rfl ?_)
  refine al_nil ?_
  refine x_then ?_
  refine hK _ ?_
  clear hK K
  refine aw_seq (fun K hK => ?_)
  refine aw_seq (fun K hK => ?_)
  refine aw_region ?_
  refine al_p rfl (st_assign rfl ?_)
  refine al_nil ?_
  refine x_then ?_
  refine hK _ ?_
  clear hK K
  refine aw_block ?_
  refine aw_loopW (fun n s => ∃ j : Nat, j ≤ L.length ∧ n = L.length - j ∧ s = ⟨look [(6, .sl 8 (L.map rulA) none), (7, .bp 1 0), (8, .sl 1 (hits.map bolA) none), (9, .v (.int .i64 (j : Int)))], ⟨[srcA l a3, ctxA c k], []⟩⟩) (L.length) ((wk 2 0)) (⟨0, by omega, rfl, rfl⟩) ?_
  rintro n s ⟨j, hj, rfl, rfl⟩
  refine aw_seq (fun K hK => ?_)
  refine aw_seq (fun K hK => ?_)
  refine aw_region ?_
  refine al_p rfl (st_move rfl ?_)
  refine al_p rfl (st_move rfl ?_)
  first | refine al_p rfl (st_len rfl ?_) | refine al_p rfl (st_lenS (by kernel_rfl) rfl ?_) | refine al_p rfl (st_len0 rfl ?_)
  first | refine al_p rfl (st_lss rfl rfl ?_) | refine al_p rfl (st_lssS rfl rfl ?_)
  refine al_nil ?_
  refine x_then ?_
  refine hK _ ?_
  clear hK K
  refine aw_cond rfl (fun hb1 => ?_) (fun hb1 => ?_)
  · have hc1 := bp hb1
    obtain ⟨hlt, r, hr, hrow, -⟩ := row_at rulA hc1
    refine aw_skip ?_
    refine x_then ?_
    refine hK _ ?_
    clear hK K
    refine aw_seq (fun K hK => ?_)
    refine aw_block ?_
    refine aw_seq (fun K hK => ?_)
    refine aw_drawR 28 (by kernel_rfl) ?_
    refine r_y (i := 0) rfl (st_move rfl ⟨rfl, rfl⟩) ?_
    refine r_y (i := 1) rfl (st_move rfl ⟨rfl, rfl⟩) ?_
    refine r_y (i := 2) rfl (st_index rfl rfl rfl (by first | assumption | rfl) ⟨rfl, rfl⟩) ?_
    refine r_y (i := 3) rfl (st_loadFW rfl rfl ⟨rfl, rfl⟩) ?_
    refine r_y (i := 4) rfl (st_loadBW rfl rfl rfl ⟨rfl, rfl⟩) ?_
    refine r_y (i := 6) rfl (st_move rfl ⟨rfl, rfl⟩) ?_
    refine r_y (i := 7) rfl (st_move rfl ⟨rfl, rfl⟩) ?_
    refine r_y (i := 8) rfl (st_index rfl rfl rfl (by first | assumption | rfl) ⟨rfl, rfl⟩) ?_
    refine r_y (i := 9) rfl (st_loadFW rfl rfl ⟨rfl, rfl⟩) ?_
    refine r_y (i := 10) rfl (st_loadBW rfl rfl rfl ⟨rfl, rfl⟩) ?_
    refine aa_c (i := 5) rfl rfl (by kernel_rfl) (by first | rfl | exact wan_y rfl rfl (beq_tt ‹_›) | exact wan_y rfl rfl (beq_ff ‹_›) | exact wan_y rfl rfl (by simp [*])) (q_call (Pmatches r _ c k (by omega) (ht r (List.mem_of_getElem? hr))) ?_)
    rintro r rfl
    refine ⟨.inr rfl, ?_⟩
    refine aa_c (i := 11) rfl rfl (by kernel_rfl) (by first | rfl | exact wan_y rfl rfl (beq_tt ‹_›) | exact wan_y rfl rfl (beq_ff ‹_›) | exact wan_y rfl rfl (by simp [*])) (q_call (Rmatches r _ c k (by omega) (ht r (List.mem_of_getElem? hr))) ?_)
    rintro r rfl
    refine ⟨.inr rfl, ?_⟩
    first | refine r_y (i := 12) rfl (st_neq rfl rfl ⟨rfl, rfl⟩) ?_ | refine r_y (i := 12) rfl (st_neqS rfl rfl ⟨rfl, rfl⟩) ?_ | refine r_y (i := 12) rfl (st_neqB (by kernel_rfl) rfl rfl ⟨rfl, rfl⟩) ?_
    refine r_y (i := 13) rfl (st_move rfl ⟨rfl, rfl⟩) ?_
    refine aa_both (j := 13) rfl (fun hb2 => ?_) (fun hb2 => ?_)
    · have hc2 := bp hb2
      refine r_n (i := 14) rfl rfl ?_
      refine r_n (i := 15) rfl rfl ?_
      refine r_n (i := 16) rfl rfl ?_
      refine r_n (i := 17) rfl rfl ?_
      refine r_n (i := 18) rfl rfl ?_
      refine r_n (i := 19) rfl rfl ?_
      refine r_n (i := 20) rfl rfl ?_
      refine r_n (i := 21) rfl rfl ?_
      refine r_n (i := 22) rfl rfl ?_
      refine r_n (i := 23) rfl rfl ?_
      refine r_n (i := 24) rfl rfl ?_
      refine r_n (i := 25) rfl rfl ?_
      refine r_n (i := 26) rfl rfl ?_
      refine r_y (i := 27) rfl (st_pick_t rfl (by first | rfl | assumption | simp [*]) rfl ⟨rfl, rfl⟩) ?_
      refine aa_done (by kernel_rfl) ?_ _
      refine x_then ?_
      refine hK _ ?_
      clear hK K
      refine aw_cy rfl (by first | rfl | assumption | simp [*]) ?_
      refine aw_seq (fun K hK => ?_)
      refine aw_region ?_
      refine al_p rfl (st_assign rfl ?_)
      refine al_nil ?_
      refine x_then ?_
      refine hK _ ?_
      clear hK K
      refine aw_ret ?_
      refine x_blockR ?_
      refine x_thenR ?_
      clear hK K
      refine x_thenR ?_
      refine x_blockR ?_
      refine x_thenR ?_
      clear hK K
      refine e_ret ?_
      first | exact vb rfl | (exfalso; first | contradiction | omega) | (exfalso; simp at hc2; done) | (exfalso; simp at hc3; done) | (exfalso; simp at hc4; done)
    · have hc2 := bp hb2
      refine r_y (i := 14) rfl (st_move rfl ⟨rfl, rfl⟩) ?_
      refine r_y (i := 15) rfl (st_move rfl ⟨rfl, rfl⟩) ?_
      refine r_y (i := 16) rfl (st_index rfl rfl rfl (by first | assumption | rfl) ⟨rfl, rfl⟩) ?_
      refine r_y (i := 17) rfl (st_loadFW rfl rfl ⟨rfl, rfl⟩) ?_
      refine r_y (i := 18) rfl (st_loadBW rfl rfl rfl ⟨rfl, rfl⟩) ?_
      refine r_y (i := 20) rfl (st_move rfl ⟨rfl, rfl⟩) ?_
      refine r_y (i := 21) rfl (st_move rfl ⟨rfl, rfl⟩) ?_
      refine r_y (i := 22) rfl (st_index rfl rfl rfl (by first | assumption | rfl) ⟨rfl, rfl⟩) ?_
      refine r_y (i := 23) rfl (st_loadFW rfl rfl ⟨rfl, rfl⟩) ?_
      refine r_y (i := 24) rfl (st_loadBW rfl rfl rfl ⟨rfl, rfl⟩) ?_
      refine aa_c (i := 19) rfl rfl (by kernel_rfl) (by first | rfl | exact wan_y rfl rfl (beq_tt ‹_›) | exact wan_y rfl rfl (beq_ff ‹_›) | exact wan_y rfl rfl (by simp [*])) (q_call (Pmatches r _ c k (by omega) (ht r (List.mem_of_getElem? hr))) ?_)
      rintro r rfl
      refine ⟨.inr rfl, ?_⟩
      refine aa_c (i := 25) rfl rfl (by kernel_rfl) (by first | rfl | exact wan_y rfl rfl (beq_tt ‹_›) | exact wan_y rfl rfl (beq_ff ‹_›) | exact wan_y rfl rfl (by simp [*])) (q_call (Rmatches r _ c k (by omega) (ht r (List.mem_of_getElem? hr))) ?_)
      rintro r rfl
      refine ⟨.inr rfl, ?_⟩
      first | refine r_y (i := 26) rfl (st_neq rfl rfl ⟨rfl, rfl⟩) ?_ | refine r_y (i := 26) rfl (st_neqS rfl rfl ⟨rfl, rfl⟩) ?_ | refine r_y (i := 26) rfl (st_neqB (by kernel_rfl) rfl rfl ⟨rfl, rfl⟩) ?_
      refine r_y (i := 27) rfl (st_pick_f rfl (by first | rfl | assumption | simp [*]) rfl ⟨rfl, rfl⟩) ?_
      refine aa_done (by kernel_rfl) ?_ _
      refine x_then ?_
      refine hK _ ?_
      clear hK K
      refine aw_cond rfl (fun hb3 => ?_) (fun hb3 => ?_)
      · have hc3 := bp hb3
        refine aw_seq (fun K hK => ?_)
        refine aw_region ?_
        refine al_p rfl (st_assign rfl ?_)
        refine al_nil ?_
        refine x_then ?_
        refine hK _ ?_
        clear hK K
        refine aw_ret ?_
        refine x_blockR ?_
        refine x_thenR ?_
        clear hK K
        refine x_thenR ?_
        refine x_blockR ?_
        refine x_thenR ?_
        clear hK K
        refine e_ret ?_
        first | exact vb rfl | (exfalso; first | contradiction | omega) | (exfalso; simp at hc2; done) | (exfalso; simp at hc3; done) | (exfalso; simp at hc4; done)
      · have hc3 := bp hb3
        refine aw_skip ?_
        refine x_blockN ?_
        refine x_then ?_
        refine hK _ ?_
        clear hK K
        refine aw_region ?_
        refine al_p rfl (st_move rfl ?_)
        first | refine al_p rfl (st_add64 rfl rfl (by omega) ?_) | refine al_p rfl (st_addS rfl rfl (by omega) ?_) | refine al_p rfl (st_add rfl rfl ?_)
        refine al_p rfl (st_assign rfl ?_)
        refine al_nil ?_
        refine x_then ?_
        refine ⟨_, _, ?_, ⟨j + 1, by omega, rfl, rfl⟩, (wk 2 0)⟩
        omega
  · have hc1 := bp hb1
    refine aw_exit ?_
    refine x_thenE ?_
    clear hK K
    refine x_thenE ?_
    refine ABlock_out ?_
    refine x_then ?_
    refine hK _ ?_
    clear hK K
    refine aw_seq (fun K hK => ?_)
    refine aw_seq (fun K hK => ?_)
    refine aw_region ?_
    refine al_p rfl (st_assign rfl ?_)
    refine al_nil ?_
    refine x_then ?_
    refine hK _ ?_
    clear hK K
    refine aw_block ?_
    refine aw_loopW (fun n s => ∃ j : Nat, j ≤ 5 ∧ n = 5 - j ∧ s = ⟨look [(6, .sl 8 (L.map rulA) none), (7, .bp 1 0), (8, .sl 1 (hits.map bolA) none), (10, .v (.int .i64 ((j : Int) + 1)))], ⟨[srcA l a3, ctxA c k], []⟩⟩) (5) ((wk 2 0)) (⟨0, by omega, rfl, rfl⟩) ?_
    rintro n s ⟨i, hi, rfl, rfl⟩
    refine aw_seq (fun K hK => ?_)
    refine aw_seq (fun K hK => ?_)
    refine aw_region ?_
    refine al_p rfl (st_move rfl ?_)
    refine al_p rfl (st_leq rfl rfl ?_)
    refine al_nil ?_
    refine x_then ?_
    refine hK _ ?_
    clear hK K
    refine aw_cond rfl (fun hb4 => ?_) (fun hb4 => ?_)
    · have hc4 := bp hb4
      refine aw_skip ?_
      refine x_then ?_
      refine hK _ ?_
      clear hK K
      refine aw_seq (fun K hK => ?_)
      refine aw_block ?_
      refine aw_seq (fun K hK => ?_)
      refine aw_drawR 11 (by kernel_rfl) ?_
      refine r_y (i := 0) rfl (st_move rfl ⟨rfl, rfl⟩) ?_
      refine r_y (i := 1) rfl (st_move rfl ⟨rfl, rfl⟩) ?_
      refine r_y (i := 2) rfl (st_move rfl ⟨rfl, rfl⟩) ?_
      refine r_y (i := 3) rfl (st_loadBW rfl rfl rfl ⟨rfl, rfl⟩) ?_
      refine r_y (i := 5) rfl (st_move rfl ⟨rfl, rfl⟩) ?_
      refine r_y (i := 6) rfl (st_move rfl ⟨rfl, rfl⟩) ?_
      refine r_y (i := 7) rfl (st_move rfl ⟨rfl, rfl⟩) ?_
      refine r_y (i := 8) rfl (st_loadBW rfl rfl rfl ⟨rfl, rfl⟩) ?_
      refine aa_c (i := 4) rfl rfl (by kernel_rfl) (by first | rfl | exact wan_y rfl rfl (beq_tt ‹_›) | exact wan_y rfl rfl (beq_ff ‹_›) | exact wan_y rfl rfl (by simp [*])) (q_call (Pfirsts L _ hits c k (by omega) (by omega) ht) ?_)
      rintro r rfl
      refine ⟨.inr rfl, ?_⟩
      refine aa_c (i := 9) rfl rfl (by kernel_rfl) (by first | rfl | exact wan_y rfl rfl (beq_tt ‹_›) | exact wan_y rfl rfl (beq_ff ‹_›) | exact wan_y rfl rfl (by simp [*])) (q_call (Rfirsts L _ hits c k (by omega) (by omega) ht) ?_)
      rintro r rfl
      refine ⟨.inr rfl, ?_⟩
      first | refine r_y (i := 10) rfl (st_neq rfl rfl ⟨rfl, rfl⟩) ?_ | refine r_y (i := 10) rfl (st_neqS rfl rfl ⟨rfl, rfl⟩) ?_ | refine r_y (i := 10) rfl (st_neqB (by kernel_rfl) rfl rfl ⟨rfl, rfl⟩) ?_
      refine aa_done (by kernel_rfl) ?_ _
      refine x_then ?_
      refine hK _ ?_
      clear hK K
      refine aw_cond rfl (fun hb5 => ?_) (fun hb5 => ?_)
      · have hc5 := bp hb5
        refine aw_seq (fun K hK => ?_)
        refine aw_region ?_
        refine al_p rfl (st_assign rfl ?_)
        refine al_nil ?_
        refine x_then ?_
        refine hK _ ?_
        clear hK K
        refine aw_ret ?_
        refine x_blockR ?_
        refine x_thenR ?_
        clear hK K
        refine x_thenR ?_
        refine x_blockR ?_
        refine x_thenR ?_
        clear hK K
        refine e_ret ?_
        first | exact vb rfl | (exfalso; first | contradiction | omega) | (exfalso; simp at hc2; done) | (exfalso; simp at hc3; done) | (exfalso; simp at hc4; done)
      · have hc5 := bp hb5
        refine aw_skip ?_
        refine x_blockN ?_
        refine x_then ?_
        refine hK _ ?_
        clear hK K
        refine aw_region ?_
        refine al_p rfl (st_move rfl ?_)
        first | refine al_p rfl (st_add64 rfl rfl (by omega) ?_) | refine al_p rfl (st_addS rfl rfl (by omega) ?_) | refine al_p rfl (st_add rfl rfl ?_)
        refine al_p rfl (st_assign rfl ?_)
        refine al_nil ?_
        refine x_then ?_
        refine ⟨_, _, ?_, ⟨i + 1, by omega, rfl, rfl⟩, (wk 2 0)⟩
        omega
    · have hc4 := bp hb4
      refine aw_exit ?_
      refine x_thenE ?_
      clear hK K
      refine x_thenE ?_
      refine ABlock_out ?_
      refine x_then ?_
      refine hK _ ?_
      clear hK K
      refine aw_seq (fun K hK => ?_)
      refine aw_region ?_
      refine al_p rfl (q_call (Lawake) ?_)
      rintro r rfl
      refine al_p rfl (st_assign rfl ?_)
      refine al_nil ?_
      refine x_then ?_
      refine hK _ ?_
      clear hK K
      refine aw_ret ?_
      refine e_ret ?_
      first | exact vb rfl | (exfalso; first | contradiction | omega) | (exfalso; simp at hc2; done) | (exfalso; simp at hc3; done) | (exfalso; simp at hc4; done)

end
end Go.Proofs.YtokaaebbmcldaaaGreatDoor
