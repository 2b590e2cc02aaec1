/-
  A test in a context: field.Eval, kauditref12.Eval, and that both say the same.
-/
import Derived.Test.YtokaaebbmcldaaaGreatDoorRd
namespace Go.Proofs.YtokaaebbmcldaaaGreatDoor
open Go.RowKit

section
set_option maxRecDepth 10000
set_option maxHeartbeats 1000000
theorem neqFil (a b c d : Int) (w : World) : (binOp .neq 28 (.agg #[.int .i64 a, .int .i64 b]) (.agg #[.int .i64 c, .int .i64 d])).run Tryz.prog w = .ok (.bool (!decide ((a, b) = (c, d)))) w := by
  rw [eqFil .neq a b c d w (.inr rfl)]
  simp
theorem Peval (t : Tst) (c : Ctx) (k : Cxs) (hn : c.items.length ≤ 1000) : AFn Tryz.prog 22 [.agg (tstA t), .agg (ctxA c k)] (fun r => r = .v (.bool (evalP t c))) := by
  refine enter Tryz.func22 rfl rfl rfl rfl rfl 0 rfl ?_
  refine aw_seq (fun K hK => ?_)
  refine aw_region ?_
  first | refine al_p rfl (s_boxA rfl rfl (by repeat constructor) ?_) | refine al_p rfl (s_box rfl rfl (by repeat constructor) ?_)
  first | refine al_p rfl (s_boxA rfl rfl (by repeat constructor) ?_) | refine al_p rfl (s_box rfl rfl (by repeat constructor) ?_)
  refine al_p rfl (st_assign rfl ?_)
  refine al_nil ?_
  refine x_then ?_
  refine hK _ ?_
  clear hK K
  refine aw_seq (fun K hK => ?_)
  refine aw_region ?_
  refine al_p rfl (st_assign rfl ?_)
  refine al_nil ?_
  refine x_then ?_
  refine hK _ ?_
  clear hK K
  refine aw_seq (fun K hK => ?_)
  refine aw_seq (fun K hK => ?_)
  refine aw_region ?_
  refine al_p rfl (st_assign rfl ?_)
  refine al_nil ?_
  refine x_then ?_
  refine hK _ ?_
  clear hK K
  refine aw_block ?_
  refine aw_loopW (fun n s => ∃ j : Nat, j ≤ 5 ∧ n = 5 - j ∧ s = ⟨look [(2, .bp 0 0), (3, .bp 1 0), (4, .v (.bool false)), (5, .v (.bool (sndTo t j))), (6, .v (.int .i64 ((j : Int) + 1)))], ⟨[tstA t, ctxA c k], []⟩⟩) (5) ((wk 2 0)) (⟨0, by omega, rfl, rfl⟩) ?_
  rintro n s ⟨j, hj, rfl, rfl⟩
  refine aw_seq (fun K hK => ?_)
  refine aw_seq (fun K hK => ?_)
  refine aw_region ?_
  refine al_p rfl (st_move rfl ?_)
  refine al_p rfl (st_leq rfl rfl ?_)
  refine al_nil ?_
  refine x_then ?_
  refine hK _ ?_
  clear hK K
  refine aw_cond rfl (fun hb1 => ?_) (fun hb1 => ?_)
  · have hc1 := bp hb1
    refine aw_skip ?_
    refine x_then ?_
    refine hK _ ?_
    clear hK K
    refine aw_seq (fun K hK => ?_)
    refine aw_block ?_
    refine aw_region ?_
    refine al_p rfl (st_move rfl ?_)
    refine al_p rfl (st_move rfl ?_)
    refine al_gs false rfl rfl (fun hb2 => ?_) (fun hb2 => ?_)
    · have hc2 := bp hb2
      refine g_n ?_
      refine g_n ?_
      refine g_n ?_
      refine g_n ?_
      refine al_p rfl (p_t ?_)
      refine al_p rfl (st_assign rfl ?_)
      refine al_nil ?_
      refine x_blockN ?_
      refine x_then ?_
      refine hK _ ?_
      clear hK K
      refine aw_region ?_
      refine al_p rfl (st_move rfl ?_)
      first | refine al_p rfl (st_add64 rfl rfl (by omega) ?_) | refine al_p rfl (st_addS rfl rfl (by omega) ?_) | refine al_p rfl (st_add rfl rfl ?_)
      refine al_p rfl (st_assign rfl ?_)
      refine al_nil ?_
      refine x_then ?_
      refine ⟨_, _, ?_, ⟨j + 1, by omega, rfl, rfl⟩, weak_of 2 0 rfl rfl rfl rfl (by repeat (first | exact Sub.nil | refine Sub.cons _ _ _ rfl rfl ?_ | refine Sub.any _ _ ?_ | refine Sub.sl _ _ _ _ _ rfl ?_ | refine Sub.slnil _ _ _ rfl ?_ | (apply Sub.of; (focus exact rfl); (focus exact LeA.of_eq (vb (by simp [sndTo, *]))); (focus exact rfl))))⟩
      omega
    · have hc2 := bp hb2
      refine g_y (st_loadBW rfl rfl rfl ?_)
      refine g_y (st_move rfl ?_)
      refine g_y (q_call (Pcheck _ _) ?_)
      rintro r rfl
      first | refine g_y (st_eql rfl rfl ?_) | refine g_y (st_eqlS rfl rfl ?_) | refine g_y (st_eqlB (by kernel_rfl) rfl rfl ?_)
      refine al_p rfl (p_f ?_)
      refine al_p rfl (st_assign rfl ?_)
      refine al_nil ?_
      refine x_blockN ?_
      refine x_then ?_
      refine hK _ ?_
      clear hK K
      refine aw_region ?_
      refine al_p rfl (st_move rfl ?_)
      first | refine al_p rfl (st_add64 rfl rfl (by omega) ?_) | refine al_p rfl (st_addS rfl rfl (by omega) ?_) | refine al_p rfl (st_add rfl rfl ?_)
      refine al_p rfl (st_assign rfl ?_)
      refine al_nil ?_
      refine x_then ?_
      refine ⟨_, _, ?_, ⟨j + 1, by omega, rfl, rfl⟩, weak_of 2 0 rfl rfl rfl rfl (by repeat (first | exact Sub.nil | refine Sub.cons _ _ _ rfl rfl ?_ | refine Sub.any _ _ ?_ | refine Sub.sl _ _ _ _ _ rfl ?_ | refine Sub.slnil _ _ _ rfl ?_ | (apply Sub.of; (focus exact rfl); (focus exact LeA.of_eq (vb (by simp [sndTo, *]))); (focus exact rfl))))⟩
      omega
  · have hc1 := bp hb1
    refine aw_exit ?_
    refine x_thenE ?_
    clear hK K
    refine x_thenE ?_
    refine ABlock_out ?_
    refine x_then ?_
    refine hK _ ?_
    clear hK K
    refine aw_seq (fun K hK => ?_)
    refine aw_seq (fun K hK => ?_)
    refine aw_region ?_
    refine al_p rfl (st_move rfl ?_)
    refine al_p rfl (st_not rfl ?_)
    refine al_nil ?_
    refine x_then ?_
    refine hK _ ?_
    clear hK K
    refine aw_cond rfl (fun hb3 => ?_) (fun hb3 => ?_)
    · have hc3 := bp hb3
      have hs := sound_no hj (by omega) hc3
      refine aw_seq (fun K hK => ?_)
      refine aw_region ?_
      refine al_p rfl (st_assign rfl ?_)
      refine al_nil ?_
      refine x_then ?_
      refine hK _ ?_
      clear hK K
      refine aw_ret ?_
      refine x_thenR ?_
      clear hK K
      refine e_ret ?_
      first | (exfalso; first | contradiction | omega) | (exact vb (by simp [evalP, hs]))
    · have hc3 := bp hb3
      have hs := sound_of hj hc3
      have ht := sound_ok hs
      refine aw_skip ?_
      refine x_then ?_
      refine hK _ ?_
      clear hK K
      refine aw_seq (fun K hK => ?_)
      refine aw_mid (⟨look [(2, .bp 0 0), (3, .bp 1 0), (4, .v (.bool false)), (31, .v (.bool (!itemL t.fld && !itemL t.other)))], ⟨[tstA t, ctxA c k], []⟩⟩) ?_ ?_
      · skip
        refine aw_region ?_
        refine al_p rfl (st_fieldB rfl ?_)
        refine al_p rfl (st_loadB1 rfl rfl rfl ?_)
        refine al_p rfl (q_call (PofItem _) ?_)
        rintro r rfl
        refine al_p rfl (st_not rfl ?_)
        refine al_p rfl (st_move rfl ?_)
        refine al_gs true rfl rfl (fun hb4 => ?_) (fun hb4 => ?_)
        · have hc4 := bp hb4
          refine g_y (st_fieldB rfl ?_)
          refine g_y (st_loadB1 rfl rfl rfl ?_)
          refine g_y (q_call (PofItem _) ?_)
          rintro r rfl
          refine g_y (st_not rfl ?_)
          refine al_p rfl (p_t ?_)
          refine al_nil ?_
          refine x_then ?_
          first | (exfalso; first | contradiction | omega) | exact weak_of 2 0 rfl rfl rfl rfl (by repeat (first | exact Sub.nil | refine Sub.cons _ _ _ rfl rfl ?_ | refine Sub.any _ _ ?_ | refine Sub.sl _ _ _ _ _ rfl ?_ | refine Sub.slnil _ _ _ rfl ?_ | (apply Sub.of; (focus exact rfl); (focus exact LeA.of_eq (vb (by simp [*]))); (focus exact rfl))))
        · have hc4 := bp hb4
          refine g_n ?_
          refine g_n ?_
          refine g_n ?_
          refine g_n ?_
          refine al_p rfl (p_f ?_)
          refine al_nil ?_
          refine x_then ?_
          first | (exfalso; first | contradiction | omega) | exact weak_of 2 0 rfl rfl rfl rfl (by repeat (first | exact Sub.nil | refine Sub.cons _ _ _ rfl rfl ?_ | refine Sub.any _ _ ?_ | refine Sub.sl _ _ _ _ _ rfl ?_ | refine Sub.slnil _ _ _ rfl ?_ | (apply Sub.of; (focus exact rfl); (focus exact LeA.of_eq (vb (by simp [*]))); (focus exact rfl))))
      · skip
        refine aw_cond rfl (fun hb5 => ?_) (fun hb5 => ?_)
        · have hc5 := bp hb5
          simp at hc5
          refine aw_seq (fun K hK => ?_)
          refine aw_region ?_
          refine al_p rfl (st_loadBW rfl rfl rfl ?_)
          refine al_p rfl (st_loadBW rfl rfl rfl ?_)
          refine al_p rfl (st_build (by repeat (first | exact FillA.nil _ | (apply FillA.cons; (focus exact rfl); (focus exact rfl); (focus exact rfl); (focus exact rfl); (focus exact rfl); (focus (repeat constructor))))) ?_)
          refine al_p rfl (q_call (Pholds t c k Itm.zero ht) ?_)
          rintro r rfl
          refine al_p rfl (st_assign rfl ?_)
          refine al_nil ?_
          refine x_then ?_
          refine hK _ ?_
          clear hK K
          refine aw_ret ?_
          refine x_thenR ?_
          clear hK K
          refine e_ret ?_
          first | (exfalso; first | contradiction | omega) | (exact vb (by simp [evalP, hs, hc5]))
        · have hc5 := bp hb5
          have hi : ¬ (itemL t.fld = false ∧ itemL t.other = false) := by simpa using hc5
          refine aw_skip ?_
          refine x_then ?_
          refine hK _ ?_
          clear hK K
          refine aw_seq (fun K hK => ?_)
          refine aw_seq (fun K hK => ?_)
          refine aw_region ?_
          refine al_p rfl (st_fieldB rfl ?_)
          refine al_p rfl (st_loadB1 rfl rfl rfl ?_)
          first | refine al_p rfl (st_len rfl ?_) | refine al_p rfl (st_lenS (by kernel_rfl) rfl ?_) | refine al_p rfl (st_len0 rfl ?_)
          refine al_p rfl (st_move rfl ?_)
          refine al_nil ?_
          refine x_then ?_
          refine hK _ ?_
          clear hK K
          refine aw_block ?_
          refine aw_loopW (fun n s => ∃ j : Nat, j ≤ c.items.length ∧ n = c.items.length - j ∧ (c.items.take j).any (fun y => itmOk y && holdsP t c y) = false ∧ s = ⟨look [(2, .bp 0 0), (3, .bp 1 0), (37, .sl 13 (c.items.map itmA) none), (38, .v (.int .i64 ((c.items.map itmA).length : Int))), (39, .v (.int .i64 (j : Int)))], ⟨[tstA t, ctxA c k], []⟩⟩) (c.items.length) ((wk 2 0)) (⟨0, by omega, rfl, rfl, rfl⟩) ?_
          rintro n s ⟨j, hj, rfl, ha, rfl⟩
          refine aw_seq (fun K hK => ?_)
          refine aw_region ?_
          first | refine al_p rfl (st_lss rfl rfl ?_) | refine al_p rfl (st_lssS rfl rfl ?_)
          refine al_nil ?_
          refine x_then ?_
          refine hK _ ?_
          clear hK K
          refine aw_seq (fun K hK => ?_)
          refine aw_cond rfl (fun hb6 => ?_) (fun hb6 => ?_)
          · have hc6 := bp hb6
            obtain ⟨hlt, y, hy, hrow, -⟩ := row_at itmA hc6
            refine aw_skip ?_
            refine x_then ?_
            refine hK _ ?_
            clear hK K
            refine aw_seq (fun K hK => ?_)
            refine aw_block ?_
            refine aw_seq (fun K hK => ?_)
            refine aw_region ?_
            refine al_p rfl (st_index rfl rfl rfl (by first | assumption | rfl) ?_)
            refine al_p rfl (st_loadFW rfl rfl ?_)
            refine al_p rfl (s_alloc (by repeat constructor) ?_)
            refine al_p0 (s_store rfl rfl rfl rfl rfl rfl (by repeat constructor) (by repeat constructor) ?_)
            refine al_nil ?_
            refine x_then ?_
            refine hK _ ?_
            clear hK K
            refine aw_seq (fun K hK => ?_)
            refine aw_region ?_
            refine al_p rfl (st_fieldB rfl ?_)
            refine al_p rfl (st_loadBN rfl rfl rfl ?_)
            refine al_p rfl (st_build (by repeat (first | exact FillA.nil _ | (apply FillA.cons; (focus exact rfl); (focus exact rfl); (focus exact rfl); (focus exact rfl); (focus exact rfl); (focus (repeat constructor))))) ?_)
            refine al_p rfl (st_binA rfl rfl (by repeat constructor) (by repeat constructor) (fun w => neqFil _ _ _ _ w) (by kernel_rfl) ?_)
            refine al_p rfl (st_move rfl ?_)
            refine al_gs true rfl rfl (fun hb7 => ?_) (fun hb7 => ?_)
            · have hc7 := bp hb7
              refine g_y (st_loadBW rfl rfl rfl ?_)
              refine g_y (st_loadBW rfl rfl rfl ?_)
              refine g_y (st_loadBW rfl rfl rfl ?_)
              refine g_y (q_call (Pholds t c k y ht) ?_)
              rintro r rfl
              refine al_p rfl (p_t ?_)
              refine al_nil ?_
              refine x_then ?_
              refine hK _ ?_
              clear hK K
              refine aw_cond rfl (fun hb8 => ?_) (fun hb8 => ?_)
              · have hc8 := bp hb8
                refine aw_seq (fun K hK => ?_)
                refine aw_region ?_
                refine al_p rfl (st_assign rfl ?_)
                refine al_nil ?_
                refine x_then ?_
                refine hK _ ?_
                clear hK K
                refine aw_ret ?_
                refine x_blockR ?_
                refine x_thenR ?_
                clear hK K
                refine x_thenR ?_
                refine x_blockR ?_
                refine x_thenR ?_
                clear hK K
                refine e_ret ?_
                first | (exfalso; first | contradiction | omega) | (exact vb (by rw [evalP, if_neg (by simp [hs]), if_neg hi, any_of hy (by simp [itmOk, *])]))
              · have hc8 := bp hb8
                refine aw_skip ?_
                refine x_blockN ?_
                refine x_then ?_
                refine hK _ ?_
                clear hK K
                refine aw_region ?_
                first | refine al_p rfl (st_add64 rfl rfl (by omega) ?_) | refine al_p rfl (st_addS rfl rfl (by omega) ?_) | refine al_p rfl (st_add rfl rfl ?_)
                refine al_p rfl (st_move rfl ?_)
                refine al_nil ?_
                refine x_then ?_
                refine ⟨_, _, ?_, ⟨j + 1, by omega, rfl, (by rw [any_take _ _ _ hy, ha]; simp [itmOk, *]), rfl⟩, (wk 2 0)⟩
                omega
            · have hc7 := bp hb7
              refine g_n ?_
              refine g_n ?_
              refine g_n ?_
              refine g_n ?_
              refine al_p rfl (p_f ?_)
              refine al_nil ?_
              refine x_then ?_
              refine hK _ ?_
              clear hK K
              refine aw_cn rfl (by first | rfl | assumption | simp [*]) ?_
              refine aw_skip ?_
              refine x_blockN ?_
              refine x_then ?_
              refine hK _ ?_
              clear hK K
              refine aw_region ?_
              first | refine al_p rfl (st_add64 rfl rfl (by omega) ?_) | refine al_p rfl (st_addS rfl rfl (by omega) ?_) | refine al_p rfl (st_add rfl rfl ?_)
              refine al_p rfl (st_move rfl ?_)
              refine al_nil ?_
              refine x_then ?_
              refine ⟨_, _, ?_, ⟨j + 1, by omega, rfl, (by rw [any_take _ _ _ hy, ha]; simp [itmOk, *]), rfl⟩, (wk 2 0)⟩
              omega
          · have hc6 := bp hb6
            have e := row_no itmA hj hc6
            subst e
            rw [List.take_length] at ha
            refine aw_exit ?_
            refine x_thenE ?_
            clear hK K
            refine x_thenE ?_
            refine ABlock_out ?_
            refine x_then ?_
            refine hK _ ?_
            clear hK K
            refine aw_seq (fun K hK => ?_)
            refine aw_region ?_
            refine al_p rfl (st_assign rfl ?_)
            refine al_nil ?_
            refine x_then ?_
            refine hK _ ?_
            clear hK K
            refine aw_ret ?_
            refine e_ret ?_
            first | (exfalso; first | contradiction | omega) | (exact vb (by rw [evalP, if_neg (by simp [hs]), if_neg hi, ha]))

theorem Reval (t : Tst) (c : Ctx) (k : Cxs) (hn : c.items.length ≤ 1000) : AFn Tryz.prog 24 [.agg (tstA t), .agg (ctxA c k)] (fun r => r = .v (.bool (evalR t c))) := by
  refine enter Tryz.func24 rfl rfl rfl rfl rfl 0 rfl ?_
  refine aw_seq (fun K hK => ?_)
  refine aw_region ?_
  first | refine al_p rfl (s_boxA rfl rfl (by repeat constructor) ?_) | refine al_p rfl (s_box rfl rfl (by repeat constructor) ?_)
  first | refine al_p rfl (s_boxA rfl rfl (by repeat constructor) ?_) | refine al_p rfl (s_box rfl rfl (by repeat constructor) ?_)
  refine al_p rfl (st_assign rfl ?_)
  refine al_nil ?_
  refine x_then ?_
  refine hK _ ?_
  clear hK K
  refine aw_seq (fun K hK => ?_)
  refine aw_mid (⟨look [(2, .bp 0 0), (3, .bp 1 0), (4, .v (.bool false)), (27, .v (.bool (!soundL t || (!hasR t.fld c || (decide (t.other ≠ 0) && !hasR t.other c)))))], ⟨[tstA t, ctxA c k], []⟩⟩) ?_ ?_
  · skip
    refine aw_region ?_
    refine al_p rfl (st_loadBW rfl rfl rfl ?_)
    refine al_p rfl (q_call (Rsound _) ?_)
    rintro r rfl
    refine al_p rfl (st_not rfl ?_)
    refine al_p rfl (st_move rfl ?_)
    refine al_gs false rfl rfl (fun hb1 => ?_) (fun hb1 => ?_)
    · have hc1 := bp hb1
      refine g_n ?_
      refine g_n ?_
      refine g_n ?_
      refine g_n ?_
      refine g_n ?_
      refine al_p rfl (p_t ?_)
      refine al_p rfl (st_move rfl ?_)
      refine g_n ?_
      refine g_n ?_
      refine g_n ?_
      refine g_n ?_
      refine al_gu rfl rfl ?_
      refine al_gu rfl rfl ?_
      refine al_gu rfl rfl ?_
      refine al_gu rfl rfl ?_
      refine al_gu rfl rfl ?_
      refine g_n ?_
      refine al_p rfl (p_t ?_)
      refine al_nil ?_
      refine x_then ?_
      first | (exfalso; first | contradiction | omega) | exact weak_of 2 0 rfl rfl rfl rfl (by repeat (first | exact Sub.nil | refine Sub.cons _ _ _ rfl rfl ?_ | refine Sub.any _ _ ?_ | refine Sub.sl _ _ _ _ _ rfl ?_ | refine Sub.slnil _ _ _ rfl ?_ | (apply Sub.of; (focus exact rfl); (focus exact LeA.of_eq (vb (by simp [*]))); (focus exact rfl))))
    · have hc1 := bp hb1
      refine g_y (st_fieldB rfl ?_)
      refine g_y (st_loadB1 rfl rfl rfl ?_)
      refine g_y (st_loadBW rfl rfl rfl ?_)
      refine g_y (q_call (Rhas _ c k) ?_)
      rintro r rfl
      refine g_y (st_not rfl ?_)
      refine al_p rfl (p_f ?_)
      refine al_p rfl (st_move rfl ?_)
      refine al_gs false rfl rfl (fun hb2 => ?_) (fun hb2 => ?_)
      · have hc2 := bp hb2
        refine g_n ?_
        refine g_n ?_
        refine g_n ?_
        refine g_n ?_
        refine al_gu rfl rfl ?_
        refine al_gu rfl rfl ?_
        refine al_gu rfl rfl ?_
        refine al_gu rfl rfl ?_
        refine al_gu rfl rfl ?_
        refine g_n ?_
        refine al_p rfl (p_t ?_)
        refine al_nil ?_
        refine x_then ?_
        first | (exfalso; first | contradiction | omega) | exact weak_of 2 0 rfl rfl rfl rfl (by repeat (first | exact Sub.nil | refine Sub.cons _ _ _ rfl rfl ?_ | refine Sub.any _ _ ?_ | refine Sub.sl _ _ _ _ _ rfl ?_ | refine Sub.slnil _ _ _ rfl ?_ | (apply Sub.of; (focus exact rfl); (focus exact LeA.of_eq (vb (by simp [*]))); (focus exact rfl))))
      · have hc2 := bp hb2
        refine g_y (st_fieldB rfl ?_)
        refine g_y (st_loadB1 rfl rfl rfl ?_)
        first | refine g_y (st_neq rfl rfl ?_) | refine g_y (st_neqS rfl rfl ?_) | refine g_y (st_neqB (by kernel_rfl) rfl rfl ?_)
        refine g_y (st_move rfl ?_)
        refine al_gs true rfl rfl (fun hb3 => ?_) (fun hb3 => ?_)
        · have hc3 := bp hb3
          refine g_y (st_fieldB rfl ?_)
          refine g_y (st_loadB1 rfl rfl rfl ?_)
          refine g_y (st_loadBW rfl rfl rfl ?_)
          refine g_y (q_call (Rhas _ c k) ?_)
          rintro r rfl
          refine g_y (st_not rfl ?_)
          refine g_y (p_t ?_)
          refine al_p rfl (p_f ?_)
          refine al_nil ?_
          refine x_then ?_
          first | (exfalso; first | contradiction | omega) | exact weak_of 2 0 rfl rfl rfl rfl (by repeat (first | exact Sub.nil | refine Sub.cons _ _ _ rfl rfl ?_ | refine Sub.any _ _ ?_ | refine Sub.sl _ _ _ _ _ rfl ?_ | refine Sub.slnil _ _ _ rfl ?_ | (apply Sub.of; (focus exact rfl); (focus exact LeA.of_eq (vb (by simp [*]))); (focus exact rfl))))
        · have hc3 := bp hb3
          refine g_n ?_
          refine g_n ?_
          refine g_n ?_
          refine g_n ?_
          refine g_n ?_
          refine g_y (p_f ?_)
          refine al_p rfl (p_f ?_)
          refine al_nil ?_
          refine x_then ?_
          first | (exfalso; first | contradiction | omega) | exact weak_of 2 0 rfl rfl rfl rfl (by repeat (first | exact Sub.nil | refine Sub.cons _ _ _ rfl rfl ?_ | refine Sub.any _ _ ?_ | refine Sub.sl _ _ _ _ _ rfl ?_ | refine Sub.slnil _ _ _ rfl ?_ | (apply Sub.of; (focus exact rfl); (focus exact LeA.of_eq (vb (by simp [*]))); (focus exact rfl))))
  · skip
    refine aw_cond rfl (fun hb4 => ?_) (fun hb4 => ?_)
    · have hc4 := bp hb4
      have hq : soundL t = false ∨ hasR t.fld c = false ∨ t.other ≠ 0 ∧ hasR t.other c = false := by simpa using hc4
      refine aw_seq (fun K hK => ?_)
      refine aw_region ?_
      refine al_p rfl (st_assign rfl ?_)
      refine al_nil ?_
      refine x_then ?_
      refine hK _ ?_
      clear hK K
      refine aw_ret ?_
      refine x_thenR ?_
      clear hK K
      refine e_ret ?_
      first | (exfalso; first | contradiction | omega) | (exact vb (by rw [evalR, if_pos hq]))
    · have hc4 := bp hb4
      have hq : ¬ (soundL t = false ∨ hasR t.fld c = false ∨ t.other ≠ 0 ∧ hasR t.other c = false) := by simpa using hc4
      have ht := sound_ok (by simpa using fun e : soundL t = false => hq (.inl e))
      refine aw_skip ?_
      refine x_then ?_
      refine hK _ ?_
      clear hK K
      refine aw_seq (fun K hK => ?_)
      refine aw_mid (⟨look [(2, .bp 0 0), (3, .bp 1 0), (4, .v (.bool false)), (37, .v (.bool (!itemL t.fld && !itemL t.other)))], ⟨[tstA t, ctxA c k], []⟩⟩) ?_ ?_
      · skip
        refine aw_region ?_
        refine al_p rfl (st_fieldB rfl ?_)
        refine al_p rfl (st_loadB1 rfl rfl rfl ?_)
        refine al_p rfl (q_call (RofItems _) ?_)
        rintro r rfl
        refine al_p rfl (st_not rfl ?_)
        refine al_p rfl (st_move rfl ?_)
        refine al_gs true rfl rfl (fun hb5 => ?_) (fun hb5 => ?_)
        · have hc5 := bp hb5
          refine g_y (st_fieldB rfl ?_)
          refine g_y (st_loadB1 rfl rfl rfl ?_)
          refine g_y (q_call (RofItems _) ?_)
          rintro r rfl
          refine g_y (st_not rfl ?_)
          refine al_p rfl (p_t ?_)
          refine al_nil ?_
          refine x_then ?_
          first | (exfalso; first | contradiction | omega) | exact weak_of 2 0 rfl rfl rfl rfl (by repeat (first | exact Sub.nil | refine Sub.cons _ _ _ rfl rfl ?_ | refine Sub.any _ _ ?_ | refine Sub.sl _ _ _ _ _ rfl ?_ | refine Sub.slnil _ _ _ rfl ?_ | (apply Sub.of; (focus exact rfl); (focus exact LeA.of_eq (vb (by simp [*]))); (focus exact rfl))))
        · have hc5 := bp hb5
          refine g_n ?_
          refine g_n ?_
          refine g_n ?_
          refine g_n ?_
          refine al_p rfl (p_f ?_)
          refine al_nil ?_
          refine x_then ?_
          first | (exfalso; first | contradiction | omega) | exact weak_of 2 0 rfl rfl rfl rfl (by repeat (first | exact Sub.nil | refine Sub.cons _ _ _ rfl rfl ?_ | refine Sub.any _ _ ?_ | refine Sub.sl _ _ _ _ _ rfl ?_ | refine Sub.slnil _ _ _ rfl ?_ | (apply Sub.of; (focus exact rfl); (focus exact LeA.of_eq (vb (by simp [*]))); (focus exact rfl))))
      · skip
        refine aw_cond rfl (fun hb6 => ?_) (fun hb6 => ?_)
        · have hc6 := bp hb6
          have hi : itemL t.fld = false ∧ itemL t.other = false := by simpa using hc6
          refine aw_seq (fun K hK => ?_)
          refine aw_region ?_
          refine al_p rfl (st_loadBW rfl rfl rfl ?_)
          refine al_p rfl (st_loadBW rfl rfl rfl ?_)
          refine al_p rfl (st_build (by repeat (first | exact FillA.nil _ | (apply FillA.cons; (focus exact rfl); (focus exact rfl); (focus exact rfl); (focus exact rfl); (focus exact rfl); (focus (repeat constructor))))) ?_)
          refine al_p rfl (q_call (Rone t c k Itm.zero ht) ?_)
          rintro r rfl
          refine al_p rfl (st_assign rfl ?_)
          refine al_nil ?_
          refine x_then ?_
          refine hK _ ?_
          clear hK K
          refine aw_ret ?_
          refine x_thenR ?_
          clear hK K
          refine e_ret ?_
          first | (exfalso; first | contradiction | omega) | (exact vb (by rw [evalR, if_neg hq, if_pos hi]))
        · have hc6 := bp hb6
          have hi : ¬ (itemL t.fld = false ∧ itemL t.other = false) := by simpa using hc6
          refine aw_skip ?_
          refine x_then ?_
          refine hK _ ?_
          clear hK K
          refine aw_seq (fun K hK => ?_)
          refine aw_seq (fun K hK => ?_)
          refine aw_region ?_
          refine al_p rfl (st_assign rfl ?_)
          refine al_nil ?_
          refine x_then ?_
          refine hK _ ?_
          clear hK K
          refine aw_block ?_
          refine aw_loopW (fun n s => ∃ j : Nat, j ≤ c.items.length ∧ n = c.items.length - j ∧ (c.items.take j).any (fun y => itmOk y && tstL t c y) = false ∧ s = ⟨look [(2, .bp 0 0), (3, .bp 1 0), (5, .v (.int .i64 (j : Int)))], ⟨[tstA t, ctxA c k], []⟩⟩) (c.items.length) ((wk 2 0)) (⟨0, by omega, rfl, rfl, rfl⟩) ?_
          rintro n s ⟨j, hj, rfl, ha, rfl⟩
          refine aw_seq (fun K hK => ?_)
          refine aw_seq (fun K hK => ?_)
          refine aw_region ?_
          refine al_p rfl (st_move rfl ?_)
          refine al_p rfl (st_fieldB rfl ?_)
          refine al_p rfl (st_loadB1 rfl rfl rfl ?_)
          first | refine al_p rfl (st_len rfl ?_) | refine al_p rfl (st_lenS (by kernel_rfl) rfl ?_) | refine al_p rfl (st_len0 rfl ?_)
          first | refine al_p rfl (st_lss rfl rfl ?_) | refine al_p rfl (st_lssS rfl rfl ?_)
          refine al_nil ?_
          refine x_then ?_
          refine hK _ ?_
          clear hK K
          refine aw_cond rfl (fun hb7 => ?_) (fun hb7 => ?_)
          · have hc7 := bp hb7
            obtain ⟨hlt, y, hy, hrow, -⟩ := row_at itmA hc7
            refine aw_skip ?_
            refine x_then ?_
            refine hK _ ?_
            clear hK K
            refine aw_seq (fun K hK => ?_)
            refine aw_block ?_
            refine aw_seq (fun K hK => ?_)
            refine aw_drawR 18 (by kernel_rfl) ?_
            refine r_y (i := 0) rfl (st_fieldB rfl ⟨rfl, rfl⟩) ?_
            refine r_y (i := 1) rfl (st_loadB1 rfl rfl rfl ⟨rfl, rfl⟩) ?_
            refine r_y (i := 2) rfl (st_move rfl ⟨rfl, rfl⟩) ?_
            refine r_y (i := 3) rfl (st_index rfl rfl rfl (by first | assumption | rfl) ⟨rfl, rfl⟩) ?_
            refine r_y (i := 4) rfl (st_fieldF rfl ⟨rfl, rfl⟩) ?_
            refine r_y (i := 5) rfl (st_loadFN rfl rfl ⟨rfl, rfl⟩) ?_
            refine r_y (i := 6) rfl (st_build (by repeat (first | exact FillA.nil _ | (apply FillA.cons; (focus exact rfl); (focus exact rfl); (focus exact rfl); (focus exact rfl); (focus exact rfl); (focus (repeat constructor))))) ⟨rfl, rfl⟩) ?_
            refine r_y (i := 7) rfl (st_binA rfl rfl (by repeat constructor) (by repeat constructor) (fun w => neqFil _ _ _ _ w) (by kernel_rfl) ⟨rfl, rfl⟩) ?_
            refine r_y (i := 8) rfl (st_move rfl ⟨rfl, rfl⟩) ?_
            refine aa_both (j := 8) rfl (fun hb8 => ?_) (fun hb8 => ?_)
            · have hc8 := bp hb8
              refine r_y (i := 9) rfl (st_loadBW rfl rfl rfl ⟨rfl, rfl⟩) ?_
              refine r_y (i := 10) rfl (st_loadBW rfl rfl rfl ⟨rfl, rfl⟩) ?_
              refine r_y (i := 11) rfl (st_fieldB rfl ⟨rfl, rfl⟩) ?_
              refine r_y (i := 12) rfl (st_loadB1 rfl rfl rfl ⟨rfl, rfl⟩) ?_
              refine r_y (i := 13) rfl (st_move rfl ⟨rfl, rfl⟩) ?_
              refine r_y (i := 14) rfl (st_index rfl rfl rfl (by first | assumption | rfl) ⟨rfl, rfl⟩) ?_
              refine r_y (i := 15) rfl (st_loadFW rfl rfl ⟨rfl, rfl⟩) ?_
              refine aa_c (i := 16) rfl rfl (by kernel_rfl) (by first | rfl | exact wan_y rfl rfl (beq_tt ‹_›) | exact wan_y rfl rfl (beq_ff ‹_›) | exact wan_y rfl rfl (by simp [*])) (q_call (Rone t c k y ht) ?_)
              rintro r rfl
              refine ⟨.inr rfl, ?_⟩
              refine r_y (i := 17) rfl (st_pick_t rfl (by first | rfl | assumption | simp [*]) rfl ⟨rfl, rfl⟩) ?_
              refine aa_done (by kernel_rfl) ?_ _
              refine x_then ?_
              refine hK _ ?_
              clear hK K
              refine aw_cond rfl (fun hb9 => ?_) (fun hb9 => ?_)
              · have hc9 := bp hb9
                refine aw_seq (fun K hK => ?_)
                refine aw_region ?_
                refine al_p rfl (st_assign rfl ?_)
                refine al_nil ?_
                refine x_then ?_
                refine hK _ ?_
                clear hK K
                refine aw_ret ?_
                refine x_blockR ?_
                refine x_thenR ?_
                clear hK K
                refine x_thenR ?_
                refine x_blockR ?_
                refine x_thenR ?_
                clear hK K
                refine e_ret ?_
                first | (exfalso; first | contradiction | omega) | (exact vb (by rw [evalR, if_neg hq, if_neg hi, any_of hy (by simp [itmOk, *])]))
              · have hc9 := bp hb9
                refine aw_skip ?_
                refine x_blockN ?_
                refine x_then ?_
                refine hK _ ?_
                clear hK K
                refine aw_region ?_
                refine al_p rfl (st_move rfl ?_)
                first | refine al_p rfl (st_add64 rfl rfl (by omega) ?_) | refine al_p rfl (st_addS rfl rfl (by omega) ?_) | refine al_p rfl (st_add rfl rfl ?_)
                refine al_p rfl (st_assign rfl ?_)
                refine al_nil ?_
                refine x_then ?_
                refine ⟨_, _, ?_, ⟨j + 1, by omega, rfl, (by rw [any_take _ _ _ hy, ha]; simp [itmOk, *]), rfl⟩, (wk 2 0)⟩
                omega
            · have hc8 := bp hb8
              refine r_n (i := 9) rfl rfl ?_
              refine r_n (i := 10) rfl rfl ?_
              refine r_n (i := 11) rfl rfl ?_
              refine r_n (i := 12) rfl rfl ?_
              refine r_n (i := 13) rfl rfl ?_
              refine r_n (i := 14) rfl rfl ?_
              refine r_n (i := 15) rfl rfl ?_
              refine r_n (i := 16) rfl rfl ?_
              refine r_y (i := 17) rfl (st_pick_f rfl (by first | rfl | assumption | simp [*]) rfl ⟨rfl, rfl⟩) ?_
              refine aa_done (by kernel_rfl) ?_ _
              refine x_then ?_
              refine hK _ ?_
              clear hK K
              refine aw_cn rfl (by first | rfl | assumption | simp [*]) ?_
              refine aw_skip ?_
              refine x_blockN ?_
              refine x_then ?_
              refine hK _ ?_
              clear hK K
              refine aw_region ?_
              refine al_p rfl (st_move rfl ?_)
              first | refine al_p rfl (st_add64 rfl rfl (by omega) ?_) | refine al_p rfl (st_addS rfl rfl (by omega) ?_) | refine al_p rfl (st_add rfl rfl ?_)
              refine al_p rfl (st_assign rfl ?_)
              refine al_nil ?_
              refine x_then ?_
              refine ⟨_, _, ?_, ⟨j + 1, by omega, rfl, (by rw [any_take _ _ _ hy, ha]; simp [itmOk, *]), rfl⟩, (wk 2 0)⟩
              omega
          · have hc7 := bp hb7
            have e := row_no itmA hj hc7
            subst e
            rw [List.take_length] at ha
            refine aw_exit ?_
            refine x_thenE ?_
            clear hK K
            refine x_thenE ?_
            refine ABlock_out ?_
            refine x_then ?_
            refine hK _ ?_
            clear hK K
            refine aw_seq (fun K hK => ?_)
            refine aw_region ?_
            refine al_p rfl (st_assign rfl ?_)
            refine al_nil ?_
            refine x_then ?_
            refine hK _ ?_
            clear hK K
            refine aw_ret ?_
            refine e_ret ?_
            first | (exfalso; first | contradiction | omega) | (exact vb (by rw [evalR, if_neg hq, if_neg hi, ha]))

end
theorem sound_other {t : Tst} (h : soundL t = true) (h2 : t.other ≠ 0) : textL t.fld = false := by
  obtain ⟨j, _, h3⟩ := (snd_iff t 5).1 h
  unfold checkL at h3
  split at h3
  · cases h3
  · rename_i h4
    simp only [not_or, not_and] at h4
    exact owner_no_text (by simpa using (h4.2 h2).2.1)
theorem has_eq {f : Int} {c : Ctx} (h1 : 1 ≤ f) (h2 : f ≤ 22) (h3 : textL f = false) : hasP f c = hasR f c := by
  simp only [textL, decide_eq_false_iff_not] at h3
  unfold hasP hasR
  (repeat' split) <;> first | omega | (simp; omega) | (simp [*]; done) | rfl
theorem has_text {f : Int} {c : Ctx} (h : textL f = true) : hasR f c = true := by
  simp only [textL, decide_eq_true_eq] at h
  unfold hasR
  rw [if_neg (by omega)]
  simp
  omega
theorem holds_eq {t : Tst} {c : Ctx} (hs : soundL t = true) (y : Itm) : holdsP t c y = if hasR t.fld c = false ∨ t.other ≠ 0 ∧ hasR t.other c = false then false else tstL t c y := by
  obtain ⟨f1, f2, o, -, -⟩ := sound_ok hs
  have h2 := sound_other hs
  by_cases ht : textL t.fld = true
  · have ho : t.other = 0 := Classical.byContradiction fun e => by simp [h2 e] at ht
    rw [if_neg (by simp [has_text ht, ho])]
    simp [holdsP, tstL, ht]
  · have ht' : textL t.fld = false := by simpa using ht
    have e1 := has_eq (c := c) f1 f2 ht'
    by_cases h0 : t.other = 0
    · simp only [holdsP, tstL, ht', e1, h0]
      cases hasR t.fld c <;> simp
    · obtain ⟨o1, o2, o3⟩ := o.resolve_left h0
      have e2 := has_eq (c := c) o1 o2 o3
      simp only [holdsP, tstL, ht', e1, e2, h0]
      cases hasR t.fld c <;> cases hasR t.other c <;> simp [h0]
theorem eval_eq (t : Tst) (c : Ctx) : evalP t c = evalR t c := by
  unfold evalP evalR
  cases hs : soundL t with
  | false => simp
  | true =>
    simp only [holds_eq hs]
    by_cases hq : hasR t.fld c = false ∨ t.other ≠ 0 ∧ hasR t.other c = false
    · simp [hq]
    · simp [hq]
end Go.Proofs.YtokaaebbmcldaaaGreatDoor
