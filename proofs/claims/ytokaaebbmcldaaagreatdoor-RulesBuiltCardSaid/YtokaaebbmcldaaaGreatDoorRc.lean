/-
  Tests: their first error, and their truth for one item, in the program and in the reference.
-/
import Derived.Test.YtokaaebbmcldaaaGreatDoorRb
namespace Go.Proofs.YtokaaebbmcldaaaGreatDoor
open Go.RowKit

theorem size0 (s : Str) : s = ⟨#[]⟩ ↔ s.size = 0 := by
  constructor
  · intro h; rw [h]; rfl
  · intro h
    cases s with
    | mk a =>
      have : a = #[] := Array.eq_empty_of_size_eq_zero h
      rw [this]
section
set_option maxRecDepth 10000
set_option maxHeartbeats 1000000
theorem Pcheck (t : Tst) (list : Int) : AFn Tryz.prog 39 [.agg (tstA t), .v (.int .i64 list)] (fun r => r = .v (.int .i64 (checkL t list))) := by
  have hz := size0 t.text
  refine enter Tryz.func39 rfl rfl rfl rfl rfl 0 rfl ?_
  refine aw_seq (fun K hK => ?_)
  refine aw_region ?_
  first | refine al_p rfl (s_boxA rfl rfl (by repeat constructor) ?_) | refine al_p rfl (s_box rfl rfl (by repeat constructor) ?_)
  refine al_p rfl (st_assign rfl ?_)
  refine al_nil ?_
  refine x_then ?_
  refine hK _ ?_
  clear hK K
  refine aw_seq (fun K hK => ?_)
  refine aw_seq (fun K hK => ?_)
  refine aw_region ?_
  refine al_p rfl (st_move rfl ?_)
  refine al_p rfl (st_fieldB rfl ?_)
  refine al_p rfl (st_loadB1 rfl rfl rfl ?_)
  refine al_p rfl (q_call (Pallowed _ _) ?_)
  rintro r rfl
  refine al_p rfl (st_not rfl ?_)
  refine al_nil ?_
  refine x_then ?_
  refine hK _ ?_
  clear hK K
  refine aw_cond rfl (fun hb1 => ?_) (fun hb1 => ?_)
  · have hc1 := bp hb1
    refine aw_seq (fun K hK => ?_)
    refine aw_region ?_
    refine al_p rfl (st_assign rfl ?_)
    refine al_nil ?_
    refine x_then ?_
    refine hK _ ?_
    clear hK K
    refine aw_ret ?_
    refine x_thenR ?_
    clear hK K
    refine e_ret ?_
    first | (exfalso; first | contradiction | omega) | (exact vi (by unfold checkL; grind))
  · have hc1 := bp hb1
    refine aw_skip ?_
    refine x_then ?_
    refine hK _ ?_
    clear hK K
    refine aw_seq (fun K hK => ?_)
    refine aw_seq (fun K hK => ?_)
    refine aw_region ?_
    refine al_p rfl (st_fieldB rfl ?_)
    refine al_p rfl (st_loadB1 rfl rfl rfl ?_)
    first | refine al_p rfl (st_neq rfl rfl ?_) | refine al_p rfl (st_neqS rfl rfl ?_) | refine al_p rfl (st_neqB (by kernel_rfl) rfl rfl ?_)
    refine al_p rfl (st_move rfl ?_)
    refine al_gs true rfl rfl (fun hb2 => ?_) (fun hb2 => ?_)
    · have hc2 := bp hb2
      refine g_y (st_move rfl ?_)
      refine g_y (st_fieldB rfl ?_)
      refine g_y (st_loadB1 rfl rfl rfl ?_)
      refine g_y (q_call (Pallowed _ _) ?_)
      rintro r rfl
      refine g_y (st_not rfl ?_)
      refine g_y (st_move rfl ?_)
      refine al_gs false rfl rfl (fun hb3 => ?_) (fun hb3 => ?_)
      · have hc3 := bp hb3
        refine g_n ?_
        refine g_n ?_
        refine g_n ?_
        refine g_n ?_
        refine g_y (p_t ?_)
        refine g_y (st_move rfl ?_)
        refine g_n ?_
        refine g_n ?_
        refine g_n ?_
        refine g_n ?_
        refine g_y (p_t ?_)
        refine al_p rfl (p_t ?_)
        refine al_nil ?_
        refine x_then ?_
        refine hK _ ?_
        clear hK K
        refine aw_cy rfl (by first | rfl | assumption | simp [*]) ?_
        refine aw_seq (fun K hK => ?_)
        refine aw_region ?_
        refine al_p rfl (st_assign rfl ?_)
        refine al_nil ?_
        refine x_then ?_
        refine hK _ ?_
        clear hK K
        refine aw_ret ?_
        refine x_thenR ?_
        clear hK K
        refine e_ret ?_
        first | (exfalso; first | contradiction | omega) | (exact vi (by unfold checkL; grind))
      · have hc3 := bp hb3
        refine g_y (st_fieldB rfl ?_)
        refine g_y (st_loadB1 rfl rfl rfl ?_)
        refine g_y (q_call (PisOwner _) ?_)
        rintro r rfl
        refine g_y (st_not rfl ?_)
        refine g_y (p_f ?_)
        refine g_y (st_move rfl ?_)
        refine al_gs false rfl rfl (fun hb4 => ?_) (fun hb4 => ?_)
        · have hc4 := bp hb4
          refine g_n ?_
          refine g_n ?_
          refine g_n ?_
          refine g_n ?_
          refine g_y (p_t ?_)
          refine al_p rfl (p_t ?_)
          refine al_nil ?_
          refine x_then ?_
          refine hK _ ?_
          clear hK K
          refine aw_cy rfl (by first | rfl | assumption | simp [*]) ?_
          refine aw_seq (fun K hK => ?_)
          refine aw_region ?_
          refine al_p rfl (st_assign rfl ?_)
          refine al_nil ?_
          refine x_then ?_
          refine hK _ ?_
          clear hK K
          refine aw_ret ?_
          refine x_thenR ?_
          clear hK K
          refine e_ret ?_
          first | (exfalso; first | contradiction | omega) | (exact vi (by unfold checkL; grind))
        · have hc4 := bp hb4
          refine g_y (st_fieldB rfl ?_)
          refine g_y (st_loadB1 rfl rfl rfl ?_)
          refine g_y (q_call (PisOwner _) ?_)
          rintro r rfl
          refine g_y (st_not rfl ?_)
          refine g_y (p_f ?_)
          refine al_p rfl (p_t ?_)
          refine al_nil ?_
          refine x_then ?_
          refine hK _ ?_
          clear hK K
          refine aw_cond rfl (fun hb5 => ?_) (fun hb5 => ?_)
          · have hc5 := bp hb5
            refine aw_seq (fun K hK => ?_)
            refine aw_region ?_
            refine al_p rfl (st_assign rfl ?_)
            refine al_nil ?_
            refine x_then ?_
            refine hK _ ?_
            clear hK K
            refine aw_ret ?_
            refine x_thenR ?_
            clear hK K
            refine e_ret ?_
            first | (exfalso; first | contradiction | omega) | (exact vi (by unfold checkL; grind))
          · have hc5 := bp hb5
            refine aw_skip ?_
            refine x_then ?_
            refine hK _ ?_
            clear hK K
            refine aw_seq (fun K hK => ?_)
            refine aw_seq (fun K hK => ?_)
            refine aw_region ?_
            refine al_p rfl (st_fieldB rfl ?_)
            refine al_p rfl (st_loadB1 rfl rfl rfl ?_)
            first | refine al_p rfl (st_lss rfl rfl ?_) | refine al_p rfl (st_lssS rfl rfl ?_)
            refine al_p rfl (st_move rfl ?_)
            refine al_gs false rfl rfl (fun hb6 => ?_) (fun hb6 => ?_)
            · have hc6 := bp hb6
              refine g_n ?_
              refine g_n ?_
              refine g_n ?_
              refine al_p rfl (p_t ?_)
              refine al_nil ?_
              refine x_then ?_
              refine hK _ ?_
              clear hK K
              refine aw_cy rfl (by first | rfl | assumption | simp [*]) ?_
              refine aw_seq (fun K hK => ?_)
              refine aw_region ?_
              refine al_p rfl (st_assign rfl ?_)
              refine al_nil ?_
              refine x_then ?_
              refine hK _ ?_
              clear hK K
              refine aw_ret ?_
              refine x_thenR ?_
              clear hK K
              refine e_ret ?_
              first | (exfalso; first | contradiction | omega) | (exact vi (by unfold checkL; grind))
            · have hc6 := bp hb6
              refine g_y (st_fieldB rfl ?_)
              refine g_y (st_loadB1 rfl rfl rfl ?_)
              refine g_y (st_gtr rfl rfl ?_)
              refine al_p rfl (p_f ?_)
              refine al_nil ?_
              refine x_then ?_
              refine hK _ ?_
              clear hK K
              refine aw_cond rfl (fun hb7 => ?_) (fun hb7 => ?_)
              · have hc7 := bp hb7
                refine aw_seq (fun K hK => ?_)
                refine aw_region ?_
                refine al_p rfl (st_assign rfl ?_)
                refine al_nil ?_
                refine x_then ?_
                refine hK _ ?_
                clear hK K
                refine aw_ret ?_
                refine x_thenR ?_
                clear hK K
                refine e_ret ?_
                first | (exfalso; first | contradiction | omega) | (exact vi (by unfold checkL; grind))
              · have hc7 := bp hb7
                refine aw_skip ?_
                refine x_then ?_
                refine hK _ ?_
                clear hK K
                refine aw_seq (fun K hK => ?_)
                refine aw_seq (fun K hK => ?_)
                refine aw_region ?_
                refine al_p rfl (st_fieldB rfl ?_)
                refine al_p rfl (st_loadB1 rfl rfl rfl ?_)
                first | refine al_p rfl (st_neq rfl rfl ?_) | refine al_p rfl (st_neqS rfl rfl ?_) | refine al_p rfl (st_neqB (by kernel_rfl) rfl rfl ?_)
                refine al_p rfl (st_move rfl ?_)
                refine al_gs true rfl rfl (fun hb8 => ?_) (fun hb8 => ?_)
                · have hc8 := bp hb8
                  refine g_y (st_fieldB rfl ?_)
                  refine g_y (st_loadB1 rfl rfl rfl ?_)
                  first | refine g_y (st_neq rfl rfl ?_) | refine g_y (st_neqS rfl rfl ?_) | refine g_y (st_neqB (by kernel_rfl) rfl rfl ?_)
                  refine al_p rfl (p_t ?_)
                  refine al_p rfl (st_move rfl ?_)
                  refine al_gs true rfl rfl (fun hb9 => ?_) (fun hb9 => ?_)
                  · have hc9 := bp hb9
                    refine g_y (st_fieldB rfl ?_)
                    refine g_y (st_loadB1 rfl rfl rfl ?_)
                    refine g_y (q_call (PisText _) ?_)
                    rintro r rfl
                    refine g_y (st_move rfl ?_)
                    refine al_gs false rfl rfl (fun hb10 => ?_) (fun hb10 => ?_)
                    · have hc10 := bp hb10
                      refine g_n ?_
                      refine g_n ?_
                      refine g_n ?_
                      refine g_y (p_t ?_)
                      refine al_p rfl (p_t ?_)
                      refine al_nil ?_
                      refine x_then ?_
                      refine hK _ ?_
                      clear hK K
                      refine aw_cy rfl (by first | rfl | assumption | simp [*]) ?_
                      refine aw_seq (fun K hK => ?_)
                      refine aw_region ?_
                      refine al_p rfl (st_assign rfl ?_)
                      refine al_nil ?_
                      refine x_then ?_
                      refine hK _ ?_
                      clear hK K
                      refine aw_ret ?_
                      refine x_thenR ?_
                      clear hK K
                      refine e_ret ?_
                      first | (exfalso; first | contradiction | omega) | (exact vi (by unfold checkL; grind))
                    · have hc10 := bp hb10
                      refine g_y (st_fieldB rfl ?_)
                      refine g_y (st_loadB1 rfl rfl rfl ?_)
                      first | refine g_y (st_neq rfl rfl ?_) | refine g_y (st_neqS rfl rfl ?_) | refine g_y (st_neqB (by kernel_rfl) rfl rfl ?_)
                      refine g_y (p_f ?_)
                      refine al_p rfl (p_t ?_)
                      refine al_nil ?_
                      refine x_then ?_
                      refine hK _ ?_
                      clear hK K
                      refine aw_cy rfl (by first | rfl | assumption | simp [*]) ?_
                      refine aw_seq (fun K hK => ?_)
                      refine aw_region ?_
                      refine al_p rfl (st_assign rfl ?_)
                      refine al_nil ?_
                      refine x_then ?_
                      refine hK _ ?_
                      clear hK K
                      refine aw_ret ?_
                      refine x_thenR ?_
                      clear hK K
                      refine e_ret ?_
                      first | (exfalso; first | contradiction | omega) | (exact vi (by unfold checkL; grind))
                  · have hc9 := bp hb9
                    refine g_n ?_
                    refine g_n ?_
                    refine g_n ?_
                    refine g_n ?_
                    refine al_gu rfl rfl ?_
                    refine al_gu rfl rfl ?_
                    refine al_gu rfl rfl ?_
                    refine g_n ?_
                    refine al_p rfl (p_f ?_)
                    refine al_nil ?_
                    refine x_then ?_
                    refine hK _ ?_
                    clear hK K
                    refine aw_cn rfl (by first | rfl | assumption | simp [*]) ?_
                    refine aw_skip ?_
                    refine x_then ?_
                    refine hK _ ?_
                    clear hK K
                    refine aw_seq (fun K hK => ?_)
                    refine aw_block ?_
                    refine aw_seq (fun K hK => ?_)
                    refine aw_region ?_
                    refine al_p rfl (st_fieldB rfl ?_)
                    refine al_p rfl (st_loadB1 rfl rfl rfl ?_)
                    first | refine al_p rfl (st_neq rfl rfl ?_) | refine al_p rfl (st_neqS rfl rfl ?_) | refine al_p rfl (st_neqB (by kernel_rfl) rfl rfl ?_)
                    refine al_p rfl (st_move rfl ?_)
                    refine g_y (st_fieldB rfl ?_)
                    refine g_y (st_loadB1 rfl rfl rfl ?_)
                    first | refine g_y (st_neq rfl rfl ?_) | refine g_y (st_neqS rfl rfl ?_) | refine g_y (st_neqB (by kernel_rfl) rfl rfl ?_)
                    refine g_y (st_move rfl ?_)
                    refine al_gs false rfl rfl (fun hb11 => ?_) (fun hb11 => ?_)
                    · have hc11 := bp hb11
                      refine g_n ?_
                      refine g_n ?_
                      refine g_n ?_
                      refine g_y (p_t ?_)
                      refine al_p rfl (p_t ?_)
                      refine al_p rfl (st_assign rfl ?_)
                      refine al_nil ?_
                      refine x_then ?_
                      refine hK _ ?_
                      clear hK K
                      refine aw_cy rfl (by first | rfl | assumption | simp [*]) ?_
                      refine aw_seq (fun K hK => ?_)
                      refine aw_region ?_
                      refine al_p rfl (st_assign rfl ?_)
                      refine al_nil ?_
                      refine x_then ?_
                      refine hK _ ?_
                      clear hK K
                      refine aw_ret ?_
                      refine x_blockR ?_
                      refine x_thenR ?_
                      clear hK K
                      refine e_ret ?_
                      first | (exfalso; first | contradiction | omega) | (exact vi (by unfold checkL; grind))
                    · have hc11 := bp hb11
                      refine g_y (st_fieldB rfl ?_)
                      refine g_y (st_loadB1 rfl rfl rfl ?_)
                      first | refine g_y (st_neq rfl rfl ?_) | refine g_y (st_neqS rfl rfl ?_) | refine g_y (st_neqB (by kernel_rfl) rfl rfl ?_)
                      refine g_y (p_f ?_)
                      refine al_p rfl (p_t ?_)
                      refine al_p rfl (st_assign rfl ?_)
                      refine al_nil ?_
                      refine x_then ?_
                      refine hK _ ?_
                      clear hK K
                      refine aw_cond rfl (fun hb12 => ?_) (fun hb12 => ?_)
                      · have hc12 := bp hb12
                        refine aw_seq (fun K hK => ?_)
                        refine aw_region ?_
                        refine al_p rfl (st_assign rfl ?_)
                        refine al_nil ?_
                        refine x_then ?_
                        refine hK _ ?_
                        clear hK K
                        refine aw_ret ?_
                        refine x_blockR ?_
                        refine x_thenR ?_
                        clear hK K
                        refine e_ret ?_
                        first | (exfalso; first | contradiction | omega) | (exact vi (by unfold checkL; grind))
                      · have hc12 := bp hb12
                        refine aw_seq (fun K hK => ?_)
                        refine aw_region ?_
                        refine al_p rfl (st_fieldB rfl ?_)
                        refine al_p rfl (st_loadB1 rfl rfl rfl ?_)
                        refine al_p rfl (q_call (PisText _) ?_)
                        rintro r rfl
                        refine al_p rfl (st_move rfl ?_)
                        refine al_gs true rfl rfl (fun hb13 => ?_) (fun hb13 => ?_)
                        · have hc13 := bp hb13
                          refine g_y (st_fieldB rfl ?_)
                          refine g_y (st_loadB1 rfl rfl rfl ?_)
                          first | refine g_y (st_neq rfl rfl ?_) | refine g_y (st_neqS rfl rfl ?_) | refine g_y (st_neqB (by kernel_rfl) rfl rfl ?_)
                          refine g_y (st_move rfl ?_)
                          refine g_y (st_fieldB rfl ?_)
                          refine g_y (st_loadB1 rfl rfl rfl ?_)
                          first | refine g_y (st_eql rfl rfl ?_) | refine g_y (st_eqlS rfl rfl ?_) | refine g_y (st_eqlB (by kernel_rfl) rfl rfl ?_)
                          refine g_y (p_f ?_)
                          refine g_y (st_move rfl ?_)
                          refine g_n ?_
                          refine g_n ?_
                          refine g_n ?_
                          refine g_n ?_
                          refine g_y (p_t ?_)
                          refine al_p rfl (p_t ?_)
                          refine al_p rfl (st_assign rfl ?_)
                          refine al_nil ?_
                          refine x_then ?_
                          refine hK _ ?_
                          clear hK K
                          refine aw_cy rfl (by first | rfl | assumption | simp [*]) ?_
                          refine aw_seq (fun K hK => ?_)
                          refine aw_region ?_
                          refine al_p rfl (st_assign rfl ?_)
                          refine al_nil ?_
                          refine x_then ?_
                          refine hK _ ?_
                          clear hK K
                          refine aw_ret ?_
                          refine x_blockR ?_
                          refine x_thenR ?_
                          clear hK K
                          refine e_ret ?_
                          first | (exfalso; first | contradiction | omega) | (exact vi (by unfold checkL; grind))
                        · have hc13 := bp hb13
                          refine g_n ?_
                          refine g_n ?_
                          refine g_n ?_
                          refine g_n ?_
                          refine al_gu rfl rfl ?_
                          refine al_gu rfl rfl ?_
                          refine al_gu rfl rfl ?_
                          refine g_n ?_
                          refine g_n ?_
                          refine al_gu rfl rfl ?_
                          refine al_gu rfl rfl ?_
                          refine al_gu rfl rfl ?_
                          refine al_gu rfl rfl ?_
                          refine g_n ?_
                          refine al_p rfl (p_f ?_)
                          refine al_p rfl (st_assign rfl ?_)
                          refine al_nil ?_
                          refine x_then ?_
                          refine hK _ ?_
                          clear hK K
                          refine aw_cn rfl (by first | rfl | assumption | simp [*]) ?_
                          refine aw_seq (fun K hK => ?_)
                          refine aw_region ?_
                          refine al_p rfl (st_fieldB rfl ?_)
                          refine al_p rfl (st_loadB1 rfl rfl rfl ?_)
                          refine al_p rfl (q_call (PisText _) ?_)
                          rintro r rfl
                          refine al_p rfl (st_not rfl ?_)
                          refine al_p rfl (st_move rfl ?_)
                          refine g_y (st_fieldB rfl ?_)
                          refine g_y (st_loadB1 rfl rfl rfl ?_)
                          first | refine g_y (st_neq rfl rfl ?_) | refine g_y (st_neqS rfl rfl ?_) | refine g_y (st_neqB (by kernel_rfl) rfl rfl ?_)
                          refine al_p rfl (p_t ?_)
                          refine al_p rfl (st_assign rfl ?_)
                          refine al_nil ?_
                          refine x_then ?_
                          refine hK _ ?_
                          clear hK K
                          refine aw_cn rfl (by first | rfl | assumption | simp [*]) ?_
                          refine aw_skip ?_
                          refine x_blockN ?_
                          refine x_then ?_
                          refine hK _ ?_
                          clear hK K
                          refine aw_seq (fun K hK => ?_)
                          refine aw_region ?_
                          refine al_p rfl (st_assign rfl ?_)
                          refine al_nil ?_
                          refine x_then ?_
                          refine hK _ ?_
                          clear hK K
                          refine aw_ret ?_
                          refine e_ret ?_
                          first | (exfalso; first | contradiction | omega) | (exact vi (by unfold checkL; grind))
                · have hc8 := bp hb8
                  refine g_n ?_
                  refine g_n ?_
                  refine g_n ?_
                  refine al_p rfl (p_f ?_)
                  refine al_p rfl (st_move rfl ?_)
                  refine g_n ?_
                  refine g_n ?_
                  refine g_n ?_
                  refine g_n ?_
                  refine al_gu rfl rfl ?_
                  refine al_gu rfl rfl ?_
                  refine al_gu rfl rfl ?_
                  refine g_n ?_
                  refine al_p rfl (p_f ?_)
                  refine al_nil ?_
                  refine x_then ?_
                  refine hK _ ?_
                  clear hK K
                  refine aw_cn rfl (by first | rfl | assumption | simp [*]) ?_
                  refine aw_skip ?_
                  refine x_then ?_
                  refine hK _ ?_
                  clear hK K
                  refine aw_seq (fun K hK => ?_)
                  refine aw_block ?_
                  refine aw_seq (fun K hK => ?_)
                  refine aw_region ?_
                  refine al_p rfl (st_fieldB rfl ?_)
                  refine al_p rfl (st_loadB1 rfl rfl rfl ?_)
                  first | refine al_p rfl (st_neq rfl rfl ?_) | refine al_p rfl (st_neqS rfl rfl ?_) | refine al_p rfl (st_neqB (by kernel_rfl) rfl rfl ?_)
                  refine al_p rfl (st_move rfl ?_)
                  refine g_y (st_fieldB rfl ?_)
                  refine g_y (st_loadB1 rfl rfl rfl ?_)
                  first | refine g_y (st_neq rfl rfl ?_) | refine g_y (st_neqS rfl rfl ?_) | refine g_y (st_neqB (by kernel_rfl) rfl rfl ?_)
                  refine g_y (st_move rfl ?_)
                  refine al_gs false rfl rfl (fun hb14 => ?_) (fun hb14 => ?_)
                  · have hc14 := bp hb14
                    refine g_n ?_
                    refine g_n ?_
                    refine g_n ?_
                    refine g_y (p_t ?_)
                    refine al_p rfl (p_t ?_)
                    refine al_p rfl (st_assign rfl ?_)
                    refine al_nil ?_
                    refine x_then ?_
                    refine hK _ ?_
                    clear hK K
                    refine aw_cy rfl (by first | rfl | assumption | simp [*]) ?_
                    refine aw_seq (fun K hK => ?_)
                    refine aw_region ?_
                    refine al_p rfl (st_assign rfl ?_)
                    refine al_nil ?_
                    refine x_then ?_
                    refine hK _ ?_
                    clear hK K
                    refine aw_ret ?_
                    refine x_blockR ?_
                    refine x_thenR ?_
                    clear hK K
                    refine e_ret ?_
                    first | (exfalso; first | contradiction | omega) | (exact vi (by unfold checkL; grind))
                  · have hc14 := bp hb14
                    refine g_y (st_fieldB rfl ?_)
                    refine g_y (st_loadB1 rfl rfl rfl ?_)
                    first | refine g_y (st_neq rfl rfl ?_) | refine g_y (st_neqS rfl rfl ?_) | refine g_y (st_neqB (by kernel_rfl) rfl rfl ?_)
                    refine g_y (p_f ?_)
                    refine al_p rfl (p_t ?_)
                    refine al_p rfl (st_assign rfl ?_)
                    refine al_nil ?_
                    refine x_then ?_
                    refine hK _ ?_
                    clear hK K
                    refine aw_cond rfl (fun hb15 => ?_) (fun hb15 => ?_)
                    · have hc15 := bp hb15
                      refine aw_seq (fun K hK => ?_)
                      refine aw_region ?_
                      refine al_p rfl (st_assign rfl ?_)
                      refine al_nil ?_
                      refine x_then ?_
                      refine hK _ ?_
                      clear hK K
                      refine aw_ret ?_
                      refine x_blockR ?_
                      refine x_thenR ?_
                      clear hK K
                      refine e_ret ?_
                      first | (exfalso; first | contradiction | omega) | (exact vi (by unfold checkL; grind))
                    · have hc15 := bp hb15
                      refine aw_seq (fun K hK => ?_)
                      refine aw_region ?_
                      refine al_p rfl (st_fieldB rfl ?_)
                      refine al_p rfl (st_loadB1 rfl rfl rfl ?_)
                      refine al_p rfl (q_call (PisText _) ?_)
                      rintro r rfl
                      refine al_p rfl (st_move rfl ?_)
                      refine al_gs true rfl rfl (fun hb16 => ?_) (fun hb16 => ?_)
                      · have hc16 := bp hb16
                        refine g_y (st_fieldB rfl ?_)
                        refine g_y (st_loadB1 rfl rfl rfl ?_)
                        first | refine g_y (st_neq rfl rfl ?_) | refine g_y (st_neqS rfl rfl ?_) | refine g_y (st_neqB (by kernel_rfl) rfl rfl ?_)
                        refine g_y (st_move rfl ?_)
                        refine g_y (st_fieldB rfl ?_)
                        refine g_y (st_loadB1 rfl rfl rfl ?_)
                        first | refine g_y (st_eql rfl rfl ?_) | refine g_y (st_eqlS rfl rfl ?_) | refine g_y (st_eqlB (by kernel_rfl) rfl rfl ?_)
                        refine g_y (p_f ?_)
                        refine g_y (st_move rfl ?_)
                        refine g_n ?_
                        refine g_n ?_
                        refine g_n ?_
                        refine g_n ?_
                        refine g_y (p_t ?_)
                        refine al_p rfl (p_t ?_)
                        refine al_p rfl (st_assign rfl ?_)
                        refine al_nil ?_
                        refine x_then ?_
                        refine hK _ ?_
                        clear hK K
                        refine aw_cy rfl (by first | rfl | assumption | simp [*]) ?_
                        refine aw_seq (fun K hK => ?_)
                        refine aw_region ?_
                        refine al_p rfl (st_assign rfl ?_)
                        refine al_nil ?_
                        refine x_then ?_
                        refine hK _ ?_
                        clear hK K
                        refine aw_ret ?_
                        refine x_blockR ?_
                        refine x_thenR ?_
                        clear hK K
                        refine e_ret ?_
                        first | (exfalso; first | contradiction | omega) | (exact vi (by unfold checkL; grind))
                      · have hc16 := bp hb16
                        refine g_n ?_
                        refine g_n ?_
                        refine g_n ?_
                        refine g_n ?_
                        refine al_gu rfl rfl ?_
                        refine al_gu rfl rfl ?_
                        refine al_gu rfl rfl ?_
                        refine g_n ?_
                        refine g_n ?_
                        refine al_gu rfl rfl ?_
                        refine al_gu rfl rfl ?_
                        refine al_gu rfl rfl ?_
                        refine al_gu rfl rfl ?_
                        refine g_n ?_
                        refine al_p rfl (p_f ?_)
                        refine al_p rfl (st_assign rfl ?_)
                        refine al_nil ?_
                        refine x_then ?_
                        refine hK _ ?_
                        clear hK K
                        refine aw_cn rfl (by first | rfl | assumption | simp [*]) ?_
                        refine aw_seq (fun K hK => ?_)
                        refine aw_region ?_
                        refine al_p rfl (st_fieldB rfl ?_)
                        refine al_p rfl (st_loadB1 rfl rfl rfl ?_)
                        refine al_p rfl (q_call (PisText _) ?_)
                        rintro r rfl
                        refine al_p rfl (st_not rfl ?_)
                        refine al_p rfl (st_move rfl ?_)
                        refine g_y (st_fieldB rfl ?_)
                        refine g_y (st_loadB1 rfl rfl rfl ?_)
                        first | refine g_y (st_neq rfl rfl ?_) | refine g_y (st_neqS rfl rfl ?_) | refine g_y (st_neqB (by kernel_rfl) rfl rfl ?_)
                        refine al_p rfl (p_t ?_)
                        refine al_p rfl (st_assign rfl ?_)
                        refine al_nil ?_
                        refine x_then ?_
                        refine hK _ ?_
                        clear hK K
                        refine aw_cn rfl (by first | rfl | assumption | simp [*]) ?_
                        refine aw_skip ?_
                        refine x_blockN ?_
                        refine x_then ?_
                        refine hK _ ?_
                        clear hK K
                        refine aw_seq (fun K hK => ?_)
                        refine aw_region ?_
                        refine al_p rfl (st_assign rfl ?_)
                        refine al_nil ?_
                        refine x_then ?_
                        refine hK _ ?_
                        clear hK K
                        refine aw_ret ?_
                        refine e_ret ?_
                        first | (exfalso; first | contradiction | omega) | (exact vi (by unfold checkL; grind))
    · have hc2 := bp hb2
      refine g_n ?_
      refine g_n ?_
      refine g_n ?_
      refine g_n ?_
      refine g_n ?_
      refine g_n ?_
      refine al_gu rfl rfl ?_
      refine al_gu rfl rfl ?_
      refine al_gu rfl rfl ?_
      refine al_gu rfl rfl ?_
      refine g_n ?_
      refine g_n ?_
      refine al_gu rfl rfl ?_
      refine al_gu rfl rfl ?_
      refine al_gu rfl rfl ?_
      refine al_gu rfl rfl ?_
      refine g_n ?_
      refine al_p rfl (p_f ?_)
      refine al_nil ?_
      refine x_then ?_
      refine hK _ ?_
      clear hK K
      refine aw_cn rfl (by first | rfl | assumption | simp [*]) ?_
      refine aw_skip ?_
      refine x_then ?_
      refine hK _ ?_
      clear hK K
      refine aw_seq (fun K hK => ?_)
      refine aw_seq (fun K hK => ?_)
      refine aw_region ?_
      refine al_p rfl (st_fieldB rfl ?_)
      refine al_p rfl (st_loadB1 rfl rfl rfl ?_)
      first | refine al_p rfl (st_lss rfl rfl ?_) | refine al_p rfl (st_lssS rfl rfl ?_)
      refine al_p rfl (st_move rfl ?_)
      refine al_gs false rfl rfl (fun hb17 => ?_) (fun hb17 => ?_)
      · have hc17 := bp hb17
        refine g_n ?_
        refine g_n ?_
        refine g_n ?_
        refine al_p rfl (p_t ?_)
        refine al_nil ?_
        refine x_then ?_
        refine hK _ ?_
        clear hK K
        refine aw_cy rfl (by first | rfl | assumption | simp [*]) ?_
        refine aw_seq (fun K hK => ?_)
        refine aw_region ?_
        refine al_p rfl (st_assign rfl ?_)
        refine al_nil ?_
        refine x_then ?_
        refine hK _ ?_
        clear hK K
        refine aw_ret ?_
        refine x_thenR ?_
        clear hK K
        refine e_ret ?_
        first | (exfalso; first | contradiction | omega) | (exact vi (by unfold checkL; grind))
      · have hc17 := bp hb17
        refine g_y (st_fieldB rfl ?_)
        refine g_y (st_loadB1 rfl rfl rfl ?_)
        refine g_y (st_gtr rfl rfl ?_)
        refine al_p rfl (p_f ?_)
        refine al_nil ?_
        refine x_then ?_
        refine hK _ ?_
        clear hK K
        refine aw_cond rfl (fun hb18 => ?_) (fun hb18 => ?_)
        · have hc18 := bp hb18
          refine aw_seq (fun K hK => ?_)
          refine aw_region ?_
          refine al_p rfl (st_assign rfl ?_)
          refine al_nil ?_
          refine x_then ?_
          refine hK _ ?_
          clear hK K
          refine aw_ret ?_
          refine x_thenR ?_
          clear hK K
          refine e_ret ?_
          first | (exfalso; first | contradiction | omega) | (exact vi (by unfold checkL; grind))
        · have hc18 := bp hb18
          refine aw_skip ?_
          refine x_then ?_
          refine hK _ ?_
          clear hK K
          refine aw_seq (fun K hK => ?_)
          refine aw_seq (fun K hK => ?_)
          refine aw_region ?_
          refine al_p rfl (st_fieldB rfl ?_)
          refine al_p rfl (st_loadB1 rfl rfl rfl ?_)
          first | refine al_p rfl (st_neq rfl rfl ?_) | refine al_p rfl (st_neqS rfl rfl ?_) | refine al_p rfl (st_neqB (by kernel_rfl) rfl rfl ?_)
          refine al_p rfl (st_move rfl ?_)
          refine al_gs true rfl rfl (fun hb19 => ?_) (fun hb19 => ?_)
          · have hc19 := bp hb19
            refine g_y (st_fieldB rfl ?_)
            refine g_y (st_loadB1 rfl rfl rfl ?_)
            first | refine g_y (st_neq rfl rfl ?_) | refine g_y (st_neqS rfl rfl ?_) | refine g_y (st_neqB (by kernel_rfl) rfl rfl ?_)
            refine al_p rfl (p_t ?_)
            refine al_p rfl (st_move rfl ?_)
            refine al_gs true rfl rfl (fun hb20 => ?_) (fun hb20 => ?_)
            · have hc20 := bp hb20
              refine g_y (st_fieldB rfl ?_)
              refine g_y (st_loadB1 rfl rfl rfl ?_)
              refine g_y (q_call (PisText _) ?_)
              rintro r rfl
              refine g_y (st_move rfl ?_)
              refine al_gs false rfl rfl (fun hb21 => ?_) (fun hb21 => ?_)
              · have hc21 := bp hb21
                refine g_n ?_
                refine g_n ?_
                refine g_n ?_
                refine g_y (p_t ?_)
                refine al_p rfl (p_t ?_)
                refine al_nil ?_
                refine x_then ?_
                refine hK _ ?_
                clear hK K
                refine aw_cy rfl (by first | rfl | assumption | simp [*]) ?_
                refine aw_seq (fun K hK => ?_)
                refine aw_region ?_
                refine al_p rfl (st_assign rfl ?_)
                refine al_nil ?_
                refine x_then ?_
                refine hK _ ?_
                clear hK K
                refine aw_ret ?_
                refine x_thenR ?_
                clear hK K
                refine e_ret ?_
                first | (exfalso; first | contradiction | omega) | (exact vi (by unfold checkL; grind))
              · have hc21 := bp hb21
                refine g_y (st_fieldB rfl ?_)
                refine g_y (st_loadB1 rfl rfl rfl ?_)
                first | refine g_y (st_neq rfl rfl ?_) | refine g_y (st_neqS rfl rfl ?_) | refine g_y (st_neqB (by kernel_rfl) rfl rfl ?_)
                refine g_y (p_f ?_)
                refine al_p rfl (p_t ?_)
                refine al_nil ?_
                refine x_then ?_
                refine hK _ ?_
                clear hK K
                refine aw_cn rfl (by first | rfl | assumption | simp [*]) ?_
                refine aw_skip ?_
                refine x_then ?_
                refine hK _ ?_
                clear hK K
                refine aw_seq (fun K hK => ?_)
                refine aw_block ?_
                refine aw_seq (fun K hK => ?_)
                refine aw_region ?_
                refine al_p rfl (st_fieldB rfl ?_)
                refine al_p rfl (st_loadB1 rfl rfl rfl ?_)
                first | refine al_p rfl (st_neq rfl rfl ?_) | refine al_p rfl (st_neqS rfl rfl ?_) | refine al_p rfl (st_neqB (by kernel_rfl) rfl rfl ?_)
                refine al_p rfl (st_move rfl ?_)
                refine g_n ?_
                refine g_n ?_
                refine g_n ?_
                refine g_n ?_
                refine al_gu rfl rfl ?_
                refine al_gu rfl rfl ?_
                refine al_gu rfl rfl ?_
                refine g_n ?_
                refine al_p rfl (p_f ?_)
                refine al_p rfl (st_assign rfl ?_)
                refine al_nil ?_
                refine x_then ?_
                refine hK _ ?_
                clear hK K
                refine aw_cn rfl (by first | rfl | assumption | simp [*]) ?_
                refine aw_seq (fun K hK => ?_)
                refine aw_region ?_
                refine al_p rfl (st_fieldB rfl ?_)
                refine al_p rfl (st_loadB1 rfl rfl rfl ?_)
                refine al_p rfl (q_call (PisText _) ?_)
                rintro r rfl
                refine al_p rfl (st_move rfl ?_)
                refine g_n ?_
                refine g_n ?_
                refine g_n ?_
                refine g_n ?_
                refine al_gu rfl rfl ?_
                refine al_gu rfl rfl ?_
                refine al_gu rfl rfl ?_
                refine g_n ?_
                refine g_n ?_
                refine al_gu rfl rfl ?_
                refine al_gu rfl rfl ?_
                refine al_gu rfl rfl ?_
                refine al_gu rfl rfl ?_
                refine g_n ?_
                refine al_p rfl (p_f ?_)
                refine al_p rfl (st_assign rfl ?_)
                refine al_nil ?_
                refine x_then ?_
                refine hK _ ?_
                clear hK K
                refine aw_cn rfl (by first | rfl | assumption | simp [*]) ?_
                refine aw_seq (fun K hK => ?_)
                refine aw_region ?_
                refine al_p rfl (st_fieldB rfl ?_)
                refine al_p rfl (st_loadB1 rfl rfl rfl ?_)
                refine al_p rfl (q_call (PisText _) ?_)
                rintro r rfl
                refine al_p rfl (st_not rfl ?_)
                refine al_p rfl (st_move rfl ?_)
                refine g_y (st_fieldB rfl ?_)
                refine g_y (st_loadB1 rfl rfl rfl ?_)
                first | refine g_y (st_neq rfl rfl ?_) | refine g_y (st_neqS rfl rfl ?_) | refine g_y (st_neqB (by kernel_rfl) rfl rfl ?_)
                refine al_p rfl (p_t ?_)
                refine al_p rfl (st_assign rfl ?_)
                refine al_nil ?_
                refine x_then ?_
                refine hK _ ?_
                clear hK K
                refine aw_cond rfl (fun hb22 => ?_) (fun hb22 => ?_)
                · have hc22 := bp hb22
                  refine aw_seq (fun K hK => ?_)
                  refine aw_region ?_
                  refine al_p rfl (st_assign rfl ?_)
                  refine al_nil ?_
                  refine x_then ?_
                  refine hK _ ?_
                  clear hK K
                  refine aw_ret ?_
                  refine x_blockR ?_
                  refine x_thenR ?_
                  clear hK K
                  refine e_ret ?_
                  first | (exfalso; first | contradiction | omega) | (exact vi (by unfold checkL; grind))
                · have hc22 := bp hb22
                  refine aw_skip ?_
                  refine x_blockN ?_
                  refine x_then ?_
                  refine hK _ ?_
                  clear hK K
                  refine aw_seq (fun K hK => ?_)
                  refine aw_region ?_
                  refine al_p rfl (st_assign rfl ?_)
                  refine al_nil ?_
                  refine x_then ?_
                  refine hK _ ?_
                  clear hK K
                  refine aw_ret ?_
                  refine e_ret ?_
                  first | (exfalso; first | contradiction | omega) | (exact vi (by unfold checkL; grind))
            · have hc20 := bp hb20
              refine g_n ?_
              refine g_n ?_
              refine g_n ?_
              refine g_n ?_
              refine al_gu rfl rfl ?_
              refine al_gu rfl rfl ?_
              refine al_gu rfl rfl ?_
              refine g_n ?_
              refine al_p rfl (p_f ?_)
              refine al_nil ?_
              refine x_then ?_
              refine hK _ ?_
              clear hK K
              refine aw_cn rfl (by first | rfl | assumption | simp [*]) ?_
              refine aw_skip ?_
              refine x_then ?_
              refine hK _ ?_
              clear hK K
              refine aw_seq (fun K hK => ?_)
              refine aw_block ?_
              refine aw_seq (fun K hK => ?_)
              refine aw_region ?_
              refine al_p rfl (st_fieldB rfl ?_)
              refine al_p rfl (st_loadB1 rfl rfl rfl ?_)
              first | refine al_p rfl (st_neq rfl rfl ?_) | refine al_p rfl (st_neqS rfl rfl ?_) | refine al_p rfl (st_neqB (by kernel_rfl) rfl rfl ?_)
              refine al_p rfl (st_move rfl ?_)
              refine g_n ?_
              refine g_n ?_
              refine g_n ?_
              refine g_n ?_
              refine al_gu rfl rfl ?_
              refine al_gu rfl rfl ?_
              refine al_gu rfl rfl ?_
              refine g_n ?_
              refine al_p rfl (p_f ?_)
              refine al_p rfl (st_assign rfl ?_)
              refine al_nil ?_
              refine x_then ?_
              refine hK _ ?_
              clear hK K
              refine aw_cn rfl (by first | rfl | assumption | simp [*]) ?_
              refine aw_seq (fun K hK => ?_)
              refine aw_region ?_
              refine al_p rfl (st_fieldB rfl ?_)
              refine al_p rfl (st_loadB1 rfl rfl rfl ?_)
              refine al_p rfl (q_call (PisText _) ?_)
              rintro r rfl
              refine al_p rfl (st_move rfl ?_)
              refine al_gs true rfl rfl (fun hb23 => ?_) (fun hb23 => ?_)
              · have hc23 := bp hb23
                refine g_y (st_fieldB rfl ?_)
                refine g_y (st_loadB1 rfl rfl rfl ?_)
                first | refine g_y (st_neq rfl rfl ?_) | refine g_y (st_neqS rfl rfl ?_) | refine g_y (st_neqB (by kernel_rfl) rfl rfl ?_)
                refine g_y (st_move rfl ?_)
                refine al_gs false rfl rfl (fun hb24 => ?_) (fun hb24 => ?_)
                · have hc24 := bp hb24
                  refine g_n ?_
                  refine g_n ?_
                  refine g_n ?_
                  refine g_y (p_t ?_)
                  refine g_y (st_move rfl ?_)
                  refine g_n ?_
                  refine g_n ?_
                  refine g_n ?_
                  refine g_n ?_
                  refine g_y (p_t ?_)
                  refine al_p rfl (p_t ?_)
                  refine al_p rfl (st_assign rfl ?_)
                  refine al_nil ?_
                  refine x_then ?_
                  refine hK _ ?_
                  clear hK K
                  refine aw_cy rfl (by first | rfl | assumption | simp [*]) ?_
                  refine aw_seq (fun K hK => ?_)
                  refine aw_region ?_
                  refine al_p rfl (st_assign rfl ?_)
                  refine al_nil ?_
                  refine x_then ?_
                  refine hK _ ?_
                  clear hK K
                  refine aw_ret ?_
                  refine x_blockR ?_
                  refine x_thenR ?_
                  clear hK K
                  refine e_ret ?_
                  first | (exfalso; first | contradiction | omega) | (exact vi (by unfold checkL; grind))
                · have hc24 := bp hb24
                  refine g_y (st_fieldB rfl ?_)
                  refine g_y (st_loadB1 rfl rfl rfl ?_)
                  first | refine g_y (st_eql rfl rfl ?_) | refine g_y (st_eqlS rfl rfl ?_) | refine g_y (st_eqlB (by kernel_rfl) rfl rfl ?_)
                  refine g_y (p_f ?_)
                  refine g_y (st_move rfl ?_)
                  refine al_gs false rfl rfl (fun hb25 => ?_) (fun hb25 => ?_)
                  · have hc25 := bp hb25
                    refine g_n ?_
                    refine g_n ?_
                    refine g_n ?_
                    refine g_n ?_
                    refine g_y (p_t ?_)
                    refine al_p rfl (p_t ?_)
                    refine al_p rfl (st_assign rfl ?_)
                    refine al_nil ?_
                    refine x_then ?_
                    refine hK _ ?_
                    clear hK K
                    refine aw_cy rfl (by first | rfl | assumption | simp [*]) ?_
                    refine aw_seq (fun K hK => ?_)
                    refine aw_region ?_
                    refine al_p rfl (st_assign rfl ?_)
                    refine al_nil ?_
                    refine x_then ?_
                    refine hK _ ?_
                    clear hK K
                    refine aw_ret ?_
                    refine x_blockR ?_
                    refine x_thenR ?_
                    clear hK K
                    refine e_ret ?_
                    first | (exfalso; first | contradiction | omega) | (exact vi (by unfold checkL; grind))
                  · have hc25 := bp hb25
                    refine g_y (st_fieldB rfl ?_)
                    refine g_y (st_loadB1 rfl rfl rfl ?_)
                    first | refine g_y (st_len rfl ?_) | refine g_y (st_lenS (by kernel_rfl) rfl ?_) | refine g_y (st_len0 rfl ?_)
                    refine g_y (st_gtr rfl rfl ?_)
                    refine g_y (p_f ?_)
                    refine al_p rfl (p_t ?_)
                    refine al_p rfl (st_assign rfl ?_)
                    refine al_nil ?_
                    refine x_then ?_
                    refine hK _ ?_
                    clear hK K
                    refine aw_cond rfl (fun hb26 => ?_) (fun hb26 => ?_)
                    · have hc26 := bp hb26
                      refine aw_seq (fun K hK => ?_)
                      refine aw_region ?_
                      refine al_p rfl (st_assign rfl ?_)
                      refine al_nil ?_
                      refine x_then ?_
                      refine hK _ ?_
                      clear hK K
                      refine aw_ret ?_
                      refine x_blockR ?_
                      refine x_thenR ?_
                      clear hK K
                      refine e_ret ?_
                      first | (exfalso; first | contradiction | omega) | (exact vi (by unfold checkL; grind))
                    · have hc26 := bp hb26
                      refine aw_seq (fun K hK => ?_)
                      refine aw_region ?_
                      refine al_p rfl (st_fieldB rfl ?_)
                      refine al_p rfl (st_loadB1 rfl rfl rfl ?_)
                      refine al_p rfl (q_call (PisText _) ?_)
                      rintro r rfl
                      refine al_p rfl (st_not rfl ?_)
                      refine al_p rfl (st_move rfl ?_)
                      refine g_n ?_
                      refine g_n ?_
                      refine g_n ?_
                      refine al_p rfl (p_f ?_)
                      refine al_p rfl (st_assign rfl ?_)
                      refine al_nil ?_
                      refine x_then ?_
                      refine hK _ ?_
                      clear hK K
                      refine aw_cn rfl (by first | rfl | assumption | simp [*]) ?_
                      refine aw_skip ?_
                      refine x_blockN ?_
                      refine x_then ?_
                      refine hK _ ?_
                      clear hK K
                      refine aw_seq (fun K hK => ?_)
                      refine aw_region ?_
                      refine al_p rfl (st_assign rfl ?_)
                      refine al_nil ?_
                      refine x_then ?_
                      refine hK _ ?_
                      clear hK K
                      refine aw_ret ?_
                      refine e_ret ?_
                      first | (exfalso; first | contradiction | omega) | (exact vi (by unfold checkL; grind))
              · have hc23 := bp hb23
                refine g_n ?_
                refine g_n ?_
                refine g_n ?_
                refine g_n ?_
                refine al_gu rfl rfl ?_
                refine al_gu rfl rfl ?_
                refine al_gu rfl rfl ?_
                refine g_n ?_
                refine g_n ?_
                refine al_gu rfl rfl ?_
                refine al_gu rfl rfl ?_
                refine al_gu rfl rfl ?_
                refine al_gu rfl rfl ?_
                refine g_n ?_
                refine al_p rfl (p_f ?_)
                refine al_p rfl (st_assign rfl ?_)
                refine al_nil ?_
                refine x_then ?_
                refine hK _ ?_
                clear hK K
                refine aw_cn rfl (by first | rfl | assumption | simp [*]) ?_
                refine aw_seq (fun K hK => ?_)
                refine aw_region ?_
                refine al_p rfl (st_fieldB rfl ?_)
                refine al_p rfl (st_loadB1 rfl rfl rfl ?_)
                refine al_p rfl (q_call (PisText _) ?_)
                rintro r rfl
                refine al_p rfl (st_not rfl ?_)
                refine al_p rfl (st_move rfl ?_)
                refine g_y (st_fieldB rfl ?_)
                refine g_y (st_loadB1 rfl rfl rfl ?_)
                first | refine g_y (st_neq rfl rfl ?_) | refine g_y (st_neqS rfl rfl ?_) | refine g_y (st_neqB (by kernel_rfl) rfl rfl ?_)
                refine al_p rfl (p_t ?_)
                refine al_p rfl (st_assign rfl ?_)
                refine al_nil ?_
                refine x_then ?_
                refine hK _ ?_
                clear hK K
                refine aw_cond rfl (fun hb27 => ?_) (fun hb27 => ?_)
                · have hc27 := bp hb27
                  refine aw_seq (fun K hK => ?_)
                  refine aw_region ?_
                  refine al_p rfl (st_assign rfl ?_)
                  refine al_nil ?_
                  refine x_then ?_
                  refine hK _ ?_
                  clear hK K
                  refine aw_ret ?_
                  refine x_blockR ?_
                  refine x_thenR ?_
                  clear hK K
                  refine e_ret ?_
                  first | (exfalso; first | contradiction | omega) | (exact vi (by unfold checkL; grind))
                · have hc27 := bp hb27
                  refine aw_skip ?_
                  refine x_blockN ?_
                  refine x_then ?_
                  refine hK _ ?_
                  clear hK K
                  refine aw_seq (fun K hK => ?_)
                  refine aw_region ?_
                  refine al_p rfl (st_assign rfl ?_)
                  refine al_nil ?_
                  refine x_then ?_
                  refine hK _ ?_
                  clear hK K
                  refine aw_ret ?_
                  refine e_ret ?_
                  first | (exfalso; first | contradiction | omega) | (exact vi (by unfold checkL; grind))
          · have hc19 := bp hb19
            refine g_n ?_
            refine g_n ?_
            refine g_n ?_
            refine al_p rfl (p_f ?_)
            refine al_p rfl (st_move rfl ?_)
            refine g_n ?_
            refine g_n ?_
            refine g_n ?_
            refine g_n ?_
            refine al_gu rfl rfl ?_
            refine al_gu rfl rfl ?_
            refine al_gu rfl rfl ?_
            refine g_n ?_
            refine al_p rfl (p_f ?_)
            refine al_nil ?_
            refine x_then ?_
            refine hK _ ?_
            clear hK K
            refine aw_cn rfl (by first | rfl | assumption | simp [*]) ?_
            refine aw_skip ?_
            refine x_then ?_
            refine hK _ ?_
            clear hK K
            refine aw_seq (fun K hK => ?_)
            refine aw_block ?_
            refine aw_seq (fun K hK => ?_)
            refine aw_region ?_
            refine al_p rfl (st_fieldB rfl ?_)
            refine al_p rfl (st_loadB1 rfl rfl rfl ?_)
            first | refine al_p rfl (st_neq rfl rfl ?_) | refine al_p rfl (st_neqS rfl rfl ?_) | refine al_p rfl (st_neqB (by kernel_rfl) rfl rfl ?_)
            refine al_p rfl (st_move rfl ?_)
            refine g_n ?_
            refine g_n ?_
            refine g_n ?_
            refine g_n ?_
            refine al_gu rfl rfl ?_
            refine al_gu rfl rfl ?_
            refine al_gu rfl rfl ?_
            refine g_n ?_
            refine al_p rfl (p_f ?_)
            refine al_p rfl (st_assign rfl ?_)
            refine al_nil ?_
            refine x_then ?_
            refine hK _ ?_
            clear hK K
            refine aw_cn rfl (by first | rfl | assumption | simp [*]) ?_
            refine aw_seq (fun K hK => ?_)
            refine aw_region ?_
            refine al_p rfl (st_fieldB rfl ?_)
            refine al_p rfl (st_loadB1 rfl rfl rfl ?_)
            refine al_p rfl (q_call (PisText _) ?_)
            rintro r rfl
            refine al_p rfl (st_move rfl ?_)
            refine al_gs true rfl rfl (fun hb28 => ?_) (fun hb28 => ?_)
            · have hc28 := bp hb28
              refine g_y (st_fieldB rfl ?_)
              refine g_y (st_loadB1 rfl rfl rfl ?_)
              first | refine g_y (st_neq rfl rfl ?_) | refine g_y (st_neqS rfl rfl ?_) | refine g_y (st_neqB (by kernel_rfl) rfl rfl ?_)
              refine g_y (st_move rfl ?_)
              refine al_gs false rfl rfl (fun hb29 => ?_) (fun hb29 => ?_)
              · have hc29 := bp hb29
                refine g_n ?_
                refine g_n ?_
                refine g_n ?_
                refine g_y (p_t ?_)
                refine g_y (st_move rfl ?_)
                refine g_n ?_
                refine g_n ?_
                refine g_n ?_
                refine g_n ?_
                refine g_y (p_t ?_)
                refine al_p rfl (p_t ?_)
                refine al_p rfl (st_assign rfl ?_)
                refine al_nil ?_
                refine x_then ?_
                refine hK _ ?_
                clear hK K
                refine aw_cy rfl (by first | rfl | assumption | simp [*]) ?_
                refine aw_seq (fun K hK => ?_)
                refine aw_region ?_
                refine al_p rfl (st_assign rfl ?_)
                refine al_nil ?_
                refine x_then ?_
                refine hK _ ?_
                clear hK K
                refine aw_ret ?_
                refine x_blockR ?_
                refine x_thenR ?_
                clear hK K
                refine e_ret ?_
                first | (exfalso; first | contradiction | omega) | (exact vi (by unfold checkL; grind))
              · have hc29 := bp hb29
                refine g_y (st_fieldB rfl ?_)
                refine g_y (st_loadB1 rfl rfl rfl ?_)
                first | refine g_y (st_eql rfl rfl ?_) | refine g_y (st_eqlS rfl rfl ?_) | refine g_y (st_eqlB (by kernel_rfl) rfl rfl ?_)
                refine g_y (p_f ?_)
                refine g_y (st_move rfl ?_)
                refine al_gs false rfl rfl (fun hb30 => ?_) (fun hb30 => ?_)
                · have hc30 := bp hb30
                  refine g_n ?_
                  refine g_n ?_
                  refine g_n ?_
                  refine g_n ?_
                  refine g_y (p_t ?_)
                  refine al_p rfl (p_t ?_)
                  refine al_p rfl (st_assign rfl ?_)
                  refine al_nil ?_
                  refine x_then ?_
                  refine hK _ ?_
                  clear hK K
                  refine aw_cy rfl (by first | rfl | assumption | simp [*]) ?_
                  refine aw_seq (fun K hK => ?_)
                  refine aw_region ?_
                  refine al_p rfl (st_assign rfl ?_)
                  refine al_nil ?_
                  refine x_then ?_
                  refine hK _ ?_
                  clear hK K
                  refine aw_ret ?_
                  refine x_blockR ?_
                  refine x_thenR ?_
                  clear hK K
                  refine e_ret ?_
                  first | (exfalso; first | contradiction | omega) | (exact vi (by unfold checkL; grind))
                · have hc30 := bp hb30
                  refine g_y (st_fieldB rfl ?_)
                  refine g_y (st_loadB1 rfl rfl rfl ?_)
                  first | refine g_y (st_len rfl ?_) | refine g_y (st_lenS (by kernel_rfl) rfl ?_) | refine g_y (st_len0 rfl ?_)
                  refine g_y (st_gtr rfl rfl ?_)
                  refine g_y (p_f ?_)
                  refine al_p rfl (p_t ?_)
                  refine al_p rfl (st_assign rfl ?_)
                  refine al_nil ?_
                  refine x_then ?_
                  refine hK _ ?_
                  clear hK K
                  refine aw_cond rfl (fun hb31 => ?_) (fun hb31 => ?_)
                  · have hc31 := bp hb31
                    refine aw_seq (fun K hK => ?_)
                    refine aw_region ?_
                    refine al_p rfl (st_assign rfl ?_)
                    refine al_nil ?_
                    refine x_then ?_
                    refine hK _ ?_
                    clear hK K
                    refine aw_ret ?_
                    refine x_blockR ?_
                    refine x_thenR ?_
                    clear hK K
                    refine e_ret ?_
                    first | (exfalso; first | contradiction | omega) | (exact vi (by unfold checkL; grind))
                  · have hc31 := bp hb31
                    refine aw_seq (fun K hK => ?_)
                    refine aw_region ?_
                    refine al_p rfl (st_fieldB rfl ?_)
                    refine al_p rfl (st_loadB1 rfl rfl rfl ?_)
                    refine al_p rfl (q_call (PisText _) ?_)
                    rintro r rfl
                    refine al_p rfl (st_not rfl ?_)
                    refine al_p rfl (st_move rfl ?_)
                    refine g_n ?_
                    refine g_n ?_
                    refine g_n ?_
                    refine al_p rfl (p_f ?_)
                    refine al_p rfl (st_assign rfl ?_)
                    refine al_nil ?_
                    refine x_then ?_
                    refine hK _ ?_
                    clear hK K
                    refine aw_cn rfl (by first | rfl | assumption | simp [*]) ?_
                    refine aw_skip ?_
                    refine x_blockN ?_
                    refine x_then ?_
                    refine hK _ ?_
                    clear hK K
                    refine aw_seq (fun K hK => ?_)
                    refine aw_region ?_
                    refine al_p rfl (st_assign rfl ?_)
                    refine al_nil ?_
                    refine x_then ?_
                    refine hK _ ?_
                    clear hK K
                    refine aw_ret ?_
                    refine e_ret ?_
                    first | (exfalso; first | contradiction | omega) | (exact vi (by unfold checkL; grind))
            · have hc28 := bp hb28
              refine g_n ?_
              refine g_n ?_
              refine g_n ?_
              refine g_n ?_
              refine al_gu rfl rfl ?_
              refine al_gu rfl rfl ?_
              refine al_gu rfl rfl ?_
              refine g_n ?_
              refine g_n ?_
              refine al_gu rfl rfl ?_
              refine al_gu rfl rfl ?_
              refine al_gu rfl rfl ?_
              refine al_gu rfl rfl ?_
              refine g_n ?_
              refine al_p rfl (p_f ?_)
              refine al_p rfl (st_assign rfl ?_)
              refine al_nil ?_
              refine x_then ?_
              refine hK _ ?_
              clear hK K
              refine aw_cn rfl (by first | rfl | assumption | simp [*]) ?_
              refine aw_seq (fun K hK => ?_)
              refine aw_region ?_
              refine al_p rfl (st_fieldB rfl ?_)
              refine al_p rfl (st_loadB1 rfl rfl rfl ?_)
              refine al_p rfl (q_call (PisText _) ?_)
              rintro r rfl
              refine al_p rfl (st_not rfl ?_)
              refine al_p rfl (st_move rfl ?_)
              refine g_y (st_fieldB rfl ?_)
              refine g_y (st_loadB1 rfl rfl rfl ?_)
              first | refine g_y (st_neq rfl rfl ?_) | refine g_y (st_neqS rfl rfl ?_) | refine g_y (st_neqB (by kernel_rfl) rfl rfl ?_)
              refine al_p rfl (p_t ?_)
              refine al_p rfl (st_assign rfl ?_)
              refine al_nil ?_
              refine x_then ?_
              refine hK _ ?_
              clear hK K
              refine aw_cond rfl (fun hb32 => ?_) (fun hb32 => ?_)
              · have hc32 := bp hb32
                refine aw_seq (fun K hK => ?_)
                refine aw_region ?_
                refine al_p rfl (st_assign rfl ?_)
                refine al_nil ?_
                refine x_then ?_
                refine hK _ ?_
                clear hK K
                refine aw_ret ?_
                refine x_blockR ?_
                refine x_thenR ?_
                clear hK K
                refine e_ret ?_
                first | (exfalso; first | contradiction | omega) | (exact vi (by unfold checkL; grind))
              · have hc32 := bp hb32
                refine aw_skip ?_
                refine x_blockN ?_
                refine x_then ?_
                refine hK _ ?_
                clear hK K
                refine aw_seq (fun K hK => ?_)
                refine aw_region ?_
                refine al_p rfl (st_assign rfl ?_)
                refine al_nil ?_
                refine x_then ?_
                refine hK _ ?_
                clear hK K
                refine aw_ret ?_
                refine e_ret ?_
                first | (exfalso; first | contradiction | omega) | (exact vi (by unfold checkL; grind))

theorem Rcheck (t : Tst) (list : Int) : AFn Tryz.prog 51 [.agg (tstA t), .v (.int .i64 list)] (fun r => r = .v (.int .i64 (checkL t list))) := by
  have hz := size0 t.text
  have ho : textL t.fld = true → ownerL t.fld = false := by unfold textL ownerL; simp; omega
  refine enter Tryz.func51 rfl rfl rfl rfl rfl 0 rfl ?_
  refine aw_seq (fun K hK => ?_)
  refine aw_region ?_
  first | refine al_p rfl (s_boxA rfl rfl (by repeat constructor) ?_) | refine al_p rfl (s_box rfl rfl (by repeat constructor) ?_)
  refine al_p rfl (st_assign rfl ?_)
  refine al_nil ?_
  refine x_then ?_
  refine hK _ ?_
  clear hK K
  refine aw_seq (fun K hK => ?_)
  refine aw_seq (fun K hK => ?_)
  refine aw_region ?_
  refine al_p rfl (st_move rfl ?_)
  refine al_p rfl (st_fieldB rfl ?_)
  refine al_p rfl (st_loadB1 rfl rfl rfl ?_)
  refine al_p rfl (q_call (Rallowed _ _) ?_)
  rintro r rfl
  refine al_p rfl (st_not rfl ?_)
  refine al_p rfl (st_move rfl ?_)
  refine al_gs false rfl rfl (fun hb1 => ?_) (fun hb1 => ?_)
  · have hc1 := bp hb1
    refine g_n ?_
    refine g_n ?_
    refine g_n ?_
    refine g_n ?_
    refine al_gu rfl rfl ?_
    refine al_gu rfl rfl ?_
    refine al_gu rfl rfl ?_
    refine al_gu rfl rfl ?_
    refine al_gu rfl rfl ?_
    refine al_gu rfl rfl ?_
    refine al_gu rfl rfl ?_
    refine al_gu rfl rfl ?_
    refine al_gu rfl rfl ?_
    refine al_gu rfl rfl ?_
    refine al_gu rfl rfl ?_
    refine al_gu rfl rfl ?_
    refine al_gu rfl rfl ?_
    refine al_gu rfl rfl ?_
    refine al_gu rfl rfl ?_
    refine al_gu rfl rfl ?_
    refine al_gu rfl rfl ?_
    refine g_n ?_
    refine al_p rfl (p_t ?_)
    refine al_nil ?_
    refine x_then ?_
    refine hK _ ?_
    clear hK K
    refine aw_cy rfl (by first | rfl | assumption | simp [*]) ?_
    refine aw_seq (fun K hK => ?_)
    refine aw_region ?_
    refine al_p rfl (st_assign rfl ?_)
    refine al_nil ?_
    refine x_then ?_
    refine hK _ ?_
    clear hK K
    refine aw_ret ?_
    refine x_thenR ?_
    clear hK K
    refine e_ret ?_
    first | (exfalso; first | contradiction | omega) | (exact vi (by unfold checkL; grind))
  · have hc1 := bp hb1
    refine g_y (st_fieldB rfl ?_)
    refine g_y (st_loadB1 rfl rfl rfl ?_)
    first | refine g_y (st_neq rfl rfl ?_) | refine g_y (st_neqS rfl rfl ?_) | refine g_y (st_neqB (by kernel_rfl) rfl rfl ?_)
    refine g_y (st_move rfl ?_)
    refine al_gs true rfl rfl (fun hb2 => ?_) (fun hb2 => ?_)
    · have hc2 := bp hb2
      refine g_y (st_move rfl ?_)
      refine g_y (st_fieldB rfl ?_)
      refine g_y (st_loadB1 rfl rfl rfl ?_)
      refine g_y (q_call (Rallowed _ _) ?_)
      rintro r rfl
      refine g_y (st_not rfl ?_)
      refine g_y (st_move rfl ?_)
      refine al_gs false rfl rfl (fun hb3 => ?_) (fun hb3 => ?_)
      · have hc3 := bp hb3
        refine g_n ?_
        refine g_n ?_
        refine g_n ?_
        refine g_n ?_
        refine g_y (p_t ?_)
        refine g_y (st_move rfl ?_)
        refine g_n ?_
        refine g_n ?_
        refine g_n ?_
        refine g_n ?_
        refine g_y (p_t ?_)
        refine g_y (p_t ?_)
        refine al_p rfl (p_f ?_)
        refine al_nil ?_
        refine x_then ?_
        refine hK _ ?_
        clear hK K
        refine aw_cy rfl (by first | rfl | assumption | simp [*]) ?_
        refine aw_seq (fun K hK => ?_)
        refine aw_region ?_
        refine al_p rfl (st_assign rfl ?_)
        refine al_nil ?_
        refine x_then ?_
        refine hK _ ?_
        clear hK K
        refine aw_ret ?_
        refine x_thenR ?_
        clear hK K
        refine e_ret ?_
        first | (exfalso; first | contradiction | omega) | (exact vi (by unfold checkL; grind))
      · have hc3 := bp hb3
        refine g_y (st_fieldB rfl ?_)
        refine g_y (st_loadB1 rfl rfl rfl ?_)
        refine g_y (q_call (Rcompared _) ?_)
        rintro r rfl
        refine g_y (st_not rfl ?_)
        refine g_y (p_f ?_)
        refine g_y (st_move rfl ?_)
        refine al_gs false rfl rfl (fun hb4 => ?_) (fun hb4 => ?_)
        · have hc4 := bp hb4
          refine g_n ?_
          refine g_n ?_
          refine g_n ?_
          refine g_n ?_
          refine g_y (p_t ?_)
          refine g_y (p_t ?_)
          refine al_p rfl (p_f ?_)
          refine al_nil ?_
          refine x_then ?_
          refine hK _ ?_
          clear hK K
          refine aw_cy rfl (by first | rfl | assumption | simp [*]) ?_
          refine aw_seq (fun K hK => ?_)
          refine aw_region ?_
          refine al_p rfl (st_assign rfl ?_)
          refine al_nil ?_
          refine x_then ?_
          refine hK _ ?_
          clear hK K
          refine aw_ret ?_
          refine x_thenR ?_
          clear hK K
          refine e_ret ?_
          first | (exfalso; first | contradiction | omega) | (exact vi (by unfold checkL; grind))
        · have hc4 := bp hb4
          refine g_y (st_fieldB rfl ?_)
          refine g_y (st_loadB1 rfl rfl rfl ?_)
          refine g_y (q_call (Rcompared _) ?_)
          rintro r rfl
          refine g_y (st_not rfl ?_)
          refine g_y (p_f ?_)
          refine g_y (p_t ?_)
          refine al_p rfl (p_f ?_)
          refine al_nil ?_
          refine x_then ?_
          refine hK _ ?_
          clear hK K
          refine aw_cond rfl (fun hb5 => ?_) (fun hb5 => ?_)
          · have hc5 := bp hb5
            refine aw_seq (fun K hK => ?_)
            refine aw_region ?_
            refine al_p rfl (st_assign rfl ?_)
            refine al_nil ?_
            refine x_then ?_
            refine hK _ ?_
            clear hK K
            refine aw_ret ?_
            refine x_thenR ?_
            clear hK K
            refine e_ret ?_
            first | (exfalso; first | contradiction | omega) | (exact vi (by unfold checkL; grind))
          · have hc5 := bp hb5
            refine aw_skip ?_
            refine x_then ?_
            refine hK _ ?_
            clear hK K
            refine aw_seq (fun K hK => ?_)
            refine aw_seq (fun K hK => ?_)
            refine aw_region ?_
            refine al_p rfl (st_fieldB rfl ?_)
            refine al_p rfl (st_loadB1 rfl rfl rfl ?_)
            first | refine al_p rfl (st_lss rfl rfl ?_) | refine al_p rfl (st_lssS rfl rfl ?_)
            refine al_p rfl (st_move rfl ?_)
            refine al_gs false rfl rfl (fun hb6 => ?_) (fun hb6 => ?_)
            · have hc6 := bp hb6
              refine g_n ?_
              refine g_n ?_
              refine g_n ?_
              refine al_p rfl (p_t ?_)
              refine al_p rfl (st_move rfl ?_)
              refine g_n ?_
              refine g_n ?_
              refine g_n ?_
              refine g_n ?_
              refine al_gu rfl rfl ?_
              refine al_gu rfl rfl ?_
              refine al_gu rfl rfl ?_
              refine al_gu rfl rfl ?_
              refine al_gu rfl rfl ?_
              refine al_gu rfl rfl ?_
              refine al_gu rfl rfl ?_
              refine al_gu rfl rfl ?_
              refine g_n ?_
              refine al_p rfl (p_t ?_)
              refine al_nil ?_
              refine x_then ?_
              refine hK _ ?_
              clear hK K
              refine aw_cy rfl (by first | rfl | assumption | simp [*]) ?_
              refine aw_seq (fun K hK => ?_)
              refine aw_region ?_
              refine al_p rfl (st_assign rfl ?_)
              refine al_nil ?_
              refine x_then ?_
              refine hK _ ?_
              clear hK K
              refine aw_ret ?_
              refine x_thenR ?_
              clear hK K
              refine e_ret ?_
              first | (exfalso; first | contradiction | omega) | (exact vi (by unfold checkL; grind))
            · have hc6 := bp hb6
              refine g_y (st_fieldB rfl ?_)
              refine g_y (st_loadB1 rfl rfl rfl ?_)
              refine g_y (st_gtr rfl rfl ?_)
              refine al_p rfl (p_f ?_)
              refine al_p rfl (st_move rfl ?_)
              refine al_gs false rfl rfl (fun hb7 => ?_) (fun hb7 => ?_)
              · have hc7 := bp hb7
                refine g_n ?_
                refine g_n ?_
                refine g_n ?_
                refine g_n ?_
                refine al_gu rfl rfl ?_
                refine al_gu rfl rfl ?_
                refine al_gu rfl rfl ?_
                refine al_gu rfl rfl ?_
                refine al_gu rfl rfl ?_
                refine al_gu rfl rfl ?_
                refine al_gu rfl rfl ?_
                refine al_gu rfl rfl ?_
                refine g_n ?_
                refine al_p rfl (p_t ?_)
                refine al_nil ?_
                refine x_then ?_
                refine hK _ ?_
                clear hK K
                refine aw_cy rfl (by first | rfl | assumption | simp [*]) ?_
                refine aw_seq (fun K hK => ?_)
                refine aw_region ?_
                refine al_p rfl (st_assign rfl ?_)
                refine al_nil ?_
                refine x_then ?_
                refine hK _ ?_
                clear hK K
                refine aw_ret ?_
                refine x_thenR ?_
                clear hK K
                refine e_ret ?_
                first | (exfalso; first | contradiction | omega) | (exact vi (by unfold checkL; grind))
              · have hc7 := bp hb7
                refine g_y (st_fieldB rfl ?_)
                refine g_y (st_loadB1 rfl rfl rfl ?_)
                refine g_y (st_gtr rfl rfl ?_)
                refine g_y (st_move rfl ?_)
                refine al_gs true rfl rfl (fun hb8 => ?_) (fun hb8 => ?_)
                · have hc8 := bp hb8
                  refine g_y (st_fieldB rfl ?_)
                  refine g_y (st_loadB1 rfl rfl rfl ?_)
                  refine g_y (q_call (Rtext _) ?_)
                  rintro r rfl
                  refine g_y (st_move rfl ?_)
                  refine al_gs false rfl rfl (fun hb9 => ?_) (fun hb9 => ?_)
                  · have hc9 := bp hb9
                    refine g_n ?_
                    refine g_n ?_
                    refine g_n ?_
                    refine g_y (p_t ?_)
                    refine g_y (p_t ?_)
                    refine al_p rfl (p_f ?_)
                    refine al_nil ?_
                    refine x_then ?_
                    refine hK _ ?_
                    clear hK K
                    refine aw_cy rfl (by first | rfl | assumption | simp [*]) ?_
                    refine aw_seq (fun K hK => ?_)
                    refine aw_region ?_
                    refine al_p rfl (st_assign rfl ?_)
                    refine al_nil ?_
                    refine x_then ?_
                    refine hK _ ?_
                    clear hK K
                    refine aw_ret ?_
                    refine x_thenR ?_
                    clear hK K
                    refine e_ret ?_
                    first | (exfalso; first | contradiction | omega) | (exact vi (by unfold checkL; grind))
                  · have hc9 := bp hb9
                    refine g_y (st_fieldB rfl ?_)
                    refine g_y (st_loadB1 rfl rfl rfl ?_)
                    first | refine g_y (st_neq rfl rfl ?_) | refine g_y (st_neqS rfl rfl ?_) | refine g_y (st_neqB (by kernel_rfl) rfl rfl ?_)
                    refine g_y (p_f ?_)
                    refine g_y (p_t ?_)
                    refine al_p rfl (p_f ?_)
                    refine al_nil ?_
                    refine x_then ?_
                    refine hK _ ?_
                    clear hK K
                    refine aw_cy rfl (by first | rfl | assumption | simp [*]) ?_
                    refine aw_seq (fun K hK => ?_)
                    refine aw_region ?_
                    refine al_p rfl (st_assign rfl ?_)
                    refine al_nil ?_
                    refine x_then ?_
                    refine hK _ ?_
                    clear hK K
                    refine aw_ret ?_
                    refine x_thenR ?_
                    clear hK K
                    refine e_ret ?_
                    first | (exfalso; first | contradiction | omega) | (exact vi (by unfold checkL; grind))
                · have hc8 := bp hb8
                  refine g_n ?_
                  refine g_n ?_
                  refine g_n ?_
                  refine g_n ?_
                  refine al_gu rfl rfl ?_
                  refine al_gu rfl rfl ?_
                  refine al_gu rfl rfl ?_
                  refine g_n ?_
                  refine g_y (p_f ?_)
                  refine al_p rfl (p_f ?_)
                  refine al_nil ?_
                  refine x_then ?_
                  refine hK _ ?_
                  clear hK K
                  refine aw_cn rfl (by first | rfl | assumption | simp [*]) ?_
                  refine aw_skip ?_
                  refine x_then ?_
                  refine hK _ ?_
                  clear hK K
                  refine aw_seq (fun K hK => ?_)
                  refine aw_seq (fun K hK => ?_)
                  refine aw_region ?_
                  refine al_p rfl (st_fieldB rfl ?_)
                  refine al_p rfl (st_loadB1 rfl rfl rfl ?_)
                  first | refine al_p rfl (st_neq rfl rfl ?_) | refine al_p rfl (st_neqS rfl rfl ?_) | refine al_p rfl (st_neqB (by kernel_rfl) rfl rfl ?_)
                  refine al_p rfl (st_move rfl ?_)
                  refine g_y (st_fieldB rfl ?_)
                  refine g_y (st_loadB1 rfl rfl rfl ?_)
                  first | refine g_y (st_neq rfl rfl ?_) | refine g_y (st_neqS rfl rfl ?_) | refine g_y (st_neqB (by kernel_rfl) rfl rfl ?_)
                  refine g_y (st_move rfl ?_)
                  refine al_gs false rfl rfl (fun hb10 => ?_) (fun hb10 => ?_)
                  · have hc10 := bp hb10
                    refine g_n ?_
                    refine g_n ?_
                    refine g_n ?_
                    refine g_y (p_t ?_)
                    refine al_p rfl (p_t ?_)
                    refine al_nil ?_
                    refine x_then ?_
                    refine hK _ ?_
                    clear hK K
                    refine aw_cy rfl (by first | rfl | assumption | simp [*]) ?_
                    refine aw_seq (fun K hK => ?_)
                    refine aw_region ?_
                    refine al_p rfl (st_assign rfl ?_)
                    refine al_nil ?_
                    refine x_then ?_
                    refine hK _ ?_
                    clear hK K
                    refine aw_ret ?_
                    refine x_thenR ?_
                    clear hK K
                    refine e_ret ?_
                    first | (exfalso; first | contradiction | omega) | (exact vi (by unfold checkL; grind))
                  · have hc10 := bp hb10
                    refine g_y (st_fieldB rfl ?_)
                    refine g_y (st_loadB1 rfl rfl rfl ?_)
                    first | refine g_y (st_neq rfl rfl ?_) | refine g_y (st_neqS rfl rfl ?_) | refine g_y (st_neqB (by kernel_rfl) rfl rfl ?_)
                    refine g_y (p_f ?_)
                    refine al_p rfl (p_t ?_)
                    refine al_nil ?_
                    refine x_then ?_
                    refine hK _ ?_
                    clear hK K
                    refine aw_cond rfl (fun hb11 => ?_) (fun hb11 => ?_)
                    · have hc11 := bp hb11
                      refine aw_seq (fun K hK => ?_)
                      refine aw_region ?_
                      refine al_p rfl (st_assign rfl ?_)
                      refine al_nil ?_
                      refine x_then ?_
                      refine hK _ ?_
                      clear hK K
                      refine aw_ret ?_
                      refine x_thenR ?_
                      clear hK K
                      refine e_ret ?_
                      first | (exfalso; first | contradiction | omega) | (exact vi (by unfold checkL; grind))
                    · have hc11 := bp hb11
                      refine aw_skip ?_
                      refine x_then ?_
                      refine hK _ ?_
                      clear hK K
                      refine aw_seq (fun K hK => ?_)
                      refine aw_seq (fun K hK => ?_)
                      refine aw_region ?_
                      refine al_p rfl (st_fieldB rfl ?_)
                      refine al_p rfl (st_loadB1 rfl rfl rfl ?_)
                      first | refine al_p rfl (st_eql rfl rfl ?_) | refine al_p rfl (st_eqlS rfl rfl ?_) | refine al_p rfl (st_eqlB (by kernel_rfl) rfl rfl ?_)
                      refine al_p rfl (st_move rfl ?_)
                      refine g_n ?_
                      refine g_n ?_
                      refine g_n ?_
                      refine al_p rfl (p_f ?_)
                      refine al_p rfl (st_move rfl ?_)
                      refine g_n ?_
                      refine g_n ?_
                      refine g_n ?_
                      refine g_n ?_
                      refine al_gu rfl rfl ?_
                      refine al_gu rfl rfl ?_
                      refine al_gu rfl rfl ?_
                      refine g_n ?_
                      refine g_n ?_
                      refine al_gu rfl rfl ?_
                      refine al_gu rfl rfl ?_
                      refine al_gu rfl rfl ?_
                      refine al_gu rfl rfl ?_
                      refine g_n ?_
                      refine al_p rfl (p_f ?_)
                      refine al_p rfl (st_move rfl ?_)
                      refine g_y (st_fieldB rfl ?_)
                      refine g_y (st_loadB1 rfl rfl rfl ?_)
                      refine g_y (q_call (Rtext _) ?_)
                      rintro r rfl
                      refine g_y (st_not rfl ?_)
                      refine g_y (st_move rfl ?_)
                      refine al_gs true rfl rfl (fun hb12 => ?_) (fun hb12 => ?_)
                      · have hc12 := bp hb12
                        refine g_y (st_fieldB rfl ?_)
                        refine g_y (st_loadB1 rfl rfl rfl ?_)
                        first | refine g_y (st_neq rfl rfl ?_) | refine g_y (st_neqS rfl rfl ?_) | refine g_y (st_neqB (by kernel_rfl) rfl rfl ?_)
                        refine g_y (p_t ?_)
                        refine al_p rfl (p_f ?_)
                        refine al_nil ?_
                        refine x_then ?_
                        refine hK _ ?_
                        clear hK K
                        refine aw_cn rfl (by first | rfl | assumption | simp [*]) ?_
                        refine aw_skip ?_
                        refine x_then ?_
                        refine hK _ ?_
                        clear hK K
                        refine aw_seq (fun K hK => ?_)
                        refine aw_region ?_
                        refine al_p rfl (st_assign rfl ?_)
                        refine al_nil ?_
                        refine x_then ?_
                        refine hK _ ?_
                        clear hK K
                        refine aw_ret ?_
                        refine e_ret ?_
                        first | (exfalso; first | contradiction | omega) | (exact vi (by unfold checkL; grind))
                      · have hc12 := bp hb12
                        refine g_n ?_
                        refine g_n ?_
                        refine g_n ?_
                        refine g_y (p_f ?_)
                        refine al_p rfl (p_f ?_)
                        refine al_nil ?_
                        refine x_then ?_
                        refine hK _ ?_
                        clear hK K
                        refine aw_cn rfl (by first | rfl | assumption | simp [*]) ?_
                        refine aw_skip ?_
                        refine x_then ?_
                        refine hK _ ?_
                        clear hK K
                        refine aw_seq (fun K hK => ?_)
                        refine aw_region ?_
                        refine al_p rfl (st_assign rfl ?_)
                        refine al_nil ?_
                        refine x_then ?_
                        refine hK _ ?_
                        clear hK K
                        refine aw_ret ?_
                        refine e_ret ?_
                        first | (exfalso; first | contradiction | omega) | (exact vi (by unfold checkL; grind))
    · have hc2 := bp hb2
      refine g_n ?_
      refine g_n ?_
      refine g_n ?_
      refine g_n ?_
      refine g_n ?_
      refine g_n ?_
      refine al_gu rfl rfl ?_
      refine al_gu rfl rfl ?_
      refine al_gu rfl rfl ?_
      refine al_gu rfl rfl ?_
      refine g_n ?_
      refine g_n ?_
      refine al_gu rfl rfl ?_
      refine al_gu rfl rfl ?_
      refine al_gu rfl rfl ?_
      refine al_gu rfl rfl ?_
      refine g_n ?_
      refine g_y (p_f ?_)
      refine al_p rfl (p_f ?_)
      refine al_nil ?_
      refine x_then ?_
      refine hK _ ?_
      clear hK K
      refine aw_cn rfl (by first | rfl | assumption | simp [*]) ?_
      refine aw_skip ?_
      refine x_then ?_
      refine hK _ ?_
      clear hK K
      refine aw_seq (fun K hK => ?_)
      refine aw_seq (fun K hK => ?_)
      refine aw_region ?_
      refine al_p rfl (st_fieldB rfl ?_)
      refine al_p rfl (st_loadB1 rfl rfl rfl ?_)
      first | refine al_p rfl (st_lss rfl rfl ?_) | refine al_p rfl (st_lssS rfl rfl ?_)
      refine al_p rfl (st_move rfl ?_)
      refine al_gs false rfl rfl (fun hb13 => ?_) (fun hb13 => ?_)
      · have hc13 := bp hb13
        refine g_n ?_
        refine g_n ?_
        refine g_n ?_
        refine al_p rfl (p_t ?_)
        refine al_p rfl (st_move rfl ?_)
        refine g_n ?_
        refine g_n ?_
        refine g_n ?_
        refine g_n ?_
        refine al_gu rfl rfl ?_
        refine al_gu rfl rfl ?_
        refine al_gu rfl rfl ?_
        refine al_gu rfl rfl ?_
        refine al_gu rfl rfl ?_
        refine al_gu rfl rfl ?_
        refine al_gu rfl rfl ?_
        refine al_gu rfl rfl ?_
        refine g_n ?_
        refine al_p rfl (p_t ?_)
        refine al_nil ?_
        refine x_then ?_
        refine hK _ ?_
        clear hK K
        refine aw_cy rfl (by first | rfl | assumption | simp [*]) ?_
        refine aw_seq (fun K hK => ?_)
        refine aw_region ?_
        refine al_p rfl (st_assign rfl ?_)
        refine al_nil ?_
        refine x_then ?_
        refine hK _ ?_
        clear hK K
        refine aw_ret ?_
        refine x_thenR ?_
        clear hK K
        refine e_ret ?_
        first | (exfalso; first | contradiction | omega) | (exact vi (by unfold checkL; grind))
      · have hc13 := bp hb13
        refine g_y (st_fieldB rfl ?_)
        refine g_y (st_loadB1 rfl rfl rfl ?_)
        refine g_y (st_gtr rfl rfl ?_)
        refine al_p rfl (p_f ?_)
        refine al_p rfl (st_move rfl ?_)
        refine al_gs false rfl rfl (fun hb14 => ?_) (fun hb14 => ?_)
        · have hc14 := bp hb14
          refine g_n ?_
          refine g_n ?_
          refine g_n ?_
          refine g_n ?_
          refine al_gu rfl rfl ?_
          refine al_gu rfl rfl ?_
          refine al_gu rfl rfl ?_
          refine al_gu rfl rfl ?_
          refine al_gu rfl rfl ?_
          refine al_gu rfl rfl ?_
          refine al_gu rfl rfl ?_
          refine al_gu rfl rfl ?_
          refine g_n ?_
          refine al_p rfl (p_t ?_)
          refine al_nil ?_
          refine x_then ?_
          refine hK _ ?_
          clear hK K
          refine aw_cy rfl (by first | rfl | assumption | simp [*]) ?_
          refine aw_seq (fun K hK => ?_)
          refine aw_region ?_
          refine al_p rfl (st_assign rfl ?_)
          refine al_nil ?_
          refine x_then ?_
          refine hK _ ?_
          clear hK K
          refine aw_ret ?_
          refine x_thenR ?_
          clear hK K
          refine e_ret ?_
          first | (exfalso; first | contradiction | omega) | (exact vi (by unfold checkL; grind))
        · have hc14 := bp hb14
          refine g_y (st_fieldB rfl ?_)
          refine g_y (st_loadB1 rfl rfl rfl ?_)
          refine g_y (st_gtr rfl rfl ?_)
          refine g_y (st_move rfl ?_)
          refine al_gs true rfl rfl (fun hb15 => ?_) (fun hb15 => ?_)
          · have hc15 := bp hb15
            refine g_y (st_fieldB rfl ?_)
            refine g_y (st_loadB1 rfl rfl rfl ?_)
            refine g_y (q_call (Rtext _) ?_)
            rintro r rfl
            refine g_y (st_move rfl ?_)
            refine al_gs false rfl rfl (fun hb16 => ?_) (fun hb16 => ?_)
            · have hc16 := bp hb16
              refine g_n ?_
              refine g_n ?_
              refine g_n ?_
              refine g_y (p_t ?_)
              refine g_y (p_t ?_)
              refine al_p rfl (p_f ?_)
              refine al_nil ?_
              refine x_then ?_
              refine hK _ ?_
              clear hK K
              refine aw_cy rfl (by first | rfl | assumption | simp [*]) ?_
              refine aw_seq (fun K hK => ?_)
              refine aw_region ?_
              refine al_p rfl (st_assign rfl ?_)
              refine al_nil ?_
              refine x_then ?_
              refine hK _ ?_
              clear hK K
              refine aw_ret ?_
              refine x_thenR ?_
              clear hK K
              refine e_ret ?_
              first | (exfalso; first | contradiction | omega) | (exact vi (by unfold checkL; grind))
            · have hc16 := bp hb16
              refine g_y (st_fieldB rfl ?_)
              refine g_y (st_loadB1 rfl rfl rfl ?_)
              first | refine g_y (st_neq rfl rfl ?_) | refine g_y (st_neqS rfl rfl ?_) | refine g_y (st_neqB (by kernel_rfl) rfl rfl ?_)
              refine g_y (p_f ?_)
              refine g_y (p_t ?_)
              refine al_p rfl (p_f ?_)
              refine al_nil ?_
              refine x_then ?_
              refine hK _ ?_
              clear hK K
              refine aw_cn rfl (by first | rfl | assumption | simp [*]) ?_
              refine aw_skip ?_
              refine x_then ?_
              refine hK _ ?_
              clear hK K
              refine aw_seq (fun K hK => ?_)
              refine aw_seq (fun K hK => ?_)
              refine aw_region ?_
              refine al_p rfl (st_fieldB rfl ?_)
              refine al_p rfl (st_loadB1 rfl rfl rfl ?_)
              first | refine al_p rfl (st_neq rfl rfl ?_) | refine al_p rfl (st_neqS rfl rfl ?_) | refine al_p rfl (st_neqB (by kernel_rfl) rfl rfl ?_)
              refine al_p rfl (st_move rfl ?_)
              refine g_n ?_
              refine g_n ?_
              refine g_n ?_
              refine g_n ?_
              refine al_gu rfl rfl ?_
              refine al_gu rfl rfl ?_
              refine al_gu rfl rfl ?_
              refine g_n ?_
              refine al_p rfl (p_f ?_)
              refine al_nil ?_
              refine x_then ?_
              refine hK _ ?_
              clear hK K
              refine aw_cn rfl (by first | rfl | assumption | simp [*]) ?_
              refine aw_skip ?_
              refine x_then ?_
              refine hK _ ?_
              clear hK K
              refine aw_seq (fun K hK => ?_)
              refine aw_seq (fun K hK => ?_)
              refine aw_region ?_
              refine al_p rfl (st_fieldB rfl ?_)
              refine al_p rfl (st_loadB1 rfl rfl rfl ?_)
              first | refine al_p rfl (st_eql rfl rfl ?_) | refine al_p rfl (st_eqlS rfl rfl ?_) | refine al_p rfl (st_eqlB (by kernel_rfl) rfl rfl ?_)
              refine al_p rfl (st_move rfl ?_)
              refine g_y (st_fieldB rfl ?_)
              refine g_y (st_loadB1 rfl rfl rfl ?_)
              refine g_y (q_call (Rtext _) ?_)
              rintro r rfl
              refine al_p rfl (p_t ?_)
              refine al_p rfl (st_move rfl ?_)
              refine g_n ?_
              refine g_n ?_
              refine g_n ?_
              refine g_n ?_
              refine al_gu rfl rfl ?_
              refine al_gu rfl rfl ?_
              refine al_gu rfl rfl ?_
              refine g_n ?_
              refine g_n ?_
              refine al_gu rfl rfl ?_
              refine al_gu rfl rfl ?_
              refine al_gu rfl rfl ?_
              refine al_gu rfl rfl ?_
              refine g_n ?_
              refine al_p rfl (p_f ?_)
              refine al_p rfl (st_move rfl ?_)
              refine g_y (st_fieldB rfl ?_)
              refine g_y (st_loadB1 rfl rfl rfl ?_)
              refine g_y (q_call (Rtext _) ?_)
              rintro r rfl
              refine g_y (st_not rfl ?_)
              refine g_y (st_move rfl ?_)
              refine g_y (st_fieldB rfl ?_)
              refine g_y (st_loadB1 rfl rfl rfl ?_)
              first | refine g_y (st_neq rfl rfl ?_) | refine g_y (st_neqS rfl rfl ?_) | refine g_y (st_neqB (by kernel_rfl) rfl rfl ?_)
              refine g_y (p_t ?_)
              refine al_p rfl (p_f ?_)
              refine al_nil ?_
              refine x_then ?_
              refine hK _ ?_
              clear hK K
              refine aw_cond rfl (fun hb17 => ?_) (fun hb17 => ?_)
              · have hc17 := bp hb17
                refine aw_seq (fun K hK => ?_)
                refine aw_region ?_
                refine al_p rfl (st_assign rfl ?_)
                refine al_nil ?_
                refine x_then ?_
                refine hK _ ?_
                clear hK K
                refine aw_ret ?_
                refine x_thenR ?_
                clear hK K
                refine e_ret ?_
                first | (exfalso; first | contradiction | omega) | (exact vi (by unfold checkL; grind))
              · have hc17 := bp hb17
                refine aw_skip ?_
                refine x_then ?_
                refine hK _ ?_
                clear hK K
                refine aw_seq (fun K hK => ?_)
                refine aw_region ?_
                refine al_p rfl (st_assign rfl ?_)
                refine al_nil ?_
                refine x_then ?_
                refine hK _ ?_
                clear hK K
                refine aw_ret ?_
                refine e_ret ?_
                first | (exfalso; first | contradiction | omega) | (exact vi (by unfold checkL; grind))
          · have hc15 := bp hb15
            refine g_n ?_
            refine g_n ?_
            refine g_n ?_
            refine g_n ?_
            refine al_gu rfl rfl ?_
            refine al_gu rfl rfl ?_
            refine al_gu rfl rfl ?_
            refine g_n ?_
            refine g_y (p_f ?_)
            refine al_p rfl (p_f ?_)
            refine al_nil ?_
            refine x_then ?_
            refine hK _ ?_
            clear hK K
            refine aw_cn rfl (by first | rfl | assumption | simp [*]) ?_
            refine aw_skip ?_
            refine x_then ?_
            refine hK _ ?_
            clear hK K
            refine aw_seq (fun K hK => ?_)
            refine aw_seq (fun K hK => ?_)
            refine aw_region ?_
            refine al_p rfl (st_fieldB rfl ?_)
            refine al_p rfl (st_loadB1 rfl rfl rfl ?_)
            first | refine al_p rfl (st_neq rfl rfl ?_) | refine al_p rfl (st_neqS rfl rfl ?_) | refine al_p rfl (st_neqB (by kernel_rfl) rfl rfl ?_)
            refine al_p rfl (st_move rfl ?_)
            refine g_n ?_
            refine g_n ?_
            refine g_n ?_
            refine g_n ?_
            refine al_gu rfl rfl ?_
            refine al_gu rfl rfl ?_
            refine al_gu rfl rfl ?_
            refine g_n ?_
            refine al_p rfl (p_f ?_)
            refine al_nil ?_
            refine x_then ?_
            refine hK _ ?_
            clear hK K
            refine aw_cn rfl (by first | rfl | assumption | simp [*]) ?_
            refine aw_skip ?_
            refine x_then ?_
            refine hK _ ?_
            clear hK K
            refine aw_seq (fun K hK => ?_)
            refine aw_seq (fun K hK => ?_)
            refine aw_region ?_
            refine al_p rfl (st_fieldB rfl ?_)
            refine al_p rfl (st_loadB1 rfl rfl rfl ?_)
            first | refine al_p rfl (st_eql rfl rfl ?_) | refine al_p rfl (st_eqlS rfl rfl ?_) | refine al_p rfl (st_eqlB (by kernel_rfl) rfl rfl ?_)
            refine al_p rfl (st_move rfl ?_)
            refine g_y (st_fieldB rfl ?_)
            refine g_y (st_loadB1 rfl rfl rfl ?_)
            refine g_y (q_call (Rtext _) ?_)
            rintro r rfl
            refine al_p rfl (p_t ?_)
            refine al_p rfl (st_move rfl ?_)
            refine al_gs true rfl rfl (fun hb18 => ?_) (fun hb18 => ?_)
            · have hc18 := bp hb18
              refine g_y (st_fieldB rfl ?_)
              refine g_y (st_loadB1 rfl rfl rfl ?_)
              first | refine g_y (st_neq rfl rfl ?_) | refine g_y (st_neqS rfl rfl ?_) | refine g_y (st_neqB (by kernel_rfl) rfl rfl ?_)
              refine g_y (st_move rfl ?_)
              refine al_gs false rfl rfl (fun hb19 => ?_) (fun hb19 => ?_)
              · have hc19 := bp hb19
                refine g_n ?_
                refine g_n ?_
                refine g_n ?_
                refine g_y (p_t ?_)
                refine g_y (st_move rfl ?_)
                refine g_n ?_
                refine g_n ?_
                refine g_n ?_
                refine g_n ?_
                refine g_y (p_t ?_)
                refine al_p rfl (p_t ?_)
                refine al_p rfl (st_move rfl ?_)
                refine g_n ?_
                refine g_n ?_
                refine g_n ?_
                refine g_n ?_
                refine g_n ?_
                refine al_gu rfl rfl ?_
                refine al_gu rfl rfl ?_
                refine al_gu rfl rfl ?_
                refine g_n ?_
                refine al_p rfl (p_t ?_)
                refine al_nil ?_
                refine x_then ?_
                refine hK _ ?_
                clear hK K
                refine aw_cy rfl (by first | rfl | assumption | simp [*]) ?_
                refine aw_seq (fun K hK => ?_)
                refine aw_region ?_
                refine al_p rfl (st_assign rfl ?_)
                refine al_nil ?_
                refine x_then ?_
                refine hK _ ?_
                clear hK K
                refine aw_ret ?_
                refine x_thenR ?_
                clear hK K
                refine e_ret ?_
                first | (exfalso; first | contradiction | omega) | (exact vi (by unfold checkL; grind))
              · have hc19 := bp hb19
                refine g_y (st_fieldB rfl ?_)
                refine g_y (st_loadB1 rfl rfl rfl ?_)
                first | refine g_y (st_eql rfl rfl ?_) | refine g_y (st_eqlS rfl rfl ?_) | refine g_y (st_eqlB (by kernel_rfl) rfl rfl ?_)
                refine g_y (p_f ?_)
                refine g_y (st_move rfl ?_)
                refine al_gs false rfl rfl (fun hb20 => ?_) (fun hb20 => ?_)
                · have hc20 := bp hb20
                  refine g_n ?_
                  refine g_n ?_
                  refine g_n ?_
                  refine g_n ?_
                  refine g_y (p_t ?_)
                  refine al_p rfl (p_t ?_)
                  refine al_p rfl (st_move rfl ?_)
                  refine g_n ?_
                  refine g_n ?_
                  refine g_n ?_
                  refine g_n ?_
                  refine g_n ?_
                  refine al_gu rfl rfl ?_
                  refine al_gu rfl rfl ?_
                  refine al_gu rfl rfl ?_
                  refine g_n ?_
                  refine al_p rfl (p_t ?_)
                  refine al_nil ?_
                  refine x_then ?_
                  refine hK _ ?_
                  clear hK K
                  refine aw_cy rfl (by first | rfl | assumption | simp [*]) ?_
                  refine aw_seq (fun K hK => ?_)
                  refine aw_region ?_
                  refine al_p rfl (st_assign rfl ?_)
                  refine al_nil ?_
                  refine x_then ?_
                  refine hK _ ?_
                  clear hK K
                  refine aw_ret ?_
                  refine x_thenR ?_
                  clear hK K
                  refine e_ret ?_
                  first | (exfalso; first | contradiction | omega) | (exact vi (by unfold checkL; grind))
                · have hc20 := bp hb20
                  refine g_y (st_fieldB rfl ?_)
                  refine g_y (st_loadB1 rfl rfl rfl ?_)
                  first | refine g_y (st_len rfl ?_) | refine g_y (st_lenS (by kernel_rfl) rfl ?_) | refine g_y (st_len0 rfl ?_)
                  refine g_y (st_gtr rfl rfl ?_)
                  refine g_y (p_f ?_)
                  refine al_p rfl (p_t ?_)
                  refine al_p rfl (st_move rfl ?_)
                  refine al_gs false rfl rfl (fun hb21 => ?_) (fun hb21 => ?_)
                  · have hc21 := bp hb21
                    refine g_n ?_
                    refine g_n ?_
                    refine g_n ?_
                    refine g_n ?_
                    refine g_n ?_
                    refine al_gu rfl rfl ?_
                    refine al_gu rfl rfl ?_
                    refine al_gu rfl rfl ?_
                    refine g_n ?_
                    refine al_p rfl (p_t ?_)
                    refine al_nil ?_
                    refine x_then ?_
                    refine hK _ ?_
                    clear hK K
                    refine aw_cy rfl (by first | rfl | assumption | simp [*]) ?_
                    refine aw_seq (fun K hK => ?_)
                    refine aw_region ?_
                    refine al_p rfl (st_assign rfl ?_)
                    refine al_nil ?_
                    refine x_then ?_
                    refine hK _ ?_
                    clear hK K
                    refine aw_ret ?_
                    refine x_thenR ?_
                    clear hK K
                    refine e_ret ?_
                    first | (exfalso; first | contradiction | omega) | (exact vi (by unfold checkL; grind))
                  · have hc21 := bp hb21
                    refine g_y (st_fieldB rfl ?_)
                    refine g_y (st_loadB1 rfl rfl rfl ?_)
                    refine g_y (q_call (Rtext _) ?_)
                    rintro r rfl
                    refine g_y (st_not rfl ?_)
                    refine g_y (st_move rfl ?_)
                    refine g_n ?_
                    refine g_n ?_
                    refine g_n ?_
                    refine g_y (p_f ?_)
                    refine al_p rfl (p_f ?_)
                    refine al_nil ?_
                    refine x_then ?_
                    refine hK _ ?_
                    clear hK K
                    refine aw_cn rfl (by first | rfl | assumption | simp [*]) ?_
                    refine aw_skip ?_
                    refine x_then ?_
                    refine hK _ ?_
                    clear hK K
                    refine aw_seq (fun K hK => ?_)
                    refine aw_region ?_
                    refine al_p rfl (st_assign rfl ?_)
                    refine al_nil ?_
                    refine x_then ?_
                    refine hK _ ?_
                    clear hK K
                    refine aw_ret ?_
                    refine e_ret ?_
                    first | (exfalso; first | contradiction | omega) | (exact vi (by unfold checkL; grind))
            · have hc18 := bp hb18
              refine g_n ?_
              refine g_n ?_
              refine g_n ?_
              refine g_n ?_
              refine al_gu rfl rfl ?_
              refine al_gu rfl rfl ?_
              refine al_gu rfl rfl ?_
              refine g_n ?_
              refine g_n ?_
              refine al_gu rfl rfl ?_
              refine al_gu rfl rfl ?_
              refine al_gu rfl rfl ?_
              refine al_gu rfl rfl ?_
              refine g_n ?_
              refine al_p rfl (p_f ?_)
              refine al_p rfl (st_move rfl ?_)
              refine g_y (st_fieldB rfl ?_)
              refine g_y (st_loadB1 rfl rfl rfl ?_)
              refine g_y (q_call (Rtext _) ?_)
              rintro r rfl
              refine g_y (st_not rfl ?_)
              refine g_y (st_move rfl ?_)
              refine g_y (st_fieldB rfl ?_)
              refine g_y (st_loadB1 rfl rfl rfl ?_)
              first | refine g_y (st_neq rfl rfl ?_) | refine g_y (st_neqS rfl rfl ?_) | refine g_y (st_neqB (by kernel_rfl) rfl rfl ?_)
              refine g_y (p_t ?_)
              refine al_p rfl (p_f ?_)
              refine al_nil ?_
              refine x_then ?_
              refine hK _ ?_
              clear hK K
              refine aw_cond rfl (fun hb22 => ?_) (fun hb22 => ?_)
              · have hc22 := bp hb22
                refine aw_seq (fun K hK => ?_)
                refine aw_region ?_
                refine al_p rfl (st_assign rfl ?_)
                refine al_nil ?_
                refine x_then ?_
                refine hK _ ?_
                clear hK K
                refine aw_ret ?_
                refine x_thenR ?_
                clear hK K
                refine e_ret ?_
                first | (exfalso; first | contradiction | omega) | (exact vi (by unfold checkL; grind))
              · have hc22 := bp hb22
                refine aw_skip ?_
                refine x_then ?_
                refine hK _ ?_
                clear hK K
                refine aw_seq (fun K hK => ?_)
                refine aw_region ?_
                refine al_p rfl (st_assign rfl ?_)
                refine al_nil ?_
                refine x_then ?_
                refine hK _ ?_
                clear hK K
                refine aw_ret ?_
                refine e_ret ?_
                first | (exfalso; first | contradiction | omega) | (exact vi (by unfold checkL; grind))


def txtL (t : Tst) (c : Ctx) : Bool := decide ((if t.fld = 14 then c.comm else c.exe) = t.text) == decide (t.op = 1)
def tstL (t : Tst) (c : Ctx) (y : Itm) : Bool :=
  if textL t.fld = true then txtL t c else cmpL t.op (numL t.fld c y) (if t.other = 0 then t.num else numL t.other c y)
def holdsP (t : Tst) (c : Ctx) (y : Itm) : Bool :=
  if textL t.fld = true then txtL t c else if hasP t.fld c = false then false else if t.other = 0 then cmpL t.op (numL t.fld c y) t.num else if hasP t.other c = false then false else cmpL t.op (numL t.fld c y) (numL t.other c y)
def TstOk (t : Tst) : Prop := 1 ≤ t.fld ∧ t.fld ≤ 22 ∧ (t.other = 0 ∨ 1 ≤ t.other ∧ t.other ≤ 22 ∧ textL t.other = false) ∧ 1 ≤ t.op ∧ t.op ≤ 8
theorem Pholds (t : Tst) (c : Ctx) (k : Cxs) (y : Itm) (ht : TstOk t) : AFn Tryz.prog 41 [.agg (tstA t), .agg (ctxA c k), .agg (itmA y)] (fun r => r = .v (.bool (holdsP t c y))) := by
  obtain ⟨f1, f2, o1, p1, p2⟩ := ht
  refine enter Tryz.func41 rfl rfl rfl rfl rfl 0 rfl ?_
  refine aw_seq (fun K hK => ?_)
  refine aw_region ?_
  first | refine al_p rfl (s_boxA rfl rfl (by repeat constructor) ?_) | refine al_p rfl (s_box rfl rfl (by repeat constructor) ?_)
  first | refine al_p rfl (s_boxA rfl rfl (by repeat constructor) ?_) | refine al_p rfl (s_box rfl rfl (by repeat constructor) ?_)
  first | refine al_p rfl (s_boxA rfl rfl (by repeat constructor) ?_) | refine al_p rfl (s_box rfl rfl (by repeat constructor) ?_)
  refine al_p rfl (st_assign rfl ?_)
  refine al_nil ?_
  refine x_then ?_
  refine hK _ ?_
  clear hK K
  refine aw_seq (fun K hK => ?_)
  refine aw_seq (fun K hK => ?_)
  refine aw_region ?_
  refine al_p rfl (st_fieldB rfl ?_)
  refine al_p rfl (st_loadB1 rfl rfl rfl ?_)
  refine al_p rfl (q_call (PisText _) ?_)
  rintro r rfl
  refine al_nil ?_
  refine x_then ?_
  refine hK _ ?_
  clear hK K
  refine aw_cond rfl (fun hb1 => ?_) (fun hb1 => ?_)
  · have hc1 := bp hb1
    refine aw_seq (fun K hK => ?_)
    refine aw_region ?_
    refine al_p rfl (st_fieldB rfl ?_)
    refine al_p rfl (st_fieldB rfl ?_)
    refine al_p rfl (st_loadB1 rfl rfl rfl ?_)
    refine al_p rfl (st_assign rfl ?_)
    refine al_nil ?_
    refine x_then ?_
    refine hK _ ?_
    clear hK K
    refine aw_seq (fun K hK => ?_)
    refine aw_seq (fun K hK => ?_)
    refine aw_region ?_
    refine al_p rfl (st_fieldB rfl ?_)
    refine al_p rfl (st_loadB1 rfl rfl rfl ?_)
    first | refine al_p rfl (st_eql rfl rfl ?_) | refine al_p rfl (st_eqlS rfl rfl ?_) | refine al_p rfl (st_eqlB (by kernel_rfl) rfl rfl ?_)
    refine al_nil ?_
    refine x_then ?_
    refine hK _ ?_
    clear hK K
    refine aw_cond rfl (fun hb2 => ?_) (fun hb2 => ?_)
    · have hc2 := bp hb2
      refine aw_region ?_
      refine al_p rfl (st_fieldB rfl ?_)
      refine al_p rfl (st_fieldB rfl ?_)
      refine al_p rfl (st_loadB1 rfl rfl rfl ?_)
      refine al_p rfl (st_assign rfl ?_)
      refine al_nil ?_
      refine x_then ?_
      refine hK _ ?_
      clear hK K
      refine aw_seq (fun K hK => ?_)
      refine aw_region ?_
      refine al_p rfl (st_move rfl ?_)
      refine al_p rfl (st_fieldB rfl ?_)
      refine al_p rfl (st_loadB1 rfl rfl rfl ?_)
      first | refine al_p rfl (st_eql rfl rfl ?_) | refine al_p rfl (st_eqlS rfl rfl ?_) | refine al_p rfl (st_eqlB (by kernel_rfl) rfl rfl ?_)
      refine al_p rfl (st_fieldB rfl ?_)
      refine al_p rfl (st_loadB1 rfl rfl rfl ?_)
      first | refine al_p rfl (st_eql rfl rfl ?_) | refine al_p rfl (st_eqlS rfl rfl ?_) | refine al_p rfl (st_eqlB (by kernel_rfl) rfl rfl ?_)
      first | refine al_p rfl (st_eql rfl rfl ?_) | refine al_p rfl (st_eqlS rfl rfl ?_) | refine al_p rfl (st_eqlB (by kernel_rfl) rfl rfl ?_)
      refine al_p rfl (st_assign rfl ?_)
      refine al_nil ?_
      refine x_then ?_
      refine hK _ ?_
      clear hK K
      refine aw_ret ?_
      refine x_thenR ?_
      clear hK K
      refine e_ret ?_
      first | (exfalso; first | contradiction | omega) | (exact vb (by unfold holdsP txtL; simp_all))
    · have hc2 := bp hb2
      refine aw_skip ?_
      refine x_then ?_
      refine hK _ ?_
      clear hK K
      refine aw_seq (fun K hK => ?_)
      refine aw_region ?_
      refine al_p rfl (st_move rfl ?_)
      refine al_p rfl (st_fieldB rfl ?_)
      refine al_p rfl (st_loadB1 rfl rfl rfl ?_)
      first | refine al_p rfl (st_eql rfl rfl ?_) | refine al_p rfl (st_eqlS rfl rfl ?_) | refine al_p rfl (st_eqlB (by kernel_rfl) rfl rfl ?_)
      refine al_p rfl (st_fieldB rfl ?_)
      refine al_p rfl (st_loadB1 rfl rfl rfl ?_)
      first | refine al_p rfl (st_eql rfl rfl ?_) | refine al_p rfl (st_eqlS rfl rfl ?_) | refine al_p rfl (st_eqlB (by kernel_rfl) rfl rfl ?_)
      first | refine al_p rfl (st_eql rfl rfl ?_) | refine al_p rfl (st_eqlS rfl rfl ?_) | refine al_p rfl (st_eqlB (by kernel_rfl) rfl rfl ?_)
      refine al_p rfl (st_assign rfl ?_)
      refine al_nil ?_
      refine x_then ?_
      refine hK _ ?_
      clear hK K
      refine aw_ret ?_
      refine x_thenR ?_
      clear hK K
      refine e_ret ?_
      first | (exfalso; first | contradiction | omega) | (exact vb (by unfold holdsP txtL; simp_all))
  · have hc1 := bp hb1
    refine aw_skip ?_
    refine x_then ?_
    refine hK _ ?_
    clear hK K
    refine aw_seq (fun K hK => ?_)
    refine aw_region ?_
    refine al_p rfl (st_fieldB rfl ?_)
    refine al_p rfl (st_loadB1 rfl rfl rfl ?_)
    refine al_p rfl (st_loadBW rfl rfl rfl ?_)
    refine al_p rfl (st_loadBW rfl rfl rfl ?_)
    refine al_p rfl (q_call (Pnumber t.fld c k y f1 f2 hc1) ?_)
    rintro r ⟨n1, rfl, hn1⟩
    refine al_p rfl (st_move rfl ?_)
    refine al_p rfl (st_extract rfl rfl ?_)
    refine al_p rfl (st_extract rfl rfl ?_)
    refine al_p rfl (st_assign rfl ?_)
    refine al_p rfl (st_assign rfl ?_)
    refine al_nil ?_
    refine x_then ?_
    refine hK _ ?_
    clear hK K
    refine aw_seq (fun K hK => ?_)
    refine aw_seq (fun K hK => ?_)
    refine aw_region ?_
    refine al_p rfl (st_move rfl ?_)
    refine al_p rfl (st_not rfl ?_)
    refine al_nil ?_
    refine x_then ?_
    refine hK _ ?_
    clear hK K
    refine aw_cond rfl (fun hb3 => ?_) (fun hb3 => ?_)
    · have hc3 := bp hb3
      refine aw_seq (fun K hK => ?_)
      refine aw_region ?_
      refine al_p rfl (st_assign rfl ?_)
      refine al_nil ?_
      refine x_then ?_
      refine hK _ ?_
      clear hK K
      refine aw_ret ?_
      refine x_thenR ?_
      clear hK K
      refine e_ret ?_
      first | (exfalso; first | contradiction | omega) | (exact vb (by unfold holdsP txtL; simp_all))
    · have hc3 := bp hb3
      refine aw_skip ?_
      refine x_then ?_
      refine hK _ ?_
      clear hK K
      refine aw_seq (fun K hK => ?_)
      refine aw_region ?_
      refine al_p rfl (st_fieldB rfl ?_)
      refine al_p rfl (st_loadB1 rfl rfl rfl ?_)
      refine al_p rfl (st_assign rfl ?_)
      refine al_nil ?_
      refine x_then ?_
      refine hK _ ?_
      clear hK K
      refine aw_seq (fun K hK => ?_)
      refine aw_seq (fun K hK => ?_)
      refine aw_region ?_
      refine al_p rfl (st_fieldB rfl ?_)
      refine al_p rfl (st_loadB1 rfl rfl rfl ?_)
      first | refine al_p rfl (st_neq rfl rfl ?_) | refine al_p rfl (st_neqS rfl rfl ?_) | refine al_p rfl (st_neqB (by kernel_rfl) rfl rfl ?_)
      refine al_nil ?_
      refine x_then ?_
      refine hK _ ?_
      clear hK K
      refine aw_cond rfl (fun hb4 => ?_) (fun hb4 => ?_)
      · have hc4 := bp hb4
        refine aw_seq (fun K hK => ?_)
        refine aw_region ?_
        refine al_p rfl (st_fieldB rfl ?_)
        refine al_p rfl (st_loadB1 rfl rfl rfl ?_)
        refine al_p rfl (st_loadBW rfl rfl rfl ?_)
        refine al_p rfl (st_loadBW rfl rfl rfl ?_)
        refine al_p rfl (q_call (Pnumber t.other c k y (by omega) (by omega) (o1.resolve_left hc4).2.2) ?_)
        rintro r ⟨n2, rfl, hn2⟩
        refine al_p rfl (st_move rfl ?_)
        refine al_p rfl (st_extract rfl rfl ?_)
        refine al_p rfl (st_extract rfl rfl ?_)
        refine al_p rfl (st_assign rfl ?_)
        refine al_p rfl (st_assign rfl ?_)
        refine al_nil ?_
        refine x_then ?_
        refine hK _ ?_
        clear hK K
        refine aw_seq (fun K hK => ?_)
        refine aw_region ?_
        refine al_p rfl (st_move rfl ?_)
        refine al_p rfl (st_not rfl ?_)
        refine al_nil ?_
        refine x_then ?_
        refine hK _ ?_
        clear hK K
        refine aw_cond rfl (fun hb5 => ?_) (fun hb5 => ?_)
        · have hc5 := bp hb5
          refine aw_seq (fun K hK => ?_)
          refine aw_region ?_
          refine al_p rfl (st_assign rfl ?_)
          refine al_nil ?_
          refine x_then ?_
          refine hK _ ?_
          clear hK K
          refine aw_ret ?_
          refine x_thenR ?_
          clear hK K
          refine e_ret ?_
          first | (exfalso; first | contradiction | omega) | (exact vb (by unfold holdsP txtL; simp_all))
        · have hc5 := bp hb5
          refine aw_skip ?_
          refine x_then ?_
          refine hK _ ?_
          clear hK K
          refine aw_seq (fun K hK => ?_)
          refine aw_region ?_
          refine al_p rfl (st_fieldB rfl ?_)
          refine al_p rfl (st_loadB1 rfl rfl rfl ?_)
          refine al_p rfl (st_move rfl ?_)
          refine al_p rfl (st_move rfl ?_)
          refine al_p rfl (q_call (Pcompare _ _ _ p1 p2) ?_)
          rintro r rfl
          refine al_p rfl (st_assign rfl ?_)
          refine al_nil ?_
          refine x_then ?_
          refine hK _ ?_
          clear hK K
          refine aw_ret ?_
          refine e_ret ?_
          first | (exfalso; first | contradiction | omega) | (exact vb (by unfold holdsP txtL; simp_all))
      · have hc4 := bp hb4
        refine aw_skip ?_
        refine x_then ?_
        refine hK _ ?_
        clear hK K
        refine aw_seq (fun K hK => ?_)
        refine aw_region ?_
        refine al_p rfl (st_fieldB rfl ?_)
        refine al_p rfl (st_loadB1 rfl rfl rfl ?_)
        refine al_p rfl (st_move rfl ?_)
        refine al_p rfl (st_move rfl ?_)
        refine al_p rfl (q_call (Pcompare _ _ _ p1 p2) ?_)
        rintro r rfl
        refine al_p rfl (st_assign rfl ?_)
        refine al_nil ?_
        refine x_then ?_
        refine hK _ ?_
        clear hK K
        refine aw_ret ?_
        refine e_ret ?_
        first | (exfalso; first | contradiction | omega) | (exact vb (by unfold holdsP txtL; simp_all))

theorem Rone (t : Tst) (c : Ctx) (k : Cxs) (y : Itm) (ht : TstOk t) : AFn Tryz.prog 45 [.agg (tstA t), .agg (ctxA c k), .agg (itmA y)] (fun r => r = .v (.bool (tstL t c y))) := by
  obtain ⟨f1, f2, o1, p1, p2⟩ := ht
  refine enter Tryz.func45 rfl rfl rfl rfl rfl 0 rfl ?_
  refine aw_seq (fun K hK => ?_)
  refine aw_region ?_
  first | refine al_p rfl (s_boxA rfl rfl (by repeat constructor) ?_) | refine al_p rfl (s_box rfl rfl (by repeat constructor) ?_)
  first | refine al_p rfl (s_boxA rfl rfl (by repeat constructor) ?_) | refine al_p rfl (s_box rfl rfl (by repeat constructor) ?_)
  first | refine al_p rfl (s_boxA rfl rfl (by repeat constructor) ?_) | refine al_p rfl (s_box rfl rfl (by repeat constructor) ?_)
  refine al_p rfl (st_assign rfl ?_)
  refine al_nil ?_
  refine x_then ?_
  refine hK _ ?_
  clear hK K
  refine aw_seq (fun K hK => ?_)
  refine aw_seq (fun K hK => ?_)
  refine aw_region ?_
  refine al_p rfl (st_fieldB rfl ?_)
  refine al_p rfl (st_loadB1 rfl rfl rfl ?_)
  refine al_p rfl (q_call (Rtext _) ?_)
  rintro r rfl
  refine al_nil ?_
  refine x_then ?_
  refine hK _ ?_
  clear hK K
  refine aw_cond rfl (fun hb1 => ?_) (fun hb1 => ?_)
  · have hc1 := bp hb1
    refine aw_seq (fun K hK => ?_)
    refine aw_region ?_
    refine al_p rfl (st_fieldB rfl ?_)
    refine al_p rfl (st_fieldB rfl ?_)
    refine al_p rfl (st_loadB1 rfl rfl rfl ?_)
    refine al_p rfl (st_assign rfl ?_)
    refine al_nil ?_
    refine x_then ?_
    refine hK _ ?_
    clear hK K
    refine aw_seq (fun K hK => ?_)
    refine aw_seq (fun K hK => ?_)
    refine aw_region ?_
    refine al_p rfl (st_fieldB rfl ?_)
    refine al_p rfl (st_loadB1 rfl rfl rfl ?_)
    first | refine al_p rfl (st_eql rfl rfl ?_) | refine al_p rfl (st_eqlS rfl rfl ?_) | refine al_p rfl (st_eqlB (by kernel_rfl) rfl rfl ?_)
    refine al_nil ?_
    refine x_then ?_
    refine hK _ ?_
    clear hK K
    refine aw_cond rfl (fun hb2 => ?_) (fun hb2 => ?_)
    · have hc2 := bp hb2
      refine aw_region ?_
      refine al_p rfl (st_fieldB rfl ?_)
      refine al_p rfl (st_fieldB rfl ?_)
      refine al_p rfl (st_loadB1 rfl rfl rfl ?_)
      refine al_p rfl (st_assign rfl ?_)
      refine al_nil ?_
      refine x_then ?_
      refine hK _ ?_
      clear hK K
      refine aw_seq (fun K hK => ?_)
      refine aw_region ?_
      refine al_p rfl (st_move rfl ?_)
      refine al_p rfl (st_fieldB rfl ?_)
      refine al_p rfl (st_loadB1 rfl rfl rfl ?_)
      first | refine al_p rfl (st_eql rfl rfl ?_) | refine al_p rfl (st_eqlS rfl rfl ?_) | refine al_p rfl (st_eqlB (by kernel_rfl) rfl rfl ?_)
      refine al_p rfl (st_fieldB rfl ?_)
      refine al_p rfl (st_loadB1 rfl rfl rfl ?_)
      first | refine al_p rfl (st_eql rfl rfl ?_) | refine al_p rfl (st_eqlS rfl rfl ?_) | refine al_p rfl (st_eqlB (by kernel_rfl) rfl rfl ?_)
      first | refine al_p rfl (st_eql rfl rfl ?_) | refine al_p rfl (st_eqlS rfl rfl ?_) | refine al_p rfl (st_eqlB (by kernel_rfl) rfl rfl ?_)
      refine al_p rfl (st_assign rfl ?_)
      refine al_nil ?_
      refine x_then ?_
      refine hK _ ?_
      clear hK K
      refine aw_ret ?_
      refine x_thenR ?_
      clear hK K
      refine e_ret ?_
      first | (exfalso; first | contradiction | omega) | (exact vb (by unfold tstL txtL; simp_all))
    · have hc2 := bp hb2
      refine aw_skip ?_
      refine x_then ?_
      refine hK _ ?_
      clear hK K
      refine aw_seq (fun K hK => ?_)
      refine aw_region ?_
      refine al_p rfl (st_move rfl ?_)
      refine al_p rfl (st_fieldB rfl ?_)
      refine al_p rfl (st_loadB1 rfl rfl rfl ?_)
      first | refine al_p rfl (st_eql rfl rfl ?_) | refine al_p rfl (st_eqlS rfl rfl ?_) | refine al_p rfl (st_eqlB (by kernel_rfl) rfl rfl ?_)
      refine al_p rfl (st_fieldB rfl ?_)
      refine al_p rfl (st_loadB1 rfl rfl rfl ?_)
      first | refine al_p rfl (st_eql rfl rfl ?_) | refine al_p rfl (st_eqlS rfl rfl ?_) | refine al_p rfl (st_eqlB (by kernel_rfl) rfl rfl ?_)
      first | refine al_p rfl (st_eql rfl rfl ?_) | refine al_p rfl (st_eqlS rfl rfl ?_) | refine al_p rfl (st_eqlB (by kernel_rfl) rfl rfl ?_)
      refine al_p rfl (st_assign rfl ?_)
      refine al_nil ?_
      refine x_then ?_
      refine hK _ ?_
      clear hK K
      refine aw_ret ?_
      refine x_thenR ?_
      clear hK K
      refine e_ret ?_
      first | (exfalso; first | contradiction | omega) | (exact vb (by unfold tstL txtL; simp_all))
  · have hc1 := bp hb1
    refine aw_skip ?_
    refine x_then ?_
    refine hK _ ?_
    clear hK K
    refine aw_seq (fun K hK => ?_)
    refine aw_region ?_
    refine al_p rfl (st_fieldB rfl ?_)
    refine al_p rfl (st_loadB1 rfl rfl rfl ?_)
    refine al_p rfl (st_assign rfl ?_)
    refine al_nil ?_
    refine x_then ?_
    refine hK _ ?_
    clear hK K
    refine aw_seq (fun K hK => ?_)
    refine aw_seq (fun K hK => ?_)
    refine aw_region ?_
    refine al_p rfl (st_fieldB rfl ?_)
    refine al_p rfl (st_loadB1 rfl rfl rfl ?_)
    first | refine al_p rfl (st_neq rfl rfl ?_) | refine al_p rfl (st_neqS rfl rfl ?_) | refine al_p rfl (st_neqB (by kernel_rfl) rfl rfl ?_)
    refine al_nil ?_
    refine x_then ?_
    refine hK _ ?_
    clear hK K
    refine aw_cond rfl (fun hb3 => ?_) (fun hb3 => ?_)
    · have hc3 := bp hb3
      refine aw_region ?_
      refine al_p rfl (st_fieldB rfl ?_)
      refine al_p rfl (st_loadB1 rfl rfl rfl ?_)
      refine al_p rfl (st_loadBW rfl rfl rfl ?_)
      refine al_p rfl (st_loadBW rfl rfl rfl ?_)
      refine al_p rfl (q_call (Rnumber _ c k y) ?_)
      rintro r rfl
      refine al_p rfl (st_assign rfl ?_)
      refine al_nil ?_
      refine x_then ?_
      refine hK _ ?_
      clear hK K
      refine aw_seq (fun K hK => ?_)
      refine aw_drawR 10 (by kernel_rfl) ?_
      refine r_y (i := 0) rfl (st_fieldB rfl ⟨rfl, rfl⟩) ?_
      refine r_y (i := 1) rfl (st_loadB1 rfl rfl rfl ⟨rfl, rfl⟩) ?_
      refine r_y (i := 2) rfl (st_fieldB rfl ⟨rfl, rfl⟩) ?_
      refine r_y (i := 3) rfl (st_loadB1 rfl rfl rfl ⟨rfl, rfl⟩) ?_
      refine r_y (i := 4) rfl (st_loadBW rfl rfl rfl ⟨rfl, rfl⟩) ?_
      refine r_y (i := 5) rfl (st_loadBW rfl rfl rfl ⟨rfl, rfl⟩) ?_
      refine r_y (i := 7) rfl (st_move rfl ⟨rfl, rfl⟩) ?_
      refine aa_c (i := 6) rfl rfl (by kernel_rfl) (by first | rfl | exact wan_y rfl rfl (beq_tt ‹_›) | exact wan_y rfl rfl (beq_ff ‹_›) | exact wan_y rfl rfl (by simp [*])) (q_call (Rnumber _ c k y) ?_)
      rintro r rfl
      refine ⟨.inr rfl, ?_⟩
      refine aa_c (i := 8) rfl rfl (by kernel_rfl) (by first | rfl | exact wan_y rfl rfl (beq_tt ‹_›) | exact wan_y rfl rfl (beq_ff ‹_›) | exact wan_y rfl rfl (by simp [*])) (q_call (Rholds _ _ _ p1 p2) ?_)
      rintro r rfl
      refine ⟨.inr rfl, ?_⟩
      refine r_y (i := 9) rfl (st_assign rfl ⟨rfl, rfl⟩) ?_
      refine aa_done (by kernel_rfl) ?_ _
      refine x_then ?_
      refine hK _ ?_
      clear hK K
      refine aw_ret ?_
      refine e_ret ?_
      first | (exfalso; first | contradiction | omega) | (exact vb (by unfold tstL txtL; simp_all))
    · have hc3 := bp hb3
      refine aw_skip ?_
      refine x_then ?_
      refine hK _ ?_
      clear hK K
      refine aw_seq (fun K hK => ?_)
      refine aw_drawR 10 (by kernel_rfl) ?_
      refine r_y (i := 0) rfl (st_fieldB rfl ⟨rfl, rfl⟩) ?_
      refine r_y (i := 1) rfl (st_loadB1 rfl rfl rfl ⟨rfl, rfl⟩) ?_
      refine r_y (i := 2) rfl (st_fieldB rfl ⟨rfl, rfl⟩) ?_
      refine r_y (i := 3) rfl (st_loadB1 rfl rfl rfl ⟨rfl, rfl⟩) ?_
      refine r_y (i := 4) rfl (st_loadBW rfl rfl rfl ⟨rfl, rfl⟩) ?_
      refine r_y (i := 5) rfl (st_loadBW rfl rfl rfl ⟨rfl, rfl⟩) ?_
      refine r_y (i := 7) rfl (st_move rfl ⟨rfl, rfl⟩) ?_
      refine aa_c (i := 6) rfl rfl (by kernel_rfl) (by first | rfl | exact wan_y rfl rfl (beq_tt ‹_›) | exact wan_y rfl rfl (beq_ff ‹_›) | exact wan_y rfl rfl (by simp [*])) (q_call (Rnumber _ c k y) ?_)
      rintro r rfl
      refine ⟨.inr rfl, ?_⟩
      refine aa_c (i := 8) rfl rfl (by kernel_rfl) (by first | rfl | exact wan_y rfl rfl (beq_tt ‹_›) | exact wan_y rfl rfl (beq_ff ‹_›) | exact wan_y rfl rfl (by simp [*])) (q_call (Rholds _ _ _ p1 p2) ?_)
      rintro r rfl
      refine ⟨.inr rfl, ?_⟩
      refine r_y (i := 9) rfl (st_assign rfl ⟨rfl, rfl⟩) ?_
      refine aa_done (by kernel_rfl) ?_ _
      refine x_then ?_
      refine hK _ ?_
      clear hK K
      refine aw_ret ?_
      refine e_ret ?_
      first | (exfalso; first | contradiction | omega) | (exact vb (by unfold tstL txtL; simp_all))

end
end Go.Proofs.YtokaaebbmcldaaaGreatDoor
