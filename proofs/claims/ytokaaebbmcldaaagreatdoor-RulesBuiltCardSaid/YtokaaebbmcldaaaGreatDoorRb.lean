/-
  Tests: their first error, and the numbers of a context, in the program and in the reference.
-/
import Derived.Test.YtokaaebbmcldaaaGreatDoorRa
namespace Go.Proofs.YtokaaebbmcldaaaGreatDoor
open Go.RowKit

def cmpL (op a b : Int) : Bool :=
  if op = 1 then decide (a = b) else if op = 2 then !decide (a = b) else if op = 3 then decide (a < b) else if op = 4 then decide (a ≤ b) else if op = 5 then decide (b < a)
  else if op = 6 then decide (b ≤ a) else if op = 7 then !decide (andI .i64 a b = 0) else decide (andI .i64 a b = b)
section
set_option maxRecDepth 10000
theorem Pcompare (op a b : Int) (h1 : 1 ≤ op) (h2 : op ≤ 8) : AFn Tryz.prog 61 [.v (.int .i64 op), .v (.int .i64 a), .v (.int .i64 b)] (fun r => r = .v (.bool (cmpL op a b))) := by
  refine enter Tryz.func61 rfl rfl rfl rfl rfl 0 rfl ?_
  refine aw_seq (fun K hK => ?_)
  refine aw_region ?_
  refine al_p rfl (st_assign rfl ?_)
  refine al_nil ?_
  refine x_then ?_
  refine hK _ ?_
  clear hK K
  refine aw_seq (fun K hK => ?_)
  refine aw_seq (fun K hK => ?_)
  refine aw_region ?_
  refine al_p rfl (st_move rfl ?_)
  refine al_nil ?_
  refine x_then ?_
  refine hK _ ?_
  clear hK K
  refine aw_block ?_
  refine aw_seq (fun K hK => ?_)
  refine aw_region ?_
  first | refine al_p rfl (st_eql rfl rfl ?_) | refine al_p rfl (st_eqlS rfl rfl ?_) | refine al_p rfl (st_eqlB (by kernel_rfl) rfl rfl ?_)
  refine al_p rfl (st_assign rfl ?_)
  refine al_nil ?_
  refine x_then ?_
  refine hK _ ?_
  clear hK K
  refine aw_cond rfl (fun hb1 => ?_) (fun hb1 => ?_)
  · have hc1 := bp hb1
    refine aw_seq (fun K hK => ?_)
    refine aw_region ?_
    refine al_p rfl (st_move rfl ?_)
    refine al_p rfl (st_move rfl ?_)
    first | refine al_p rfl (st_eql rfl rfl ?_) | refine al_p rfl (st_eqlS rfl rfl ?_) | refine al_p rfl (st_eqlB (by kernel_rfl) rfl rfl ?_)
    refine al_p rfl (st_assign rfl ?_)
    refine al_nil ?_
    refine x_then ?_
    refine hK _ ?_
    clear hK K
    refine aw_ret ?_
    refine x_blockR ?_
    refine x_thenR ?_
    clear hK K
    refine e_ret ?_
    first | (exfalso; first | contradiction | omega) | (exact vb (by unfold cmpL; simp [*]))
  · have hc1 := bp hb1
    refine aw_seq (fun K hK => ?_)
    refine aw_region ?_
    first | refine al_p rfl (st_eql rfl rfl ?_) | refine al_p rfl (st_eqlS rfl rfl ?_) | refine al_p rfl (st_eqlB (by kernel_rfl) rfl rfl ?_)
    refine al_p rfl (st_assign rfl ?_)
    refine al_nil ?_
    refine x_then ?_
    refine hK _ ?_
    clear hK K
    refine aw_cond rfl (fun hb2 => ?_) (fun hb2 => ?_)
    · have hc2 := bp hb2
      refine aw_seq (fun K hK => ?_)
      refine aw_region ?_
      refine al_p rfl (st_move rfl ?_)
      refine al_p rfl (st_move rfl ?_)
      first | refine al_p rfl (st_neq rfl rfl ?_) | refine al_p rfl (st_neqS rfl rfl ?_) | refine al_p rfl (st_neqB (by kernel_rfl) rfl rfl ?_)
      refine al_p rfl (st_assign rfl ?_)
      refine al_nil ?_
      refine x_then ?_
      refine hK _ ?_
      clear hK K
      refine aw_ret ?_
      refine x_blockR ?_
      refine x_thenR ?_
      clear hK K
      refine e_ret ?_
      first | (exfalso; first | contradiction | omega) | (exact vb (by unfold cmpL; simp [*]))
    · have hc2 := bp hb2
      refine aw_seq (fun K hK => ?_)
      refine aw_region ?_
      first | refine al_p rfl (st_eql rfl rfl ?_) | refine al_p rfl (st_eqlS rfl rfl ?_) | refine al_p rfl (st_eqlB (by kernel_rfl) rfl rfl ?_)
      refine al_p rfl (st_assign rfl ?_)
      refine al_nil ?_
      refine x_then ?_
      refine hK _ ?_
      clear hK K
      refine aw_cond rfl (fun hb3 => ?_) (fun hb3 => ?_)
      · have hc3 := bp hb3
        refine aw_seq (fun K hK => ?_)
        refine aw_region ?_
        refine al_p rfl (st_move rfl ?_)
        refine al_p rfl (st_move rfl ?_)
        first | refine al_p rfl (st_lss rfl rfl ?_) | refine al_p rfl (st_lssS rfl rfl ?_)
        refine al_p rfl (st_assign rfl ?_)
        refine al_nil ?_
        refine x_then ?_
        refine hK _ ?_
        clear hK K
        refine aw_ret ?_
        refine x_blockR ?_
        refine x_thenR ?_
        clear hK K
        refine e_ret ?_
        first | (exfalso; first | contradiction | omega) | (exact vb (by unfold cmpL; simp [*]))
      · have hc3 := bp hb3
        refine aw_seq (fun K hK => ?_)
        refine aw_region ?_
        first | refine al_p rfl (st_eql rfl rfl ?_) | refine al_p rfl (st_eqlS rfl rfl ?_) | refine al_p rfl (st_eqlB (by kernel_rfl) rfl rfl ?_)
        refine al_p rfl (st_assign rfl ?_)
        refine al_nil ?_
        refine x_then ?_
        refine hK _ ?_
        clear hK K
        refine aw_cond rfl (fun hb4 => ?_) (fun hb4 => ?_)
        · have hc4 := bp hb4
          refine aw_seq (fun K hK => ?_)
          refine aw_region ?_
          refine al_p rfl (st_move rfl ?_)
          refine al_p rfl (st_move rfl ?_)
          refine al_p rfl (st_leq rfl rfl ?_)
          refine al_p rfl (st_assign rfl ?_)
          refine al_nil ?_
          refine x_then ?_
          refine hK _ ?_
          clear hK K
          refine aw_ret ?_
          refine x_blockR ?_
          refine x_thenR ?_
          clear hK K
          refine e_ret ?_
          first | (exfalso; first | contradiction | omega) | (exact vb (by unfold cmpL; simp [*]))
        · have hc4 := bp hb4
          refine aw_seq (fun K hK => ?_)
          refine aw_region ?_
          first | refine al_p rfl (st_eql rfl rfl ?_) | refine al_p rfl (st_eqlS rfl rfl ?_) | refine al_p rfl (st_eqlB (by kernel_rfl) rfl rfl ?_)
          refine al_p rfl (st_assign rfl ?_)
          refine al_nil ?_
          refine x_then ?_
          refine hK _ ?_
          clear hK K
          refine aw_cond rfl (fun hb5 => ?_) (fun hb5 => ?_)
          · have hc5 := bp hb5
            refine aw_seq (fun K hK => ?_)
            refine aw_region ?_
            refine al_p rfl (st_move rfl ?_)
            refine al_p rfl (st_move rfl ?_)
            refine al_p rfl (st_gtr rfl rfl ?_)
            refine al_p rfl (st_assign rfl ?_)
            refine al_nil ?_
            refine x_then ?_
            refine hK _ ?_
            clear hK K
            refine aw_ret ?_
            refine x_blockR ?_
            refine x_thenR ?_
            clear hK K
            refine e_ret ?_
            first | (exfalso; first | contradiction | omega) | (exact vb (by unfold cmpL; simp [*]))
          · have hc5 := bp hb5
            refine aw_seq (fun K hK => ?_)
            refine aw_region ?_
            first | refine al_p rfl (st_eql rfl rfl ?_) | refine al_p rfl (st_eqlS rfl rfl ?_) | refine al_p rfl (st_eqlB (by kernel_rfl) rfl rfl ?_)
            refine al_p rfl (st_assign rfl ?_)
            refine al_nil ?_
            refine x_then ?_
            refine hK _ ?_
            clear hK K
            refine aw_cond rfl (fun hb6 => ?_) (fun hb6 => ?_)
            · have hc6 := bp hb6
              refine aw_seq (fun K hK => ?_)
              refine aw_region ?_
              refine al_p rfl (st_move rfl ?_)
              refine al_p rfl (st_move rfl ?_)
              first | refine al_p rfl (st_geq rfl rfl ?_) | refine al_p rfl (st_geqS rfl rfl ?_)
              refine al_p rfl (st_assign rfl ?_)
              refine al_nil ?_
              refine x_then ?_
              refine hK _ ?_
              clear hK K
              refine aw_ret ?_
              refine x_blockR ?_
              refine x_thenR ?_
              clear hK K
              refine e_ret ?_
              first | (exfalso; first | contradiction | omega) | (exact vb (by unfold cmpL; simp [*]))
            · have hc6 := bp hb6
              refine aw_seq (fun K hK => ?_)
              refine aw_region ?_
              first | refine al_p rfl (st_eql rfl rfl ?_) | refine al_p rfl (st_eqlS rfl rfl ?_) | refine al_p rfl (st_eqlB (by kernel_rfl) rfl rfl ?_)
              refine al_p rfl (st_assign rfl ?_)
              refine al_nil ?_
              refine x_then ?_
              refine hK _ ?_
              clear hK K
              refine aw_cond rfl (fun hb7 => ?_) (fun hb7 => ?_)
              · have hc7 := bp hb7
                refine aw_seq (fun K hK => ?_)
                refine aw_region ?_
                refine al_p rfl (st_move rfl ?_)
                refine al_p rfl (st_move rfl ?_)
                refine al_p rfl (st_and rfl rfl ?_)
                first | refine al_p rfl (st_neq rfl rfl ?_) | refine al_p rfl (st_neqS rfl rfl ?_) | refine al_p rfl (st_neqB (by kernel_rfl) rfl rfl ?_)
                refine al_p rfl (st_assign rfl ?_)
                refine al_nil ?_
                refine x_then ?_
                refine hK _ ?_
                clear hK K
                refine aw_ret ?_
                refine x_blockR ?_
                refine x_thenR ?_
                clear hK K
                refine e_ret ?_
                first | (exfalso; first | contradiction | omega) | (exact vb (by unfold cmpL; simp [*]))
              · have hc7 := bp hb7
                refine aw_seq (fun K hK => ?_)
                refine aw_region ?_
                first | refine al_p rfl (st_eql rfl rfl ?_) | refine al_p rfl (st_eqlS rfl rfl ?_) | refine al_p rfl (st_eqlB (by kernel_rfl) rfl rfl ?_)
                refine al_p rfl (st_assign rfl ?_)
                refine al_nil ?_
                refine x_then ?_
                refine hK _ ?_
                clear hK K
                refine aw_cond rfl (fun hb8 => ?_) (fun hb8 => ?_)
                · have hc8 := bp hb8
                  refine aw_seq (fun K hK => ?_)
                  refine aw_region ?_
                  refine al_p rfl (st_move rfl ?_)
                  refine al_p rfl (st_move rfl ?_)
                  refine al_p rfl (st_and rfl rfl ?_)
                  refine al_p rfl (st_move rfl ?_)
                  first | refine al_p rfl (st_eql rfl rfl ?_) | refine al_p rfl (st_eqlS rfl rfl ?_) | refine al_p rfl (st_eqlB (by kernel_rfl) rfl rfl ?_)
                  refine al_p rfl (st_assign rfl ?_)
                  refine al_nil ?_
                  refine x_then ?_
                  refine hK _ ?_
                  clear hK K
                  refine aw_ret ?_
                  refine x_blockR ?_
                  refine x_thenR ?_
                  clear hK K
                  refine e_ret ?_
                  first | (exfalso; first | contradiction | omega) | (exact vb (by unfold cmpL; simp [*]))
                · have hc8 := bp hb8
                  refine aw_skip ?_
                  refine x_blockN ?_
                  refine x_then ?_
                  refine hK _ ?_
                  clear hK K
                  refine aw_seq (fun K hK => ?_)
                  refine aw_region ?_
                  refine al_p rfl (st_assign rfl ?_)
                  refine al_nil ?_
                  refine x_then ?_
                  refine hK _ ?_
                  clear hK K
                  refine aw_ret ?_
                  refine e_ret ?_
                  first | (exfalso; first | contradiction | omega) | (exact vb (by unfold cmpL; simp [*]))

theorem Rholds (op a b : Int) (h1 : 1 ≤ op) (h2 : op ≤ 8) : AFn Tryz.prog 64 [.v (.int .i64 op), .v (.int .i64 a), .v (.int .i64 b)] (fun r => r = .v (.bool (cmpL op a b))) := by
  refine enter Tryz.func64 rfl rfl rfl rfl rfl 0 rfl ?_
  refine aw_seq (fun K hK => ?_)
  refine aw_region ?_
  refine al_p rfl (st_assign rfl ?_)
  refine al_nil ?_
  refine x_then ?_
  refine hK _ ?_
  clear hK K
  refine aw_seq (fun K hK => ?_)
  refine aw_seq (fun K hK => ?_)
  refine aw_region ?_
  refine al_p rfl (st_move rfl ?_)
  refine al_nil ?_
  refine x_then ?_
  refine hK _ ?_
  clear hK K
  refine aw_block ?_
  refine aw_seq (fun K hK => ?_)
  refine aw_region ?_
  first | refine al_p rfl (st_eql rfl rfl ?_) | refine al_p rfl (st_eqlS rfl rfl ?_) | refine al_p rfl (st_eqlB (by kernel_rfl) rfl rfl ?_)
  refine al_p rfl (st_assign rfl ?_)
  refine al_nil ?_
  refine x_then ?_
  refine hK _ ?_
  clear hK K
  refine aw_cond rfl (fun hb1 => ?_) (fun hb1 => ?_)
  · have hc1 := bp hb1
    refine aw_seq (fun K hK => ?_)
    refine aw_region ?_
    refine al_p rfl (st_move rfl ?_)
    refine al_p rfl (st_move rfl ?_)
    first | refine al_p rfl (st_eql rfl rfl ?_) | refine al_p rfl (st_eqlS rfl rfl ?_) | refine al_p rfl (st_eqlB (by kernel_rfl) rfl rfl ?_)
    refine al_p rfl (st_assign rfl ?_)
    refine al_nil ?_
    refine x_then ?_
    refine hK _ ?_
    clear hK K
    refine aw_ret ?_
    refine x_blockR ?_
    refine x_thenR ?_
    clear hK K
    refine e_ret ?_
    first | (exfalso; first | contradiction | omega) | (exact vb (by unfold cmpL; simp [*]))
  · have hc1 := bp hb1
    refine aw_seq (fun K hK => ?_)
    refine aw_region ?_
    first | refine al_p rfl (st_eql rfl rfl ?_) | refine al_p rfl (st_eqlS rfl rfl ?_) | refine al_p rfl (st_eqlB (by kernel_rfl) rfl rfl ?_)
    refine al_p rfl (st_assign rfl ?_)
    refine al_nil ?_
    refine x_then ?_
    refine hK _ ?_
    clear hK K
    refine aw_cond rfl (fun hb2 => ?_) (fun hb2 => ?_)
    · have hc2 := bp hb2
      refine aw_seq (fun K hK => ?_)
      refine aw_region ?_
      refine al_p rfl (st_move rfl ?_)
      refine al_p rfl (st_move rfl ?_)
      first | refine al_p rfl (st_neq rfl rfl ?_) | refine al_p rfl (st_neqS rfl rfl ?_) | refine al_p rfl (st_neqB (by kernel_rfl) rfl rfl ?_)
      refine al_p rfl (st_assign rfl ?_)
      refine al_nil ?_
      refine x_then ?_
      refine hK _ ?_
      clear hK K
      refine aw_ret ?_
      refine x_blockR ?_
      refine x_thenR ?_
      clear hK K
      refine e_ret ?_
      first | (exfalso; first | contradiction | omega) | (exact vb (by unfold cmpL; simp [*]))
    · have hc2 := bp hb2
      refine aw_seq (fun K hK => ?_)
      refine aw_region ?_
      first | refine al_p rfl (st_eql rfl rfl ?_) | refine al_p rfl (st_eqlS rfl rfl ?_) | refine al_p rfl (st_eqlB (by kernel_rfl) rfl rfl ?_)
      refine al_p rfl (st_assign rfl ?_)
      refine al_nil ?_
      refine x_then ?_
      refine hK _ ?_
      clear hK K
      refine aw_cond rfl (fun hb3 => ?_) (fun hb3 => ?_)
      · have hc3 := bp hb3
        refine aw_seq (fun K hK => ?_)
        refine aw_region ?_
        refine al_p rfl (st_move rfl ?_)
        refine al_p rfl (st_move rfl ?_)
        first | refine al_p rfl (st_lss rfl rfl ?_) | refine al_p rfl (st_lssS rfl rfl ?_)
        refine al_p rfl (st_assign rfl ?_)
        refine al_nil ?_
        refine x_then ?_
        refine hK _ ?_
        clear hK K
        refine aw_ret ?_
        refine x_blockR ?_
        refine x_thenR ?_
        clear hK K
        refine e_ret ?_
        first | (exfalso; first | contradiction | omega) | (exact vb (by unfold cmpL; simp [*]))
      · have hc3 := bp hb3
        refine aw_seq (fun K hK => ?_)
        refine aw_region ?_
        first | refine al_p rfl (st_eql rfl rfl ?_) | refine al_p rfl (st_eqlS rfl rfl ?_) | refine al_p rfl (st_eqlB (by kernel_rfl) rfl rfl ?_)
        refine al_p rfl (st_assign rfl ?_)
        refine al_nil ?_
        refine x_then ?_
        refine hK _ ?_
        clear hK K
        refine aw_cond rfl (fun hb4 => ?_) (fun hb4 => ?_)
        · have hc4 := bp hb4
          refine aw_seq (fun K hK => ?_)
          refine aw_region ?_
          refine al_p rfl (st_move rfl ?_)
          refine al_p rfl (st_move rfl ?_)
          refine al_p rfl (st_leq rfl rfl ?_)
          refine al_p rfl (st_assign rfl ?_)
          refine al_nil ?_
          refine x_then ?_
          refine hK _ ?_
          clear hK K
          refine aw_ret ?_
          refine x_blockR ?_
          refine x_thenR ?_
          clear hK K
          refine e_ret ?_
          first | (exfalso; first | contradiction | omega) | (exact vb (by unfold cmpL; simp [*]))
        · have hc4 := bp hb4
          refine aw_seq (fun K hK => ?_)
          refine aw_region ?_
          first | refine al_p rfl (st_eql rfl rfl ?_) | refine al_p rfl (st_eqlS rfl rfl ?_) | refine al_p rfl (st_eqlB (by kernel_rfl) rfl rfl ?_)
          refine al_p rfl (st_assign rfl ?_)
          refine al_nil ?_
          refine x_then ?_
          refine hK _ ?_
          clear hK K
          refine aw_cond rfl (fun hb5 => ?_) (fun hb5 => ?_)
          · have hc5 := bp hb5
            refine aw_seq (fun K hK => ?_)
            refine aw_region ?_
            refine al_p rfl (st_move rfl ?_)
            refine al_p rfl (st_move rfl ?_)
            refine al_p rfl (st_gtr rfl rfl ?_)
            refine al_p rfl (st_assign rfl ?_)
            refine al_nil ?_
            refine x_then ?_
            refine hK _ ?_
            clear hK K
            refine aw_ret ?_
            refine x_blockR ?_
            refine x_thenR ?_
            clear hK K
            refine e_ret ?_
            first | (exfalso; first | contradiction | omega) | (exact vb (by unfold cmpL; simp [*]))
          · have hc5 := bp hb5
            refine aw_seq (fun K hK => ?_)
            refine aw_region ?_
            first | refine al_p rfl (st_eql rfl rfl ?_) | refine al_p rfl (st_eqlS rfl rfl ?_) | refine al_p rfl (st_eqlB (by kernel_rfl) rfl rfl ?_)
            refine al_p rfl (st_assign rfl ?_)
            refine al_nil ?_
            refine x_then ?_
            refine hK _ ?_
            clear hK K
            refine aw_cond rfl (fun hb6 => ?_) (fun hb6 => ?_)
            · have hc6 := bp hb6
              refine aw_seq (fun K hK => ?_)
              refine aw_region ?_
              refine al_p rfl (st_move rfl ?_)
              refine al_p rfl (st_move rfl ?_)
              first | refine al_p rfl (st_geq rfl rfl ?_) | refine al_p rfl (st_geqS rfl rfl ?_)
              refine al_p rfl (st_assign rfl ?_)
              refine al_nil ?_
              refine x_then ?_
              refine hK _ ?_
              clear hK K
              refine aw_ret ?_
              refine x_blockR ?_
              refine x_thenR ?_
              clear hK K
              refine e_ret ?_
              first | (exfalso; first | contradiction | omega) | (exact vb (by unfold cmpL; simp [*]))
            · have hc6 := bp hb6
              refine aw_seq (fun K hK => ?_)
              refine aw_region ?_
              first | refine al_p rfl (st_eql rfl rfl ?_) | refine al_p rfl (st_eqlS rfl rfl ?_) | refine al_p rfl (st_eqlB (by kernel_rfl) rfl rfl ?_)
              refine al_p rfl (st_assign rfl ?_)
              refine al_nil ?_
              refine x_then ?_
              refine hK _ ?_
              clear hK K
              refine aw_cond rfl (fun hb7 => ?_) (fun hb7 => ?_)
              · have hc7 := bp hb7
                refine aw_seq (fun K hK => ?_)
                refine aw_region ?_
                refine al_p rfl (st_move rfl ?_)
                refine al_p rfl (st_move rfl ?_)
                refine al_p rfl (st_and rfl rfl ?_)
                first | refine al_p rfl (st_neq rfl rfl ?_) | refine al_p rfl (st_neqS rfl rfl ?_) | refine al_p rfl (st_neqB (by kernel_rfl) rfl rfl ?_)
                refine al_p rfl (st_assign rfl ?_)
                refine al_nil ?_
                refine x_then ?_
                refine hK _ ?_
                clear hK K
                refine aw_ret ?_
                refine x_blockR ?_
                refine x_thenR ?_
                clear hK K
                refine e_ret ?_
                first | (exfalso; first | contradiction | omega) | (exact vb (by unfold cmpL; simp [*]))
              · have hc7 := bp hb7
                refine aw_skip ?_
                refine x_blockN ?_
                refine x_then ?_
                refine hK _ ?_
                clear hK K
                refine aw_seq (fun K hK => ?_)
                refine aw_region ?_
                refine al_p rfl (st_move rfl ?_)
                refine al_p rfl (st_move rfl ?_)
                refine al_p rfl (st_and rfl rfl ?_)
                refine al_p rfl (st_move rfl ?_)
                first | refine al_p rfl (st_eql rfl rfl ?_) | refine al_p rfl (st_eqlS rfl rfl ?_) | refine al_p rfl (st_eqlB (by kernel_rfl) rfl rfl ?_)
                refine al_p rfl (st_assign rfl ?_)
                refine al_nil ?_
                refine x_then ?_
                refine hK _ ?_
                clear hK K
                refine aw_ret ?_
                refine e_ret ?_
                first | (exfalso; first | contradiction | omega) | (exact vb (by unfold cmpL; simp [*]))

theorem Rhas (f : Int) (c : Ctx) (k : Cxs) : AFn Tryz.prog 43 [.v (.int .i64 f), .agg (ctxA c k)] (fun r => r = .v (.bool (hasR f c))) := by
  refine enter Tryz.func43 rfl rfl rfl rfl rfl 0 rfl ?_
  refine aw_seq (fun K hK => ?_)
  refine aw_region ?_
  first | refine al_p rfl (s_boxA rfl rfl (by repeat constructor) ?_) | refine al_p rfl (s_box rfl rfl (by repeat constructor) ?_)
  refine al_p rfl (st_assign rfl ?_)
  refine al_nil ?_
  refine x_then ?_
  refine hK _ ?_
  clear hK K
  refine aw_seq (fun K hK => ?_)
  refine aw_seq (fun K hK => ?_)
  refine aw_region ?_
  refine al_p rfl (st_move rfl ?_)
  first | refine al_p rfl (st_geq rfl rfl ?_) | refine al_p rfl (st_geqS rfl rfl ?_)
  refine al_p rfl (st_move rfl ?_)
  refine al_gs true rfl rfl (fun hb1 => ?_) (fun hb1 => ?_)
  · have hc1 := bp hb1
    refine g_y (st_move rfl ?_)
    refine g_y (st_leq rfl rfl ?_)
    refine al_p rfl (p_t ?_)
    refine al_nil ?_
    refine x_then ?_
    refine hK _ ?_
    clear hK K
    refine aw_cond rfl (fun hb2 => ?_) (fun hb2 => ?_)
    · have hc2 := bp hb2
      refine aw_seq (fun K hK => ?_)
      refine aw_region ?_
      refine al_p rfl (st_fieldB rfl ?_)
      refine al_p rfl (st_loadB1 rfl rfl rfl ?_)
      first | refine al_p rfl (st_eql rfl rfl ?_) | refine al_p rfl (st_eqlS rfl rfl ?_) | refine al_p rfl (st_eqlB (by kernel_rfl) rfl rfl ?_)
      refine al_p rfl (st_assign rfl ?_)
      refine al_nil ?_
      refine x_then ?_
      refine hK _ ?_
      clear hK K
      refine aw_ret ?_
      refine x_thenR ?_
      clear hK K
      refine e_ret ?_
      first | (exfalso; first | contradiction | omega) | (exact vb (by unfold hasR; (repeat' split) <;> (try rw [Bool.eq_iff_iff]) <;> (try simp [*]) <;> (try omega)))
    · have hc2 := bp hb2
      refine aw_skip ?_
      refine x_then ?_
      refine hK _ ?_
      clear hK K
      refine aw_seq (fun K hK => ?_)
      refine aw_region ?_
      refine al_p rfl (st_move rfl ?_)
      first | refine al_p rfl (st_neq rfl rfl ?_) | refine al_p rfl (st_neqS rfl rfl ?_) | refine al_p rfl (st_neqB (by kernel_rfl) rfl rfl ?_)
      refine al_p rfl (st_move rfl ?_)
      refine al_gs false rfl rfl (fun hb3 => ?_) (fun hb3 => ?_)
      · have hc3 := bp hb3
        refine g_n ?_
        refine g_n ?_
        refine g_n ?_
        refine al_p rfl (p_t ?_)
        refine al_p rfl (st_assign rfl ?_)
        refine al_nil ?_
        refine x_then ?_
        refine hK _ ?_
        clear hK K
        refine aw_ret ?_
        refine e_ret ?_
        first | (exfalso; first | contradiction | omega) | (exact vb (by unfold hasR; (repeat' split) <;> (try rw [Bool.eq_iff_iff]) <;> (try simp [*]) <;> (try omega)))
      · have hc3 := bp hb3
        refine g_y (st_fieldB rfl ?_)
        refine g_y (st_loadB1 rfl rfl rfl ?_)
        first | refine g_y (st_neq rfl rfl ?_) | refine g_y (st_neqS rfl rfl ?_) | refine g_y (st_neqB (by kernel_rfl) rfl rfl ?_)
        refine al_p rfl (p_f ?_)
        refine al_p rfl (st_assign rfl ?_)
        refine al_nil ?_
        refine x_then ?_
        refine hK _ ?_
        clear hK K
        refine aw_ret ?_
        refine e_ret ?_
        first | (exfalso; first | contradiction | omega) | (exact vb (by unfold hasR; (repeat' split) <;> (try rw [Bool.eq_iff_iff]) <;> (try simp [*]) <;> (try omega)))
  · have hc1 := bp hb1
    refine g_n ?_
    refine g_n ?_
    refine al_p rfl (p_f ?_)
    refine al_nil ?_
    refine x_then ?_
    refine hK _ ?_
    clear hK K
    refine aw_cn rfl (by first | rfl | assumption | simp [*]) ?_
    refine aw_skip ?_
    refine x_then ?_
    refine hK _ ?_
    clear hK K
    refine aw_seq (fun K hK => ?_)
    refine aw_region ?_
    refine al_p rfl (st_move rfl ?_)
    first | refine al_p rfl (st_neq rfl rfl ?_) | refine al_p rfl (st_neqS rfl rfl ?_) | refine al_p rfl (st_neqB (by kernel_rfl) rfl rfl ?_)
    refine al_p rfl (st_move rfl ?_)
    refine al_gs false rfl rfl (fun hb4 => ?_) (fun hb4 => ?_)
    · have hc4 := bp hb4
      refine g_n ?_
      refine g_n ?_
      refine g_n ?_
      refine al_p rfl (p_t ?_)
      refine al_p rfl (st_assign rfl ?_)
      refine al_nil ?_
      refine x_then ?_
      refine hK _ ?_
      clear hK K
      refine aw_ret ?_
      refine e_ret ?_
      first | (exfalso; first | contradiction | omega) | (exact vb (by unfold hasR; (repeat' split) <;> (try rw [Bool.eq_iff_iff]) <;> (try simp [*]) <;> (try omega)))
    · have hc4 := bp hb4
      refine g_y (st_fieldB rfl ?_)
      refine g_y (st_loadB1 rfl rfl rfl ?_)
      first | refine g_y (st_neq rfl rfl ?_) | refine g_y (st_neqS rfl rfl ?_) | refine g_y (st_neqB (by kernel_rfl) rfl rfl ?_)
      refine al_p rfl (p_f ?_)
      refine al_p rfl (st_assign rfl ?_)
      refine al_nil ?_
      refine x_then ?_
      refine hK _ ?_
      clear hK K
      refine aw_ret ?_
      refine e_ret ?_
      first | (exfalso; first | contradiction | omega) | (exact vb (by unfold hasR; (repeat' split) <;> (try rw [Bool.eq_iff_iff]) <;> (try simp [*]) <;> (try omega)))

theorem Rnumber (f : Int) (c : Ctx) (k : Cxs) (y : Itm) : AFn Tryz.prog 63 [.v (.int .i64 f), .agg (ctxA c k), .agg (itmA y)] (fun r => r = .v (.int .i64 (numL f c y))) := by
  refine enter Tryz.func63 rfl rfl rfl rfl rfl 0 rfl ?_
  refine aw_seq (fun K hK => ?_)
  refine aw_region ?_
  first | refine al_p rfl (s_boxA rfl rfl (by repeat constructor) ?_) | refine al_p rfl (s_box rfl rfl (by repeat constructor) ?_)
  first | refine al_p rfl (s_boxA rfl rfl (by repeat constructor) ?_) | refine al_p rfl (s_box rfl rfl (by repeat constructor) ?_)
  refine al_p rfl (st_assign rfl ?_)
  refine al_nil ?_
  refine x_then ?_
  refine hK _ ?_
  clear hK K
  refine aw_seq (fun K hK => ?_)
  refine aw_region ?_
  refine al_p rfl (st_fieldB rfl ?_)
  refine al_p rfl (st_loadBN rfl rfl rfl ?_)
  refine al_p rfl (s_alloc (by repeat constructor) ?_)
  refine al_p0 (s_store rfl rfl rfl rfl rfl rfl (by repeat constructor) (by repeat constructor) ?_)
  refine al_nil ?_
  refine x_then ?_
  refine hK _ ?_
  clear hK K
  refine aw_seq (fun K hK => ?_)
  refine aw_seq (fun K hK => ?_)
  refine aw_region ?_
  refine al_p rfl (st_move rfl ?_)
  refine al_nil ?_
  refine x_then ?_
  refine hK _ ?_
  clear hK K
  refine aw_block ?_
  refine aw_seq (fun K hK => ?_)
  refine aw_region ?_
  first | refine al_p rfl (st_eql rfl rfl ?_) | refine al_p rfl (st_eqlS rfl rfl ?_) | refine al_p rfl (st_eqlB (by kernel_rfl) rfl rfl ?_)
  refine al_p rfl (st_assign rfl ?_)
  refine al_nil ?_
  refine x_then ?_
  refine hK _ ?_
  clear hK K
  refine aw_cond rfl (fun hb1 => ?_) (fun hb1 => ?_)
  · have hc1 := bp hb1
    refine aw_seq (fun K hK => ?_)
    refine aw_region ?_
    refine al_p rfl (st_fieldB rfl ?_)
    refine al_p rfl (st_loadB1 rfl rfl rfl ?_)
    refine al_p rfl (st_assign rfl ?_)
    refine al_nil ?_
    refine x_then ?_
    refine hK _ ?_
    clear hK K
    refine aw_ret ?_
    refine x_blockR ?_
    refine x_thenR ?_
    clear hK K
    refine e_ret ?_
    first | (exfalso; first | contradiction | omega) | (exact vi (by unfold numL; simp [*]))
  · have hc1 := bp hb1
    refine aw_seq (fun K hK => ?_)
    refine aw_region ?_
    first | refine al_p rfl (st_eql rfl rfl ?_) | refine al_p rfl (st_eqlS rfl rfl ?_) | refine al_p rfl (st_eqlB (by kernel_rfl) rfl rfl ?_)
    refine al_p rfl (st_assign rfl ?_)
    refine al_nil ?_
    refine x_then ?_
    refine hK _ ?_
    clear hK K
    refine aw_cond rfl (fun hb2 => ?_) (fun hb2 => ?_)
    · have hc2 := bp hb2
      refine aw_seq (fun K hK => ?_)
      refine aw_region ?_
      refine al_p rfl (st_fieldB rfl ?_)
      refine al_p rfl (st_loadB1 rfl rfl rfl ?_)
      refine al_p rfl (st_assign rfl ?_)
      refine al_nil ?_
      refine x_then ?_
      refine hK _ ?_
      clear hK K
      refine aw_ret ?_
      refine x_blockR ?_
      refine x_thenR ?_
      clear hK K
      refine e_ret ?_
      first | (exfalso; first | contradiction | omega) | (exact vi (by unfold numL; simp [*]))
    · have hc2 := bp hb2
      refine aw_seq (fun K hK => ?_)
      refine aw_region ?_
      first | refine al_p rfl (st_eql rfl rfl ?_) | refine al_p rfl (st_eqlS rfl rfl ?_) | refine al_p rfl (st_eqlB (by kernel_rfl) rfl rfl ?_)
      refine al_p rfl (st_assign rfl ?_)
      refine al_nil ?_
      refine x_then ?_
      refine hK _ ?_
      clear hK K
      refine aw_cond rfl (fun hb3 => ?_) (fun hb3 => ?_)
      · have hc3 := bp hb3
        refine aw_seq (fun K hK => ?_)
        refine aw_region ?_
        refine al_p rfl (st_fieldB rfl ?_)
        refine al_p rfl (st_loadB1 rfl rfl rfl ?_)
        refine al_p rfl (st_assign rfl ?_)
        refine al_nil ?_
        refine x_then ?_
        refine hK _ ?_
        clear hK K
        refine aw_ret ?_
        refine x_blockR ?_
        refine x_thenR ?_
        clear hK K
        refine e_ret ?_
        first | (exfalso; first | contradiction | omega) | (exact vi (by unfold numL; simp [*]))
      · have hc3 := bp hb3
        refine aw_seq (fun K hK => ?_)
        refine aw_region ?_
        first | refine al_p rfl (st_eql rfl rfl ?_) | refine al_p rfl (st_eqlS rfl rfl ?_) | refine al_p rfl (st_eqlB (by kernel_rfl) rfl rfl ?_)
        refine al_p rfl (st_assign rfl ?_)
        refine al_nil ?_
        refine x_then ?_
        refine hK _ ?_
        clear hK K
        refine aw_cond rfl (fun hb4 => ?_) (fun hb4 => ?_)
        · have hc4 := bp hb4
          refine aw_seq (fun K hK => ?_)
          refine aw_region ?_
          refine al_p rfl (st_fieldB rfl ?_)
          refine al_p rfl (st_loadB1 rfl rfl rfl ?_)
          refine al_p rfl (st_assign rfl ?_)
          refine al_nil ?_
          refine x_then ?_
          refine hK _ ?_
          clear hK K
          refine aw_ret ?_
          refine x_blockR ?_
          refine x_thenR ?_
          clear hK K
          refine e_ret ?_
          first | (exfalso; first | contradiction | omega) | (exact vi (by unfold numL; simp [*]))
        · have hc4 := bp hb4
          refine aw_seq (fun K hK => ?_)
          refine aw_region ?_
          first | refine al_p rfl (st_eql rfl rfl ?_) | refine al_p rfl (st_eqlS rfl rfl ?_) | refine al_p rfl (st_eqlB (by kernel_rfl) rfl rfl ?_)
          refine al_p rfl (st_assign rfl ?_)
          refine al_nil ?_
          refine x_then ?_
          refine hK _ ?_
          clear hK K
          refine aw_cond rfl (fun hb5 => ?_) (fun hb5 => ?_)
          · have hc5 := bp hb5
            refine aw_seq (fun K hK => ?_)
            refine aw_region ?_
            refine al_p rfl (st_fieldB rfl ?_)
            refine al_p rfl (st_loadB1 rfl rfl rfl ?_)
            refine al_p rfl (st_assign rfl ?_)
            refine al_nil ?_
            refine x_then ?_
            refine hK _ ?_
            clear hK K
            refine aw_ret ?_
            refine x_blockR ?_
            refine x_thenR ?_
            clear hK K
            refine e_ret ?_
            first | (exfalso; first | contradiction | omega) | (exact vi (by unfold numL; simp [*]))
          · have hc5 := bp hb5
            refine aw_seq (fun K hK => ?_)
            refine aw_region ?_
            first | refine al_p rfl (st_eql rfl rfl ?_) | refine al_p rfl (st_eqlS rfl rfl ?_) | refine al_p rfl (st_eqlB (by kernel_rfl) rfl rfl ?_)
            refine al_p rfl (st_assign rfl ?_)
            refine al_nil ?_
            refine x_then ?_
            refine hK _ ?_
            clear hK K
            refine aw_cond rfl (fun hb6 => ?_) (fun hb6 => ?_)
            · have hc6 := bp hb6
              refine aw_seq (fun K hK => ?_)
              refine aw_region ?_
              refine al_p rfl (st_fieldB rfl ?_)
              refine al_p rfl (st_loadB1 rfl rfl rfl ?_)
              refine al_p rfl (st_assign rfl ?_)
              refine al_nil ?_
              refine x_then ?_
              refine hK _ ?_
              clear hK K
              refine aw_ret ?_
              refine x_blockR ?_
              refine x_thenR ?_
              clear hK K
              refine e_ret ?_
              first | (exfalso; first | contradiction | omega) | (exact vi (by unfold numL; simp [*]))
            · have hc6 := bp hb6
              refine aw_seq (fun K hK => ?_)
              refine aw_region ?_
              first | refine al_p rfl (st_eql rfl rfl ?_) | refine al_p rfl (st_eqlS rfl rfl ?_) | refine al_p rfl (st_eqlB (by kernel_rfl) rfl rfl ?_)
              refine al_p rfl (st_assign rfl ?_)
              refine al_nil ?_
              refine x_then ?_
              refine hK _ ?_
              clear hK K
              refine aw_cond rfl (fun hb7 => ?_) (fun hb7 => ?_)
              · have hc7 := bp hb7
                refine aw_seq (fun K hK => ?_)
                refine aw_region ?_
                refine al_p rfl (st_fieldB rfl ?_)
                refine al_p rfl (st_loadB1 rfl rfl rfl ?_)
                refine al_p rfl (st_assign rfl ?_)
                refine al_nil ?_
                refine x_then ?_
                refine hK _ ?_
                clear hK K
                refine aw_ret ?_
                refine x_blockR ?_
                refine x_thenR ?_
                clear hK K
                refine e_ret ?_
                first | (exfalso; first | contradiction | omega) | (exact vi (by unfold numL; simp [*]))
              · have hc7 := bp hb7
                refine aw_seq (fun K hK => ?_)
                refine aw_region ?_
                first | refine al_p rfl (st_eql rfl rfl ?_) | refine al_p rfl (st_eqlS rfl rfl ?_) | refine al_p rfl (st_eqlB (by kernel_rfl) rfl rfl ?_)
                refine al_p rfl (st_assign rfl ?_)
                refine al_nil ?_
                refine x_then ?_
                refine hK _ ?_
                clear hK K
                refine aw_cond rfl (fun hb8 => ?_) (fun hb8 => ?_)
                · have hc8 := bp hb8
                  refine aw_seq (fun K hK => ?_)
                  refine aw_region ?_
                  refine al_p rfl (st_fieldB rfl ?_)
                  refine al_p rfl (st_loadB1 rfl rfl rfl ?_)
                  refine al_p rfl (st_assign rfl ?_)
                  refine al_nil ?_
                  refine x_then ?_
                  refine hK _ ?_
                  clear hK K
                  refine aw_ret ?_
                  refine x_blockR ?_
                  refine x_thenR ?_
                  clear hK K
                  refine e_ret ?_
                  first | (exfalso; first | contradiction | omega) | (exact vi (by unfold numL; simp [*]))
                · have hc8 := bp hb8
                  refine aw_seq (fun K hK => ?_)
                  refine aw_seq (fun K hK => ?_)
                  refine aw_region ?_
                  first | refine al_p rfl (st_eql rfl rfl ?_) | refine al_p rfl (st_eqlS rfl rfl ?_) | refine al_p rfl (st_eqlB (by kernel_rfl) rfl rfl ?_)
                  refine al_p rfl (st_assign rfl ?_)
                  refine al_nil ?_
                  refine x_then ?_
                  refine hK _ ?_
                  clear hK K
                  refine aw_cond rfl (fun hb9 => ?_) (fun hb9 => ?_)
                  · have hc9 := bp hb9
                    refine aw_skip ?_
                    refine x_then ?_
                    refine hK _ ?_
                    clear hK K
                    refine aw_cy rfl (by first | rfl | assumption | simp [*]) ?_
                    refine aw_seq (fun K hK => ?_)
                    refine aw_region ?_
                    refine al_p rfl (st_move rfl ?_)
                    first | refine al_p rfl (st_sub64 rfl rfl (by omega) ?_) | refine al_p rfl (st_sub rfl rfl ?_)
                    refine al_p rfl (st_fieldB rfl ?_)
                    refine al_p rfl (st_fieldB rfl ?_)
                    first | refine al_p rfl (st_indexB (n := 0) (len := 4) (sz := 1) (by kernel_rfl) rfl rfl (by omega) rfl ?_) | refine al_p rfl (st_indexB (n := 1) (len := 4) (sz := 1) (by kernel_rfl) rfl rfl (by omega) rfl ?_) | refine al_p rfl (st_indexB (n := 2) (len := 4) (sz := 1) (by kernel_rfl) rfl rfl (by omega) rfl ?_) | refine al_p rfl (st_indexB (n := 3) (len := 4) (sz := 1) (by kernel_rfl) rfl rfl (by omega) rfl ?_)
                    first | refine al_p rfl (st_loadB1 rfl rfl rfl ?_) | refine al_p rfl (st_loadBW rfl rfl rfl ?_) | refine al_p rfl (st_loadF1 rfl rfl ?_) | refine al_p rfl (st_loadFW rfl rfl ?_) | refine al_p rfl (st_loadBN rfl rfl rfl ?_) | refine al_p rfl (st_loadFN rfl rfl ?_)
                    refine al_p rfl (st_assign rfl ?_)
                    refine al_nil ?_
                    refine x_then ?_
                    refine hK _ ?_
                    clear hK K
                    refine aw_ret ?_
                    refine x_blockR ?_
                    refine x_thenR ?_
                    clear hK K
                    refine e_ret ?_
                    first | (exfalso; first | contradiction | omega) | (exact vi (by unfold numL; simp [*]))
                  · have hc9 := bp hb9
                    refine aw_seq (fun K hK => ?_)
                    refine aw_region ?_
                    first | refine al_p rfl (st_eql rfl rfl ?_) | refine al_p rfl (st_eqlS rfl rfl ?_) | refine al_p rfl (st_eqlB (by kernel_rfl) rfl rfl ?_)
                    refine al_p rfl (st_assign rfl ?_)
                    refine al_nil ?_
                    refine x_then ?_
                    refine hK _ ?_
                    clear hK K
                    refine aw_cond rfl (fun hb10 => ?_) (fun hb10 => ?_)
                    · have hc10 := bp hb10
                      refine aw_skip ?_
                      refine x_then ?_
                      refine hK _ ?_
                      clear hK K
                      refine aw_cy rfl (by first | rfl | assumption | simp [*]) ?_
                      refine aw_seq (fun K hK => ?_)
                      refine aw_region ?_
                      refine al_p rfl (st_move rfl ?_)
                      first | refine al_p rfl (st_sub64 rfl rfl (by omega) ?_) | refine al_p rfl (st_sub rfl rfl ?_)
                      refine al_p rfl (st_fieldB rfl ?_)
                      refine al_p rfl (st_fieldB rfl ?_)
                      first | refine al_p rfl (st_indexB (n := 0) (len := 4) (sz := 1) (by kernel_rfl) rfl rfl (by omega) rfl ?_) | refine al_p rfl (st_indexB (n := 1) (len := 4) (sz := 1) (by kernel_rfl) rfl rfl (by omega) rfl ?_) | refine al_p rfl (st_indexB (n := 2) (len := 4) (sz := 1) (by kernel_rfl) rfl rfl (by omega) rfl ?_) | refine al_p rfl (st_indexB (n := 3) (len := 4) (sz := 1) (by kernel_rfl) rfl rfl (by omega) rfl ?_)
                      first | refine al_p rfl (st_loadB1 rfl rfl rfl ?_) | refine al_p rfl (st_loadBW rfl rfl rfl ?_) | refine al_p rfl (st_loadF1 rfl rfl ?_) | refine al_p rfl (st_loadFW rfl rfl ?_) | refine al_p rfl (st_loadBN rfl rfl rfl ?_) | refine al_p rfl (st_loadFN rfl rfl ?_)
                      refine al_p rfl (st_assign rfl ?_)
                      refine al_nil ?_
                      refine x_then ?_
                      refine hK _ ?_
                      clear hK K
                      refine aw_ret ?_
                      refine x_blockR ?_
                      refine x_thenR ?_
                      clear hK K
                      refine e_ret ?_
                      first | (exfalso; first | contradiction | omega) | (exact vi (by unfold numL; simp [*]))
                    · have hc10 := bp hb10
                      refine aw_seq (fun K hK => ?_)
                      refine aw_region ?_
                      first | refine al_p rfl (st_eql rfl rfl ?_) | refine al_p rfl (st_eqlS rfl rfl ?_) | refine al_p rfl (st_eqlB (by kernel_rfl) rfl rfl ?_)
                      refine al_p rfl (st_assign rfl ?_)
                      refine al_nil ?_
                      refine x_then ?_
                      refine hK _ ?_
                      clear hK K
                      refine aw_cond rfl (fun hb11 => ?_) (fun hb11 => ?_)
                      · have hc11 := bp hb11
                        refine aw_skip ?_
                        refine x_then ?_
                        refine hK _ ?_
                        clear hK K
                        refine aw_cy rfl (by first | rfl | assumption | simp [*]) ?_
                        refine aw_seq (fun K hK => ?_)
                        refine aw_region ?_
                        refine al_p rfl (st_move rfl ?_)
                        first | refine al_p rfl (st_sub64 rfl rfl (by omega) ?_) | refine al_p rfl (st_sub rfl rfl ?_)
                        refine al_p rfl (st_fieldB rfl ?_)
                        refine al_p rfl (st_fieldB rfl ?_)
                        first | refine al_p rfl (st_indexB (n := 0) (len := 4) (sz := 1) (by kernel_rfl) rfl rfl (by omega) rfl ?_) | refine al_p rfl (st_indexB (n := 1) (len := 4) (sz := 1) (by kernel_rfl) rfl rfl (by omega) rfl ?_) | refine al_p rfl (st_indexB (n := 2) (len := 4) (sz := 1) (by kernel_rfl) rfl rfl (by omega) rfl ?_) | refine al_p rfl (st_indexB (n := 3) (len := 4) (sz := 1) (by kernel_rfl) rfl rfl (by omega) rfl ?_)
                        first | refine al_p rfl (st_loadB1 rfl rfl rfl ?_) | refine al_p rfl (st_loadBW rfl rfl rfl ?_) | refine al_p rfl (st_loadF1 rfl rfl ?_) | refine al_p rfl (st_loadFW rfl rfl ?_) | refine al_p rfl (st_loadBN rfl rfl rfl ?_) | refine al_p rfl (st_loadFN rfl rfl ?_)
                        refine al_p rfl (st_assign rfl ?_)
                        refine al_nil ?_
                        refine x_then ?_
                        refine hK _ ?_
                        clear hK K
                        refine aw_ret ?_
                        refine x_blockR ?_
                        refine x_thenR ?_
                        clear hK K
                        refine e_ret ?_
                        first | (exfalso; first | contradiction | omega) | (exact vi (by unfold numL; simp [*]))
                      · have hc11 := bp hb11
                        refine aw_region ?_
                        first | refine al_p rfl (st_eql rfl rfl ?_) | refine al_p rfl (st_eqlS rfl rfl ?_) | refine al_p rfl (st_eqlB (by kernel_rfl) rfl rfl ?_)
                        refine al_p rfl (st_assign rfl ?_)
                        refine al_nil ?_
                        refine x_then ?_
                        refine hK _ ?_
                        clear hK K
                        refine aw_cond rfl (fun hb12 => ?_) (fun hb12 => ?_)
                        · have hc12 := bp hb12
                          refine aw_seq (fun K hK => ?_)
                          refine aw_region ?_
                          refine al_p rfl (st_move rfl ?_)
                          first | refine al_p rfl (st_sub64 rfl rfl (by omega) ?_) | refine al_p rfl (st_sub rfl rfl ?_)
                          refine al_p rfl (st_fieldB rfl ?_)
                          refine al_p rfl (st_fieldB rfl ?_)
                          first | refine al_p rfl (st_indexB (n := 0) (len := 4) (sz := 1) (by kernel_rfl) rfl rfl (by omega) rfl ?_) | refine al_p rfl (st_indexB (n := 1) (len := 4) (sz := 1) (by kernel_rfl) rfl rfl (by omega) rfl ?_) | refine al_p rfl (st_indexB (n := 2) (len := 4) (sz := 1) (by kernel_rfl) rfl rfl (by omega) rfl ?_) | refine al_p rfl (st_indexB (n := 3) (len := 4) (sz := 1) (by kernel_rfl) rfl rfl (by omega) rfl ?_)
                          first | refine al_p rfl (st_loadB1 rfl rfl rfl ?_) | refine al_p rfl (st_loadBW rfl rfl rfl ?_) | refine al_p rfl (st_loadF1 rfl rfl ?_) | refine al_p rfl (st_loadFW rfl rfl ?_) | refine al_p rfl (st_loadBN rfl rfl rfl ?_) | refine al_p rfl (st_loadFN rfl rfl ?_)
                          refine al_p rfl (st_assign rfl ?_)
                          refine al_nil ?_
                          refine x_then ?_
                          refine hK _ ?_
                          clear hK K
                          refine aw_ret ?_
                          refine x_blockR ?_
                          refine x_thenR ?_
                          clear hK K
                          refine e_ret ?_
                          first | (exfalso; first | contradiction | omega) | (exact vi (by unfold numL; simp [*]))
                        · have hc12 := bp hb12
                          refine aw_seq (fun K hK => ?_)
                          refine aw_region ?_
                          first | refine al_p rfl (st_eql rfl rfl ?_) | refine al_p rfl (st_eqlS rfl rfl ?_) | refine al_p rfl (st_eqlB (by kernel_rfl) rfl rfl ?_)
                          refine al_p rfl (st_assign rfl ?_)
                          refine al_nil ?_
                          refine x_then ?_
                          refine hK _ ?_
                          clear hK K
                          refine aw_cond rfl (fun hb13 => ?_) (fun hb13 => ?_)
                          · have hc13 := bp hb13
                            refine aw_seq (fun K hK => ?_)
                            refine aw_region ?_
                            refine al_p rfl (st_fieldB rfl ?_)
                            refine al_p rfl (st_loadB1 rfl rfl rfl ?_)
                            refine al_p rfl (st_assign rfl ?_)
                            refine al_nil ?_
                            refine x_then ?_
                            refine hK _ ?_
                            clear hK K
                            refine aw_ret ?_
                            refine x_blockR ?_
                            refine x_thenR ?_
                            clear hK K
                            refine e_ret ?_
                            first | (exfalso; first | contradiction | omega) | (exact vi (by unfold numL; simp [*]))
                          · have hc13 := bp hb13
                            refine aw_seq (fun K hK => ?_)
                            refine aw_region ?_
                            first | refine al_p rfl (st_eql rfl rfl ?_) | refine al_p rfl (st_eqlS rfl rfl ?_) | refine al_p rfl (st_eqlB (by kernel_rfl) rfl rfl ?_)
                            refine al_p rfl (st_assign rfl ?_)
                            refine al_nil ?_
                            refine x_then ?_
                            refine hK _ ?_
                            clear hK K
                            refine aw_cond rfl (fun hb14 => ?_) (fun hb14 => ?_)
                            · have hc14 := bp hb14
                              refine aw_seq (fun K hK => ?_)
                              refine aw_seq (fun K hK => ?_)
                              refine aw_region ?_
                              refine al_p rfl (st_fieldB rfl ?_)
                              refine al_p rfl (st_loadB1 rfl rfl rfl ?_)
                              first | refine al_p rfl (st_geq rfl rfl ?_) | refine al_p rfl (st_geqS rfl rfl ?_)
                              refine al_nil ?_
                              refine x_then ?_
                              refine hK _ ?_
                              clear hK K
                              refine aw_cond rfl (fun hb15 => ?_) (fun hb15 => ?_)
                              · have hc15 := bp hb15
                                refine aw_seq (fun K hK => ?_)
                                refine aw_region ?_
                                refine al_p rfl (st_assign rfl ?_)
                                refine al_nil ?_
                                refine x_then ?_
                                refine hK _ ?_
                                clear hK K
                                refine aw_ret ?_
                                refine x_thenR ?_
                                clear hK K
                                refine x_blockR ?_
                                refine x_thenR ?_
                                clear hK K
                                refine e_ret ?_
                                first | (exfalso; first | contradiction | omega) | (exact vi (by unfold numL; simp [*]))
                              · have hc15 := bp hb15
                                refine aw_skip ?_
                                refine x_then ?_
                                refine hK _ ?_
                                clear hK K
                                refine aw_seq (fun K hK => ?_)
                                refine aw_region ?_
                                refine al_p rfl (st_assign rfl ?_)
                                refine al_nil ?_
                                refine x_then ?_
                                refine hK _ ?_
                                clear hK K
                                refine aw_ret ?_
                                refine x_blockR ?_
                                refine x_thenR ?_
                                clear hK K
                                refine e_ret ?_
                                first | (exfalso; first | contradiction | omega) | (exact vi (by unfold numL; simp [*]))
                            · have hc14 := bp hb14
                              refine aw_seq (fun K hK => ?_)
                              refine aw_region ?_
                              first | refine al_p rfl (st_eql rfl rfl ?_) | refine al_p rfl (st_eqlS rfl rfl ?_) | refine al_p rfl (st_eqlB (by kernel_rfl) rfl rfl ?_)
                              refine al_p rfl (st_assign rfl ?_)
                              refine al_nil ?_
                              refine x_then ?_
                              refine hK _ ?_
                              clear hK K
                              refine aw_cond rfl (fun hb16 => ?_) (fun hb16 => ?_)
                              · have hc16 := bp hb16
                                refine aw_seq (fun K hK => ?_)
                                refine aw_region ?_
                                refine al_p rfl (st_fieldB rfl ?_)
                                refine al_p rfl (st_fieldB rfl ?_)
                                refine al_p rfl (st_loadB1 rfl rfl rfl ?_)
                                refine al_p rfl (st_assign rfl ?_)
                                refine al_nil ?_
                                refine x_then ?_
                                refine hK _ ?_
                                clear hK K
                                refine aw_ret ?_
                                refine x_blockR ?_
                                refine x_thenR ?_
                                clear hK K
                                refine e_ret ?_
                                first | (exfalso; first | contradiction | omega) | (exact vi (by unfold numL; simp [*]))
                              · have hc16 := bp hb16
                                refine aw_seq (fun K hK => ?_)
                                refine aw_region ?_
                                first | refine al_p rfl (st_eql rfl rfl ?_) | refine al_p rfl (st_eqlS rfl rfl ?_) | refine al_p rfl (st_eqlB (by kernel_rfl) rfl rfl ?_)
                                refine al_p rfl (st_assign rfl ?_)
                                refine al_nil ?_
                                refine x_then ?_
                                refine hK _ ?_
                                clear hK K
                                refine aw_cond rfl (fun hb17 => ?_) (fun hb17 => ?_)
                                · have hc17 := bp hb17
                                  refine aw_seq (fun K hK => ?_)
                                  refine aw_region ?_
                                  refine al_p rfl (st_fieldB rfl ?_)
                                  refine al_p rfl (st_fieldB rfl ?_)
                                  refine al_p rfl (st_loadB1 rfl rfl rfl ?_)
                                  refine al_p rfl (st_assign rfl ?_)
                                  refine al_nil ?_
                                  refine x_then ?_
                                  refine hK _ ?_
                                  clear hK K
                                  refine aw_ret ?_
                                  refine x_blockR ?_
                                  refine x_thenR ?_
                                  clear hK K
                                  refine e_ret ?_
                                  first | (exfalso; first | contradiction | omega) | (exact vi (by unfold numL; simp [*]))
                                · have hc17 := bp hb17
                                  refine aw_seq (fun K hK => ?_)
                                  refine aw_region ?_
                                  first | refine al_p rfl (st_eql rfl rfl ?_) | refine al_p rfl (st_eqlS rfl rfl ?_) | refine al_p rfl (st_eqlB (by kernel_rfl) rfl rfl ?_)
                                  refine al_p rfl (st_assign rfl ?_)
                                  refine al_nil ?_
                                  refine x_then ?_
                                  refine hK _ ?_
                                  clear hK K
                                  refine aw_cond rfl (fun hb18 => ?_) (fun hb18 => ?_)
                                  · have hc18 := bp hb18
                                    refine aw_seq (fun K hK => ?_)
                                    refine aw_region ?_
                                    refine al_p rfl (st_fieldB rfl ?_)
                                    refine al_p rfl (st_loadB1 rfl rfl rfl ?_)
                                    refine al_p rfl (st_assign rfl ?_)
                                    refine al_nil ?_
                                    refine x_then ?_
                                    refine hK _ ?_
                                    clear hK K
                                    refine aw_ret ?_
                                    refine x_blockR ?_
                                    refine x_thenR ?_
                                    clear hK K
                                    refine e_ret ?_
                                    first | (exfalso; first | contradiction | omega) | (exact vi (by unfold numL; simp [*]))
                                  · have hc18 := bp hb18
                                    refine aw_seq (fun K hK => ?_)
                                    refine aw_region ?_
                                    first | refine al_p rfl (st_eql rfl rfl ?_) | refine al_p rfl (st_eqlS rfl rfl ?_) | refine al_p rfl (st_eqlB (by kernel_rfl) rfl rfl ?_)
                                    refine al_p rfl (st_assign rfl ?_)
                                    refine al_nil ?_
                                    refine x_then ?_
                                    refine hK _ ?_
                                    clear hK K
                                    refine aw_cond rfl (fun hb19 => ?_) (fun hb19 => ?_)
                                    · have hc19 := bp hb19
                                      refine aw_seq (fun K hK => ?_)
                                      refine aw_region ?_
                                      refine al_p rfl (st_fieldB rfl ?_)
                                      refine al_p rfl (st_loadB1 rfl rfl rfl ?_)
                                      refine al_p rfl (st_assign rfl ?_)
                                      refine al_nil ?_
                                      refine x_then ?_
                                      refine hK _ ?_
                                      clear hK K
                                      refine aw_ret ?_
                                      refine x_blockR ?_
                                      refine x_thenR ?_
                                      clear hK K
                                      refine e_ret ?_
                                      first | (exfalso; first | contradiction | omega) | (exact vi (by unfold numL; simp [*]))
                                    · have hc19 := bp hb19
                                      refine aw_seq (fun K hK => ?_)
                                      refine aw_region ?_
                                      first | refine al_p rfl (st_eql rfl rfl ?_) | refine al_p rfl (st_eqlS rfl rfl ?_) | refine al_p rfl (st_eqlB (by kernel_rfl) rfl rfl ?_)
                                      refine al_p rfl (st_assign rfl ?_)
                                      refine al_nil ?_
                                      refine x_then ?_
                                      refine hK _ ?_
                                      clear hK K
                                      refine aw_cond rfl (fun hb20 => ?_) (fun hb20 => ?_)
                                      · have hc20 := bp hb20
                                        refine aw_seq (fun K hK => ?_)
                                        refine aw_region ?_
                                        refine al_p rfl (st_fieldB rfl ?_)
                                        refine al_p rfl (st_loadB1 rfl rfl rfl ?_)
                                        refine al_p rfl (st_assign rfl ?_)
                                        refine al_nil ?_
                                        refine x_then ?_
                                        refine hK _ ?_
                                        clear hK K
                                        refine aw_ret ?_
                                        refine x_blockR ?_
                                        refine x_thenR ?_
                                        clear hK K
                                        refine e_ret ?_
                                        first | (exfalso; first | contradiction | omega) | (exact vi (by unfold numL; simp [*]))
                                      · have hc20 := bp hb20
                                        refine aw_skip ?_
                                        refine x_blockN ?_
                                        refine x_then ?_
                                        refine hK _ ?_
                                        clear hK K
                                        refine aw_seq (fun K hK => ?_)
                                        refine aw_region ?_
                                        refine al_p rfl (st_fieldB rfl ?_)
                                        refine al_p rfl (st_loadB1 rfl rfl rfl ?_)
                                        refine al_p rfl (st_assign rfl ?_)
                                        refine al_nil ?_
                                        refine x_then ?_
                                        refine hK _ ?_
                                        clear hK K
                                        refine aw_ret ?_
                                        refine e_ret ?_
                                        first | (exfalso; first | contradiction | omega) | (exact vi (by unfold numL; simp [*]))

theorem PatExit (f : Int) (c : Ctx) (k : Cxs) (y : Itm) (h1 : 15 ≤ f) (h2 : f ≤ 21) : AFn Tryz.prog 77 [.v (.int .i64 f), .agg (ctxA c k), .agg (itmA y)] (fun r => r = .tup [.v (.int .i64 (numL f c y)), .v (.bool true)]) := by
  refine enter Tryz.func77 rfl rfl rfl rfl rfl 0 rfl ?_
  refine aw_seq (fun K hK => ?_)
  refine aw_region ?_
  first | refine al_p rfl (s_boxA rfl rfl (by repeat constructor) ?_) | refine al_p rfl (s_box rfl rfl (by repeat constructor) ?_)
  first | refine al_p rfl (s_boxA rfl rfl (by repeat constructor) ?_) | refine al_p rfl (s_box rfl rfl (by repeat constructor) ?_)
  refine al_p rfl (st_assign rfl ?_)
  refine al_p rfl (st_assign rfl ?_)
  refine al_nil ?_
  refine x_then ?_
  refine hK _ ?_
  clear hK K
  refine aw_seq (fun K hK => ?_)
  refine aw_seq (fun K hK => ?_)
  refine aw_region ?_
  refine al_p rfl (st_move rfl ?_)
  refine al_nil ?_
  refine x_then ?_
  refine hK _ ?_
  clear hK K
  refine aw_block ?_
  refine aw_seq (fun K hK => ?_)
  refine aw_region ?_
  first | refine al_p rfl (st_eql rfl rfl ?_) | refine al_p rfl (st_eqlS rfl rfl ?_) | refine al_p rfl (st_eqlB (by kernel_rfl) rfl rfl ?_)
  refine al_p rfl (st_assign rfl ?_)
  refine al_nil ?_
  refine x_then ?_
  refine hK _ ?_
  clear hK K
  refine aw_cond rfl (fun hb1 => ?_) (fun hb1 => ?_)
  · have hc1 := bp hb1
    refine aw_seq (fun K hK => ?_)
    refine aw_region ?_
    refine al_p rfl (st_fieldB rfl ?_)
    refine al_p rfl (st_loadB1 rfl rfl rfl ?_)
    refine al_p rfl (st_assign rfl ?_)
    refine al_p rfl (st_assign rfl ?_)
    refine al_nil ?_
    refine x_then ?_
    refine hK _ ?_
    clear hK K
    refine aw_ret ?_
    refine x_blockR ?_
    refine x_thenR ?_
    clear hK K
    refine e_ret ?_
    first | (exfalso; first | contradiction | omega) | (exact congrArg (fun z => AV.tup [.v (.int .i64 z), .v (.bool true)]) (by unfold numL; simp [*]))
  · have hc1 := bp hb1
    refine aw_seq (fun K hK => ?_)
    refine aw_region ?_
    first | refine al_p rfl (st_eql rfl rfl ?_) | refine al_p rfl (st_eqlS rfl rfl ?_) | refine al_p rfl (st_eqlB (by kernel_rfl) rfl rfl ?_)
    refine al_p rfl (st_assign rfl ?_)
    refine al_nil ?_
    refine x_then ?_
    refine hK _ ?_
    clear hK K
    refine aw_cond rfl (fun hb2 => ?_) (fun hb2 => ?_)
    · have hc2 := bp hb2
      refine aw_seq (fun K hK => ?_)
      refine aw_seq (fun K hK => ?_)
      refine aw_region ?_
      refine al_p rfl (st_fieldB rfl ?_)
      refine al_p rfl (st_loadB1 rfl rfl rfl ?_)
      first | refine al_p rfl (st_geq rfl rfl ?_) | refine al_p rfl (st_geqS rfl rfl ?_)
      refine al_nil ?_
      refine x_then ?_
      refine hK _ ?_
      clear hK K
      refine aw_cond rfl (fun hb3 => ?_) (fun hb3 => ?_)
      · have hc3 := bp hb3
        refine aw_seq (fun K hK => ?_)
        refine aw_region ?_
        refine al_p rfl (st_assign rfl ?_)
        refine al_p rfl (st_assign rfl ?_)
        refine al_nil ?_
        refine x_then ?_
        refine hK _ ?_
        clear hK K
        refine aw_ret ?_
        refine x_thenR ?_
        clear hK K
        refine x_blockR ?_
        refine x_thenR ?_
        clear hK K
        refine e_ret ?_
        first | (exfalso; first | contradiction | omega) | (exact congrArg (fun z => AV.tup [.v (.int .i64 z), .v (.bool true)]) (by unfold numL; simp [*]))
      · have hc3 := bp hb3
        refine aw_skip ?_
        refine x_then ?_
        refine hK _ ?_
        clear hK K
        refine aw_seq (fun K hK => ?_)
        refine aw_region ?_
        refine al_p rfl (st_assign rfl ?_)
        refine al_p rfl (st_assign rfl ?_)
        refine al_nil ?_
        refine x_then ?_
        refine hK _ ?_
        clear hK K
        refine aw_ret ?_
        refine x_blockR ?_
        refine x_thenR ?_
        clear hK K
        refine e_ret ?_
        first | (exfalso; first | contradiction | omega) | (exact congrArg (fun z => AV.tup [.v (.int .i64 z), .v (.bool true)]) (by unfold numL; simp [*]))
    · have hc2 := bp hb2
      refine aw_seq (fun K hK => ?_)
      refine aw_region ?_
      first | refine al_p rfl (st_eql rfl rfl ?_) | refine al_p rfl (st_eqlS rfl rfl ?_) | refine al_p rfl (st_eqlB (by kernel_rfl) rfl rfl ?_)
      refine al_p rfl (st_assign rfl ?_)
      refine al_nil ?_
      refine x_then ?_
      refine hK _ ?_
      clear hK K
      refine aw_cond rfl (fun hb4 => ?_) (fun hb4 => ?_)
      · have hc4 := bp hb4
        refine aw_seq (fun K hK => ?_)
        refine aw_region ?_
        refine al_p rfl (st_fieldB rfl ?_)
        refine al_p rfl (st_fieldB rfl ?_)
        refine al_p rfl (st_loadB1 rfl rfl rfl ?_)
        refine al_p rfl (st_assign rfl ?_)
        refine al_p rfl (st_assign rfl ?_)
        refine al_nil ?_
        refine x_then ?_
        refine hK _ ?_
        clear hK K
        refine aw_ret ?_
        refine x_blockR ?_
        refine x_thenR ?_
        clear hK K
        refine e_ret ?_
        first | (exfalso; first | contradiction | omega) | (exact congrArg (fun z => AV.tup [.v (.int .i64 z), .v (.bool true)]) (by unfold numL; simp [*]))
      · have hc4 := bp hb4
        refine aw_seq (fun K hK => ?_)
        refine aw_region ?_
        first | refine al_p rfl (st_eql rfl rfl ?_) | refine al_p rfl (st_eqlS rfl rfl ?_) | refine al_p rfl (st_eqlB (by kernel_rfl) rfl rfl ?_)
        refine al_p rfl (st_assign rfl ?_)
        refine al_nil ?_
        refine x_then ?_
        refine hK _ ?_
        clear hK K
        refine aw_cond rfl (fun hb5 => ?_) (fun hb5 => ?_)
        · have hc5 := bp hb5
          refine aw_seq (fun K hK => ?_)
          refine aw_region ?_
          refine al_p rfl (st_fieldB rfl ?_)
          refine al_p rfl (st_fieldB rfl ?_)
          refine al_p rfl (st_loadB1 rfl rfl rfl ?_)
          refine al_p rfl (st_assign rfl ?_)
          refine al_p rfl (st_assign rfl ?_)
          refine al_nil ?_
          refine x_then ?_
          refine hK _ ?_
          clear hK K
          refine aw_ret ?_
          refine x_blockR ?_
          refine x_thenR ?_
          clear hK K
          refine e_ret ?_
          first | (exfalso; first | contradiction | omega) | (exact congrArg (fun z => AV.tup [.v (.int .i64 z), .v (.bool true)]) (by unfold numL; simp [*]))
        · have hc5 := bp hb5
          refine aw_seq (fun K hK => ?_)
          refine aw_region ?_
          first | refine al_p rfl (st_eql rfl rfl ?_) | refine al_p rfl (st_eqlS rfl rfl ?_) | refine al_p rfl (st_eqlB (by kernel_rfl) rfl rfl ?_)
          refine al_p rfl (st_assign rfl ?_)
          refine al_nil ?_
          refine x_then ?_
          refine hK _ ?_
          clear hK K
          refine aw_cond rfl (fun hb6 => ?_) (fun hb6 => ?_)
          · have hc6 := bp hb6
            refine aw_seq (fun K hK => ?_)
            refine aw_region ?_
            refine al_p rfl (st_fieldB rfl ?_)
            refine al_p rfl (st_loadB1 rfl rfl rfl ?_)
            refine al_p rfl (st_assign rfl ?_)
            refine al_p rfl (st_assign rfl ?_)
            refine al_nil ?_
            refine x_then ?_
            refine hK _ ?_
            clear hK K
            refine aw_ret ?_
            refine x_blockR ?_
            refine x_thenR ?_
            clear hK K
            refine e_ret ?_
            first | (exfalso; first | contradiction | omega) | (exact congrArg (fun z => AV.tup [.v (.int .i64 z), .v (.bool true)]) (by unfold numL; simp [*]))
          · have hc6 := bp hb6
            refine aw_seq (fun K hK => ?_)
            refine aw_region ?_
            first | refine al_p rfl (st_eql rfl rfl ?_) | refine al_p rfl (st_eqlS rfl rfl ?_) | refine al_p rfl (st_eqlB (by kernel_rfl) rfl rfl ?_)
            refine al_p rfl (st_assign rfl ?_)
            refine al_nil ?_
            refine x_then ?_
            refine hK _ ?_
            clear hK K
            refine aw_cond rfl (fun hb7 => ?_) (fun hb7 => ?_)
            · have hc7 := bp hb7
              refine aw_seq (fun K hK => ?_)
              refine aw_region ?_
              refine al_p rfl (st_fieldB rfl ?_)
              refine al_p rfl (st_loadB1 rfl rfl rfl ?_)
              refine al_p rfl (st_assign rfl ?_)
              refine al_p rfl (st_assign rfl ?_)
              refine al_nil ?_
              refine x_then ?_
              refine hK _ ?_
              clear hK K
              refine aw_ret ?_
              refine x_blockR ?_
              refine x_thenR ?_
              clear hK K
              refine e_ret ?_
              first | (exfalso; first | contradiction | omega) | (exact congrArg (fun z => AV.tup [.v (.int .i64 z), .v (.bool true)]) (by unfold numL; simp [*]))
            · have hc7 := bp hb7
              refine aw_seq (fun K hK => ?_)
              refine aw_region ?_
              first | refine al_p rfl (st_eql rfl rfl ?_) | refine al_p rfl (st_eqlS rfl rfl ?_) | refine al_p rfl (st_eqlB (by kernel_rfl) rfl rfl ?_)
              refine al_p rfl (st_assign rfl ?_)
              refine al_nil ?_
              refine x_then ?_
              refine hK _ ?_
              clear hK K
              refine aw_cond rfl (fun hb8 => ?_) (fun hb8 => ?_)
              · have hc8 := bp hb8
                refine aw_seq (fun K hK => ?_)
                refine aw_region ?_
                refine al_p rfl (st_fieldB rfl ?_)
                refine al_p rfl (st_loadB1 rfl rfl rfl ?_)
                refine al_p rfl (st_assign rfl ?_)
                refine al_p rfl (st_assign rfl ?_)
                refine al_nil ?_
                refine x_then ?_
                refine hK _ ?_
                clear hK K
                refine aw_ret ?_
                refine x_blockR ?_
                refine x_thenR ?_
                clear hK K
                refine e_ret ?_
                first | (exfalso; first | contradiction | omega) | (exact congrArg (fun z => AV.tup [.v (.int .i64 z), .v (.bool true)]) (by unfold numL; simp [*]))
              · have hc8 := bp hb8
                refine aw_skip ?_
                refine x_blockN ?_
                refine x_then ?_
                refine hK _ ?_
                clear hK K
                refine aw_seq (fun K hK => ?_)
                refine aw_region ?_
                refine al_p rfl (st_assign rfl ?_)
                refine al_p rfl (st_assign rfl ?_)
                refine al_nil ?_
                refine x_then ?_
                refine hK _ ?_
                clear hK K
                refine aw_ret ?_
                refine e_ret ?_
                first | (exfalso; first | contradiction | omega) | (exact congrArg (fun z => AV.tup [.v (.int .i64 z), .v (.bool true)]) (by unfold numL; simp [*]))

def NumP (f : Int) (c : Ctx) (y : Itm) (r : AV) : Prop := ∃ n, r = .tup [.v (.int .i64 n), .v (.bool (hasP f c))] ∧ (hasP f c = true → n = numL f c y)
theorem NumP.mk {f n : Int} {c : Ctx} {y : Itm} {b : Bool} (hb : b = hasP f c) (hn : hasP f c = true → n = numL f c y) : NumP f c y (.tup [.v (.int .i64 n), .v (.bool b)]) := ⟨n, by rw [hb], hn⟩
theorem Pnumber (f : Int) (c : Ctx) (k : Cxs) (y : Itm) (h1 : 1 ≤ f) (h2 : f ≤ 22) (ht : textL f = false) : AFn Tryz.prog 60 [.v (.int .i64 f), .agg (ctxA c k), .agg (itmA y)] (NumP f c y) := by
  simp only [textL, decide_eq_false_iff_not] at ht
  refine enter Tryz.func60 rfl rfl rfl rfl rfl 0 rfl ?_
  refine aw_seq (fun K hK => ?_)
  refine aw_region ?_
  first | refine al_p rfl (s_boxA rfl rfl (by repeat constructor) ?_) | refine al_p rfl (s_box rfl rfl (by repeat constructor) ?_)
  first | refine al_p rfl (s_boxA rfl rfl (by repeat constructor) ?_) | refine al_p rfl (s_box rfl rfl (by repeat constructor) ?_)
  refine al_p rfl (st_assign rfl ?_)
  refine al_p rfl (st_assign rfl ?_)
  refine al_nil ?_
  refine x_then ?_
  refine hK _ ?_
  clear hK K
  refine aw_seq (fun K hK => ?_)
  refine aw_seq (fun K hK => ?_)
  refine aw_region ?_
  refine al_p rfl (st_move rfl ?_)
  refine al_nil ?_
  refine x_then ?_
  refine hK _ ?_
  clear hK K
  refine aw_block ?_
  refine aw_seq (fun K hK => ?_)
  refine aw_region ?_
  first | refine al_p rfl (st_eql rfl rfl ?_) | refine al_p rfl (st_eqlS rfl rfl ?_) | refine al_p rfl (st_eqlB (by kernel_rfl) rfl rfl ?_)
  refine al_p rfl (st_assign rfl ?_)
  refine al_nil ?_
  refine x_then ?_
  refine hK _ ?_
  clear hK K
  refine aw_cond rfl (fun hb1 => ?_) (fun hb1 => ?_)
  · have hc1 := bp hb1
    refine aw_seq (fun K hK => ?_)
    refine aw_region ?_
    refine al_p rfl (st_fieldB rfl ?_)
    refine al_p rfl (st_fieldB rfl ?_)
    refine al_p rfl (st_loadB1 rfl rfl rfl ?_)
    refine al_p rfl (st_assign rfl ?_)
    refine al_p rfl (st_assign rfl ?_)
    refine al_nil ?_
    refine x_then ?_
    refine hK _ ?_
    clear hK K
    refine aw_ret ?_
    refine x_blockR ?_
    refine x_thenR ?_
    clear hK K
    refine e_ret ?_
    first | (exfalso; first | contradiction | omega) | (exact NumP.mk (by unfold hasP; (repeat' split) <;> (first | omega | (simp [*]; done) | (simp; omega) | (simp at *; omega))) (fun hq => by first | (unfold numL; simp [*]; done) | (unfold hasP at hq; simp [*] at hq; omega) | (unfold hasP at hq; simp [*] at hq)))
  · have hc1 := bp hb1
    refine aw_seq (fun K hK => ?_)
    refine aw_region ?_
    first | refine al_p rfl (st_eql rfl rfl ?_) | refine al_p rfl (st_eqlS rfl rfl ?_) | refine al_p rfl (st_eqlB (by kernel_rfl) rfl rfl ?_)
    refine al_p rfl (st_assign rfl ?_)
    refine al_nil ?_
    refine x_then ?_
    refine hK _ ?_
    clear hK K
    refine aw_cond rfl (fun hb2 => ?_) (fun hb2 => ?_)
    · have hc2 := bp hb2
      refine aw_seq (fun K hK => ?_)
      refine aw_region ?_
      refine al_p rfl (st_fieldB rfl ?_)
      refine al_p rfl (st_fieldB rfl ?_)
      refine al_p rfl (st_loadB1 rfl rfl rfl ?_)
      refine al_p rfl (st_assign rfl ?_)
      refine al_p rfl (st_assign rfl ?_)
      refine al_nil ?_
      refine x_then ?_
      refine hK _ ?_
      clear hK K
      refine aw_ret ?_
      refine x_blockR ?_
      refine x_thenR ?_
      clear hK K
      refine e_ret ?_
      first | (exfalso; first | contradiction | omega) | (exact NumP.mk (by unfold hasP; (repeat' split) <;> (first | omega | (simp [*]; done) | (simp; omega) | (simp at *; omega))) (fun hq => by first | (unfold numL; simp [*]; done) | (unfold hasP at hq; simp [*] at hq; omega) | (unfold hasP at hq; simp [*] at hq)))
    · have hc2 := bp hb2
      refine aw_seq (fun K hK => ?_)
      refine aw_region ?_
      first | refine al_p rfl (st_eql rfl rfl ?_) | refine al_p rfl (st_eqlS rfl rfl ?_) | refine al_p rfl (st_eqlB (by kernel_rfl) rfl rfl ?_)
      refine al_p rfl (st_assign rfl ?_)
      refine al_nil ?_
      refine x_then ?_
      refine hK _ ?_
      clear hK K
      refine aw_cond rfl (fun hb3 => ?_) (fun hb3 => ?_)
      · have hc3 := bp hb3
        refine aw_seq (fun K hK => ?_)
        refine aw_region ?_
        refine al_p rfl (st_fieldB rfl ?_)
        refine al_p rfl (st_fieldB rfl ?_)
        refine al_p rfl (st_loadB1 rfl rfl rfl ?_)
        refine al_p rfl (st_assign rfl ?_)
        refine al_p rfl (st_assign rfl ?_)
        refine al_nil ?_
        refine x_then ?_
        refine hK _ ?_
        clear hK K
        refine aw_ret ?_
        refine x_blockR ?_
        refine x_thenR ?_
        clear hK K
        refine e_ret ?_
        first | (exfalso; first | contradiction | omega) | (exact NumP.mk (by unfold hasP; (repeat' split) <;> (first | omega | (simp [*]; done) | (simp; omega) | (simp at *; omega))) (fun hq => by first | (unfold numL; simp [*]; done) | (unfold hasP at hq; simp [*] at hq; omega) | (unfold hasP at hq; simp [*] at hq)))
      · have hc3 := bp hb3
        refine aw_seq (fun K hK => ?_)
        refine aw_region ?_
        first | refine al_p rfl (st_eql rfl rfl ?_) | refine al_p rfl (st_eqlS rfl rfl ?_) | refine al_p rfl (st_eqlB (by kernel_rfl) rfl rfl ?_)
        refine al_p rfl (st_assign rfl ?_)
        refine al_nil ?_
        refine x_then ?_
        refine hK _ ?_
        clear hK K
        refine aw_cond rfl (fun hb4 => ?_) (fun hb4 => ?_)
        · have hc4 := bp hb4
          refine aw_seq (fun K hK => ?_)
          refine aw_region ?_
          refine al_p rfl (st_fieldB rfl ?_)
          refine al_p rfl (st_fieldB rfl ?_)
          refine al_p rfl (st_loadB1 rfl rfl rfl ?_)
          refine al_p rfl (st_assign rfl ?_)
          refine al_p rfl (st_assign rfl ?_)
          refine al_nil ?_
          refine x_then ?_
          refine hK _ ?_
          clear hK K
          refine aw_ret ?_
          refine x_blockR ?_
          refine x_thenR ?_
          clear hK K
          refine e_ret ?_
          first | (exfalso; first | contradiction | omega) | (exact NumP.mk (by unfold hasP; (repeat' split) <;> (first | omega | (simp [*]; done) | (simp; omega) | (simp at *; omega))) (fun hq => by first | (unfold numL; simp [*]; done) | (unfold hasP at hq; simp [*] at hq; omega) | (unfold hasP at hq; simp [*] at hq)))
        · have hc4 := bp hb4
          refine aw_seq (fun K hK => ?_)
          refine aw_region ?_
          first | refine al_p rfl (st_eql rfl rfl ?_) | refine al_p rfl (st_eqlS rfl rfl ?_) | refine al_p rfl (st_eqlB (by kernel_rfl) rfl rfl ?_)
          refine al_p rfl (st_assign rfl ?_)
          refine al_nil ?_
          refine x_then ?_
          refine hK _ ?_
          clear hK K
          refine aw_cond rfl (fun hb5 => ?_) (fun hb5 => ?_)
          · have hc5 := bp hb5
            refine aw_seq (fun K hK => ?_)
            refine aw_region ?_
            refine al_p rfl (st_fieldB rfl ?_)
            refine al_p rfl (st_fieldB rfl ?_)
            refine al_p rfl (st_loadB1 rfl rfl rfl ?_)
            refine al_p rfl (st_assign rfl ?_)
            refine al_p rfl (st_assign rfl ?_)
            refine al_nil ?_
            refine x_then ?_
            refine hK _ ?_
            clear hK K
            refine aw_ret ?_
            refine x_blockR ?_
            refine x_thenR ?_
            clear hK K
            refine e_ret ?_
            first | (exfalso; first | contradiction | omega) | (exact NumP.mk (by unfold hasP; (repeat' split) <;> (first | omega | (simp [*]; done) | (simp; omega) | (simp at *; omega))) (fun hq => by first | (unfold numL; simp [*]; done) | (unfold hasP at hq; simp [*] at hq; omega) | (unfold hasP at hq; simp [*] at hq)))
          · have hc5 := bp hb5
            refine aw_seq (fun K hK => ?_)
            refine aw_region ?_
            first | refine al_p rfl (st_eql rfl rfl ?_) | refine al_p rfl (st_eqlS rfl rfl ?_) | refine al_p rfl (st_eqlB (by kernel_rfl) rfl rfl ?_)
            refine al_p rfl (st_assign rfl ?_)
            refine al_nil ?_
            refine x_then ?_
            refine hK _ ?_
            clear hK K
            refine aw_cond rfl (fun hb6 => ?_) (fun hb6 => ?_)
            · have hc6 := bp hb6
              refine aw_seq (fun K hK => ?_)
              refine aw_region ?_
              refine al_p rfl (st_fieldB rfl ?_)
              refine al_p rfl (st_fieldB rfl ?_)
              refine al_p rfl (st_loadB1 rfl rfl rfl ?_)
              refine al_p rfl (st_assign rfl ?_)
              refine al_p rfl (st_assign rfl ?_)
              refine al_nil ?_
              refine x_then ?_
              refine hK _ ?_
              clear hK K
              refine aw_ret ?_
              refine x_blockR ?_
              refine x_thenR ?_
              clear hK K
              refine e_ret ?_
              first | (exfalso; first | contradiction | omega) | (exact NumP.mk (by unfold hasP; (repeat' split) <;> (first | omega | (simp [*]; done) | (simp; omega) | (simp at *; omega))) (fun hq => by first | (unfold numL; simp [*]; done) | (unfold hasP at hq; simp [*] at hq; omega) | (unfold hasP at hq; simp [*] at hq)))
            · have hc6 := bp hb6
              refine aw_seq (fun K hK => ?_)
              refine aw_region ?_
              first | refine al_p rfl (st_eql rfl rfl ?_) | refine al_p rfl (st_eqlS rfl rfl ?_) | refine al_p rfl (st_eqlB (by kernel_rfl) rfl rfl ?_)
              refine al_p rfl (st_assign rfl ?_)
              refine al_nil ?_
              refine x_then ?_
              refine hK _ ?_
              clear hK K
              refine aw_cond rfl (fun hb7 => ?_) (fun hb7 => ?_)
              · have hc7 := bp hb7
                refine aw_seq (fun K hK => ?_)
                refine aw_region ?_
                refine al_p rfl (st_fieldB rfl ?_)
                refine al_p rfl (st_fieldB rfl ?_)
                refine al_p rfl (st_loadB1 rfl rfl rfl ?_)
                refine al_p rfl (st_assign rfl ?_)
                refine al_p rfl (st_assign rfl ?_)
                refine al_nil ?_
                refine x_then ?_
                refine hK _ ?_
                clear hK K
                refine aw_ret ?_
                refine x_blockR ?_
                refine x_thenR ?_
                clear hK K
                refine e_ret ?_
                first | (exfalso; first | contradiction | omega) | (exact NumP.mk (by unfold hasP; (repeat' split) <;> (first | omega | (simp [*]; done) | (simp; omega) | (simp at *; omega))) (fun hq => by first | (unfold numL; simp [*]; done) | (unfold hasP at hq; simp [*] at hq; omega) | (unfold hasP at hq; simp [*] at hq)))
              · have hc7 := bp hb7
                refine aw_seq (fun K hK => ?_)
                refine aw_region ?_
                first | refine al_p rfl (st_eql rfl rfl ?_) | refine al_p rfl (st_eqlS rfl rfl ?_) | refine al_p rfl (st_eqlB (by kernel_rfl) rfl rfl ?_)
                refine al_p rfl (st_assign rfl ?_)
                refine al_nil ?_
                refine x_then ?_
                refine hK _ ?_
                clear hK K
                refine aw_cond rfl (fun hb8 => ?_) (fun hb8 => ?_)
                · have hc8 := bp hb8
                  refine aw_seq (fun K hK => ?_)
                  refine aw_region ?_
                  refine al_p rfl (st_fieldB rfl ?_)
                  refine al_p rfl (st_fieldB rfl ?_)
                  refine al_p rfl (st_loadB1 rfl rfl rfl ?_)
                  refine al_p rfl (st_assign rfl ?_)
                  refine al_p rfl (st_assign rfl ?_)
                  refine al_nil ?_
                  refine x_then ?_
                  refine hK _ ?_
                  clear hK K
                  refine aw_ret ?_
                  refine x_blockR ?_
                  refine x_thenR ?_
                  clear hK K
                  refine e_ret ?_
                  first | (exfalso; first | contradiction | omega) | (exact NumP.mk (by unfold hasP; (repeat' split) <;> (first | omega | (simp [*]; done) | (simp; omega) | (simp at *; omega))) (fun hq => by first | (unfold numL; simp [*]; done) | (unfold hasP at hq; simp [*] at hq; omega) | (unfold hasP at hq; simp [*] at hq)))
                · have hc8 := bp hb8
                  refine aw_seq (fun K hK => ?_)
                  refine aw_seq (fun K hK => ?_)
                  refine aw_region ?_
                  first | refine al_p rfl (st_eql rfl rfl ?_) | refine al_p rfl (st_eqlS rfl rfl ?_) | refine al_p rfl (st_eqlB (by kernel_rfl) rfl rfl ?_)
                  refine al_p rfl (st_assign rfl ?_)
                  refine al_nil ?_
                  refine x_then ?_
                  refine hK _ ?_
                  clear hK K
                  refine aw_cond rfl (fun hb9 => ?_) (fun hb9 => ?_)
                  · have hc9 := bp hb9
                    refine aw_skip ?_
                    refine x_then ?_
                    refine hK _ ?_
                    clear hK K
                    refine aw_cy rfl (by first | rfl | assumption | simp [*]) ?_
                    refine aw_seq (fun K hK => ?_)
                    refine aw_region ?_
                    refine al_p rfl (st_move rfl ?_)
                    first | refine al_p rfl (st_sub64 rfl rfl (by omega) ?_) | refine al_p rfl (st_sub rfl rfl ?_)
                    refine al_p rfl (st_fieldB rfl ?_)
                    refine al_p rfl (st_fieldB rfl ?_)
                    first | refine al_p rfl (st_indexB (n := 0) (len := 4) (sz := 1) (by kernel_rfl) rfl rfl (by omega) rfl ?_) | refine al_p rfl (st_indexB (n := 1) (len := 4) (sz := 1) (by kernel_rfl) rfl rfl (by omega) rfl ?_) | refine al_p rfl (st_indexB (n := 2) (len := 4) (sz := 1) (by kernel_rfl) rfl rfl (by omega) rfl ?_) | refine al_p rfl (st_indexB (n := 3) (len := 4) (sz := 1) (by kernel_rfl) rfl rfl (by omega) rfl ?_)
                    first | refine al_p rfl (st_loadB1 rfl rfl rfl ?_) | refine al_p rfl (st_loadBW rfl rfl rfl ?_) | refine al_p rfl (st_loadF1 rfl rfl ?_) | refine al_p rfl (st_loadFW rfl rfl ?_) | refine al_p rfl (st_loadBN rfl rfl rfl ?_) | refine al_p rfl (st_loadFN rfl rfl ?_)
                    refine al_p rfl (st_assign rfl ?_)
                    refine al_p rfl (st_assign rfl ?_)
                    refine al_nil ?_
                    refine x_then ?_
                    refine hK _ ?_
                    clear hK K
                    refine aw_ret ?_
                    refine x_blockR ?_
                    refine x_thenR ?_
                    clear hK K
                    refine e_ret ?_
                    first | (exfalso; first | contradiction | omega) | (exact NumP.mk (by unfold hasP; (repeat' split) <;> (first | omega | (simp [*]; done) | (simp; omega) | (simp at *; omega))) (fun hq => by first | (unfold numL; simp [*]; done) | (unfold hasP at hq; simp [*] at hq; omega) | (unfold hasP at hq; simp [*] at hq)))
                  · have hc9 := bp hb9
                    refine aw_seq (fun K hK => ?_)
                    refine aw_region ?_
                    first | refine al_p rfl (st_eql rfl rfl ?_) | refine al_p rfl (st_eqlS rfl rfl ?_) | refine al_p rfl (st_eqlB (by kernel_rfl) rfl rfl ?_)
                    refine al_p rfl (st_assign rfl ?_)
                    refine al_nil ?_
                    refine x_then ?_
                    refine hK _ ?_
                    clear hK K
                    refine aw_cond rfl (fun hb10 => ?_) (fun hb10 => ?_)
                    · have hc10 := bp hb10
                      refine aw_skip ?_
                      refine x_then ?_
                      refine hK _ ?_
                      clear hK K
                      refine aw_cy rfl (by first | rfl | assumption | simp [*]) ?_
                      refine aw_seq (fun K hK => ?_)
                      refine aw_region ?_
                      refine al_p rfl (st_move rfl ?_)
                      first | refine al_p rfl (st_sub64 rfl rfl (by omega) ?_) | refine al_p rfl (st_sub rfl rfl ?_)
                      refine al_p rfl (st_fieldB rfl ?_)
                      refine al_p rfl (st_fieldB rfl ?_)
                      first | refine al_p rfl (st_indexB (n := 0) (len := 4) (sz := 1) (by kernel_rfl) rfl rfl (by omega) rfl ?_) | refine al_p rfl (st_indexB (n := 1) (len := 4) (sz := 1) (by kernel_rfl) rfl rfl (by omega) rfl ?_) | refine al_p rfl (st_indexB (n := 2) (len := 4) (sz := 1) (by kernel_rfl) rfl rfl (by omega) rfl ?_) | refine al_p rfl (st_indexB (n := 3) (len := 4) (sz := 1) (by kernel_rfl) rfl rfl (by omega) rfl ?_)
                      first | refine al_p rfl (st_loadB1 rfl rfl rfl ?_) | refine al_p rfl (st_loadBW rfl rfl rfl ?_) | refine al_p rfl (st_loadF1 rfl rfl ?_) | refine al_p rfl (st_loadFW rfl rfl ?_) | refine al_p rfl (st_loadBN rfl rfl rfl ?_) | refine al_p rfl (st_loadFN rfl rfl ?_)
                      refine al_p rfl (st_assign rfl ?_)
                      refine al_p rfl (st_assign rfl ?_)
                      refine al_nil ?_
                      refine x_then ?_
                      refine hK _ ?_
                      clear hK K
                      refine aw_ret ?_
                      refine x_blockR ?_
                      refine x_thenR ?_
                      clear hK K
                      refine e_ret ?_
                      first | (exfalso; first | contradiction | omega) | (exact NumP.mk (by unfold hasP; (repeat' split) <;> (first | omega | (simp [*]; done) | (simp; omega) | (simp at *; omega))) (fun hq => by first | (unfold numL; simp [*]; done) | (unfold hasP at hq; simp [*] at hq; omega) | (unfold hasP at hq; simp [*] at hq)))
                    · have hc10 := bp hb10
                      refine aw_seq (fun K hK => ?_)
                      refine aw_region ?_
                      first | refine al_p rfl (st_eql rfl rfl ?_) | refine al_p rfl (st_eqlS rfl rfl ?_) | refine al_p rfl (st_eqlB (by kernel_rfl) rfl rfl ?_)
                      refine al_p rfl (st_assign rfl ?_)
                      refine al_nil ?_
                      refine x_then ?_
                      refine hK _ ?_
                      clear hK K
                      refine aw_cond rfl (fun hb11 => ?_) (fun hb11 => ?_)
                      · have hc11 := bp hb11
                        refine aw_skip ?_
                        refine x_then ?_
                        refine hK _ ?_
                        clear hK K
                        refine aw_cy rfl (by first | rfl | assumption | simp [*]) ?_
                        refine aw_seq (fun K hK => ?_)
                        refine aw_region ?_
                        refine al_p rfl (st_move rfl ?_)
                        first | refine al_p rfl (st_sub64 rfl rfl (by omega) ?_) | refine al_p rfl (st_sub rfl rfl ?_)
                        refine al_p rfl (st_fieldB rfl ?_)
                        refine al_p rfl (st_fieldB rfl ?_)
                        first | refine al_p rfl (st_indexB (n := 0) (len := 4) (sz := 1) (by kernel_rfl) rfl rfl (by omega) rfl ?_) | refine al_p rfl (st_indexB (n := 1) (len := 4) (sz := 1) (by kernel_rfl) rfl rfl (by omega) rfl ?_) | refine al_p rfl (st_indexB (n := 2) (len := 4) (sz := 1) (by kernel_rfl) rfl rfl (by omega) rfl ?_) | refine al_p rfl (st_indexB (n := 3) (len := 4) (sz := 1) (by kernel_rfl) rfl rfl (by omega) rfl ?_)
                        first | refine al_p rfl (st_loadB1 rfl rfl rfl ?_) | refine al_p rfl (st_loadBW rfl rfl rfl ?_) | refine al_p rfl (st_loadF1 rfl rfl ?_) | refine al_p rfl (st_loadFW rfl rfl ?_) | refine al_p rfl (st_loadBN rfl rfl rfl ?_) | refine al_p rfl (st_loadFN rfl rfl ?_)
                        refine al_p rfl (st_assign rfl ?_)
                        refine al_p rfl (st_assign rfl ?_)
                        refine al_nil ?_
                        refine x_then ?_
                        refine hK _ ?_
                        clear hK K
                        refine aw_ret ?_
                        refine x_blockR ?_
                        refine x_thenR ?_
                        clear hK K
                        refine e_ret ?_
                        first | (exfalso; first | contradiction | omega) | (exact NumP.mk (by unfold hasP; (repeat' split) <;> (first | omega | (simp [*]; done) | (simp; omega) | (simp at *; omega))) (fun hq => by first | (unfold numL; simp [*]; done) | (unfold hasP at hq; simp [*] at hq; omega) | (unfold hasP at hq; simp [*] at hq)))
                      · have hc11 := bp hb11
                        refine aw_region ?_
                        first | refine al_p rfl (st_eql rfl rfl ?_) | refine al_p rfl (st_eqlS rfl rfl ?_) | refine al_p rfl (st_eqlB (by kernel_rfl) rfl rfl ?_)
                        refine al_p rfl (st_assign rfl ?_)
                        refine al_nil ?_
                        refine x_then ?_
                        refine hK _ ?_
                        clear hK K
                        refine aw_cond rfl (fun hb12 => ?_) (fun hb12 => ?_)
                        · have hc12 := bp hb12
                          refine aw_seq (fun K hK => ?_)
                          refine aw_region ?_
                          refine al_p rfl (st_move rfl ?_)
                          first | refine al_p rfl (st_sub64 rfl rfl (by omega) ?_) | refine al_p rfl (st_sub rfl rfl ?_)
                          refine al_p rfl (st_fieldB rfl ?_)
                          refine al_p rfl (st_fieldB rfl ?_)
                          first | refine al_p rfl (st_indexB (n := 0) (len := 4) (sz := 1) (by kernel_rfl) rfl rfl (by omega) rfl ?_) | refine al_p rfl (st_indexB (n := 1) (len := 4) (sz := 1) (by kernel_rfl) rfl rfl (by omega) rfl ?_) | refine al_p rfl (st_indexB (n := 2) (len := 4) (sz := 1) (by kernel_rfl) rfl rfl (by omega) rfl ?_) | refine al_p rfl (st_indexB (n := 3) (len := 4) (sz := 1) (by kernel_rfl) rfl rfl (by omega) rfl ?_)
                          first | refine al_p rfl (st_loadB1 rfl rfl rfl ?_) | refine al_p rfl (st_loadBW rfl rfl rfl ?_) | refine al_p rfl (st_loadF1 rfl rfl ?_) | refine al_p rfl (st_loadFW rfl rfl ?_) | refine al_p rfl (st_loadBN rfl rfl rfl ?_) | refine al_p rfl (st_loadFN rfl rfl ?_)
                          refine al_p rfl (st_assign rfl ?_)
                          refine al_p rfl (st_assign rfl ?_)
                          refine al_nil ?_
                          refine x_then ?_
                          refine hK _ ?_
                          clear hK K
                          refine aw_ret ?_
                          refine x_blockR ?_
                          refine x_thenR ?_
                          clear hK K
                          refine e_ret ?_
                          first | (exfalso; first | contradiction | omega) | (exact NumP.mk (by unfold hasP; (repeat' split) <;> (first | omega | (simp [*]; done) | (simp; omega) | (simp at *; omega))) (fun hq => by first | (unfold numL; simp [*]; done) | (unfold hasP at hq; simp [*] at hq; omega) | (unfold hasP at hq; simp [*] at hq)))
                        · have hc12 := bp hb12
                          refine aw_seq (fun K hK => ?_)
                          refine aw_region ?_
                          first | refine al_p rfl (st_eql rfl rfl ?_) | refine al_p rfl (st_eqlS rfl rfl ?_) | refine al_p rfl (st_eqlB (by kernel_rfl) rfl rfl ?_)
                          refine al_p rfl (st_assign rfl ?_)
                          refine al_nil ?_
                          refine x_then ?_
                          refine hK _ ?_
                          clear hK K
                          refine aw_cond rfl (fun hb13 => ?_) (fun hb13 => ?_)
                          · have hc13 := bp hb13
                            refine aw_seq (fun K hK => ?_)
                            refine aw_drawR 7 (by kernel_rfl) ?_
                            refine r_y (i := 0) rfl (st_fieldB rfl ⟨rfl, rfl⟩) ?_
                            refine r_y (i := 1) rfl (st_loadB1 rfl rfl rfl ⟨rfl, rfl⟩) ?_
                            refine r_y (i := 2) rfl (st_fieldB rfl ⟨rfl, rfl⟩) ?_
                            refine r_y (i := 3) rfl (st_loadB1 rfl rfl rfl ⟨rfl, rfl⟩) ?_
                            first | refine r_y (i := 4) rfl (st_neq rfl rfl ⟨rfl, rfl⟩) ?_ | refine r_y (i := 4) rfl (st_neqS rfl rfl ⟨rfl, rfl⟩) ?_ | refine r_y (i := 4) rfl (st_neqB (by kernel_rfl) rfl rfl ⟨rfl, rfl⟩) ?_
                            refine r_y (i := 5) rfl (st_assign rfl ⟨rfl, rfl⟩) ?_
                            refine r_y (i := 6) rfl (st_assign rfl ⟨rfl, rfl⟩) ?_
                            refine aa_done (by kernel_rfl) ?_ _
                            refine x_then ?_
                            refine hK _ ?_
                            clear hK K
                            refine aw_ret ?_
                            refine x_blockR ?_
                            refine x_thenR ?_
                            clear hK K
                            refine e_ret ?_
                            first | (exfalso; first | contradiction | omega) | (exact NumP.mk (by unfold hasP; (repeat' split) <;> (first | omega | (simp [*]; done) | (simp; omega) | (simp at *; omega))) (fun hq => by first | (unfold numL; simp [*]; done) | (unfold hasP at hq; simp [*] at hq; omega) | (unfold hasP at hq; simp [*] at hq)))
                          · have hc13 := bp hb13
                            refine aw_skip ?_
                            refine x_blockN ?_
                            refine x_then ?_
                            refine hK _ ?_
                            clear hK K
                            refine aw_seq (fun K hK => ?_)
                            refine aw_seq (fun K hK => ?_)
                            refine aw_region ?_
                            refine al_p rfl (st_fieldB rfl ?_)
                            refine al_p rfl (st_loadB1 rfl rfl rfl ?_)
                            first | refine al_p rfl (st_neq rfl rfl ?_) | refine al_p rfl (st_neqS rfl rfl ?_) | refine al_p rfl (st_neqB (by kernel_rfl) rfl rfl ?_)
                            refine al_nil ?_
                            refine x_then ?_
                            refine hK _ ?_
                            clear hK K
                            refine aw_cond rfl (fun hb14 => ?_) (fun hb14 => ?_)
                            · have hc14 := bp hb14
                              refine aw_seq (fun K hK => ?_)
                              refine aw_region ?_
                              refine al_p rfl (st_assign rfl ?_)
                              refine al_p rfl (st_assign rfl ?_)
                              refine al_nil ?_
                              refine x_then ?_
                              refine hK _ ?_
                              clear hK K
                              refine aw_ret ?_
                              refine x_thenR ?_
                              clear hK K
                              refine e_ret ?_
                              first | (exfalso; first | contradiction | omega) | (exact NumP.mk (by unfold hasP; (repeat' split) <;> (first | omega | (simp [*]; done) | (simp; omega) | (simp at *; omega))) (fun hq => by first | (unfold numL; simp [*]; done) | (unfold hasP at hq; simp [*] at hq; omega) | (unfold hasP at hq; simp [*] at hq)))
                            · have hc14 := bp hb14
                              refine aw_skip ?_
                              refine x_then ?_
                              refine hK _ ?_
                              clear hK K
                              refine aw_seq (fun K hK => ?_)
                              refine aw_region ?_
                              refine al_p rfl (st_move rfl ?_)
                              refine al_p rfl (st_loadBW rfl rfl rfl ?_)
                              refine al_p rfl (st_loadBW rfl rfl rfl ?_)
                              refine al_p rfl (q_call (PatExit f c k y (by omega) (by omega)) ?_)
                              rintro r rfl
                              refine al_p rfl (st_extract rfl rfl ?_)
                              refine al_p rfl (st_extract rfl rfl ?_)
                              refine al_p rfl (st_assign rfl ?_)
                              refine al_p rfl (st_assign rfl ?_)
                              refine al_nil ?_
                              refine x_then ?_
                              refine hK _ ?_
                              clear hK K
                              refine aw_ret ?_
                              refine e_ret ?_
                              first | (exfalso; first | contradiction | omega) | (exact NumP.mk (by unfold hasP; (repeat' split) <;> (first | omega | (simp [*]; done) | (simp; omega) | (simp at *; omega))) (fun hq => by first | (unfold numL; simp [*]; done) | (unfold hasP at hq; simp [*] at hq; omega) | (unfold hasP at hq; simp [*] at hq)))

end
end Go.Proofs.YtokaaebbmcldaaaGreatDoor
