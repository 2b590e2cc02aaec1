/-
  Part 6 of the proof of MountsBackP: what the statement's proof uses of the texts in wip/tpl.
-/
import Derived.Laws.Pointers
import Derived.Test.YtgliiknfmlmddaaProg
import Derived.WalkKit
import Derived.WalkSpells
import Derived.WalkLawsBesides
import Derived.Deep.QuietTactic
import Derived.BigQuiet
import Derived.Lib.Hide
import Derived.Outline
import Derived.RangeFuncNested
import Derived.RangeFuncBound
import Derived.RangeFuncCalls
import Derived.RangeFuncLeaves
import Derived.Test.YtgliiknfmlmddaaMb5
namespace Go.Proofs.Ytgliiknfmlmddaa
open Go.RowKit

section
set_option maxRecDepth 10000
set_option maxHeartbeats 1000000
theorem neqEntS (s : Str) (i : Int) (w : World) : (binOp .neq 112 (.agg #[.string s, .int .i64 i]) (.agg #[.string s, .int .i64 i])).run Try.prog w = .ok (.bool false) w := by
  have u3 := Try.underlying3
  have a3 := Try.isAgg3
  have z3 := Try.sizeOf3
  have u9 := Try.underlying9
  have a9 := Try.isAgg9
  have z9 := Try.sizeOf9
  have hS : Try.prog.underlying 112 = some (.struct (Try.prog.fieldsOf 112)) := by kernel_rfl
  have hp : Try.prog.stoodInHeld 112 = false := by kernel_rfl
  have e : ∀ w, (Op.equalIn 10000 112 (.agg #[.string s, .int .i64 i]) (.agg #[.string s, .int .i64 i])).run Try.prog w = .ok true w := by
    intro w
    rw [show (10000 : Nat) = 9999 + 1 from rfl, run_equalIn_agg w 9999 112 _ _ hS hp]
    simp only [Program.fieldsOf, Try.underlying112]
    go_simp
    try simp
  rw [run_neq_struct, e]
  simp
theorem RsameNode (n : Nod) (hn : n.entries.length ≤ 1000) : AFn Try.prog 78 [.agg (nodA n), .agg (nodA n)] (fun r => r = .v (.bool true)) := by
  refine enter Try.func78 rfl rfl rfl rfl rfl 0 rfl ?_
  refine p_sr (fun K hK => ?_)
  first | refine al_p rfl (s_boxA rfl rfl (by repeat constructor) ?_) | refine al_p rfl (s_box rfl rfl (by repeat constructor) ?_)
  first | refine al_p rfl (s_boxA rfl rfl (by repeat constructor) ?_) | refine al_p rfl (s_box rfl rfl (by repeat constructor) ?_)
  refine p_as ?_
  refine al_nil (x_then (hK _ ?_))
  clear hK K
  refine aw_seq (fun K hK => ?_)
  refine p_sr (fun K hK => ?_)
  refine al_p rfl (st_fieldB rfl ?_)
  refine al_p rfl (st_loadB1 rfl rfl rfl ?_)
  refine al_p rfl (st_fieldB rfl ?_)
  refine al_p rfl (st_loadB1 rfl rfl rfl ?_)
  first | refine al_p rfl (st_neq rfl rfl ?_) | refine al_p rfl (st_neqS rfl rfl ?_) | refine al_p rfl (st_neqB (by kernel_rfl) rfl rfl ?_)
  refine p_mv ?_
  refine al_gs false rfl rfl (fun hb1 => ?_) (fun hb1 => ?_)
  · have hc1 := bp hb1
    exfalso; first | contradiction | omega
  · have hc1 := bp hb1
    refine g_y (st_fieldB rfl ?_)
    refine g_y (st_loadB1 rfl rfl rfl ?_)
    refine g_y (st_fieldB rfl ?_)
    refine g_y (st_loadB1 rfl rfl rfl ?_)
    first | refine g_y (st_neq rfl rfl ?_) | refine g_y (st_neqS rfl rfl ?_) | refine g_y (st_neqB (by kernel_rfl) rfl rfl ?_)
    refine al_p rfl (p_f ?_)
    refine p_mv ?_
    refine al_gs false rfl rfl (fun hb2 => ?_) (fun hb2 => ?_)
    · have hc2 := bp hb2
      exfalso; first | contradiction | omega
    · have hc2 := bp hb2
      refine g_y (st_fieldB rfl ?_)
      refine g_y (st_loadB1 rfl rfl rfl ?_)
      refine g_y (st_fieldB rfl ?_)
      refine g_y (st_loadB1 rfl rfl rfl ?_)
      first | refine g_y (st_neq rfl rfl ?_) | refine g_y (st_neqS rfl rfl ?_) | refine g_y (st_neqB (by kernel_rfl) rfl rfl ?_)
      refine al_p rfl (p_f ?_)
      refine p_mv ?_
      refine al_gs false rfl rfl (fun hb3 => ?_) (fun hb3 => ?_)
      · have hc3 := bp hb3
        exfalso; first | contradiction | omega
      · have hc3 := bp hb3
        refine g_y (st_fieldB rfl ?_)
        refine g_y (st_loadB1 rfl rfl rfl ?_)
        refine g_y (st_fieldB rfl ?_)
        refine g_y (st_loadB1 rfl rfl rfl ?_)
        first | refine g_y (st_neq rfl rfl ?_) | refine g_y (st_neqS rfl rfl ?_) | refine g_y (st_neqB (by kernel_rfl) rfl rfl ?_)
        refine al_p rfl (p_f ?_)
        refine p_mv ?_
        refine al_gs false rfl rfl (fun hb4 => ?_) (fun hb4 => ?_)
        · have hc4 := bp hb4
          exfalso; first | contradiction | omega
        · have hc4 := bp hb4
          refine g_y (st_fieldB rfl ?_)
          refine g_y (st_loadB1 rfl rfl rfl ?_)
          refine g_y (st_fieldB rfl ?_)
          refine g_y (st_loadB1 rfl rfl rfl ?_)
          first | refine g_y (st_neq rfl rfl ?_) | refine g_y (st_neqS rfl rfl ?_) | refine g_y (st_neqB (by kernel_rfl) rfl rfl ?_)
          refine al_p rfl (p_f ?_)
          refine p_mv ?_
          refine al_gs false rfl rfl (fun hb5 => ?_) (fun hb5 => ?_)
          · have hc5 := bp hb5
            exfalso; first | contradiction | omega
          · have hc5 := bp hb5
            refine g_y (st_fieldB rfl ?_)
            refine g_y (st_loadB1 rfl rfl rfl ?_)
            refine g_y (st_fieldB rfl ?_)
            refine g_y (st_loadB1 rfl rfl rfl ?_)
            first | refine g_y (st_neq rfl rfl ?_) | refine g_y (st_neqS rfl rfl ?_) | refine g_y (st_neqB (by kernel_rfl) rfl rfl ?_)
            refine al_p rfl (p_f ?_)
            refine p_mv ?_
            refine al_gs false rfl rfl (fun hb6 => ?_) (fun hb6 => ?_)
            · have hc6 := bp hb6
              exfalso; first | contradiction | omega
            · have hc6 := bp hb6
              refine g_y (st_fieldB rfl ?_)
              refine g_y (st_loadB1 rfl rfl rfl ?_)
              refine g_y (st_fieldB rfl ?_)
              refine g_y (st_loadB1 rfl rfl rfl ?_)
              first | refine g_y (st_neq rfl rfl ?_) | refine g_y (st_neqS rfl rfl ?_) | refine g_y (st_neqB (by kernel_rfl) rfl rfl ?_)
              refine al_p rfl (p_f ?_)
              refine p_mv ?_
              refine al_gs false rfl rfl (fun hb7 => ?_) (fun hb7 => ?_)
              · have hc7 := bp hb7
                exfalso; first | contradiction | omega
              · have hc7 := bp hb7
                refine g_y (st_fieldB rfl ?_)
                refine g_y (st_loadB1 rfl rfl rfl ?_)
                first | refine g_y (st_len rfl ?_) | refine g_y (st_lenS (by kernel_rfl) rfl ?_) | refine g_y (st_len0 rfl ?_)
                refine g_y (st_fieldB rfl ?_)
                refine g_y (st_loadB1 rfl rfl rfl ?_)
                first | refine g_y (st_len rfl ?_) | refine g_y (st_lenS (by kernel_rfl) rfl ?_) | refine g_y (st_len0 rfl ?_)
                first | refine g_y (st_neq rfl rfl ?_) | refine g_y (st_neqS rfl rfl ?_) | refine g_y (st_neqB (by kernel_rfl) rfl rfl ?_)
                refine al_p rfl (p_f ?_)
                refine al_nil (x_then (hK _ ?_))
                clear hK K
                refine aw_cond rfl (fun hb8 => ?_) (fun hb8 => ?_)
                · have hc8 := bp hb8
                  exfalso; first | contradiction | omega
                · have hc8 := bp hb8
                  refine aw_skip ?_
                  refine x_then ?_
                  refine hK _ ?_
                  clear hK K
                  refine aw_seq (fun K hK => ?_)
                  refine p_sr (fun K hK => ?_)
                  refine p_as ?_
                  refine al_nil (x_then (hK _ ?_))
                  clear hK K
                  refine aw_block ?_
                  refine aw_loopW (fun m t => ∃ j : Nat, j ≤ n.entries.length ∧ m = n.entries.length - j ∧ t = ⟨look [(2, .bp 0 0), (3, .bp 1 0), (5, .v (.int .i64 (j : Int)))], ⟨[nodA n, nodA n], []⟩⟩) (n.entries.length) ((wk 2 0)) (⟨0, by omega, rfl, rfl⟩) ?_
                  rintro m t ⟨j, hj, rfl, rfl⟩
                  refine aw_seq (fun K hK => ?_)
                  refine p_sr (fun K hK => ?_)
                  refine p_mv ?_
                  refine al_p rfl (st_fieldB rfl ?_)
                  refine al_p rfl (st_loadB1 rfl rfl rfl ?_)
                  first | refine al_p rfl (st_len rfl ?_) | refine al_p rfl (st_lenS (by kernel_rfl) rfl ?_) | refine al_p rfl (st_len0 rfl ?_)
                  first | refine al_p rfl (st_lss rfl rfl ?_) | refine al_p rfl (st_lssS rfl rfl ?_)
                  refine al_nil (x_then (hK _ ?_))
                  clear hK K
                  refine aw_cond rfl (fun hb9 => ?_) (fun hb9 => ?_)
                  · have hc9 := bp hb9
                    obtain ⟨hlt, x, hy, hrow, -⟩ := row_at entA hc9
                    refine aw_skip ?_
                    refine x_then ?_
                    refine hK _ ?_
                    clear hK K
                    refine aw_seq (fun K hK => ?_)
                    refine aw_block ?_
                    refine aw_seq (fun K hK => ?_)
                    refine aw_drawR 11 (by kernel_rfl) ?_
                    refine r_y (i := 0) rfl (st_fieldB rfl ⟨rfl, rfl⟩) ?_
                    refine r_y (i := 1) rfl (st_loadB1 rfl rfl rfl ⟨rfl, rfl⟩) ?_
                    refine r_y (i := 2) rfl (st_move rfl ⟨rfl, rfl⟩) ?_
                    refine r_y (i := 3) rfl (st_index rfl rfl rfl (by first | assumption | rfl) ⟨rfl, rfl⟩) ?_
                    refine r_y (i := 4) rfl (st_loadFW rfl rfl ⟨rfl, rfl⟩) ?_
                    refine r_y (i := 5) rfl (st_fieldB rfl ⟨rfl, rfl⟩) ?_
                    refine r_y (i := 6) rfl (st_loadB1 rfl rfl rfl ⟨rfl, rfl⟩) ?_
                    refine r_y (i := 7) rfl (st_move rfl ⟨rfl, rfl⟩) ?_
                    refine r_y (i := 8) rfl (st_index rfl rfl rfl (by first | assumption | rfl) ⟨rfl, rfl⟩) ?_
                    refine r_y (i := 9) rfl (st_loadFW rfl rfl ⟨rfl, rfl⟩) ?_
                    refine r_y (i := 10) rfl (st_binA rfl rfl (by repeat constructor) (by repeat constructor) (fun w => neqEntS _ _ w) (by kernel_rfl) ⟨rfl, rfl⟩) ?_
                    refine aa_done (by kernel_rfl) ?_ _
                    refine x_then ?_
                    refine hK _ ?_
                    clear hK K
                    refine aw_cond rfl (fun hb10 => ?_) (fun hb10 => ?_)
                    · have hc10 := bp hb10
                      exfalso; first | contradiction | omega
                    · have hc10 := bp hb10
                      refine aw_skip ?_
                      refine x_blockN ?_
                      refine x_then ?_
                      refine hK _ ?_
                      clear hK K
                      refine aw_region ?_
                      refine p_mv ?_
                      first | refine al_p rfl (st_add64 rfl rfl (by omega) ?_) | refine al_p rfl (st_addS rfl rfl (by omega) ?_) | refine al_p rfl (st_add rfl rfl ?_)
                      refine p_as ?_
                      refine al_nil ?_
                      refine x_then ?_
                      refine ⟨_, _, ?_, ⟨j + 1, by omega, rfl, rfl⟩, (wk 2 0)⟩
                      omega
                  · have hc9 := bp hb9
                    refine aw_exit ?_
                    refine x_thenE ?_
                    clear hK K
                    refine x_thenE ?_
                    refine ABlock_out ?_
                    refine x_then ?_
                    refine hK _ ?_
                    clear hK K
                    refine p_sr (fun K hK => ?_)
                    refine p_as ?_
                    refine al_nil (x_then (hK _ ?_))
                    clear hK K
                    refine aw_ret ?_
                    refine e_ret ?_
                    first | exact vb rfl | (exfalso; first | contradiction | omega)

theorem RsameF (f : Fls) (hf : FlsB f) : AFn Try.prog 48 [.agg (flsA f), .agg (flsA f)] (fun r => r = .v (.bool true)) := by
  have hfew := hf.few
  refine enter Try.func48 rfl rfl rfl rfl rfl 0 rfl ?_
  refine p_sr (fun K hK => ?_)
  first | refine al_p rfl (s_boxA rfl rfl (by repeat constructor) ?_) | refine al_p rfl (s_box rfl rfl (by repeat constructor) ?_)
  first | refine al_p rfl (s_boxA rfl rfl (by repeat constructor) ?_) | refine al_p rfl (s_box rfl rfl (by repeat constructor) ?_)
  refine p_as ?_
  refine al_nil (x_then (hK _ ?_))
  clear hK K
  refine aw_seq (fun K hK => ?_)
  refine p_sr (fun K hK => ?_)
  refine al_p rfl (st_fieldB rfl ?_)
  refine al_p rfl (st_loadB1 rfl rfl rfl ?_)
  first | refine al_p rfl (st_len rfl ?_) | refine al_p rfl (st_lenS (by kernel_rfl) rfl ?_) | refine al_p rfl (st_len0 rfl ?_)
  refine al_p rfl (st_fieldB rfl ?_)
  refine al_p rfl (st_loadB1 rfl rfl rfl ?_)
  first | refine al_p rfl (st_len rfl ?_) | refine al_p rfl (st_lenS (by kernel_rfl) rfl ?_) | refine al_p rfl (st_len0 rfl ?_)
  first | refine al_p rfl (st_neq rfl rfl ?_) | refine al_p rfl (st_neqS rfl rfl ?_) | refine al_p rfl (st_neqB (by kernel_rfl) rfl rfl ?_)
  refine al_nil (x_then (hK _ ?_))
  clear hK K
  refine aw_cond rfl (fun hb1 => ?_) (fun hb1 => ?_)
  · have hc1 := bp hb1
    exfalso; first | contradiction | omega
  · have hc1 := bp hb1
    refine aw_skip ?_
    refine x_then ?_
    refine hK _ ?_
    clear hK K
    refine aw_seq (fun K hK => ?_)
    refine p_sr (fun K hK => ?_)
    refine p_as ?_
    refine al_nil (x_then (hK _ ?_))
    clear hK K
    refine aw_block ?_
    refine aw_loopW (fun m t => ∃ j : Nat, j ≤ f.length ∧ m = f.length - j ∧ t = ⟨look [(2, .bp 0 0), (3, .bp 1 0), (5, .v (.int .i64 (j : Int)))], ⟨[flsA f, flsA f], []⟩⟩) (f.length) ((wk 2 0)) (⟨0, by omega, rfl, rfl⟩) ?_
    rintro m t ⟨j, hj, rfl, rfl⟩
    refine aw_seq (fun K hK => ?_)
    refine p_sr (fun K hK => ?_)
    refine p_mv ?_
    refine al_p rfl (st_fieldB rfl ?_)
    refine al_p rfl (st_loadB1 rfl rfl rfl ?_)
    first | refine al_p rfl (st_len rfl ?_) | refine al_p rfl (st_lenS (by kernel_rfl) rfl ?_) | refine al_p rfl (st_len0 rfl ?_)
    first | refine al_p rfl (st_lss rfl rfl ?_) | refine al_p rfl (st_lssS rfl rfl ?_)
    refine al_nil (x_then (hK _ ?_))
    clear hK K
    refine aw_cond rfl (fun hb2 => ?_) (fun hb2 => ?_)
    · have hc2 := bp hb2
      obtain ⟨hlt, d, hd, hrow, -⟩ := row_at dvcA hc2
      have hdn := hf.nodes d (List.mem_of_getElem? hd)
      refine aw_skip ?_
      refine x_then ?_
      refine hK _ ?_
      clear hK K
      refine aw_seq (fun K hK => ?_)
      refine aw_block ?_
      refine aw_midI (fun t => t = ⟨look [(2, .bp 0 0), (3, .bp 1 0), (5, .v (.int .i64 (j : Int))), (6, .bp 2 0), (7, .bp 3 0)], ⟨[flsA f, flsA f, dvcA d, dvcA d], []⟩⟩) ?_ ?_
      · skip
        refine aw_draw (fun h => ∃ x, h.bx = [flsA f, flsA f] ++ x) 13 (by kernel_rfl) ?_
        refine aa_t (i := 0) rfl rfl (by kernel_rfl) (by first | rfl | exact wan_y rfl rfl (beq_tt ‹_›) | exact wan_y rfl rfl (beq_ff ‹_›) | exact wan_y rfl rfl (by simp [*])) (fun h0 hS => st_fieldB rfl ⟨rfl, rfl⟩) ⟨_, rfl⟩ ?_
        first | refine aa_t (i := 1) rfl rfl (by kernel_rfl) (by first | rfl | exact wan_y rfl rfl (beq_tt ‹_›) | exact wan_y rfl rfl (beq_ff ‹_›) | exact wan_y rfl rfl (by simp [*])) (fun h0 hS => st_loadB1 (row := flsA f) rfl (by obtain ⟨_, e⟩ := hS; rw [e]; rfl) rfl ⟨rfl, rfl⟩) ⟨_, rfl⟩ ?_ | refine aa_t (i := 1) rfl rfl (by kernel_rfl) (by first | rfl | exact wan_y rfl rfl (beq_tt ‹_›) | exact wan_y rfl rfl (beq_ff ‹_›) | exact wan_y rfl rfl (by simp [*])) (fun h0 hS => st_loadB1 rfl rfl rfl ⟨rfl, rfl⟩) ⟨_, rfl⟩ ?_
        refine aa_t (i := 2) rfl rfl (by kernel_rfl) (by first | rfl | exact wan_y rfl rfl (beq_tt ‹_›) | exact wan_y rfl rfl (beq_ff ‹_›) | exact wan_y rfl rfl (by simp [*])) (fun h0 hS => st_move rfl ⟨rfl, rfl⟩) ⟨_, rfl⟩ ?_
        refine aa_t (i := 3) rfl rfl (by kernel_rfl) (by first | rfl | exact wan_y rfl rfl (beq_tt ‹_›) | exact wan_y rfl rfl (beq_ff ‹_›) | exact wan_y rfl rfl (by simp [*])) (fun h0 hS => st_index rfl rfl rfl (by first | assumption | rfl) ⟨rfl, rfl⟩) ⟨_, rfl⟩ ?_
        first | refine aa_t (i := 4) rfl rfl (by kernel_rfl) (by first | rfl | exact wan_y rfl rfl (beq_tt ‹_›) | exact wan_y rfl rfl (beq_ff ‹_›) | exact wan_y rfl rfl (by simp [*])) (fun h0 hS => st_loadB1 (row := flsA f) rfl (by obtain ⟨_, e⟩ := hS; rw [e]; rfl) rfl ⟨rfl, rfl⟩) ⟨_, rfl⟩ ?_ | refine aa_t (i := 4) rfl rfl (by kernel_rfl) (by first | rfl | exact wan_y rfl rfl (beq_tt ‹_›) | exact wan_y rfl rfl (beq_ff ‹_›) | exact wan_y rfl rfl (by simp [*])) (fun h0 hS => st_loadFW rfl rfl ⟨rfl, rfl⟩) ⟨_, rfl⟩ ?_
        refine aa_t (i := 5) rfl rfl (by kernel_rfl) (by first | rfl | exact wan_y rfl rfl (beq_tt ‹_›) | exact wan_y rfl rfl (beq_ff ‹_›) | exact wan_y rfl rfl (by simp [*])) (fun h0 hS => st_fieldB rfl ⟨rfl, rfl⟩) ⟨_, rfl⟩ ?_
        first | refine aa_t (i := 6) rfl rfl (by kernel_rfl) (by first | rfl | exact wan_y rfl rfl (beq_tt ‹_›) | exact wan_y rfl rfl (beq_ff ‹_›) | exact wan_y rfl rfl (by simp [*])) (fun h0 hS => st_loadB1 (row := flsA f) rfl (by obtain ⟨_, e⟩ := hS; rw [e]; rfl) rfl ⟨rfl, rfl⟩) ⟨_, rfl⟩ ?_ | refine aa_t (i := 6) rfl rfl (by kernel_rfl) (by first | rfl | exact wan_y rfl rfl (beq_tt ‹_›) | exact wan_y rfl rfl (beq_ff ‹_›) | exact wan_y rfl rfl (by simp [*])) (fun h0 hS => st_loadB1 rfl rfl rfl ⟨rfl, rfl⟩) ⟨_, rfl⟩ ?_
        refine aa_t (i := 7) rfl rfl (by kernel_rfl) (by first | rfl | exact wan_y rfl rfl (beq_tt ‹_›) | exact wan_y rfl rfl (beq_ff ‹_›) | exact wan_y rfl rfl (by simp [*])) (fun h0 hS => st_move rfl ⟨rfl, rfl⟩) ⟨_, rfl⟩ ?_
        refine aa_t (i := 8) rfl rfl (by kernel_rfl) (by first | rfl | exact wan_y rfl rfl (beq_tt ‹_›) | exact wan_y rfl rfl (beq_ff ‹_›) | exact wan_y rfl rfl (by simp [*])) (fun h0 hS => st_index rfl rfl rfl (by first | assumption | rfl) ⟨rfl, rfl⟩) ⟨_, rfl⟩ ?_
        first | refine aa_t (i := 9) rfl rfl (by kernel_rfl) (by first | rfl | exact wan_y rfl rfl (beq_tt ‹_›) | exact wan_y rfl rfl (beq_ff ‹_›) | exact wan_y rfl rfl (by simp [*])) (fun h0 hS => st_loadB1 (row := flsA f) rfl (by obtain ⟨_, e⟩ := hS; rw [e]; rfl) rfl ⟨rfl, rfl⟩) ⟨_, rfl⟩ ?_ | refine aa_t (i := 9) rfl rfl (by kernel_rfl) (by first | rfl | exact wan_y rfl rfl (beq_tt ‹_›) | exact wan_y rfl rfl (beq_ff ‹_›) | exact wan_y rfl rfl (by simp [*])) (fun h0 hS => st_loadFW rfl rfl ⟨rfl, rfl⟩) ⟨_, rfl⟩ ?_
        refine aa_two (i := 10) (j := 11) (by kernel_rfl) rfl rfl (by first | rfl | exact wan_y rfl rfl (beq_tt ‹_›) | exact wan_y rfl rfl (beq_ff ‹_›) | exact wan_y rfl rfl (by simp [*])) rfl rfl (by first | rfl | exact wan_y rfl rfl (beq_tt ‹_›) | exact wan_y rfl rfl (beq_ff ‹_›) | exact wan_y rfl rfl (by simp [*])) ?_ ?_
        · refine s_alloc (by repeat constructor) ?_
          refine ⟨.inr ⟨_, rfl⟩, ?_⟩
          refine aa_c (i := 11) rfl rfl (by kernel_rfl) (by first | rfl | exact wan_y rfl rfl (beq_tt ‹_›) | exact wan_y rfl rfl (beq_ff ‹_›) | exact wan_y rfl rfl (by simp [*])) (s_alloc (by repeat constructor) ?_)
          refine ⟨.inr ⟨_, rfl⟩, ?_⟩
          refine aa_c0 (i := 12) rfl (by kernel_rfl) (by first | rfl | exact wan_y rfl rfl (beq_tt ‹_›) | exact wan_y rfl rfl (beq_ff ‹_›) | exact wan_y rfl rfl (by simp [*])) (s_store rfl rfl rfl rfl rfl rfl (by repeat constructor) (by repeat constructor) ?_)
          refine ⟨.inr ⟨_, rfl⟩, ?_⟩
          refine aa_c0 (i := 13) rfl (by kernel_rfl) (by first | rfl | exact wan_y rfl rfl (beq_tt ‹_›) | exact wan_y rfl rfl (beq_ff ‹_›) | exact wan_y rfl rfl (by simp [*])) (s_store rfl rfl rfl rfl rfl rfl (by repeat constructor) (by repeat constructor) ?_)
          refine ⟨.inl rfl, ?_⟩
          refine aa_done (by kernel_rfl) ?_ _
          refine x_then ?_
          first | exact ⟨_, rfl, weak_ren [0, 1, 3, 2] (fun i hi => absurd hi (Nat.not_lt_zero i)) (by decide) (.cons _ _ _ _ _ rfl rfl (.cons _ _ _ _ _ rfl rfl (.cons _ _ _ _ _ rfl rfl (.cons _ _ _ _ _ rfl rfl .nil)))) (.cons _ _ _ _ rfl (LeA.refl _) (.cons _ _ _ _ rfl (LeA.refl _) (.cons _ _ _ _ rfl (LeA.refl _) (.cons _ _ _ _ rfl (LeA.refl _) (.cons _ _ _ _ rfl (LeA.refl _) .nil)))))⟩ | exact ⟨_, rfl, (wk 4 0)⟩
        · refine s_alloc (by repeat constructor) ?_
          refine ⟨.inr ⟨_, rfl⟩, ?_⟩
          refine aa_c (i := 10) rfl rfl (by kernel_rfl) (by first | rfl | exact wan_y rfl rfl (beq_tt ‹_›) | exact wan_y rfl rfl (beq_ff ‹_›) | exact wan_y rfl rfl (by simp [*])) (s_alloc (by repeat constructor) ?_)
          refine ⟨.inr ⟨_, rfl⟩, ?_⟩
          refine aa_c0 (i := 12) rfl (by kernel_rfl) (by first | rfl | exact wan_y rfl rfl (beq_tt ‹_›) | exact wan_y rfl rfl (beq_ff ‹_›) | exact wan_y rfl rfl (by simp [*])) (s_store rfl rfl rfl rfl rfl rfl (by repeat constructor) (by repeat constructor) ?_)
          refine ⟨.inr ⟨_, rfl⟩, ?_⟩
          refine aa_c0 (i := 13) rfl (by kernel_rfl) (by first | rfl | exact wan_y rfl rfl (beq_tt ‹_›) | exact wan_y rfl rfl (beq_ff ‹_›) | exact wan_y rfl rfl (by simp [*])) (s_store rfl rfl rfl rfl rfl rfl (by repeat constructor) (by repeat constructor) ?_)
          refine ⟨.inl rfl, ?_⟩
          refine aa_done (by kernel_rfl) ?_ _
          refine x_then ?_
          first | exact ⟨_, rfl, weak_ren [0, 1, 3, 2] (fun i hi => absurd hi (Nat.not_lt_zero i)) (by decide) (.cons _ _ _ _ _ rfl rfl (.cons _ _ _ _ _ rfl rfl (.cons _ _ _ _ _ rfl rfl (.cons _ _ _ _ _ rfl rfl .nil)))) (.cons _ _ _ _ rfl (LeA.refl _) (.cons _ _ _ _ rfl (LeA.refl _) (.cons _ _ _ _ rfl (LeA.refl _) (.cons _ _ _ _ rfl (LeA.refl _) (.cons _ _ _ _ rfl (LeA.refl _) .nil)))))⟩ | exact ⟨_, rfl, (wk 4 0)⟩
      · rintro t rfl
        refine aw_seq (fun K hK => ?_)
        refine p_sr (fun K hK => ?_)
        refine al_p rfl (st_fieldB rfl ?_)
        refine al_p rfl (st_loadB1 rfl rfl rfl ?_)
        refine al_p rfl (st_fieldB rfl ?_)
        refine al_p rfl (st_loadB1 rfl rfl rfl ?_)
        first | refine al_p rfl (st_neq rfl rfl ?_) | refine al_p rfl (st_neqS rfl rfl ?_) | refine al_p rfl (st_neqB (by kernel_rfl) rfl rfl ?_)
        refine p_mv ?_
        refine al_gs false rfl rfl (fun hb3 => ?_) (fun hb3 => ?_)
        · have hc3 := bp hb3
          exfalso; first | contradiction | omega
        · have hc3 := bp hb3
          refine g_y (st_fieldB rfl ?_)
          refine g_y (st_loadB1 rfl rfl rfl ?_)
          first | refine g_y (st_len rfl ?_) | refine g_y (st_lenS (by kernel_rfl) rfl ?_) | refine g_y (st_len0 rfl ?_)
          refine g_y (st_fieldB rfl ?_)
          refine g_y (st_loadB1 rfl rfl rfl ?_)
          first | refine g_y (st_len rfl ?_) | refine g_y (st_lenS (by kernel_rfl) rfl ?_) | refine g_y (st_len0 rfl ?_)
          first | refine g_y (st_neq rfl rfl ?_) | refine g_y (st_neqS rfl rfl ?_) | refine g_y (st_neqB (by kernel_rfl) rfl rfl ?_)
          refine al_p rfl (p_f ?_)
          refine al_nil (x_then (hK _ ?_))
          clear hK K
          refine aw_cond rfl (fun hb4 => ?_) (fun hb4 => ?_)
          · have hc4 := bp hb4
            exfalso; first | contradiction | omega
          · have hc4 := bp hb4
            refine aw_skip ?_
            refine x_then ?_
            refine hK _ ?_
            clear hK K
            refine p_sr (fun K hK => ?_)
            refine p_as ?_
            refine al_nil (x_then (hK _ ?_))
            clear hK K
            refine aw_block ?_
            refine aw_loopW (fun m t => ∃ i : Nat, i ≤ d.nodes.length ∧ m = d.nodes.length - i ∧ t = ⟨look [(2, .bp 0 0), (3, .bp 1 0), (5, .v (.int .i64 (j : Int))), (6, .bp 2 0), (7, .bp 3 0), (8, .v (.int .i64 (i : Int)))], ⟨[flsA f, flsA f, dvcA d, dvcA d], []⟩⟩) (d.nodes.length) ((wk 4 0)) (⟨0, by omega, rfl, rfl⟩) ?_
            rintro m t ⟨i, hi, rfl, rfl⟩
            refine aw_seq (fun K hK => ?_)
            refine p_sr (fun K hK => ?_)
            refine p_mv ?_
            refine al_p rfl (st_fieldB rfl ?_)
            refine al_p rfl (st_loadB1 rfl rfl rfl ?_)
            first | refine al_p rfl (st_len rfl ?_) | refine al_p rfl (st_lenS (by kernel_rfl) rfl ?_) | refine al_p rfl (st_len0 rfl ?_)
            first | refine al_p rfl (st_lss rfl rfl ?_) | refine al_p rfl (st_lssS rfl rfl ?_)
            refine al_nil (x_then (hK _ ?_))
            clear hK K
            refine aw_cond rfl (fun hb5 => ?_) (fun hb5 => ?_)
            · have hc5 := bp hb5
              obtain ⟨hlt5, n, hn, hrow5, -⟩ := row_at nodA hc5
              refine aw_skip ?_
              refine x_then ?_
              refine hK _ ?_
              clear hK K
              refine aw_seq (fun K hK => ?_)
              refine aw_block ?_
              refine aw_seq (fun K hK => ?_)
              refine aw_drawR 12 (by kernel_rfl) ?_
              refine r_y (i := 0) rfl (st_fieldB rfl ⟨rfl, rfl⟩) ?_
              refine r_y (i := 1) rfl (st_loadB1 rfl rfl rfl ⟨rfl, rfl⟩) ?_
              refine r_y (i := 2) rfl (st_move rfl ⟨rfl, rfl⟩) ?_
              refine r_y (i := 3) rfl (st_index rfl rfl rfl (by first | assumption | rfl) ⟨rfl, rfl⟩) ?_
              refine r_y (i := 4) rfl (st_loadFW rfl rfl ⟨rfl, rfl⟩) ?_
              refine r_y (i := 5) rfl (st_fieldB rfl ⟨rfl, rfl⟩) ?_
              refine r_y (i := 6) rfl (st_loadB1 rfl rfl rfl ⟨rfl, rfl⟩) ?_
              refine r_y (i := 7) rfl (st_move rfl ⟨rfl, rfl⟩) ?_
              refine r_y (i := 8) rfl (st_index rfl rfl rfl (by first | assumption | rfl) ⟨rfl, rfl⟩) ?_
              refine r_y (i := 9) rfl (st_loadFW rfl rfl ⟨rfl, rfl⟩) ?_
              refine aa_c (i := 10) rfl rfl (by kernel_rfl) (by first | rfl | exact wan_y rfl rfl (beq_tt ‹_›) | exact wan_y rfl rfl (beq_ff ‹_›) | exact wan_y rfl rfl (by simp [*])) (q_call (RsameNode n (hf.ents d (List.mem_of_getElem? hd) n (List.mem_of_getElem? hn))) ?_)
              rintro r rfl
              refine ⟨.inr rfl, ?_⟩
              refine r_y (i := 11) rfl (st_not rfl ⟨rfl, rfl⟩) ?_
              refine aa_done (by kernel_rfl) ?_ _
              refine x_then ?_
              refine hK _ ?_
              clear hK K
              refine aw_cond rfl (fun hb6 => ?_) (fun hb6 => ?_)
              · have hc6 := bp hb6
                exfalso; first | contradiction | omega
              · have hc6 := bp hb6
                refine aw_skip ?_
                refine x_blockN ?_
                refine x_then ?_
                refine hK _ ?_
                clear hK K
                refine aw_region ?_
                refine p_mv ?_
                first | refine al_p rfl (st_add64 rfl rfl (by omega) ?_) | refine al_p rfl (st_addS rfl rfl (by omega) ?_) | refine al_p rfl (st_add rfl rfl ?_)
                refine p_as ?_
                refine al_nil ?_
                refine x_then ?_
                refine ⟨_, _, ?_, ⟨i + 1, by omega, rfl, rfl⟩, (wk 4 0)⟩
                omega
            · have hc5 := bp hb5
              refine aw_exit ?_
              refine x_thenE ?_
              clear hK K
              refine x_thenE ?_
              refine ABlock_out ?_
              refine x_blockN ?_
              refine x_then ?_
              refine hK _ ?_
              clear hK K
              refine aw_region ?_
              refine p_mv ?_
              first | refine al_p rfl (st_add64 rfl rfl (by omega) ?_) | refine al_p rfl (st_addS rfl rfl (by omega) ?_) | refine al_p rfl (st_add rfl rfl ?_)
              refine p_as ?_
              refine al_nil ?_
              refine x_then ?_
              refine ⟨_, _, ?_, ⟨j + 1, by omega, rfl, rfl⟩, (wk 2 0)⟩
              omega
    · have hc2 := bp hb2
      refine aw_exit ?_
      refine x_thenE ?_
      clear hK K
      refine x_thenE ?_
      refine ABlock_out ?_
      refine x_then ?_
      refine hK _ ?_
      clear hK K
      refine p_sr (fun K hK => ?_)
      refine p_as ?_
      refine al_nil (x_then (hK _ ?_))
      clear hK K
      refine aw_ret ?_
      refine e_ret ?_
      first | exact vb rfl | (exfalso; first | contradiction | omega)

end
end Go.Proofs.Ytgliiknfmlmddaa
namespace Go.Proofs.Ytgliiknfmlmddaa
open Go.RowKit

section
set_option maxRecDepth 10000
set_option maxHeartbeats 1000000
theorem neqMntS (a b c : Int) (w : World) : (binOp .neq 60 (.agg #[.int .i64 a, .int .i64 b, .int .i64 c]) (.agg #[.int .i64 a, .int .i64 b, .int .i64 c])).run Try.prog w = .ok (.bool false) w := by
  have u3 := Try.underlying3
  have a3 := Try.isAgg3
  have z3 := Try.sizeOf3
  have u2 := Try.underlying24
  have a2 := Try.isAgg24
  have z2 := Try.sizeOf24
  have hS : Try.prog.underlying 60 = some (.struct (Try.prog.fieldsOf 60)) := by kernel_rfl
  have hp : Try.prog.stoodInHeld 60 = false := by kernel_rfl
  have hS2 : Try.prog.underlying 24 = some (.struct (Try.prog.fieldsOf 24)) := by kernel_rfl
  have hp2 : Try.prog.stoodInHeld 24 = false := by kernel_rfl
  have e2 : ∀ w, (Op.equalIn 9999 24 (.agg #[.int .i64 b, .int .i64 c]) (.agg #[.int .i64 b, .int .i64 c])).run Try.prog w = .ok true w := by
    intro w
    rw [show (9999 : Nat) = 9998 + 1 from rfl, run_equalIn_agg w 9998 24 _ _ hS2 hp2]
    simp only [Program.fieldsOf, Try.underlying24]
    go_simp
    try simp
  have e : ∀ w, (Op.equalIn 10000 60 (.agg #[.int .i64 a, .int .i64 b, .int .i64 c]) (.agg #[.int .i64 a, .int .i64 b, .int .i64 c])).run Try.prog w = .ok true w := by
    intro w
    rw [show (10000 : Nat) = 9999 + 1 from rfl, run_equalIn_agg w 9999 60 _ _ hS hp]
    simp only [Program.fieldsOf, Try.underlying60]
    go_simp
    try simp [e2]
  rw [run_neq_struct, e]
  simp
theorem RsameS (s : Spc) (hs : SpcB s) : AFn Try.prog 17 [.agg (spcA s), .agg (spcA s)] (fun r => r = .v (.bool true)) := by
  have hfew := hs.few
  refine enter Try.func17 rfl rfl rfl rfl rfl 0 rfl ?_
  refine p_sr (fun K hK => ?_)
  first | refine al_p rfl (s_boxA rfl rfl (by repeat constructor) ?_) | refine al_p rfl (s_box rfl rfl (by repeat constructor) ?_)
  first | refine al_p rfl (s_boxA rfl rfl (by repeat constructor) ?_) | refine al_p rfl (s_box rfl rfl (by repeat constructor) ?_)
  refine p_as ?_
  refine al_nil (x_then (hK _ ?_))
  clear hK K
  refine aw_seq (fun K hK => ?_)
  refine p_sr (fun K hK => ?_)
  refine al_p rfl (st_fieldB rfl ?_)
  refine al_p rfl (st_loadBN rfl rfl rfl ?_)
  refine al_p rfl (st_fieldB rfl ?_)
  refine al_p rfl (st_loadBN rfl rfl rfl ?_)
  refine al_p rfl (q_call (RsameF s.files hs.files) ?_)
  rintro r rfl
  refine al_p rfl (st_not rfl ?_)
  refine p_mv ?_
  refine al_gs false rfl rfl (fun hb1 => ?_) (fun hb1 => ?_)
  · have hc1 := bp hb1
    refine g_n ?_
    refine g_n ?_
    refine g_n ?_
    refine g_n ?_
    refine g_n ?_
    refine g_n ?_
    refine g_n ?_
    refine al_p rfl (p_t ?_)
    refine al_nil (x_then (hK _ ?_))
    clear hK K
    refine aw_cy rfl (by first | rfl | assumption | simp [*]) ?_
    refine p_sr (fun K hK => ?_)
    refine p_as ?_
    refine al_nil (x_then (hK _ ?_))
    clear hK K
    refine aw_ret ?_
    refine x_thenR ?_
    clear hK K
    refine e_ret ?_
    first | exact vb rfl | (exfalso; first | contradiction | omega)
  · have hc1 := bp hb1
    refine g_y (st_fieldB rfl ?_)
    refine g_y (st_loadB1 rfl rfl rfl ?_)
    first | refine g_y (st_len rfl ?_) | refine g_y (st_lenS (by kernel_rfl) rfl ?_) | refine g_y (st_len0 rfl ?_)
    refine g_y (st_fieldB rfl ?_)
    refine g_y (st_loadB1 rfl rfl rfl ?_)
    first | refine g_y (st_len rfl ?_) | refine g_y (st_lenS (by kernel_rfl) rfl ?_) | refine g_y (st_len0 rfl ?_)
    first | refine g_y (st_neq rfl rfl ?_) | refine g_y (st_neqS rfl rfl ?_) | refine g_y (st_neqB (by kernel_rfl) rfl rfl ?_)
    refine al_p rfl (p_f ?_)
    refine al_nil (x_then (hK _ ?_))
    clear hK K
    refine aw_cond rfl (fun hb2 => ?_) (fun hb2 => ?_)
    · have hc2 := bp hb2
      exfalso; first | contradiction | omega
    · have hc2 := bp hb2
      refine aw_skip ?_
      refine x_then ?_
      refine hK _ ?_
      clear hK K
      refine aw_seq (fun K hK => ?_)
      refine p_sr (fun K hK => ?_)
      refine p_as ?_
      refine al_nil (x_then (hK _ ?_))
      clear hK K
      refine aw_block ?_
      refine aw_loopW (fun m t => ∃ j : Nat, j ≤ s.mounts.length ∧ m = s.mounts.length - j ∧ t = ⟨look [(2, .bp 0 0), (3, .bp 1 0), (5, .v (.int .i64 (j : Int)))], ⟨[spcA s, spcA s], []⟩⟩) (s.mounts.length) ((wk 2 0)) (⟨0, by omega, rfl, rfl⟩) ?_
      rintro m t ⟨j, hj, rfl, rfl⟩
      refine aw_seq (fun K hK => ?_)
      refine p_sr (fun K hK => ?_)
      refine p_mv ?_
      refine al_p rfl (st_fieldB rfl ?_)
      refine al_p rfl (st_loadB1 rfl rfl rfl ?_)
      first | refine al_p rfl (st_len rfl ?_) | refine al_p rfl (st_lenS (by kernel_rfl) rfl ?_) | refine al_p rfl (st_len0 rfl ?_)
      first | refine al_p rfl (st_lss rfl rfl ?_) | refine al_p rfl (st_lssS rfl rfl ?_)
      refine al_nil (x_then (hK _ ?_))
      clear hK K
      refine aw_cond rfl (fun hb3 => ?_) (fun hb3 => ?_)
      · have hc3 := bp hb3
        obtain ⟨hlt, x, hy, hrow, -⟩ := row_at mntA hc3
        refine aw_skip ?_
        refine x_then ?_
        refine hK _ ?_
        clear hK K
        refine aw_seq (fun K hK => ?_)
        refine aw_block ?_
        refine aw_seq (fun K hK => ?_)
        refine aw_drawR 11 (by kernel_rfl) ?_
        refine r_y (i := 0) rfl (st_fieldB rfl ⟨rfl, rfl⟩) ?_
        refine r_y (i := 1) rfl (st_loadB1 rfl rfl rfl ⟨rfl, rfl⟩) ?_
        refine r_y (i := 2) rfl (st_move rfl ⟨rfl, rfl⟩) ?_
        refine r_y (i := 3) rfl (st_index rfl rfl rfl (by first | assumption | rfl) ⟨rfl, rfl⟩) ?_
        refine r_y (i := 4) rfl (st_loadFW rfl rfl ⟨rfl, rfl⟩) ?_
        refine r_y (i := 5) rfl (st_fieldB rfl ⟨rfl, rfl⟩) ?_
        refine r_y (i := 6) rfl (st_loadB1 rfl rfl rfl ⟨rfl, rfl⟩) ?_
        refine r_y (i := 7) rfl (st_move rfl ⟨rfl, rfl⟩) ?_
        refine r_y (i := 8) rfl (st_index rfl rfl rfl (by first | assumption | rfl) ⟨rfl, rfl⟩) ?_
        refine r_y (i := 9) rfl (st_loadFW rfl rfl ⟨rfl, rfl⟩) ?_
        refine r_y (i := 10) rfl (st_binA rfl rfl (by repeat constructor) (by repeat constructor) (fun w => neqMntS _ _ _ w) (by kernel_rfl) ⟨rfl, rfl⟩) ?_
        refine aa_done (by kernel_rfl) ?_ _
        refine x_then ?_
        refine hK _ ?_
        clear hK K
        refine aw_cond rfl (fun hb4 => ?_) (fun hb4 => ?_)
        · have hc4 := bp hb4
          exfalso; first | contradiction | omega
        · have hc4 := bp hb4
          refine aw_skip ?_
          refine x_blockN ?_
          refine x_then ?_
          refine hK _ ?_
          clear hK K
          refine aw_region ?_
          refine p_mv ?_
          first | refine al_p rfl (st_add64 rfl rfl (by omega) ?_) | refine al_p rfl (st_addS rfl rfl (by omega) ?_) | refine al_p rfl (st_add rfl rfl ?_)
          refine p_as ?_
          refine al_nil ?_
          refine x_then ?_
          refine ⟨_, _, ?_, ⟨j + 1, by omega, rfl, rfl⟩, (wk 2 0)⟩
          omega
      · have hc3 := bp hb3
        refine aw_exit ?_
        refine x_thenE ?_
        clear hK K
        refine x_thenE ?_
        refine ABlock_out ?_
        refine x_then ?_
        refine hK _ ?_
        clear hK K
        refine p_sr (fun K hK => ?_)
        refine p_as ?_
        refine al_nil (x_then (hK _ ?_))
        clear hK K
        refine aw_ret ?_
        refine e_ret ?_
        first | exact vb rfl | (exfalso; first | contradiction | omega)

end
end Go.Proofs.Ytgliiknfmlmddaa
namespace Go.Proofs.Ytgliiknfmlmddaa
open Go.RowKit

theorem nodeL_at {f : Fls} {a : Fil} {k : Nat} {d : Dvc} (hk : a.1 = (k : Int)) (hd : f[k]? = some d) : nodeL f a = d.nodes.find? (fun n : Nod => n.ino == a.2) := by
  unfold nodeL; rw [hk, atI_nat, hd]
def FindR (f : Fls) (a : Fil) (r : AV) : Prop := (nodeL f a = none ∧ r = .v (.pointer none)) ∨ ∃ n, nodeL f a = some n ∧ r = .fp (nodA n)
section
set_option maxRecDepth 10000
set_option maxHeartbeats 1000000
theorem Pfind (f : Fls) (a : Fil) (hf : FlsB f) : AFn Try.prog 72 [.agg (flsA f), .agg (filA a)] (FindR f a) := by
  refine enter Try.func72 rfl rfl rfl rfl rfl 0 rfl ?_
  refine p_sr (fun K hK => ?_)
  first | refine al_p rfl (s_boxA rfl rfl (by repeat constructor) ?_) | refine al_p rfl (s_box rfl rfl (by repeat constructor) ?_)
  first | refine al_p rfl (s_boxA rfl rfl (by repeat constructor) ?_) | refine al_p rfl (s_box rfl rfl (by repeat constructor) ?_)
  refine p_as ?_
  refine al_nil (x_then (hK _ ?_))
  clear hK K
  refine aw_seq (fun K hK => ?_)
  refine p_sr (fun K hK => ?_)
  refine al_p rfl (st_fieldB rfl ?_)
  refine al_p rfl (st_loadB1 rfl rfl rfl ?_)
  first | refine al_p rfl (st_lss rfl rfl ?_) | refine al_p rfl (st_lssS rfl rfl ?_)
  refine p_mv ?_
  refine al_gs false rfl rfl (fun hb1 => ?_) (fun hb1 => ?_)
  · have hc1 := bp hb1
    refine g_n ?_
    refine g_n ?_
    refine g_n ?_
    refine g_n ?_
    refine g_n ?_
    refine g_n ?_
    refine al_p rfl (p_t ?_)
    refine al_nil (x_then (hK _ ?_))
    clear hK K
    refine aw_cy rfl (by first | rfl | assumption | simp [*]) ?_
    refine p_sr (fun K hK => ?_)
    refine p_as ?_
    refine al_nil (x_then (hK _ ?_))
    clear hK K
    refine aw_ret ?_
    refine x_thenR ?_
    clear hK K
    refine e_ret ?_
    exact .inl ⟨by unfold nodeL; rw [atI_none (.inl hc1)], rfl⟩
  · have hc1 := bp hb1
    refine g_y (st_fieldB rfl ?_)
    refine g_y (st_loadB1 rfl rfl rfl ?_)
    refine g_y (st_fieldB rfl ?_)
    refine g_y (st_loadB1 rfl rfl rfl ?_)
    first | refine g_y (st_len rfl ?_) | refine g_y (st_lenS (by kernel_rfl) rfl ?_) | refine g_y (st_len0 rfl ?_)
    first | refine g_y (st_geq rfl rfl ?_) | refine g_y (st_geqS rfl rfl ?_)
    refine al_p rfl (p_f ?_)
    refine al_nil (x_then (hK _ ?_))
    clear hK K
    refine aw_cond rfl (fun hb2 => ?_) (fun hb2 => ?_)
    · have hc2 := bp hb2
      refine p_sr (fun K hK => ?_)
      refine p_as ?_
      refine al_nil (x_then (hK _ ?_))
      clear hK K
      refine aw_ret ?_
      refine x_thenR ?_
      clear hK K
      refine e_ret ?_
      exact .inl ⟨by unfold nodeL; rw [atI_none (.inr (by rw [List.length_map] at hc2; exact hc2))], rfl⟩
    · have hc2 := bp hb2
      obtain ⟨k, hk⟩ := Int.eq_ofNat_of_zero_le (show 0 ≤ a.1 by omega)
      rw [hk] at hc2
      obtain ⟨-, d, hd, hrow, -⟩ := row_at dvcA (l := f) (k := k) (by omega)
      have hdn := hf.nodes d (List.mem_of_getElem? hd)
      refine aw_skip ?_
      refine x_then ?_
      refine hK _ ?_
      clear hK K
      refine p_sr (fun K hK => ?_)
      refine al_p rfl (st_fieldB rfl ?_)
      refine al_p rfl (st_loadB1 rfl rfl rfl ?_)
      refine al_p rfl (st_fieldB rfl ?_)
      refine al_p rfl (st_loadB1 rfl rfl rfl ?_)
      refine al_p rfl (st_index (n := k) rfl rfl hk hrow ?_)
      refine al_p rfl (st_fieldF rfl ?_)
      refine al_p rfl (st_loadF1 rfl rfl ?_)
      refine p_as ?_
      refine al_nil (x_then (hK _ ?_))
      clear hK K
      refine aw_seq (fun K hK => ?_)
      refine p_sr (fun K hK => ?_)
      refine p_mv ?_
      first | refine al_p rfl (st_len rfl ?_) | refine al_p rfl (st_lenS (by kernel_rfl) rfl ?_) | refine al_p rfl (st_len0 rfl ?_)
      refine p_mv ?_
      refine al_nil (x_then (hK _ ?_))
      clear hK K
      refine aw_block ?_
      refine aw_loopW (fun m s => ∃ j : Nat, j ≤ d.nodes.length ∧ m = d.nodes.length - j ∧ (∀ i y, i < j → d.nodes[i]? = some y → (y.ino == a.2) = false) ∧ s = ⟨look [(3, .bp 1 0), (5, .sl 8 (d.nodes.map nodA) none), (26, .v (.int .i64 ((d.nodes.map nodA).length : Int))), (27, .v (.int .i64 (j : Int)))], ⟨[flsA f, filA a], []⟩⟩) (d.nodes.length) ((wk 2 0)) (⟨0, by omega, rfl, fun i y hi => by omega, rfl⟩) ?_
      rintro m s ⟨j, hj, rfl, ha, rfl⟩
      refine p_sr (fun K hK => ?_)
      first | refine al_p rfl (st_lss rfl rfl ?_) | refine al_p rfl (st_lssS rfl rfl ?_)
      refine al_nil (x_then (hK _ ?_))
      clear hK K
      refine aw_seq (fun K hK => ?_)
      refine aw_cond rfl (fun hb3 => ?_) (fun hb3 => ?_)
      · have hc3 := bp hb3
        obtain ⟨hlt, n, hy, hrow2, -⟩ := row_at nodA hc3
        refine aw_skip ?_
        refine x_then ?_
        refine hK _ ?_
        clear hK K
        refine aw_seq (fun K hK => ?_)
        refine aw_block ?_
        refine p_sr (fun K hK => ?_)
        refine p_mv ?_
        refine p_as ?_
        refine al_nil (x_then (hK _ ?_))
        clear hK K
        refine aw_seq (fun K hK => ?_)
        refine aw_drawR 8 (by kernel_rfl) ?_
        refine r_y (i := 0) rfl (st_move rfl ⟨rfl, rfl⟩) ?_
        refine r_y (i := 1) rfl (st_move rfl ⟨rfl, rfl⟩) ?_
        refine r_y (i := 2) rfl (st_index rfl rfl rfl (by first | assumption | rfl) ⟨rfl, rfl⟩) ?_
        refine r_y (i := 3) rfl (st_fieldF rfl ⟨rfl, rfl⟩) ?_
        refine r_y (i := 4) rfl (st_loadF1 rfl rfl ⟨rfl, rfl⟩) ?_
        refine r_y (i := 5) rfl (st_fieldB rfl ⟨rfl, rfl⟩) ?_
        refine r_y (i := 6) rfl (st_loadB1 rfl rfl rfl ⟨rfl, rfl⟩) ?_
        first | refine r_y (i := 7) rfl (st_eql rfl rfl ⟨rfl, rfl⟩) ?_ | refine r_y (i := 7) rfl (st_eqlS rfl rfl ⟨rfl, rfl⟩) ?_ | refine r_y (i := 7) rfl (st_eqlB (by kernel_rfl) rfl rfl ⟨rfl, rfl⟩) ?_
        refine aa_done (by kernel_rfl) ?_ _
        refine x_then ?_
        refine hK _ ?_
        clear hK K
        refine aw_cond rfl (fun hb4 => ?_) (fun hb4 => ?_)
        · have hc4 := bp hb4
          refine p_sr (fun K hK => ?_)
          refine p_mv ?_
          refine p_mv ?_
          refine al_p rfl (st_index rfl rfl rfl (by first | assumption | rfl) ?_)
          refine p_as ?_
          refine al_nil (x_then (hK _ ?_))
          clear hK K
          refine aw_ret ?_
          refine x_blockR ?_
          refine x_thenR ?_
          clear hK K
          refine x_thenR ?_
          refine x_blockR ?_
          refine x_thenR ?_
          clear hK K
          refine e_ret ?_
          exact .inr ⟨n, by rw [nodeL_at hk hd]; exact find_at hy (by simpa using hc4) ha, rfl⟩
        · have hc4 := bp hb4
          refine aw_skip ?_
          refine x_blockN ?_
          refine x_then ?_
          refine hK _ ?_
          clear hK K
          refine aw_region ?_
          first | refine al_p rfl (st_add64 rfl rfl (by omega) ?_) | refine al_p rfl (st_addS rfl rfl (by omega) ?_) | refine al_p rfl (st_add rfl rfl ?_)
          refine p_mv ?_
          refine al_nil ?_
          refine x_then ?_
          refine ⟨_, _, ?_, ⟨j + 1, by omega, rfl, upto_snoc hy ha (by simpa using hc4), rfl⟩, (wk 2 0)⟩
          omega
      · have hc3 := bp hb3
        have e := row_no nodA hj hc3
        subst e
        refine aw_exit ?_
        refine x_thenE ?_
        clear hK K
        refine x_thenE ?_
        refine ABlock_out ?_
        refine x_then ?_
        refine hK _ ?_
        clear hK K
        refine p_sr (fun K hK => ?_)
        refine p_as ?_
        refine al_nil (x_then (hK _ ?_))
        clear hK K
        refine aw_ret ?_
        refine e_ret ?_
        exact .inl ⟨by rw [nodeL_at hk hd]; exact find_no (fun i y hi hy => ha i y hi hy), rfl⟩

theorem PcopyEntry (e : Ent) : AFn Try.prog 100 [.agg (entA e)] (fun r => r = .agg (entA e)) := by
  refine enter Try.func100 rfl rfl rfl rfl rfl 0 rfl ?_
  refine p_sr (fun K hK => ?_)
  first | refine al_p rfl (s_boxA rfl rfl (by repeat constructor) ?_) | refine al_p rfl (s_box rfl rfl (by repeat constructor) ?_)
  refine al_p rfl (s_alloc (by repeat constructor) ?_)
  refine al_nil (x_then (hK _ ?_))
  clear hK K
  refine p_sr (fun K hK => ?_)
  refine al_p rfl (st_loadBW rfl rfl rfl ?_)
  refine p_st ?_
  refine al_nil (x_then (hK _ ?_))
  clear hK K
  refine aw_ret ?_
  refine e_ret ?_
  rfl

end
end Go.Proofs.Ytgliiknfmlmddaa
namespace Go.Proofs.Ytgliiknfmlmddaa
open Go.RowKit

section
set_option maxRecDepth 10000
set_option maxHeartbeats 1000000
theorem PcopiedE (es : List Ent) (hes : es.length ≤ 1000) : AFn Try.prog 99 [.sl 2 (es.map entA) none, .fn 100 []] (fun r => r = .sl 2 (es.map entA) none) := by
  have hml : (es.map entA).length = es.length := by simp
  refine enter Try.func99 rfl rfl rfl rfl rfl 0 rfl ?_
  refine p_sr (fun K hK => ?_)
  refine p_as ?_
  refine al_nil (x_then (hK _ ?_))
  clear hK K
  refine aw_seq (fun K hK => ?_)
  refine p_sr (fun K hK => ?_)
  refine p_mv ?_
  first | refine al_p rfl (st_len rfl ?_) | refine al_p rfl (st_lenS (by kernel_rfl) rfl ?_) | refine al_p rfl (st_len0 rfl ?_)
  first | refine al_p rfl (st_eql rfl rfl ?_) | refine al_p rfl (st_eqlS rfl rfl ?_) | refine al_p rfl (st_eqlB (by kernel_rfl) rfl rfl ?_)
  refine al_nil (x_then (hK _ ?_))
  clear hK K
  refine aw_cond rfl (fun hb1 => ?_) (fun hb1 => ?_)
  · have hc1 := bp hb1
    refine p_sr (fun K hK => ?_)
    refine p_as ?_
    refine al_nil (x_then (hK _ ?_))
    clear hK K
    refine aw_ret ?_
    refine x_thenR ?_
    clear hK K
    refine abody_ret (r := .sl 2 (es.map entA) none) none (by repeat (first | exact ResA.nil | (apply ResA.tmp; (focus exact rfl)) | (apply ResA.cellN; (focus exact inferInstance); (focus exact rfl); (focus exact rfl); (focus exact rfl)) | (apply ResA.cell1; (focus exact inferInstance); (focus exact rfl); (focus exact rfl); (focus exact rfl)))) rfl rfl rfl ?_ ⟨rfl, rfl, rfl⟩
    rw [show es = [] from List.eq_nil_of_length_eq_zero (by omega)]
    exact LeA.nil _
  · have hc1 := bp hb1
    refine aw_skip ?_
    refine x_then ?_
    refine hK _ ?_
    clear hK K
    refine p_sr (fun K hK => ?_)
    refine p_mv ?_
    first | refine al_p rfl (st_len rfl ?_) | refine al_p rfl (st_lenS (by kernel_rfl) rfl ?_) | refine al_p rfl (st_len0 rfl ?_)
    refine al_p rfl (s_make0 rfl rfl (by omega) (by repeat constructor) ?_)
    refine p_as ?_
    refine al_nil (x_then (hK _ ?_))
    clear hK K
    refine aw_seq (fun K hK => ?_)
    refine p_sr (fun K hK => ?_)
    refine p_mv ?_
    first | refine al_p rfl (st_len rfl ?_) | refine al_p rfl (st_lenS (by kernel_rfl) rfl ?_) | refine al_p rfl (st_len0 rfl ?_)
    refine p_mv ?_
    refine al_nil (x_then (hK _ ?_))
    clear hK K
    refine aw_block ?_
    refine aw_loopW (fun m s => ∃ j : Nat, j ≤ es.length ∧ m = es.length - j ∧ s = ⟨look [(1, .fn 100 []), (5, .sl 2 ((es.take j).map entA) (some 0)), (14, .sl 2 (es.map entA) none), (15, .v (.int .i64 ((es.map entA).length : Int))), (16, .v (.int .i64 (j : Int)))], ⟨[], [(112, 2, (es.take j).map entA)]⟩⟩) (es.length) ((wk 0 1)) (⟨0, by omega, rfl, rfl⟩) ?_
    rintro m s ⟨j, hj, rfl, rfl⟩
    refine p_sr (fun K hK => ?_)
    first | refine al_p rfl (st_lss rfl rfl ?_) | refine al_p rfl (st_lssS rfl rfl ?_)
    refine al_nil (x_then (hK _ ?_))
    clear hK K
    refine aw_seq (fun K hK => ?_)
    refine aw_cond rfl (fun hb2 => ?_) (fun hb2 => ?_)
    · have hc2 := bp hb2
      obtain ⟨hlt, x, hy, hrow, e⟩ := row_at entA hc2
      refine aw_skip ?_
      refine x_then ?_
      refine hK _ ?_
      clear hK K
      refine aw_seq (fun K hK => ?_)
      refine aw_block ?_
      refine p_sr (fun K hK => ?_)
      refine al_p rfl (st_index rfl rfl rfl (by first | assumption | rfl) ?_)
      refine al_p rfl (st_loadFW rfl rfl ?_)
      refine al_p rfl (s_alloc (by repeat constructor) ?_)
      refine p_st ?_
      refine al_nil (x_then (hK _ ?_))
      clear hK K
      refine aw_region ?_
      refine p_mv ?_
      refine p_mv ?_
      refine al_p rfl (st_loadBW rfl rfl rfl ?_)
      refine al_p rfl (st_callC (cy := []) (ys := [.agg (entA x)]) rfl (by repeat (first | exact Args.nil | refine Args.cons _ _ _ _ _ rfl (argOk_clean rfl) ?_ | refine Args.cons _ _ _ _ _ rfl (argOk_nil _) ?_ | refine Args.cons _ _ _ _ _ rfl (argOk_era _) ?_ | refine Args.cons _ _ _ _ _ rfl (argOk_le rfl (by repeat (first | exact LeA.refl _ | exact LeA.nil _ | exact LeL.refl _ | refine LeA.agg ?_ | refine LeA.tup ?_ | exact LeL.nil | refine LeL.cons ?_ ?_ | exact LeA.any _))) ?_)) rfl rfl (PcopyEntry x) ?_)
      rintro r rfl
      refine al_p rfl (st_slit (by repeat (first | exact DenseA.nil _ | (apply DenseA.cons; (focus exact rfl); (focus exact rfl); (focus exact rfl); (focus exact rfl)) | (apply DenseA.consE; (focus exact rfl); (focus exact rfl); (focus exact rfl)))) rfl rfl rfl rfl ?_)
      first | refine al_p rfl (s_append rfl rfl rfl (by simp; omega) (by repeat constructor) ?_) | refine al_p rfl (s_append0 rfl rfl (by simp; omega) (by repeat constructor) ?_)
      refine p_as ?_
      refine al_nil ?_
      refine x_blockN ?_
      refine x_then ?_
      refine hK _ ?_
      clear hK K
      refine aw_region ?_
      first | refine al_p rfl (st_add64 rfl rfl (by omega) ?_) | refine al_p rfl (st_addS rfl rfl (by omega) ?_) | refine al_p rfl (st_add rfl rfl ?_)
      refine p_mv ?_
      refine al_nil ?_
      refine x_then ?_
      refine ⟨_, _, ?_, ⟨j + 1, by omega, rfl, rfl⟩, (by rw [e]; exact (wk 0 1))⟩
      omega
    · have hc2 := bp hb2
      have e := row_no entA hj hc2
      subst e
      rw [List.take_length]
      refine aw_exit ?_
      refine x_thenE ?_
      clear hK K
      refine x_thenE ?_
      refine ABlock_out ?_
      refine x_then ?_
      refine hK _ ?_
      clear hK K
      refine p_sr (fun K hK => ?_)
      refine p_mv ?_
      refine p_as ?_
      refine al_nil (x_then (hK _ ?_))
      clear hK K
      refine aw_ret ?_
      refine e_ret ?_
      rfl

theorem PcopyNode (n : Nod) (hn : n.entries.length ≤ 1000) : AFn Try.prog 73 [.agg (nodA n)] (fun r => r = .agg (nodA n)) := by
  refine enter Try.func73 rfl rfl rfl rfl rfl 0 rfl ?_
  refine p_sr (fun K hK => ?_)
  first | refine al_p rfl (s_boxA rfl rfl (by repeat constructor) ?_) | refine al_p rfl (s_box rfl rfl (by repeat constructor) ?_)
  refine al_p rfl (s_alloc (by repeat constructor) ?_)
  refine al_nil (x_then (hK _ ?_))
  clear hK K
  refine p_sr (fun K hK => ?_)
  refine al_p rfl (st_fieldB rfl ?_)
  refine al_p rfl (st_loadB1 rfl rfl rfl ?_)
  refine al_p rfl (q_call (PcopiedE n.entries hn) ?_)
  rintro r rfl
  refine al_p rfl (st_fieldB rfl ?_)
  refine p_st ?_
  refine al_nil (x_then (hK _ ?_))
  clear hK K
  refine p_sr (fun K hK => ?_)
  refine al_p rfl (st_loadBW rfl rfl rfl ?_)
  refine p_st ?_
  refine al_nil (x_then (hK _ ?_))
  clear hK K
  refine aw_ret ?_
  refine e_ret ?_
  rfl

end
end Go.Proofs.Ytgliiknfmlmddaa
namespace Go.Proofs.Ytgliiknfmlmddaa
open Go.RowKit

section
variable {P : Program} {ev : Operand → Option AV} {h : AH} {R : AV → AH → Prop} {d : Option Tmp} {ty : TypeId} {pos : String} {af : Array Edge} {gd : Option (Nat × Bool)}
theorem st_eqPnil {T yT : TypeId} {x y : Operand} (hp : P.underlying T = some (.pointer (P.pointee T))) (hx : ev x = some (.v (.pointer none))) (hy : ev y = some (.v (.pointer none))) (hR : R (.v (.bool true)) h) : AStep P ⟨d, .binOp .eql T x y yT, ty, pos, af, gd⟩ ev h R :=
  st_bin hx hy (fun w => by simp [eqGuard, run_eql_pointer_nil (P := P) (w := w) T none hp]) hR
theorem st_eqPfp {T yT : TypeId} {x y : Operand} {row : List AV} (hp : P.underlying T = some (.pointer (P.pointee T))) (hx : ev x = some (.fp row)) (hy : ev y = some (.v (.pointer none))) (hR : R (.v (.bool false)) h) : AStep P ⟨d, .binOp .eql T x y yT, ty, pos, af, gd⟩ ev h R := by
  refine st_val (fun _ G w ec _ he => ?_) hR
  have h1 := he x (by simp [Op.operands]) _ hx
  have h2 := he y (by simp [Op.operands]) _ hy
  simp only [rep] at h1 h2
  obtain ⟨b, off, h3, _⟩ := h1
  refine ⟨.bool false, ?_, by simp only [rep]⟩
  simp [execOp, h2, h3, eqGuard, run_eql_pointer_nil (P := P) (w := w) T (some ⟨b, off, none⟩) hp]
end
section
set_option maxRecDepth 10000
set_option maxHeartbeats 1000000
theorem Pnode (f : Fls) (a : Fil) (hf : FlsB f) : AFn Try.prog 45 [.agg (flsA f), .agg (filA a)] (fun r => r = .tup [.agg (nodA (nodG f a)), .v (.bool (hasG f a))]) := by
  have hen := nodG_ents hf a
  refine enter Try.func45 rfl rfl rfl rfl rfl 0 rfl ?_
  refine p_sr (fun K hK => ?_)
  first | refine al_p rfl (s_boxA rfl rfl (by repeat constructor) ?_) | refine al_p rfl (s_box rfl rfl (by repeat constructor) ?_)
  first | refine al_p rfl (s_boxA rfl rfl (by repeat constructor) ?_) | refine al_p rfl (s_box rfl rfl (by repeat constructor) ?_)
  refine al_p rfl (s_alloc (by repeat constructor) ?_)
  refine p_as ?_
  refine al_nil (x_then (hK _ ?_))
  clear hK K
  refine p_sr (fun K hK => ?_)
  refine al_p rfl (st_loadBW rfl rfl rfl ?_)
  refine al_p rfl (st_loadBW rfl rfl rfl ?_)
  refine al_p rfl (q_call (Pfind f a hf) ?_)
  rintro r (⟨e, rfl⟩ | ⟨n, e, rfl⟩)
  · skip
    refine p_as ?_
    refine al_nil (x_then (hK _ ?_))
    clear hK K
    refine aw_seq (fun K hK => ?_)
    refine p_sr (fun K hK => ?_)
    refine p_mv ?_
    first | refine al_p rfl (st_eqPnil (by kernel_rfl) rfl rfl ?_) | refine al_p rfl (st_eqPfp (by kernel_rfl) rfl rfl ?_)
    refine al_nil (x_then (hK _ ?_))
    clear hK K
    refine aw_cond rfl (fun hb1 => ?_) (fun hb1 => ?_)
    · have hc1 := bp hb1
      refine p_sr (fun K hK => ?_)
      refine p_bd ?_
      refine p_st ?_
      refine p_as ?_
      refine al_nil (x_then (hK _ ?_))
      clear hK K
      refine aw_ret ?_
      refine x_thenR ?_
      clear hK K
      refine abody_ret (r := .tup [.agg (nodA (nodG f a)), .v (.bool (hasG f a))]) none (by repeat (first | exact ResA.nil | (apply ResA.tmp; (focus exact rfl)) | (apply ResA.cellN; (focus exact inferInstance); (focus exact rfl); (focus exact rfl); (focus exact rfl)) | (apply ResA.cell1; (focus exact inferInstance); (focus exact rfl); (focus exact rfl); (focus exact rfl)))) rfl rfl rfl ?_ ⟨rfl, rfl, rfl⟩
      rw [show nodG f a = Nod.zero by simp [nodG, e], show hasG f a = false by simp [hasG, e]]
      exact (by repeat (first | exact LeA.refl _ | exact LeA.nil _ | exact LeL.refl _ | refine LeA.agg ?_ | refine LeA.tup ?_ | exact LeL.nil | refine LeL.cons ?_ ?_ | exact LeA.any _))
    · have hc1 := bp hb1
      exfalso; first | contradiction | omega
  · skip
    refine p_as ?_
    refine al_nil (x_then (hK _ ?_))
    clear hK K
    refine aw_seq (fun K hK => ?_)
    refine p_sr (fun K hK => ?_)
    refine p_mv ?_
    first | refine al_p rfl (st_eqPnil (by kernel_rfl) rfl rfl ?_) | refine al_p rfl (st_eqPfp (by kernel_rfl) rfl rfl ?_)
    refine al_nil (x_then (hK _ ?_))
    clear hK K
    refine aw_cond rfl (fun hb2 => ?_) (fun hb2 => ?_)
    · have hc2 := bp hb2
      exfalso; first | contradiction | omega
    · have hc2 := bp hb2
      refine aw_skip ?_
      refine x_then ?_
      refine hK _ ?_
      clear hK K
      refine p_sr (fun K hK => ?_)
      refine p_mv ?_
      first | refine al_p rfl (st_nilB rfl ?_) | refine al_p rfl (st_nilF rfl ?_)
      first | refine al_p rfl (st_loadB1 rfl rfl rfl ?_) | refine al_p rfl (st_loadBW rfl rfl rfl ?_) | refine al_p rfl (st_loadF1 rfl rfl ?_) | refine al_p rfl (st_loadFW rfl rfl ?_) | refine al_p rfl (st_loadBN rfl rfl rfl ?_) | refine al_p rfl (st_loadFN rfl rfl ?_)
      refine al_p rfl (q_call (PcopyNode n (by simpa [nodG, e] using hen)) ?_)
      rintro r rfl
      refine p_st ?_
      refine p_as ?_
      refine al_nil (x_then (hK _ ?_))
      clear hK K
      refine aw_ret ?_
      refine e_ret ?_
      rw [show nodG f a = n by simp [nodG, e], show hasG f a = true by simp [hasG, e]]
      rfl

end
end Go.Proofs.Ytgliiknfmlmddaa
namespace Go.Proofs.Ytgliiknfmlmddaa
open Go.RowKit

section
set_option maxRecDepth 10000
set_option maxHeartbeats 1000000
theorem PisDirM (s : Spc) (a : Fil) (hs : SpcB s) : AFn Try.prog 54 [.agg (spcA s), .agg (filA a)] (fun r => r = .v (.bool (dirL s.files a))) := by
  refine enter Try.func54 rfl rfl rfl rfl rfl 0 rfl ?_
  refine p_sr (fun K hK => ?_)
  first | refine al_p rfl (s_boxA rfl rfl (by repeat constructor) ?_) | refine al_p rfl (s_box rfl rfl (by repeat constructor) ?_)
  first | refine al_p rfl (s_boxA rfl rfl (by repeat constructor) ?_) | refine al_p rfl (s_box rfl rfl (by repeat constructor) ?_)
  refine p_as ?_
  refine al_nil (x_then (hK _ ?_))
  clear hK K
  refine p_sr (fun K hK => ?_)
  refine al_p rfl (st_fieldB rfl ?_)
  refine al_p rfl (st_loadBN rfl rfl rfl ?_)
  refine al_p rfl (st_loadBW rfl rfl rfl ?_)
  refine al_p rfl (q_call (Pnode s.files a hs.files) ?_)
  rintro r rfl
  refine p_mv ?_
  refine al_p rfl (st_extract rfl rfl ?_)
  refine al_p rfl (st_extract rfl rfl ?_)
  refine al_p rfl (s_alloc (by repeat constructor) ?_)
  refine p_st ?_
  refine p_as ?_
  refine al_nil (x_then (hK _ ?_))
  clear hK K
  refine p_sr (fun K hK => ?_)
  refine p_mv ?_
  refine p_mv ?_
  refine al_gs true rfl rfl (fun hb1 => ?_) (fun hb1 => ?_)
  · have hc1 := bp hb1
    refine g_y (st_fieldB rfl ?_)
    refine g_y (st_loadB1 rfl rfl rfl ?_)
    first | refine g_y (st_eql rfl rfl ?_) | refine g_y (st_eqlS rfl rfl ?_) | refine g_y (st_eqlB (by kernel_rfl) rfl rfl ?_)
    refine al_p rfl (p_t ?_)
    refine p_as ?_
    refine al_nil (x_then (hK _ ?_))
    clear hK K
    refine aw_ret ?_
    refine e_ret ?_
    exact vb (by rw [dirL_eq]; simp [*])
  · have hc1 := bp hb1
    refine g_n ?_
    refine g_n ?_
    refine g_n ?_
    refine al_p rfl (p_f ?_)
    refine p_as ?_
    refine al_nil (x_then (hK _ ?_))
    clear hK K
    refine aw_ret ?_
    refine e_ret ?_
    exact vb (by rw [dirL_eq]; simp [*])

theorem PdeviceM (s : Spc) (dev : Int) (hs : SpcB s) : AFn Try.prog 44 [.agg (spcA s), .v (.int .i64 dev)] (fun r => r = .v (.bool (decide (1 ≤ dev ∧ dev < (s.files.length : Int))))) := by
  have hfew := hs.files.few
  refine enter Try.func44 rfl rfl rfl rfl rfl 0 rfl ?_
  refine p_sr (fun K hK => ?_)
  first | refine al_p rfl (s_boxA rfl rfl (by repeat constructor) ?_) | refine al_p rfl (s_box rfl rfl (by repeat constructor) ?_)
  refine p_as ?_
  refine al_nil (x_then (hK _ ?_))
  clear hK K
  refine p_sr (fun K hK => ?_)
  refine p_mv ?_
  first | refine al_p rfl (st_geq rfl rfl ?_) | refine al_p rfl (st_geqS rfl rfl ?_)
  refine p_mv ?_
  refine al_gs true rfl rfl (fun hb1 => ?_) (fun hb1 => ?_)
  · have hc1 := bp hb1
    refine g_y (st_move rfl ?_)
    refine g_y (st_fieldB rfl ?_)
    refine g_y (st_fieldB rfl ?_)
    refine g_y (st_loadB1 rfl rfl rfl ?_)
    first | refine g_y (st_len rfl ?_) | refine g_y (st_lenS (by kernel_rfl) rfl ?_) | refine g_y (st_len0 rfl ?_)
    first | refine g_y (st_lss rfl rfl ?_) | refine g_y (st_lssS rfl rfl ?_)
    refine al_p rfl (p_t ?_)
    refine p_as ?_
    refine al_nil (x_then (hK _ ?_))
    clear hK K
    refine aw_ret ?_
    refine e_ret ?_
    exact vb (by rw [Bool.eq_iff_iff]; simp; omega)
  · have hc1 := bp hb1
    refine g_n ?_
    refine g_n ?_
    refine g_n ?_
    refine g_n ?_
    refine g_n ?_
    refine g_n ?_
    refine al_p rfl (p_f ?_)
    refine p_as ?_
    refine al_nil (x_then (hK _ ?_))
    clear hK K
    refine aw_ret ?_
    refine e_ret ?_
    exact vb (by rw [Bool.eq_iff_iff]; simp; omega)

end
end Go.Proofs.Ytgliiknfmlmddaa
namespace Go.Proofs.Ytgliiknfmlmddaa
open Go.RowKit

def chgA (c : Chg) : List AV := [.v (.int .i64 c.1.1), .v (.int .i64 c.1.2), .v (.string c.2.1), .v (.int .i64 c.2.2.1.1), .v (.int .i64 c.2.2.1.2), .v (.int .i64 c.2.2.2.1), .v (.int .i64 c.2.2.2.2)]
section
set_option maxRecDepth 10000
set_option maxHeartbeats 1000000
theorem Rone (d : Fil) (name : Str) (o n : Fil) : AFn Try.prog 85 [.agg (filA d), .v (.string name), .agg (filA o), .agg (filA n)] (fun r => r = .sl 7 [chgA (d, name, o, n)] none) := by
  refine enter Try.func85 rfl rfl rfl rfl rfl 0 rfl ?_
  refine p_sr (fun K hK => ?_)
  first | refine al_p rfl (s_boxA rfl rfl (by repeat constructor) ?_) | refine al_p rfl (s_box rfl rfl (by repeat constructor) ?_)
  first | refine al_p rfl (s_boxA rfl rfl (by repeat constructor) ?_) | refine al_p rfl (s_box rfl rfl (by repeat constructor) ?_)
  first | refine al_p rfl (s_boxA rfl rfl (by repeat constructor) ?_) | refine al_p rfl (s_box rfl rfl (by repeat constructor) ?_)
  refine p_as ?_
  refine al_nil (x_then (hK _ ?_))
  clear hK K
  refine p_sr (fun K hK => ?_)
  refine al_p rfl (st_loadBW rfl rfl rfl ?_)
  refine p_mv ?_
  refine al_p rfl (st_loadBW rfl rfl rfl ?_)
  refine al_p rfl (st_loadBW rfl rfl rfl ?_)
  refine p_bd ?_
  refine al_p rfl (st_slit (by repeat (first | exact DenseA.nil _ | (apply DenseA.cons; (focus exact rfl); (focus exact rfl); (focus exact rfl); (focus exact rfl)) | (apply DenseA.consE; (focus exact rfl); (focus exact rfl); (focus exact rfl)))) rfl rfl rfl rfl ?_)
  refine p_as ?_
  refine al_nil (x_then (hK _ ?_))
  clear hK K
  refine aw_ret ?_
  refine e_ret ?_
  rfl

theorem newL_bad {n : Int} (h : n < 1 ∨ 3 < n) : newL n = ([], 50) := by unfold newL; rw [if_pos h]
theorem newL_ok {k : Nat} (h1 : ¬ (k : Int) < 1) (h2 : ¬ 3 < (k : Int)) : newL (k : Int) = (List.replicate k rootDvc, 0) := by unfold newL; rw [if_neg (by omega)]; simp
theorem Rnew (n : Int) : AFn Try.prog 50 [.v (.int .i64 n)] (fun r => r = .tup [.agg (flsA (newL n).1), .v (.int .i64 (newL n).2)]) := by
  refine enter Try.func50 rfl rfl rfl rfl rfl 0 rfl ?_
  refine p_sr (fun K hK => ?_)
  refine al_p rfl (s_alloc (by repeat constructor) ?_)
  refine p_as ?_
  refine al_nil (x_then (hK _ ?_))
  clear hK K
  refine aw_seq (fun K hK => ?_)
  refine p_sr (fun K hK => ?_)
  refine p_mv ?_
  first | refine al_p rfl (st_lss rfl rfl ?_) | refine al_p rfl (st_lssS rfl rfl ?_)
  refine p_mv ?_
  refine al_gs false rfl rfl (fun hb1 => ?_) (fun hb1 => ?_)
  · have hc1 := bp hb1
    refine g_n ?_
    refine g_n ?_
    refine al_p rfl (p_t ?_)
    refine al_nil (x_then (hK _ ?_))
    clear hK K
    refine aw_cy rfl (by first | rfl | assumption | simp [*]) ?_
    refine p_sr (fun K hK => ?_)
    refine p_bd ?_
    refine p_st ?_
    refine p_as ?_
    refine al_nil (x_then (hK _ ?_))
    clear hK K
    refine aw_ret ?_
    refine x_thenR ?_
    clear hK K
    refine abody_ret (r := .tup [.agg (flsA (newL n).1), .v (.int .i64 (newL n).2)]) none (by repeat (first | exact ResA.nil | (apply ResA.tmp; (focus exact rfl)) | (apply ResA.cellN; (focus exact inferInstance); (focus exact rfl); (focus exact rfl); (focus exact rfl)) | (apply ResA.cell1; (focus exact inferInstance); (focus exact rfl); (focus exact rfl); (focus exact rfl)))) rfl rfl rfl ?_ ⟨rfl, rfl, rfl⟩
    rw [newL_bad (by omega)]
    exact (by repeat (first | exact LeA.refl _ | exact LeA.nil _ | exact LeL.refl _ | refine LeA.agg ?_ | refine LeA.tup ?_ | exact LeL.nil | refine LeL.cons ?_ ?_ | exact LeA.any _))
  · have hc1 := bp hb1
    refine g_y (st_move rfl ?_)
    refine g_y (st_gtr rfl rfl ?_)
    refine al_p rfl (p_f ?_)
    refine al_nil (x_then (hK _ ?_))
    clear hK K
    refine aw_cond rfl (fun hb2 => ?_) (fun hb2 => ?_)
    · have hc2 := bp hb2
      refine p_sr (fun K hK => ?_)
      refine p_bd ?_
      refine p_st ?_
      refine p_as ?_
      refine al_nil (x_then (hK _ ?_))
      clear hK K
      refine aw_ret ?_
      refine x_thenR ?_
      clear hK K
      refine abody_ret (r := .tup [.agg (flsA (newL n).1), .v (.int .i64 (newL n).2)]) none (by repeat (first | exact ResA.nil | (apply ResA.tmp; (focus exact rfl)) | (apply ResA.cellN; (focus exact inferInstance); (focus exact rfl); (focus exact rfl); (focus exact rfl)) | (apply ResA.cell1; (focus exact inferInstance); (focus exact rfl); (focus exact rfl); (focus exact rfl)))) rfl rfl rfl ?_ ⟨rfl, rfl, rfl⟩
      rw [newL_bad (by omega)]
      exact (by repeat (first | exact LeA.refl _ | exact LeA.nil _ | exact LeL.refl _ | refine LeA.agg ?_ | refine LeA.tup ?_ | exact LeL.nil | refine LeL.cons ?_ ?_ | exact LeA.any _))
    · have hc2 := bp hb2
      obtain ⟨k, rfl⟩ := Int.eq_ofNat_of_zero_le (show 0 ≤ n by omega)
      refine aw_skip ?_
      refine x_then ?_
      refine hK _ ?_
      clear hK K
      refine p_sr (fun K hK => ?_)
      refine al_p rfl (s_alloc (by repeat constructor) ?_)
      refine al_nil (x_then (hK _ ?_))
      clear hK K
      refine aw_seq (fun K hK => ?_)
      refine p_sr (fun K hK => ?_)
      refine p_as ?_
      refine al_nil (x_then (hK _ ?_))
      clear hK K
      refine aw_block ?_
      refine aw_nilTokB 1 0 68 2 rfl rfl (by repeat constructor) (by repeat constructor) (by repeat constructor) ?_
      refine aw_loopW (fun m s => ∃ j : Nat, j ≤ k ∧ m = k - j ∧ s = ⟨look [(0, .v (.int .i64 (k : Int))), (2, .bp 0 0), (4, .bp 1 0), (5, .v (.int .i64 (j : Int)))], ⟨[[.v (.slice none 0 0)], [.sl 2 ((List.replicate j rootDvc).map dvcA) (some 0)]], [(68, 2, (List.replicate j rootDvc).map dvcA)]⟩⟩) (k) ((wk 2 1)) (⟨0, by omega, rfl, rfl⟩) ?_
      rintro m s ⟨j, hj, rfl, rfl⟩
      refine aw_seq (fun K hK => ?_)
      refine p_sr (fun K hK => ?_)
      refine p_mv ?_
      refine p_mv ?_
      first | refine al_p rfl (st_lss rfl rfl ?_) | refine al_p rfl (st_lssS rfl rfl ?_)
      refine al_nil (x_then (hK _ ?_))
      clear hK K
      refine aw_cond rfl (fun hb3 => ?_) (fun hb3 => ?_)
      · have hc3 := bp hb3
        refine aw_skip ?_
        refine x_then ?_
        refine hK _ ?_
        clear hK K
        refine aw_seq (fun K hK => ?_)
        refine aw_block ?_
        refine aw_region ?_
        refine al_p rfl (st_fieldB rfl ?_)
        refine al_p rfl (st_loadB1 rfl rfl rfl ?_)
        refine al_p rfl (st_le (y := .agg (nodA rootNod)) (st_build (by repeat (first | exact FillA.nil _ | (apply FillA.cons; (focus exact rfl); (focus exact rfl); (focus exact rfl); (focus exact rfl); (focus exact rfl); (focus (repeat constructor))))) ⟨rfl, rfl⟩) (by repeat (first | exact LeA.refl _ | exact LeA.nil _ | exact LeL.refl _ | refine LeA.agg ?_ | refine LeA.tup ?_ | exact LeL.nil | refine LeL.cons ?_ ?_ | exact LeA.any _)) ?_)
        refine al_p rfl (st_slit (by repeat (first | exact DenseA.nil _ | (apply DenseA.cons; (focus exact rfl); (focus exact rfl); (focus exact rfl); (focus exact rfl)) | (apply DenseA.consE; (focus exact rfl); (focus exact rfl); (focus exact rfl)))) rfl rfl rfl rfl ?_)
        refine p_bd ?_
        refine al_p rfl (st_slit (by repeat (first | exact DenseA.nil _ | (apply DenseA.cons; (focus exact rfl); (focus exact rfl); (focus exact rfl); (focus exact rfl)) | (apply DenseA.consE; (focus exact rfl); (focus exact rfl); (focus exact rfl)))) rfl rfl rfl rfl ?_)
        first | refine al_p rfl (s_append rfl rfl rfl (by simp; omega) (by repeat constructor) ?_) | refine al_p rfl (s_append0 rfl rfl (by simp; omega) (by repeat constructor) ?_)
        refine al_p rfl (st_fieldB rfl ?_)
        refine p_st ?_
        refine al_nil ?_
        refine x_blockN ?_
        refine x_then ?_
        refine hK _ ?_
        clear hK K
        refine aw_region ?_
        refine p_mv ?_
        first | refine al_p rfl (st_add64 rfl rfl (by omega) ?_) | refine al_p rfl (st_addS rfl rfl (by omega) ?_) | refine al_p rfl (st_add rfl rfl ?_)
        refine p_as ?_
        refine al_nil ?_
        refine x_then ?_
        refine ⟨_, _, ?_, ⟨j + 1, by omega, rfl, rfl⟩, (by rw [List.replicate_succ', List.map_append]; exact (wk 2 1))⟩
        omega
      · have hc3 := bp hb3
        obtain rfl : j = k := by omega
        refine aw_exit ?_
        refine x_thenE ?_
        clear hK K
        refine x_thenE ?_
        refine ABlock_out ?_
        refine x_then ?_
        refine hK _ ?_
        clear hK K
        refine p_sr (fun K hK => ?_)
        refine al_p rfl (st_loadBW rfl rfl rfl ?_)
        refine p_st ?_
        refine p_as ?_
        refine al_nil (x_then (hK _ ?_))
        clear hK K
        refine aw_ret ?_
        refine e_ret ?_
        rw [newL_ok hc1 hc2]
        rfl

end
end Go.Proofs.Ytgliiknfmlmddaa
namespace Go.Proofs.Ytgliiknfmlmddaa
open Go.RowKit

def Old (w : World) : Nat → Prop := fun b => b < w.heap.size
theorem grown_of_below {w w' : World} (h : Below w.heap.size w w') (g : Option Nat) : w.grownBy w' g := ⟨h.os, h.tape, h.output, h.size, fun k hk _ => h.block k hk⟩


def FilV (at_ : Fil) : Value := .agg #[.int .i64 at_.1, .int .i64 at_.2]

theorem cell_of {w : World} {g : Nat} {cs : Array Value} {t : TypeId} {fz : Nat × Nat} (h : w.heap[g]? = some (.cells cs t fz)) (i : Nat) : w.cell? ⟨g, i, none⟩ = cs[i]? := by
  simp [World.cell?, h]
theorem frozen_of {w : World} {g : Nat} {cs : Array Value} {t : TypeId} (h : w.heap[g]? = some (.cells cs t (0, 0))) (i : Nat) : w.frozen? ⟨g, i, none⟩ = false := by
  simp [World.frozen?, h]

theorem blk_alloc {w : World} {b : Nat} {o : Obj} (h : w.heap[b]? = some o) (o' : Obj) : (w.alloc o').heap[b]? = some o := by
  have hb : b < w.heap.size := by
    rcases Nat.lt_or_ge b w.heap.size with hlt | hge
    · exact hlt
    · rw [Array.getElem?_eq_none hge] at h; cases h
  exact (Below.heap_alloc w o' b hb).trans h
theorem cells_of {w : World} {g : Nat} {cs : Array Value} {t : TypeId} (h : w.heap[g]? = some (.cells cs t (0, 0))) : (∀ i, w.cell? ⟨g, i, none⟩ = cs[i]?) ∧ (∀ i, w.frozen? ⟨g, i, none⟩ = false) :=
  ⟨fun i => cell_of h i, fun i => frozen_of h i⟩
theorem blk_set {w : World} {b : Nat} {cs : Array Value} {t : TypeId} {fz : Nat × Nat} (h : w.heap[b]? = some (.cells cs t fz)) (i : Nat) (u : Value) : (w.setCell ⟨b, i, none⟩ u).heap[b]? = some (.cells (cs.setIfInBounds i u) t fz) := by
  simp [World.setCell, Array.getElem?_modify, h]
theorem blk_far {w : World} {b : Nat} {o : Obj} (h : w.heap[b]? = some o) {p : Addr} (hp : b ≠ p.block) (u : Value) : (w.setCell p u).heap[b]? = some o := (Below.heap_setCell w p u b hp).trans h
theorem blk_below {w w' : World} {b B : Nat} {o : Obj} (h : w.heap[b]? = some o) (hg : Below B w w') (hb : b < B) : w'.heap[b]? = some o := (hg.block b hb).trans h


theorem below_a1 (w : World) (o1 : Obj) : Below w.heap.size w (w.alloc o1) := by
  exact (Below.refl _ w).alloc (Nat.le_refl _) _
theorem size_a1 (w : World) (o1 : Obj) : (w.alloc o1).heap.size = w.heap.size + 1 := by simp
theorem blk_a1_0 (w : World) (o1 : Obj) : (w.alloc o1).heap[w.heap.size]? = some o1 := (by have := heap_alloc_new w o1; simpa using this)
theorem below_a2 (w : World) (o1 o2 : Obj) : Below w.heap.size w ((w.alloc o1).alloc o2) := by
  exact (below_a1 w o1).alloc (by simp <;> omega) _
theorem size_a2 (w : World) (o1 o2 : Obj) : ((w.alloc o1).alloc o2).heap.size = w.heap.size + 2 := by simp
theorem blk_a2_0 (w : World) (o1 o2 : Obj) : ((w.alloc o1).alloc o2).heap[w.heap.size]? = some o1 := blk_alloc (blk_a1_0 w o1) _
theorem blk_a2_1 (w : World) (o1 o2 : Obj) : ((w.alloc o1).alloc o2).heap[w.heap.size + 1]? = some o2 := (by have := heap_alloc_new (w.alloc o1) o2; simpa using this)
theorem below_a3 (w : World) (o1 o2 o3 : Obj) : Below w.heap.size w (((w.alloc o1).alloc o2).alloc o3) := by
  exact (below_a2 w o1 o2).alloc (by simp <;> omega) _
theorem blk_a3_0 (w : World) (o1 o2 o3 : Obj) : (((w.alloc o1).alloc o2).alloc o3).heap[w.heap.size]? = some o1 := blk_alloc (blk_a2_0 w o1 o2) _
theorem blk_a3_1 (w : World) (o1 o2 o3 : Obj) : (((w.alloc o1).alloc o2).alloc o3).heap[w.heap.size + 1]? = some o2 := blk_alloc (blk_a2_1 w o1 o2) _
theorem blk_a3_2 (w : World) (o1 o2 o3 : Obj) : (((w.alloc o1).alloc o2).alloc o3).heap[w.heap.size + 1 + 1]? = some o3 := (by have := heap_alloc_new ((w.alloc o1).alloc o2) o3; simpa using this)
theorem below_a4 (w : World) (o1 o2 o3 o4 : Obj) : Below w.heap.size w ((((w.alloc o1).alloc o2).alloc o3).alloc o4) := by
  exact (below_a3 w o1 o2 o3).alloc (by simp <;> omega) _
theorem blk_a4_0 (w : World) (o1 o2 o3 o4 : Obj) : ((((w.alloc o1).alloc o2).alloc o3).alloc o4).heap[w.heap.size]? = some o1 := blk_alloc (blk_a3_0 w o1 o2 o3) _
theorem blk_a4_1 (w : World) (o1 o2 o3 o4 : Obj) : ((((w.alloc o1).alloc o2).alloc o3).alloc o4).heap[w.heap.size + 1]? = some o2 := blk_alloc (blk_a3_1 w o1 o2 o3) _
theorem blk_a4_2 (w : World) (o1 o2 o3 o4 : Obj) : ((((w.alloc o1).alloc o2).alloc o3).alloc o4).heap[w.heap.size + 1 + 1]? = some o3 := blk_alloc (blk_a3_2 w o1 o2 o3) _
theorem blk_a4_3 (w : World) (o1 o2 o3 o4 : Obj) : ((((w.alloc o1).alloc o2).alloc o3).alloc o4).heap[w.heap.size + 1 + 1 + 1]? = some o4 := (by have := heap_alloc_new (((w.alloc o1).alloc o2).alloc o3) o4; simpa using this)

end Go.Proofs.Ytgliiknfmlmddaa
namespace Go.Proofs.Ytgliiknfmlmddaa
open Go.RowKit

structure Moves (own : Nat → Prop) (B : Nat) (X Y : World) : Prop where
  os : Y.os = X.os
  tape : Y.tape = X.tape
  output : Y.output = X.output
  size : X.heap.size ≤ Y.heap.size
  block : ∀ k, k < X.heap.size → ¬ own k → (k < B ∨ ∃ o : Obj, X.heap[k]? = some o ∧ o.isCells = true) → Y.heap[k]? = X.heap[k]?

section
variable {own : Nat → Prop} {B : Nat} {X Y Z : World}
theorem Moves.mono (h : Moves own B X Y) {B' : Nat} (hB : B' ≤ B) : Moves own B' X Y :=
  ⟨h.os, h.tape, h.output, h.size, fun i hi ho hb => h.block i hi ho (by
    rcases hb with hb | hb
    · exact .inl (Nat.lt_of_lt_of_le hb hB)
    · exact .inr hb)⟩
theorem Moves.below (h : Below X.heap.size X Y) : Moves own B X Y := ⟨h.os, h.tape, h.output, h.size, fun i hi _ _ => h.block i hi⟩
theorem Moves.put_ {l : Nat} {o : Obj} (o' : Obj) (hl : X.heap[l]? = some o) (ho : o.isCells = false) (hB : B ≤ l) : Moves own B X (X.putObj l o') :=
  have h := grownBy_putObj' X l o'
  ⟨h.os, h.tape, h.output, h.size, fun i hi _ hb => h.block i hi (fun e => by
    injection e with e
    subst e
    rcases hb with hb | ⟨o2, h1, h2⟩
    · omega
    · rw [hl] at h1; injection h1 with h1; subst h1; rw [ho] at h2; cases h2)⟩
theorem Moves.boxed (h : Moves own B X Y) {b : Nat} {t : TypeId} {v : Value} (hb : Boxed X b t v) (hn : ¬ own b) : Boxed Y b t v :=
  (h.block b hb.lt hn (.inr ⟨_, hb, rfl⟩)).trans hb
theorem Moves.under (h : Moves own B X Y) {n₀ : Nat} {w : World} (hb : Below n₀ w X) (hn : n₀ ≤ w.heap.size) (ho : ∀ b, own b → n₀ ≤ b) (hB : n₀ ≤ B) : Below n₀ w Y :=
  ⟨h.os.trans hb.os, h.tape.trans hb.tape, h.output.trans hb.output, Nat.le_trans hb.size h.size, fun i hi => by
    refine (h.block i (by have := hb.size; omega) (fun e => ?_) (.inl (by omega))).trans (hb.block i hi)
    have := ho i e
    omega⟩
end

theorem keepsFrom_below {B : Nat} {X Y : World} (h : Below X.heap.size X Y) : KeepsFrom B X Y := ⟨h.size, fun k _ _ hk _ => (h.block k (Array.getElem?_eq_some_iff.1 hk).1).trans hk⟩
theorem keepsFrom_set {B : Nat} {X Y : World} (h : KeepsFrom B X Y) {b : Nat} (hb : b < B) (v : Value) : KeepsFrom B X (Y.setCell ⟨b, 0, none⟩ v) :=
  h.trans (KeepsFrom.of_grownBy (grownBy_setCell' Y b v) (fun j e => by cases e; exact hb))
theorem boxed_put {W : World} {b D : Nat} {t : TypeId} {v : Value} (h : Boxed W b t v) (hne : b ≠ D) (o : Obj) : Boxed (W.putObj D o) b t v := h.kept (grownBy_putObj' W D o) (fun e => hne (by injection e))
theorem below_put {B : Nat} {w W : World} (h : Below B w W) {D : Nat} (hD : B ≤ D) (o : Obj) : Below B w (W.putObj D o) :=
  have g := grownBy_putObj' W D o
  ⟨g.os.trans h.os, g.tape.trans h.tape, g.output.trans h.output, Nat.le_trans h.size g.size, fun k hk => (World.putObj_heap_other (by omega)).trans (h.block k hk)⟩
theorem wideCall {P : Program} {n m f : Nat} {args : Array Value} {w : World} {R : Ending → World → Prop} (h : CallsIn Fence.wide m P f args w R) :
    Fence.wide.fn f ∧ (Fence.wide.depth.isSome = true → 1 ≤ n) ∧ CallsIn Fence.wide m P f args w R := ⟨trivial, (fun h => by cases h), h⟩
def SeqW {α : Type} (F : Fence) (n : Nat) (P : Program) (g : Nat) (lb : Array Value) (encs : α → Array Value) (own : Nat → Prop) (Kp : World → World → Prop) (Pf : List α → Prop) (S Sp : List α → Prop) (w : World) : Prop :=
  ∀ (l : Nat) (J Jx : List α → World → Prop) (W : World), Below w.heap.size w W →
    (∀ s X Y, J s X → Moves own W.heap.size X Y → J s Y) → (∀ s X Y, Jx s X → Moves own W.heap.size X Y → Jx s Y) →
    (∀ pre x W1, J pre W1 → Pf (pre ++ [x]) → YieldAt F (n - 1) P l (encs x) W1 fun e W' =>
      (e = .returned (.bool true) ∧ J (pre ++ [x]) W' ∧ Kp W1 W') ∨ (e = .returned (.bool false) ∧ Jx (pre ++ [x]) W')) →
    J [] W →
    CallsIn F n P g (#[.func (.yield l) #[] #[]] ++ lb) W fun e W' => (∃ v, e = .returned v) ∧ ((∃ xs, S xs ∧ J xs W') ∨ (∃ pre, Sp pre ∧ Jx pre W'))

variable {F : Fence} {n : Nat} {P : Program}

end Go.Proofs.Ytgliiknfmlmddaa
namespace Go.Proofs.Ytgliiknfmlmddaa
open Go.RowKit

theorem calls_rep {P : Program} {f : FuncId} {xs : List AV} {R : AV} (h : AFn P f xs fun r => r = R) {w : World} {N : Nat} {vs : List Value} (hN : N ≤ w.heap.size) (hv : froL (fun b _ => b < N) w xs vs) :
    Calls P f vs.toArray w fun e w' => ∃ (v : Value) (G' : Gh), e = .returned v ∧ rep G' w' R v ∧ Below w.heap.size w w' := by
  refine Calls.mono (h w (fun b _ => b < N) [] vs (hrel_start (fun b o hb => Nat.lt_of_lt_of_le hb hN)) (repL_fro _ _ hv)) ?_
  intro e w' h3
  cases e with
  | returned v =>
    obtain ⟨r, b, t, G', ⟨_, _, rfl⟩, k2, _, k4⟩ := h3
    have k := k2.kept
    exact ⟨v, G', rfl, k4, ⟨k.os, k.tape, k.output, k.size, fun i hi => k.block i hi (by simp)⟩⟩
  | panicked c => exact h3.elim
  | outgrown => exact h3.elim

def SpcIn (s : Spc) (N : Nat) (w : World) (ds ms : Value) : Prop := N ≤ w.heap.size ∧ froL (fun b _ => b < N) w (spcA s) [ds, ms]
theorem SpcIn.keep {s : Spc} {N : Nat} {w w' : World} {ds ms : Value} (h : SpcIn s N w ds ms) (hs : w.heap.size ≤ w'.heap.size) (hb : ∀ b, b < N → w'.heap[b]? = w.heap[b]?) : SpcIn s N w' ds ms :=
  ⟨Nat.le_trans h.1 hs, froL_mono (fun b o hN => ⟨hN, World.cell?_of_block (w := w) (a := ⟨b, o, none⟩) (hb b hN)⟩) _ _ h.2⟩
theorem SpcIn.grow {s : Spc} {N M : Nat} {w : World} {ds ms : Value} (h : SpcIn s N w ds ms) (hM : N ≤ M) (hw : M ≤ w.heap.size := by exact Nat.le_refl _) : SpcIn s M w ds ms :=
  ⟨hw, froL_mono (fun b o hb => ⟨Nat.lt_of_lt_of_le hb hM, rfl⟩) _ _ h.2⟩
theorem SpcIn.below {s : Spc} {N B : Nat} {w w' : World} {ds ms : Value} (h : SpcIn s N w ds ms) (hb : Below B w w') (hN : N ≤ B) : SpcIn s N w' ds ms :=
  h.keep hb.size fun b hbN => hb.block b (Nat.lt_of_lt_of_le hbN hN)

section
variable {s : Spc} {N : Nat} {w : World} {ds ms : Value} (h : SpcIn s N w ds ms) (hs : SpcB s)
include h hs
theorem node_o (a : Fil) : Calls Try.prog 45 #[.agg #[ds], FilV a] w fun e w' =>
    (∃ (A : Option Addr) (m c : Nat), e = .returned (.tuple #[.agg #[.int .i64 (nodG s.files a).ino, .int .i64 (nodG s.files a).kind, .int .i64 (nodG s.files a).mode, .int .i64 (nodG s.files a).uid, .int .i64 (nodG s.files a).gid, .int .i64 (nodG s.files a).parent, .string (nodG s.files a).target, .slice A m c], .bool (hasG s.files a)])) ∧ Below w.heap.size w w' := by
  have h2 := h.2
  simp only [spcA, froL] at h2
  obtain ⟨z, zs, e1, h3, _⟩ := h2
  obtain ⟨rfl, rfl⟩ := List.cons.inj e1
  refine (calls_rep (Pnode s.files a hs.files) (vs := [.agg #[ds], FilV a]) h.1 ?_).mono ?_
  · simp only [froL, fro, flsA, filA, FilV]
    exact ⟨_, _, rfl, ⟨[ds], rfl, ds, [], rfl, by simpa only [fro] using h3, rfl⟩, _, _, rfl, ⟨[.int .i64 a.1, .int .i64 a.2], rfl, _, _, rfl, rfl, _, _, rfl, rfl, rfl⟩, rfl⟩
  · rintro e w' ⟨v, G', rfl, hr, hb⟩
    refine ⟨?_, hb⟩
    simp only [rep, repL, nodA, fro] at hr
    obtain ⟨ys, rfl, z1, zs1, rfl, ⟨ys2, rfl, _, _, rfl, rfl, _, _, rfl, rfl, _, _, rfl, rfl, _, _, rfl, rfl, _, _, rfl, rfl, _, _, rfl, rfl, _, _, rfl, rfl, _, _, rfl, ⟨_, A, c, rfl, _⟩, rfl⟩, _, _, rfl, rfl, rfl⟩ := hr
    exact ⟨A, _, c, rfl⟩
theorem fsf (xs : List AV) (vs : List Value) (hx : froL (fun b _ => b < N) w xs vs) : froL (fun b _ => b < N) w (.agg (spcA s) :: xs) (.agg #[ds, ms] :: vs) := by
  have _ := hs
  simp only [froL]
  refine ⟨_, _, rfl, ?_, hx⟩
  simp only [fro]
  exact ⟨[ds, ms], rfl, h.2⟩
theorem fso (a : Fil) : froL (fun b _ => b < N) w [.agg (spcA s), .agg (filA a)] [.agg #[ds, ms], FilV a] := by
  refine fsf h hs _ _ ?_
  simp only [froL, fro, filA, FilV]
  exact ⟨_, _, rfl, ⟨[.int .i64 a.1, .int .i64 a.2], rfl, _, _, rfl, rfl, _, _, rfl, rfl, rfl⟩, rfl⟩
theorem fsi (d : Int) : froL (fun b _ => b < N) w [.agg (spcA s), .v (.int .i64 d)] [.agg #[ds, ms], .int .i64 d] := by
  refine fsf h hs _ _ ?_
  simp only [froL, fro]
  exact ⟨_, _, rfl, rfl, rfl⟩
theorem place_o (d : Int) : Calls Try.prog 63 #[.agg #[ds, ms], .int .i64 d] w fun e w' =>
    e = .returned (.tuple #[FilV ((onL s d).getD (0, 0)), .bool (onL s d).isSome]) ∧ Below w.heap.size w w' := by
  refine (calls_rep (Pplace s d hs) (vs := [.agg #[ds, ms], .int .i64 d]) h.1 (fsi h hs d)).mono ?_
  rintro e w' ⟨v, G', rfl, hr, hb⟩
  refine ⟨?_, hb⟩
  simp only [rep, repL, filA] at hr
  obtain ⟨ys, rfl, z1, zs1, rfl, ⟨ys2, rfl, _, _, rfl, rfl, _, _, rfl, rfl, rfl⟩, _, _, rfl, rfl, rfl⟩ := hr
  rfl
theorem cover_o (a : Fil) : Calls Try.prog 61 #[.agg #[ds, ms], FilV a] w fun e w' =>
    e = .returned (.tuple #[.int .i64 ((covL s a).getD 0), .bool (covL s a).isSome]) ∧ Below w.heap.size w w' := by
  refine (calls_rep (Pcover s a hs) (vs := [.agg #[ds, ms], FilV a]) h.1 (fso h hs a)).mono ?_
  rintro e w' ⟨v, G', rfl, hr, hb⟩
  refine ⟨?_, hb⟩
  simp only [rep, repL] at hr
  obtain ⟨ys, rfl, _, _, rfl, rfl, _, _, rfl, rfl, rfl⟩ := hr
  rfl
theorem isDir_o (a : Fil) : Calls Try.prog 54 #[.agg #[ds, ms], FilV a] w fun e w' => e = .returned (.bool (dirL s.files a)) ∧ Below w.heap.size w w' := by
  refine (calls_rep (PisDirM s a hs) (vs := [.agg #[ds, ms], FilV a]) h.1 (fso h hs a)).mono ?_
  rintro e w' ⟨v, G', rfl, hr, hb⟩
  simp only [rep] at hr
  exact ⟨by rw [hr], hb⟩
theorem mounted_o (d : Int) : Calls Try.prog 38 #[.agg #[ds, ms], .int .i64 d] w fun e w' => e = .returned (.bool (mtdL s d)) ∧ Below w.heap.size w w' := by
  refine (calls_rep (Pmounted s d hs) (vs := [.agg #[ds, ms], .int .i64 d]) h.1 (fsi h hs d)).mono ?_
  rintro e w' ⟨v, G', rfl, hr, hb⟩
  simp only [rep] at hr
  exact ⟨by rw [hr], hb⟩
end

theorem SpcIn.devs {s : Spc} {N : Nat} {w : World} {ds ms : Value} (h : SpcIn s N w ds ms) : ∃ A cap, ds = .slice A s.files.length cap ∧ s.files.length ≤ cap ∧ cap ≤ maxLen ∧
    (0 < s.files.length → ∃ b off, A = some ⟨b, off, none⟩ ∧ b < N ∧ ∀ i d, s.files[i]? = some d → w.cell? ⟨b, off + i * 2, none⟩ = some (.int .i64 d.next) ∧ ∃ A2 cap2, w.cell? ⟨b, off + i * 2 + 1, none⟩ = some (.slice A2 d.nodes.length cap2)) := by
  have h2 := h.2
  simp only [spcA, froL] at h2
  obtain ⟨z, zs, e1, h3, _⟩ := h2
  obtain ⟨rfl, rfl⟩ := List.cons.inj e1
  simp only [fro, List.length_map] at h3
  obtain ⟨_, A, cap, rfl, h4, h5, h6⟩ := h3
  refine ⟨A, cap, rfl, h4, h5, fun hpos => ?_⟩
  rcases h6 with h6 | ⟨b, off, rfl, h6⟩
  · simp at h6; rw [h6] at hpos; simp at hpos
  · refine ⟨b, off, rfl, ?_, ?_⟩
    · obtain ⟨_, h8⟩ := froR_get h6 (i := 0) (r := dvcA (s.files[0]'hpos)) (by simp [hpos])
      simp only [dvcA, froC] at h8
      exact h8.1.1
    · intro i d hd
      obtain ⟨_, h8⟩ := froR_get h6 (i := i) (r := dvcA d) (by simp [hd])
      simp only [dvcA, froC, fro, List.length_map] at h8
      obtain ⟨⟨_, u, h9, _, rfl⟩, ⟨_, u2, h10, _, _, A2, cap2, rfl, _⟩, _⟩ := h8
      exact ⟨h9, A2, cap2, h10⟩
theorem chain_any (ds ms : Value) (a : Fil) (w : World) :
    Calls Try.prog 52 #[.agg #[ds, ms], FilV a] w fun e w' =>
      e = .returned (.func (.func 86) #[] #[.pointer (some ⟨w.heap.size, 0, none⟩), .pointer (some ⟨w.heap.size + 1, 0, none⟩)]) ∧
      w' = (w.alloc (.cells #[ds, ms] 32)).alloc (.cells #[.int .i64 a.1, .int .i64 a.2] 24) := by
  unfold FilV
  go_enter Try.func52, Try.ntmps52
  go_wp2
  go_ret
  exact ⟨by simp, rfl⟩
end Go.Proofs.Ytgliiknfmlmddaa
