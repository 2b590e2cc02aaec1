/-
  The law RulesMatch.
-/
import Derived.Test.YtokaaebbmcldaaaDoorRm
namespace Go.Proofs.YtokaaebbmcldaaaDoor
open Go.RowKit

theorem mem_take_succ {α : Type} {p : α → Prop} {l : List α} {j : Nat} {x : α} (hx : l[j]? = some x) (h : ∀ y ∈ l.take j, p y) (h2 : p x) : ∀ y ∈ l.take (j + 1), p y := by
  obtain ⟨hk, e⟩ := List.getElem?_eq_some_iff.1 hx
  intro y hy
  rw [List.take_succ_eq_append_getElem hk, e, List.mem_append, List.mem_singleton] at hy
  rcases hy with hy | rfl
  · exact h y hy
  · exact h2
section
set_option maxRecDepth 10000
set_option maxHeartbeats 1000000
theorem Lmatch (l : List Rul) (list : Int) (hits : List Bool) (c : Ctx) (k : Cxs) : AFn Tryd.prog 3 [.sl 8 (l.map rulA) none, .v (.int .i64 list), .sl 1 (hits.map bolA) none, .agg (ctxA c k)] (fun x => x = .v (.bool true)) := by
  refine enter Tryd.func3 rfl rfl rfl rfl rfl 0 rfl ?_
  refine aw_seq (fun K hK => ?_)
  refine aw_region ?_
  first | refine al_p rfl (s_boxA rfl rfl (by repeat constructor) ?_) | refine al_p rfl (s_box rfl rfl (by repeat constructor) ?_)
  refine al_p rfl (st_assign rfl ?_)
  refine al_nil ?_
  refine x_then ?_
  refine hK _ ?_
  clear hK K
  refine aw_seq (fun K hK => ?_)
  refine aw_mid (⟨look [(0, .sl 8 (l.map rulA) none), (1, .v (.int .i64 list)), (2, .sl 1 (hits.map bolA) none), (7, .bp 0 0), (24, .v (.bool (decide (6 < ((l.map rulA).length : Int)) || (decide (6 < ((c.items.map itmA).length : Int)) || decide (30 < ((hits.map bolA).length : Int))))))], ⟨[ctxA c k], []⟩⟩) ?_ ?_
  · skip
    refine aw_region ?_
    refine al_p rfl (st_move rfl ?_)
    first | refine al_p rfl (st_len rfl ?_) | refine al_p rfl (st_lenS (by kernel_rfl) rfl ?_) | refine al_p rfl (st_len0 rfl ?_)
    refine al_p rfl (st_gtr rfl rfl ?_)
    refine al_p rfl (st_move rfl ?_)
    refine al_gs false rfl rfl (fun hb1 => ?_) (fun hb1 => ?_)
    · have hc1 := bp hb1
      refine g_n ?_
      refine g_n ?_
      refine g_n ?_
      refine g_n ?_
      refine al_p rfl (p_t ?_)
      refine al_p rfl (st_move rfl ?_)
      refine g_n ?_
      refine g_n ?_
      refine g_n ?_
      refine al_p rfl (p_t ?_)
      refine al_nil ?_
      refine x_then ?_
      first | (exfalso; first | contradiction | omega) | exact weak_of 1 0 rfl rfl rfl rfl (by repeat (first | exact Sub.nil | refine Sub.cons _ _ _ rfl rfl ?_ | refine Sub.any _ _ ?_ | refine Sub.sl _ _ _ _ _ rfl ?_ | refine Sub.slnil _ _ _ rfl ?_ | (apply Sub.of; (focus exact rfl); (focus exact LeA.of_eq (vb (by first | (rw [hb1]; rfl) | (rw [hb1, hb2]; rfl)))); (focus exact rfl))))
    · have hc1 := bp hb1
      refine g_y (st_fieldB rfl ?_)
      refine g_y (st_loadB1 rfl rfl rfl ?_)
      first | refine g_y (st_len rfl ?_) | refine g_y (st_lenS (by kernel_rfl) rfl ?_) | refine g_y (st_len0 rfl ?_)
      refine g_y (st_gtr rfl rfl ?_)
      refine al_p rfl (p_f ?_)
      refine al_p rfl (st_move rfl ?_)
      refine al_gs false rfl rfl (fun hb2 => ?_) (fun hb2 => ?_)
      · have hc2 := bp hb2
        refine g_n ?_
        refine g_n ?_
        refine g_n ?_
        refine al_p rfl (p_t ?_)
        refine al_nil ?_
        refine x_then ?_
        first | (exfalso; first | contradiction | omega) | exact weak_of 1 0 rfl rfl rfl rfl (by repeat (first | exact Sub.nil | refine Sub.cons _ _ _ rfl rfl ?_ | refine Sub.any _ _ ?_ | refine Sub.sl _ _ _ _ _ rfl ?_ | refine Sub.slnil _ _ _ rfl ?_ | (apply Sub.of; (focus exact rfl); (focus exact LeA.of_eq (vb (by first | (rw [hb1]; rfl) | (rw [hb1, hb2]; rfl)))); (focus exact rfl))))
      · have hc2 := bp hb2
        refine g_y (st_move rfl ?_)
        first | refine g_y (st_len rfl ?_) | refine g_y (st_lenS (by kernel_rfl) rfl ?_) | refine g_y (st_len0 rfl ?_)
        refine g_y (st_gtr rfl rfl ?_)
        refine al_p rfl (p_f ?_)
        refine al_nil ?_
        refine x_then ?_
        first | (exfalso; first | contradiction | omega) | exact weak_of 1 0 rfl rfl rfl rfl (by repeat (first | exact Sub.nil | refine Sub.cons _ _ _ rfl rfl ?_ | refine Sub.any _ _ ?_ | refine Sub.sl _ _ _ _ _ rfl ?_ | refine Sub.slnil _ _ _ rfl ?_ | (apply Sub.of; (focus exact rfl); (focus exact LeA.of_eq (vb (by first | (rw [hb1]; rfl) | (rw [hb1, hb2]; rfl)))); (focus exact rfl))))
  · skip
    refine aw_cond rfl (fun hb3 => ?_) (fun hb3 => ?_)
    · have hc3 := bp hb3
      refine aw_seq (fun K hK => ?_)
      refine aw_region ?_
      refine al_p rfl (q_call (Lawake) ?_)
      rintro r rfl
      refine al_p rfl (st_assign rfl ?_)
      refine al_nil ?_
      refine x_then ?_
      refine hK _ ?_
      clear hK K
      refine aw_ret ?_
      refine x_thenR ?_
      clear hK K
      refine e_ret ?_
      first | (exfalso; first | contradiction | omega) | (exact vb (by rfl))
    · have hc3 := bp hb3
      simp only [Bool.or_eq_false_iff, decide_eq_false_iff_not, List.length_map] at hc3
      obtain ⟨q1, q2, -⟩ := hc3
      have hl : l.length ≤ 1000 := by omega
      have hn : c.items.length ≤ 1000 := by omega
      refine aw_skip ?_
      refine x_then ?_
      refine hK _ ?_
      clear hK K
      refine aw_seq (fun K hK => ?_)
      refine aw_seq (fun K hK => ?_)
      refine aw_region ?_
      refine al_p rfl (st_assign rfl ?_)
      refine al_nil ?_
      refine x_then ?_
      refine hK _ ?_
      clear hK K
      refine aw_block ?_
      refine aw_loopW (fun n s => ∃ j : Nat, j ≤ l.length ∧ n = l.length - j ∧ (∀ r ∈ l.take j, r.tests.length ≤ 1000) ∧ s = ⟨look [(0, .sl 8 (l.map rulA) none), (1, .v (.int .i64 list)), (2, .sl 1 (hits.map bolA) none), (7, .bp 0 0), (9, .v (.int .i64 (j : Int)))], ⟨[ctxA c k], []⟩⟩) (l.length) ((wk 1 0)) (⟨0, by omega, rfl, by simp, rfl⟩) ?_
      rintro n s ⟨j, hj, rfl, ha, rfl⟩
      refine aw_seq (fun K hK => ?_)
      refine aw_seq (fun K hK => ?_)
      refine aw_region ?_
      refine al_p rfl (st_move rfl ?_)
      refine al_p rfl (st_move rfl ?_)
      first | refine al_p rfl (st_len rfl ?_) | refine al_p rfl (st_lenS (by kernel_rfl) rfl ?_) | refine al_p rfl (st_len0 rfl ?_)
      first | refine al_p rfl (st_lss rfl rfl ?_) | refine al_p rfl (st_lssS rfl rfl ?_)
      refine al_nil ?_
      refine x_then ?_
      refine hK _ ?_
      clear hK K
      refine aw_cond rfl (fun hb4 => ?_) (fun hb4 => ?_)
      · have hc4 := bp hb4
        obtain ⟨hlt, r, hy, hrow, -⟩ := row_at rulA hc4
        refine aw_skip ?_
        refine x_then ?_
        refine hK _ ?_
        clear hK K
        refine aw_seq (fun K hK => ?_)
        refine aw_block ?_
        refine aw_seq (fun K hK => ?_)
        refine aw_seq (fun K hK => ?_)
        refine aw_region ?_
        refine al_p rfl (st_move rfl ?_)
        refine al_p rfl (st_move rfl ?_)
        refine al_p rfl (st_index rfl rfl rfl (by first | assumption | rfl) ?_)
        refine al_p rfl (st_fieldF rfl ?_)
        refine al_p rfl (st_loadF1 rfl rfl ?_)
        first | refine al_p rfl (st_len rfl ?_) | refine al_p rfl (st_lenS (by kernel_rfl) rfl ?_) | refine al_p rfl (st_len0 rfl ?_)
        refine al_p rfl (st_gtr rfl rfl ?_)
        refine al_nil ?_
        refine x_then ?_
        refine hK _ ?_
        clear hK K
        refine aw_cond rfl (fun hb5 => ?_) (fun hb5 => ?_)
        · have hc5 := bp hb5
          refine aw_seq (fun K hK => ?_)
          refine aw_region ?_
          refine al_p rfl (q_call (Lawake) ?_)
          rintro r rfl
          refine al_p rfl (st_assign rfl ?_)
          refine al_nil ?_
          refine x_then ?_
          refine hK _ ?_
          clear hK K
          refine aw_ret ?_
          refine x_thenR ?_
          clear hK K
          refine x_blockR ?_
          refine x_thenR ?_
          clear hK K
          refine x_thenR ?_
          refine x_blockR ?_
          refine x_thenR ?_
          clear hK K
          refine e_ret ?_
          first | (exfalso; first | contradiction | omega) | (exact vb (by rfl))
        · have hc5 := bp hb5
          have ht6 : r.tests.length ≤ 1000 := by rw [List.length_map] at hc5; omega
          refine aw_skip ?_
          refine x_then ?_
          refine hK _ ?_
          clear hK K
          refine aw_seq (fun K hK => ?_)
          refine aw_drawR 19 (by kernel_rfl) ?_
          refine r_y (i := 0) rfl (st_move rfl ⟨rfl, rfl⟩) ?_
          refine r_y (i := 1) rfl (st_move rfl ⟨rfl, rfl⟩) ?_
          refine r_y (i := 2) rfl (st_index rfl rfl rfl (by first | assumption | rfl) ⟨rfl, rfl⟩) ?_
          refine r_y (i := 3) rfl (st_loadFW rfl rfl ⟨rfl, rfl⟩) ?_
          refine r_y (i := 4) rfl (st_move rfl ⟨rfl, rfl⟩) ?_
          refine r_y (i := 5) rfl (st_rem rfl rfl (by omega) ⟨rfl, rfl⟩) ?_
          first | refine r_y (i := 6) rfl (st_eql rfl rfl ⟨rfl, rfl⟩) ?_ | refine r_y (i := 6) rfl (st_eqlS rfl rfl ⟨rfl, rfl⟩) ?_ | refine r_y (i := 6) rfl (st_eqlB (by kernel_rfl) rfl rfl ⟨rfl, rfl⟩) ?_
          refine r_y (i := 7) rfl (st_loadBW rfl rfl rfl ⟨rfl, rfl⟩) ?_
          refine r_y (i := 9) rfl (st_move rfl ⟨rfl, rfl⟩) ?_
          refine r_y (i := 10) rfl (st_move rfl ⟨rfl, rfl⟩) ?_
          refine r_y (i := 11) rfl (st_index rfl rfl rfl (by first | assumption | rfl) ⟨rfl, rfl⟩) ?_
          refine r_y (i := 12) rfl (st_loadFW rfl rfl ⟨rfl, rfl⟩) ?_
          refine r_y (i := 13) rfl (st_move rfl ⟨rfl, rfl⟩) ?_
          refine r_y (i := 14) rfl (st_rem rfl rfl (by omega) ⟨rfl, rfl⟩) ?_
          first | refine r_y (i := 15) rfl (st_eql rfl rfl ⟨rfl, rfl⟩) ?_ | refine r_y (i := 15) rfl (st_eqlS rfl rfl ⟨rfl, rfl⟩) ?_ | refine r_y (i := 15) rfl (st_eqlB (by kernel_rfl) rfl rfl ⟨rfl, rfl⟩) ?_
          refine r_y (i := 16) rfl (st_loadBW rfl rfl rfl ⟨rfl, rfl⟩) ?_
          refine aa_c (i := 8) rfl rfl (by kernel_rfl) (by first | rfl | exact wan_y rfl rfl (beq_tt ‹_›) | exact wan_y rfl rfl (beq_ff ‹_›) | exact wan_y rfl rfl (by simp [*])) (q_call (Pmatches r _ c k hn ht6) ?_)
          rintro r rfl
          refine ⟨.inr rfl, ?_⟩
          refine aa_c (i := 17) rfl rfl (by kernel_rfl) (by first | rfl | exact wan_y rfl rfl (beq_tt ‹_›) | exact wan_y rfl rfl (beq_ff ‹_›) | exact wan_y rfl rfl (by simp [*])) (q_call (Rmatches r _ c k hn ht6) ?_)
          rintro r rfl
          refine ⟨.inr rfl, ?_⟩
          first | refine r_y (i := 18) rfl (st_neq rfl rfl ⟨rfl, rfl⟩) ?_ | refine r_y (i := 18) rfl (st_neqS rfl rfl ⟨rfl, rfl⟩) ?_ | refine r_y (i := 18) rfl (st_neqB (by kernel_rfl) rfl rfl ⟨rfl, rfl⟩) ?_
          refine aa_done (by kernel_rfl) ?_ _
          refine x_then ?_
          refine hK _ ?_
          clear hK K
          refine aw_cond rfl (fun hb6 => ?_) (fun hb6 => ?_)
          · have hc6 := bp hb6
            refine aw_seq (fun K hK => ?_)
            refine aw_region ?_
            refine al_p rfl (st_assign rfl ?_)
            refine al_nil ?_
            refine x_then ?_
            refine hK _ ?_
            clear hK K
            refine aw_ret ?_
            refine x_blockR ?_
            refine x_thenR ?_
            clear hK K
            refine x_thenR ?_
            refine x_blockR ?_
            refine x_thenR ?_
            clear hK K
            refine e_ret ?_
            simp at hc6
          · have hc6 := bp hb6
            refine aw_skip ?_
            refine x_blockN ?_
            refine x_then ?_
            refine hK _ ?_
            clear hK K
            refine aw_region ?_
            refine al_p rfl (st_move rfl ?_)
            first | refine al_p rfl (st_add64 rfl rfl (by omega) ?_) | refine al_p rfl (st_addS rfl rfl (by omega) ?_) | refine al_p rfl (st_add rfl rfl ?_)
            refine al_p rfl (st_assign rfl ?_)
            refine al_nil ?_
            refine x_then ?_
            refine ⟨_, _, ?_, ⟨j + 1, by omega, rfl, mem_take_succ hy ha ht6, rfl⟩, (wk 1 0)⟩
            omega
      · have hc4 := bp hb4
        have e := row_no rulA hj hc4
        subst e
        rw [List.take_length] at ha
        have ht := ha
        refine aw_exit ?_
        refine x_thenE ?_
        clear hK K
        refine x_thenE ?_
        refine ABlock_out ?_
        refine x_then ?_
        refine hK _ ?_
        clear hK K
        refine aw_seq (fun K hK => ?_)
        refine aw_seq (fun K hK => ?_)
        refine aw_region ?_
        refine al_p rfl (st_assign rfl ?_)
        refine al_nil ?_
        refine x_then ?_
        refine hK _ ?_
        clear hK K
        refine aw_block ?_
        refine aw_loopW (fun n s => ∃ j : Nat, j ≤ 6 ∧ n = 6 - j ∧ s = ⟨look [(0, .sl 8 (l.map rulA) none), (1, .v (.int .i64 list)), (2, .sl 1 (hits.map bolA) none), (7, .bp 0 0), (10, .v (.int .i64 (j : Int)))], ⟨[ctxA c k], []⟩⟩) (6) ((wk 1 0)) (⟨0, by omega, rfl, rfl⟩) ?_
        rintro n s ⟨i, hi, rfl, rfl⟩
        refine aw_seq (fun K hK => ?_)
        refine aw_seq (fun K hK => ?_)
        refine aw_region ?_
        refine al_p rfl (st_move rfl ?_)
        refine al_p rfl (st_leq rfl rfl ?_)
        refine al_nil ?_
        refine x_then ?_
        refine hK _ ?_
        clear hK K
        refine aw_cond rfl (fun hb7 => ?_) (fun hb7 => ?_)
        · have hc7 := bp hb7
          refine aw_skip ?_
          refine x_then ?_
          refine hK _ ?_
          clear hK K
          refine aw_seq (fun K hK => ?_)
          refine aw_block ?_
          refine aw_seq (fun K hK => ?_)
          refine aw_drawR 11 (by kernel_rfl) ?_
          refine r_y (i := 0) rfl (st_move rfl ⟨rfl, rfl⟩) ?_
          refine r_y (i := 1) rfl (st_move rfl ⟨rfl, rfl⟩) ?_
          refine r_y (i := 2) rfl (st_move rfl ⟨rfl, rfl⟩) ?_
          refine r_y (i := 3) rfl (st_loadBW rfl rfl rfl ⟨rfl, rfl⟩) ?_
          refine r_y (i := 5) rfl (st_move rfl ⟨rfl, rfl⟩) ?_
          refine r_y (i := 6) rfl (st_move rfl ⟨rfl, rfl⟩) ?_
          refine r_y (i := 7) rfl (st_move rfl ⟨rfl, rfl⟩) ?_
          refine r_y (i := 8) rfl (st_loadBW rfl rfl rfl ⟨rfl, rfl⟩) ?_
          refine aa_c (i := 4) rfl rfl (by kernel_rfl) (by first | rfl | exact wan_y rfl rfl (beq_tt ‹_›) | exact wan_y rfl rfl (beq_ff ‹_›) | exact wan_y rfl rfl (by simp [*])) (q_call (Pfirsts l _ hits c k hl hn ht) ?_)
          rintro r rfl
          refine ⟨.inr rfl, ?_⟩
          refine aa_c (i := 9) rfl rfl (by kernel_rfl) (by first | rfl | exact wan_y rfl rfl (beq_tt ‹_›) | exact wan_y rfl rfl (beq_ff ‹_›) | exact wan_y rfl rfl (by simp [*])) (q_call (Rfirsts l _ hits c k hl hn ht) ?_)
          rintro r rfl
          refine ⟨.inr rfl, ?_⟩
          first | refine r_y (i := 10) rfl (st_neq rfl rfl ⟨rfl, rfl⟩) ?_ | refine r_y (i := 10) rfl (st_neqS rfl rfl ⟨rfl, rfl⟩) ?_ | refine r_y (i := 10) rfl (st_neqB (by kernel_rfl) rfl rfl ⟨rfl, rfl⟩) ?_
          refine aa_done (by kernel_rfl) ?_ _
          refine x_then ?_
          refine hK _ ?_
          clear hK K
          refine aw_cond rfl (fun hb8 => ?_) (fun hb8 => ?_)
          · have hc8 := bp hb8
            refine aw_seq (fun K hK => ?_)
            refine aw_region ?_
            refine al_p rfl (st_assign rfl ?_)
            refine al_nil ?_
            refine x_then ?_
            refine hK _ ?_
            clear hK K
            refine aw_ret ?_
            refine x_blockR ?_
            refine x_thenR ?_
            clear hK K
            refine x_thenR ?_
            refine x_blockR ?_
            refine x_thenR ?_
            clear hK K
            refine e_ret ?_
            first | (exfalso; first | contradiction | omega) | (exact vb (by rfl))
          · have hc8 := bp hb8
            refine aw_skip ?_
            refine x_blockN ?_
            refine x_then ?_
            refine hK _ ?_
            clear hK K
            refine aw_region ?_
            refine al_p rfl (st_move rfl ?_)
            first | refine al_p rfl (st_add64 rfl rfl (by omega) ?_) | refine al_p rfl (st_addS rfl rfl (by omega) ?_) | refine al_p rfl (st_add rfl rfl ?_)
            refine al_p rfl (st_assign rfl ?_)
            refine al_nil ?_
            refine x_then ?_
            refine ⟨_, _, ?_, ⟨i + 1, by omega, rfl, rfl⟩, (wk 1 0)⟩
            omega
        · have hc7 := bp hb7
          refine aw_exit ?_
          refine x_thenE ?_
          clear hK K
          refine x_thenE ?_
          refine ABlock_out ?_
          refine x_then ?_
          refine hK _ ?_
          clear hK K
          refine aw_seq (fun K hK => ?_)
          refine aw_drawR 15 (by kernel_rfl) ?_
          refine r_y (i := 0) rfl (st_move rfl ⟨rfl, rfl⟩) ?_
          refine r_y (i := 1) rfl (st_move rfl ⟨rfl, rfl⟩) ?_
          refine r_y (i := 2) rfl (st_move rfl ⟨rfl, rfl⟩) ?_
          refine r_y (i := 3) rfl (st_loadBW rfl rfl rfl ⟨rfl, rfl⟩) ?_
          refine r_y (i := 5) rfl (st_move rfl ⟨rfl, rfl⟩) ?_
          refine r_y (i := 6) rfl (st_move rfl ⟨rfl, rfl⟩) ?_
          refine r_y (i := 7) rfl (st_move rfl ⟨rfl, rfl⟩) ?_
          refine r_y (i := 8) rfl (st_loadBW rfl rfl rfl ⟨rfl, rfl⟩) ?_
          refine aa_c (i := 4) rfl rfl (by kernel_rfl) (by first | rfl | exact wan_y rfl rfl (beq_tt ‹_›) | exact wan_y rfl rfl (beq_ff ‹_›) | exact wan_y rfl rfl (by simp [*])) (q_call (Pfirsts l _ hits c k hl hn ht) ?_)
          rintro r rfl
          refine ⟨.inr rfl, ?_⟩
          refine aa_c (i := 9) rfl rfl (by kernel_rfl) (by first | rfl | exact wan_y rfl rfl (beq_tt ‹_›) | exact wan_y rfl rfl (beq_ff ‹_›) | exact wan_y rfl rfl (by simp [*])) (q_call (Rfirsts l _ hits c k hl hn ht) ?_)
          rintro r rfl
          refine ⟨.inr rfl, ?_⟩
          first | refine r_y (i := 10) rfl (st_eql rfl rfl ⟨rfl, rfl⟩) ?_ | refine r_y (i := 10) rfl (st_eqlS rfl rfl ⟨rfl, rfl⟩) ?_ | refine r_y (i := 10) rfl (st_eqlB (by kernel_rfl) rfl rfl ⟨rfl, rfl⟩) ?_
          refine r_y (i := 11) rfl (st_move rfl ⟨rfl, rfl⟩) ?_
          refine aa_both (j := 11) rfl (fun hb9 => ?_) (fun hb9 => ?_)
          · have hc9 := bp hb9
            refine aa_c (i := 12) rfl rfl (by kernel_rfl) (by first | rfl | exact wan_y rfl rfl (beq_tt ‹_›) | exact wan_y rfl rfl (beq_ff ‹_›) | exact wan_y rfl rfl (by simp [*])) (q_call (Lawake) ?_)
            rintro r rfl
            refine ⟨.inr rfl, ?_⟩
            refine r_y (i := 13) rfl (st_pick_t rfl (by first | rfl | assumption | simp [*]) rfl ⟨rfl, rfl⟩) ?_
            refine r_y (i := 14) rfl (st_assign rfl ⟨rfl, rfl⟩) ?_
            refine aa_done (by kernel_rfl) ?_ _
            refine x_then ?_
            refine hK _ ?_
            clear hK K
            refine aw_ret ?_
            refine e_ret ?_
            first | (exfalso; first | contradiction | omega) | (exact vb (by rfl))
          · have hc9 := bp hb9
            refine r_n (i := 12) rfl rfl ?_
            refine r_y (i := 13) rfl (st_pick_f rfl (by first | rfl | assumption | simp [*]) rfl ⟨rfl, rfl⟩) ?_
            refine r_y (i := 14) rfl (st_assign rfl ⟨rfl, rfl⟩) ?_
            refine aa_done (by kernel_rfl) ?_ _
            refine x_then ?_
            refine hK _ ?_
            clear hK K
            refine aw_ret ?_
            refine e_ret ?_
            first | (exfalso; first | contradiction | omega) | (exact vb (by rfl))

end
end Go.Proofs.YtokaaebbmcldaaaDoor
