/-
  A rule in a context: rules.Matches, kauditref14.Matches.
-/
import Derived.Test.YtokaaebbmcldaaaGreatDoorRe
namespace Go.Proofs.YtokaaebbmcldaaaGreatDoor
open Go.RowKit

theorem bit_one (x : Int) : andI .u64 x 1 = 0 ∨ andI .u64 x 1 = 1 := by
  have e : ((BitVec.ofInt 64 x &&& BitVec.ofInt 64 1).toNat) = (BitVec.ofInt 64 x).toNat % 2 := by
    rw [BitVec.toNat_and]
    exact Nat.and_one_is_mod _
  unfold andI
  show IntKind.u64.wrap ((BitVec.ofInt 64 x &&& BitVec.ofInt 64 1).toNat) = 0 ∨ IntKind.u64.wrap ((BitVec.ofInt 64 x &&& BitVec.ofInt 64 1).toNat) = 1
  rw [e]
  rcases Nat.mod_two_eq_zero_or_one (BitVec.ofInt 64 x).toNat with h | h <;> rw [h]
  · exact .inl rfl
  · exact .inr rfl
def bitL (m n : Int) : Bool := if 0 ≤ n ∧ n < 32 then decide (andI .u64 (shrI .u64 m n) 1 = 1) else false
def matL (r : Rul) (hit : Bool) (c : Ctx) : Bool := (decide (r.calls = 0) || bitL r.calls c.number) && r.tests.all (fun t => evalR t c) && (decide (r.watch = 0) || hit)
theorem all_take {α : Type} (p : α → Bool) (l : List α) (k : Nat) {x : α} (hx : l[k]? = some x) : (l.take (k + 1)).all p = ((l.take k).all p && p x) := by
  obtain ⟨hk, e⟩ := List.getElem?_eq_some_iff.1 hx
  rw [List.take_succ_eq_append_getElem hk, List.all_append, e]
  simp
theorem all_no {α : Type} {p : α → Bool} {l : List α} {k : Nat} {x : α} (hx : l[k]? = some x) (h : p x = false) : l.all p = false := by
  cases e : l.all p with
  | false => rfl
  | true => rw [List.all_eq_true] at e; rw [e x (List.mem_of_getElem? hx)] at h; cases h
theorem mat_y {p : Prop} [Decidable p] {b : Bool} (h : (decide (¬ p) && !b) = false) : (decide p || b) = true := by
  by_cases h0 : p <;> cases b <;> simp_all
section
set_option maxRecDepth 10000
set_option maxHeartbeats 1000000
theorem PhasCall (m n : Int) : AFn Tryz.prog 21 [.v (.int .u64 m), .v (.int .i64 n)] (fun r => r = .v (.bool (bitL m n))) := by
  have hb := bit_one (shrI .u64 m n)
  refine enter Tryz.func21 rfl rfl rfl rfl rfl 0 rfl ?_
  refine aw_seq (fun K hK => ?_)
  refine aw_region ?_
  refine al_p rfl (st_assign rfl ?_)
  refine al_nil ?_
  refine x_then ?_
  refine hK _ ?_
  clear hK K
  refine aw_seq (fun K hK => ?_)
  refine aw_region ?_
  refine al_p rfl (st_move rfl ?_)
  first | refine al_p rfl (st_geq rfl rfl ?_) | refine al_p rfl (st_geqS rfl rfl ?_)
  refine al_p rfl (st_move rfl ?_)
  refine al_gs true rfl rfl (fun hb1 => ?_) (fun hb1 => ?_)
  · have hc1 := bp hb1
    refine g_y (st_move rfl ?_)
    first | refine g_y (st_lss rfl rfl ?_) | refine g_y (st_lssS rfl rfl ?_)
    refine al_p rfl (p_t ?_)
    refine al_p rfl (st_move rfl ?_)
    refine al_gs true rfl rfl (fun hb2 => ?_) (fun hb2 => ?_)
    · have hc2 := bp hb2
      refine g_y (st_move rfl ?_)
      refine g_y (st_move rfl ?_)
      refine g_y (st_shr rfl rfl (by omega) ?_)
      refine g_y (st_and rfl rfl ?_)
      first | refine g_y (st_neq rfl rfl ?_) | refine g_y (st_neqS rfl rfl ?_) | refine g_y (st_neqB (by kernel_rfl) rfl rfl ?_)
      refine al_p rfl (p_t ?_)
      refine al_p rfl (st_assign rfl ?_)
      refine al_nil ?_
      refine x_then ?_
      refine hK _ ?_
      clear hK K
      refine aw_ret ?_
      refine e_ret ?_
      first | (exfalso; first | contradiction | omega) | (exact vb (by unfold bitL; grind))
    · have hc2 := bp hb2
      refine g_n ?_
      refine g_n ?_
      refine g_n ?_
      refine g_n ?_
      refine g_n ?_
      refine al_p rfl (p_f ?_)
      refine al_p rfl (st_assign rfl ?_)
      refine al_nil ?_
      refine x_then ?_
      refine hK _ ?_
      clear hK K
      refine aw_ret ?_
      refine e_ret ?_
      first | (exfalso; first | contradiction | omega) | (exact vb (by unfold bitL; grind))
  · have hc1 := bp hb1
    refine g_n ?_
    refine g_n ?_
    refine al_p rfl (p_f ?_)
    refine al_p rfl (st_move rfl ?_)
    refine g_n ?_
    refine g_n ?_
    refine g_n ?_
    refine g_n ?_
    refine g_n ?_
    refine al_p rfl (p_f ?_)
    refine al_p rfl (st_assign rfl ?_)
    refine al_nil ?_
    refine x_then ?_
    refine hK _ ?_
    clear hK K
    refine aw_ret ?_
    refine e_ret ?_
    first | (exfalso; first | contradiction | omega) | (exact vb (by unfold bitL; grind))

theorem Rhas01 (m n : Int) : AFn Tryz.prog 23 [.v (.int .u64 m), .v (.int .i64 n)] (fun r => r = .v (.bool (bitL m n))) := by
  have hw : 0 ≤ n → n < 32 → IntKind.u64.wrap n = n := fun h1 h2 => by simp [IntKind.wrap, IntKind.signed, IntKind.bits]; omega
  refine enter Tryz.func23 rfl rfl rfl rfl rfl 0 rfl ?_
  refine aw_seq (fun K hK => ?_)
  refine aw_region ?_
  refine al_p rfl (st_assign rfl ?_)
  refine al_nil ?_
  refine x_then ?_
  refine hK _ ?_
  clear hK K
  refine aw_seq (fun K hK => ?_)
  refine aw_region ?_
  refine al_p rfl (st_move rfl ?_)
  first | refine al_p rfl (st_geq rfl rfl ?_) | refine al_p rfl (st_geqS rfl rfl ?_)
  refine al_p rfl (st_move rfl ?_)
  refine al_gs true rfl rfl (fun hb1 => ?_) (fun hb1 => ?_)
  · have hc1 := bp hb1
    refine g_y (st_move rfl ?_)
    first | refine g_y (st_lss rfl rfl ?_) | refine g_y (st_lssS rfl rfl ?_)
    refine al_p rfl (p_t ?_)
    refine al_p rfl (st_move rfl ?_)
    refine al_gs true rfl rfl (fun hb2 => ?_) (fun hb2 => ?_)
    · have hc2 := bp hb2
      refine g_y (st_move rfl ?_)
      refine g_y (st_move rfl ?_)
      refine g_y (st_conv rfl Tryz.underlying3 Tryz.underlying65 ?_)
      refine g_y (st_shr rfl rfl (by omega) ?_)
      refine g_y (st_and rfl rfl ?_)
      first | refine g_y (st_eql rfl rfl ?_) | refine g_y (st_eqlS rfl rfl ?_) | refine g_y (st_eqlB (by kernel_rfl) rfl rfl ?_)
      refine al_p rfl (p_t ?_)
      refine al_p rfl (st_assign rfl ?_)
      refine al_nil ?_
      refine x_then ?_
      refine hK _ ?_
      clear hK K
      refine aw_ret ?_
      refine e_ret ?_
      first | (exfalso; first | contradiction | omega) | (exact vb (by unfold bitL; grind))
    · have hc2 := bp hb2
      refine g_n ?_
      refine g_n ?_
      refine g_n ?_
      refine g_n ?_
      refine g_n ?_
      refine g_n ?_
      refine al_p rfl (p_f ?_)
      refine al_p rfl (st_assign rfl ?_)
      refine al_nil ?_
      refine x_then ?_
      refine hK _ ?_
      clear hK K
      refine aw_ret ?_
      refine e_ret ?_
      first | (exfalso; first | contradiction | omega) | (exact vb (by unfold bitL; grind))
  · have hc1 := bp hb1
    refine g_n ?_
    refine g_n ?_
    refine al_p rfl (p_f ?_)
    refine al_p rfl (st_move rfl ?_)
    refine g_n ?_
    refine g_n ?_
    refine g_n ?_
    refine g_n ?_
    refine g_n ?_
    refine g_n ?_
    refine al_p rfl (p_f ?_)
    refine al_p rfl (st_assign rfl ?_)
    refine al_nil ?_
    refine x_then ?_
    refine hK _ ?_
    clear hK K
    refine aw_ret ?_
    refine e_ret ?_
    first | (exfalso; first | contradiction | omega) | (exact vb (by unfold bitL; grind))

theorem Pmatches (r : Rul) (hit : Bool) (c : Ctx) (k : Cxs) (hn : c.items.length ≤ 1000) (hl : r.tests.length ≤ 1000) : AFn Tryz.prog 9 [.agg (rulA r), .v (.bool hit), .agg (ctxA c k)] (fun x => x = .v (.bool (matL r hit c))) := by
  refine enter Tryz.func9 rfl rfl rfl rfl rfl 0 rfl ?_
  refine aw_seq (fun K hK => ?_)
  refine aw_region ?_
  first | refine al_p rfl (s_boxA rfl rfl (by repeat constructor) ?_) | refine al_p rfl (s_box rfl rfl (by repeat constructor) ?_)
  first | refine al_p rfl (s_boxA rfl rfl (by repeat constructor) ?_) | refine al_p rfl (s_box rfl rfl (by repeat constructor) ?_)
  refine al_p rfl (st_assign rfl ?_)
  refine al_nil ?_
  refine x_then ?_
  refine hK _ ?_
  clear hK K
  refine aw_seq (fun K hK => ?_)
  refine aw_mid (⟨look [(1, .v (.bool hit)), (3, .bp 0 0), (5, .bp 1 0), (20, .v (.bool (decide (r.calls ≠ 0) && !bitL r.calls c.number)))], ⟨[rulA r, ctxA c k], []⟩⟩) ?_ ?_
  · skip
    refine aw_region ?_
    refine al_p rfl (st_fieldB rfl ?_)
    refine al_p rfl (st_loadB1 rfl rfl rfl ?_)
    first | refine al_p rfl (st_neq rfl rfl ?_) | refine al_p rfl (st_neqS rfl rfl ?_) | refine al_p rfl (st_neqB (by kernel_rfl) rfl rfl ?_)
    refine al_p rfl (st_move rfl ?_)
    refine al_gs true rfl rfl (fun hb1 => ?_) (fun hb1 => ?_)
    · have hc1 := bp hb1
      refine g_y (st_fieldB rfl ?_)
      refine g_y (st_loadB1 rfl rfl rfl ?_)
      refine g_y (st_fieldB rfl ?_)
      refine g_y (st_fieldB rfl ?_)
      refine g_y (st_loadB1 rfl rfl rfl ?_)
      refine g_y (q_call (PhasCall _ _) ?_)
      rintro r rfl
      refine g_y (st_not rfl ?_)
      refine al_p rfl (p_t ?_)
      refine al_nil ?_
      refine x_then ?_
      first | (exfalso; first | contradiction | omega) | exact weak_of 2 0 rfl rfl rfl rfl (by repeat (first | exact Sub.nil | refine Sub.cons _ _ _ rfl rfl ?_ | refine Sub.any _ _ ?_ | refine Sub.sl _ _ _ _ _ rfl ?_ | refine Sub.slnil _ _ _ rfl ?_ | (apply Sub.of; (focus exact rfl); (focus exact LeA.of_eq (vb (by simp [*]))); (focus exact rfl))))
    · have hc1 := bp hb1
      refine g_n ?_
      refine g_n ?_
      refine g_n ?_
      refine g_n ?_
      refine g_n ?_
      refine g_n ?_
      refine g_n ?_
      refine al_p rfl (p_f ?_)
      refine al_nil ?_
      refine x_then ?_
      first | (exfalso; first | contradiction | omega) | exact weak_of 2 0 rfl rfl rfl rfl (by repeat (first | exact Sub.nil | refine Sub.cons _ _ _ rfl rfl ?_ | refine Sub.any _ _ ?_ | refine Sub.sl _ _ _ _ _ rfl ?_ | refine Sub.slnil _ _ _ rfl ?_ | (apply Sub.of; (focus exact rfl); (focus exact LeA.of_eq (vb (by simp [*]))); (focus exact rfl))))
  · skip
    refine aw_cond rfl (fun hb2 => ?_) (fun hb2 => ?_)
    · have hc2 := bp hb2
      have hq : r.calls ≠ 0 ∧ bitL r.calls c.number = false := by simpa using hc2
      refine aw_seq (fun K hK => ?_)
      refine aw_region ?_
      refine al_p rfl (st_assign rfl ?_)
      refine al_nil ?_
      refine x_then ?_
      refine hK _ ?_
      clear hK K
      refine aw_ret ?_
      refine x_thenR ?_
      clear hK K
      refine e_ret ?_
      first | (exfalso; first | contradiction | omega) | (exact vb (by simp [matL, hq]))
    · have hc2 := bp hb2
      have hq := mat_y hc2
      refine aw_skip ?_
      refine x_then ?_
      refine hK _ ?_
      clear hK K
      refine aw_seq (fun K hK => ?_)
      refine aw_seq (fun K hK => ?_)
      refine aw_region ?_
      refine al_p rfl (st_fieldB rfl ?_)
      refine al_p rfl (st_loadB1 rfl rfl rfl ?_)
      first | refine al_p rfl (st_len rfl ?_) | refine al_p rfl (st_lenS (by kernel_rfl) rfl ?_) | refine al_p rfl (st_len0 rfl ?_)
      refine al_p rfl (st_move rfl ?_)
      refine al_nil ?_
      refine x_then ?_
      refine hK _ ?_
      clear hK K
      refine aw_block ?_
      refine aw_loopW (fun n s => ∃ j : Nat, j ≤ r.tests.length ∧ n = r.tests.length - j ∧ (r.tests.take j).all (fun t => evalR t c) = true ∧ s = ⟨look [(1, .v (.bool hit)), (3, .bp 0 0), (5, .bp 1 0), (22, .sl 5 (r.tests.map tstA) none), (23, .v (.int .i64 ((r.tests.map tstA).length : Int))), (24, .v (.int .i64 (j : Int)))], ⟨[rulA r, ctxA c k], []⟩⟩) (r.tests.length) ((wk 2 0)) (⟨0, by omega, rfl, rfl, rfl⟩) ?_
      rintro n s ⟨j, hj, rfl, ha, rfl⟩
      refine aw_seq (fun K hK => ?_)
      refine aw_region ?_
      first | refine al_p rfl (st_lss rfl rfl ?_) | refine al_p rfl (st_lssS rfl rfl ?_)
      refine al_nil ?_
      refine x_then ?_
      refine hK _ ?_
      clear hK K
      refine aw_seq (fun K hK => ?_)
      refine aw_cond rfl (fun hb3 => ?_) (fun hb3 => ?_)
      · have hc3 := bp hb3
        obtain ⟨hlt, t, hy, hrow, -⟩ := row_at tstA hc3
        refine aw_skip ?_
        refine x_then ?_
        refine hK _ ?_
        clear hK K
        refine aw_seq (fun K hK => ?_)
        refine aw_block ?_
        refine aw_seq (fun K hK => ?_)
        refine aw_region ?_
        refine al_p rfl (st_index rfl rfl rfl (by first | assumption | rfl) ?_)
        refine al_p rfl (st_loadFW rfl rfl ?_)
        refine al_p rfl (s_alloc (by repeat constructor) ?_)
        refine al_p0 (s_store rfl rfl rfl rfl rfl rfl (by repeat constructor) (by repeat constructor) ?_)
        refine al_nil ?_
        refine x_then ?_
        refine hK _ ?_
        clear hK K
        refine aw_seq (fun K hK => ?_)
        refine aw_region ?_
        refine al_p rfl (st_loadBW rfl rfl rfl ?_)
        refine al_p rfl (st_loadBW rfl rfl rfl ?_)
        refine al_p rfl (q_call (Peval t c k hn) ?_)
        rintro r rfl
        refine al_p rfl (st_not rfl ?_)
        refine al_nil ?_
        refine x_then ?_
        refine hK _ ?_
        clear hK K
        refine aw_cond rfl (fun hb4 => ?_) (fun hb4 => ?_)
        · have hc4 := bp hb4
          refine aw_seq (fun K hK => ?_)
          refine aw_region ?_
          refine al_p rfl (st_assign rfl ?_)
          refine al_nil ?_
          refine x_then ?_
          refine hK _ ?_
          clear hK K
          refine aw_ret ?_
          refine x_blockR ?_
          refine x_thenR ?_
          clear hK K
          refine x_thenR ?_
          refine x_blockR ?_
          refine x_thenR ?_
          clear hK K
          refine e_ret ?_
          first | (exfalso; first | contradiction | omega) | (exact vb (by rw [matL, all_no hy (by rw [← eval_eq]; simpa using hc4)]; simp))
        · have hc4 := bp hb4
          refine aw_skip ?_
          refine x_blockN ?_
          refine x_then ?_
          refine hK _ ?_
          clear hK K
          refine aw_region ?_
          first | refine al_p rfl (st_add64 rfl rfl (by omega) ?_) | refine al_p rfl (st_addS rfl rfl (by omega) ?_) | refine al_p rfl (st_add rfl rfl ?_)
          refine al_p rfl (st_move rfl ?_)
          refine al_nil ?_
          refine x_then ?_
          refine ⟨_, _, ?_, ⟨j + 1, by omega, rfl, (by rw [all_take _ _ _ hy, ha, ← eval_eq]; simp [*]), rfl⟩, (wk 2 0)⟩
          omega
      · have hc3 := bp hb3
        have e := row_no tstA hj hc3
        subst e
        rw [List.take_length] at ha
        refine aw_exit ?_
        refine x_thenE ?_
        clear hK K
        refine x_thenE ?_
        refine ABlock_out ?_
        refine x_then ?_
        refine hK _ ?_
        clear hK K
        refine aw_seq (fun K hK => ?_)
        refine aw_region ?_
        refine al_p rfl (st_fieldB rfl ?_)
        refine al_p rfl (st_loadB1 rfl rfl rfl ?_)
        first | refine al_p rfl (st_eql rfl rfl ?_) | refine al_p rfl (st_eqlS rfl rfl ?_) | refine al_p rfl (st_eqlB (by kernel_rfl) rfl rfl ?_)
        refine al_p rfl (st_move rfl ?_)
        refine al_gs false rfl rfl (fun hb5 => ?_) (fun hb5 => ?_)
        · have hc5 := bp hb5
          refine g_n ?_
          refine al_p rfl (p_t ?_)
          refine al_p rfl (st_assign rfl ?_)
          refine al_nil ?_
          refine x_then ?_
          refine hK _ ?_
          clear hK K
          refine aw_ret ?_
          refine e_ret ?_
          first | (exfalso; first | contradiction | omega) | (exact vb (by rw [matL, hq, ha]; simp [hc5]))
        · have hc5 := bp hb5
          refine g_y (st_move rfl ?_)
          refine al_p rfl (p_f ?_)
          refine al_p rfl (st_assign rfl ?_)
          refine al_nil ?_
          refine x_then ?_
          refine hK _ ?_
          clear hK K
          refine aw_ret ?_
          refine e_ret ?_
          first | (exfalso; first | contradiction | omega) | (exact vb (by rw [matL, hq, ha]; simp [*]))

theorem Rmatches (r : Rul) (hit : Bool) (c : Ctx) (k : Cxs) (hn : c.items.length ≤ 1000) (hl : r.tests.length ≤ 1000) : AFn Tryz.prog 10 [.agg (rulA r), .v (.bool hit), .agg (ctxA c k)] (fun x => x = .v (.bool (matL r hit c))) := by
  refine enter Tryz.func10 rfl rfl rfl rfl rfl 0 rfl ?_
  refine aw_seq (fun K hK => ?_)
  refine aw_region ?_
  first | refine al_p rfl (s_boxA rfl rfl (by repeat constructor) ?_) | refine al_p rfl (s_box rfl rfl (by repeat constructor) ?_)
  first | refine al_p rfl (s_boxA rfl rfl (by repeat constructor) ?_) | refine al_p rfl (s_box rfl rfl (by repeat constructor) ?_)
  refine al_p rfl (st_assign rfl ?_)
  refine al_nil ?_
  refine x_then ?_
  refine hK _ ?_
  clear hK K
  refine aw_seq (fun K hK => ?_)
  refine aw_mid (⟨look [(1, .v (.bool hit)), (3, .bp 0 0), (5, .bp 1 0), (28, .v (.bool (decide (r.calls ≠ 0) && !bitL r.calls c.number || decide (r.watch ≠ 0) && !hit)))], ⟨[rulA r, ctxA c k], []⟩⟩) ?_ ?_
  · skip
    refine aw_region ?_
    refine al_p rfl (st_fieldB rfl ?_)
    refine al_p rfl (st_loadB1 rfl rfl rfl ?_)
    first | refine al_p rfl (st_neq rfl rfl ?_) | refine al_p rfl (st_neqS rfl rfl ?_) | refine al_p rfl (st_neqB (by kernel_rfl) rfl rfl ?_)
    refine al_p rfl (st_move rfl ?_)
    refine al_gs true rfl rfl (fun hb1 => ?_) (fun hb1 => ?_)
    · have hc1 := bp hb1
      refine g_y (st_fieldB rfl ?_)
      refine g_y (st_loadB1 rfl rfl rfl ?_)
      refine g_y (st_fieldB rfl ?_)
      refine g_y (st_fieldB rfl ?_)
      refine g_y (st_loadB1 rfl rfl rfl ?_)
      refine g_y (q_call (Rhas01 _ _) ?_)
      rintro r rfl
      refine g_y (st_not rfl ?_)
      refine al_p rfl (p_t ?_)
      refine al_p rfl (st_move rfl ?_)
      refine al_gs false rfl rfl (fun hb2 => ?_) (fun hb2 => ?_)
      · have hc2 := bp hb2
        refine g_n ?_
        refine g_n ?_
        refine g_n ?_
        refine g_n ?_
        refine al_gu rfl rfl ?_
        refine al_gu rfl rfl ?_
        refine g_n ?_
        refine al_p rfl (p_t ?_)
        refine al_nil ?_
        refine x_then ?_
        first | (exfalso; first | contradiction | omega) | exact weak_of 2 0 rfl rfl rfl rfl (by repeat (first | exact Sub.nil | refine Sub.cons _ _ _ rfl rfl ?_ | refine Sub.any _ _ ?_ | refine Sub.sl _ _ _ _ _ rfl ?_ | refine Sub.slnil _ _ _ rfl ?_ | (apply Sub.of; (focus exact rfl); (focus exact LeA.of_eq (vb (by simp [*]))); (focus exact rfl))))
      · have hc2 := bp hb2
        refine g_y (st_fieldB rfl ?_)
        refine g_y (st_loadB1 rfl rfl rfl ?_)
        first | refine g_y (st_neq rfl rfl ?_) | refine g_y (st_neqS rfl rfl ?_) | refine g_y (st_neqB (by kernel_rfl) rfl rfl ?_)
        refine g_y (st_move rfl ?_)
        refine al_gs true rfl rfl (fun hb3 => ?_) (fun hb3 => ?_)
        · have hc3 := bp hb3
          refine g_y (st_move rfl ?_)
          refine g_y (st_not rfl ?_)
          refine g_y (p_t ?_)
          refine al_p rfl (p_f ?_)
          refine al_nil ?_
          refine x_then ?_
          first | (exfalso; first | contradiction | omega) | exact weak_of 2 0 rfl rfl rfl rfl (by repeat (first | exact Sub.nil | refine Sub.cons _ _ _ rfl rfl ?_ | refine Sub.any _ _ ?_ | refine Sub.sl _ _ _ _ _ rfl ?_ | refine Sub.slnil _ _ _ rfl ?_ | (apply Sub.of; (focus exact rfl); (focus exact LeA.of_eq (vb (by simp [*]))); (focus exact rfl))))
        · have hc3 := bp hb3
          refine g_n ?_
          refine g_n ?_
          refine g_y (p_f ?_)
          refine al_p rfl (p_f ?_)
          refine al_nil ?_
          refine x_then ?_
          first | (exfalso; first | contradiction | omega) | exact weak_of 2 0 rfl rfl rfl rfl (by repeat (first | exact Sub.nil | refine Sub.cons _ _ _ rfl rfl ?_ | refine Sub.any _ _ ?_ | refine Sub.sl _ _ _ _ _ rfl ?_ | refine Sub.slnil _ _ _ rfl ?_ | (apply Sub.of; (focus exact rfl); (focus exact LeA.of_eq (vb (by simp [*]))); (focus exact rfl))))
    · have hc1 := bp hb1
      refine g_n ?_
      refine g_n ?_
      refine g_n ?_
      refine g_n ?_
      refine g_n ?_
      refine g_n ?_
      refine g_n ?_
      refine al_p rfl (p_f ?_)
      refine al_p rfl (st_move rfl ?_)
      refine g_y (st_fieldB rfl ?_)
      refine g_y (st_loadB1 rfl rfl rfl ?_)
      first | refine g_y (st_neq rfl rfl ?_) | refine g_y (st_neqS rfl rfl ?_) | refine g_y (st_neqB (by kernel_rfl) rfl rfl ?_)
      refine g_y (st_move rfl ?_)
      refine al_gs true rfl rfl (fun hb4 => ?_) (fun hb4 => ?_)
      · have hc4 := bp hb4
        refine g_y (st_move rfl ?_)
        refine g_y (st_not rfl ?_)
        refine g_y (p_t ?_)
        refine al_p rfl (p_f ?_)
        refine al_nil ?_
        refine x_then ?_
        first | (exfalso; first | contradiction | omega) | exact weak_of 2 0 rfl rfl rfl rfl (by repeat (first | exact Sub.nil | refine Sub.cons _ _ _ rfl rfl ?_ | refine Sub.any _ _ ?_ | refine Sub.sl _ _ _ _ _ rfl ?_ | refine Sub.slnil _ _ _ rfl ?_ | (apply Sub.of; (focus exact rfl); (focus exact LeA.of_eq (vb (by simp [*]))); (focus exact rfl))))
      · have hc4 := bp hb4
        refine g_n ?_
        refine g_n ?_
        refine g_y (p_f ?_)
        refine al_p rfl (p_f ?_)
        refine al_nil ?_
        refine x_then ?_
        first | (exfalso; first | contradiction | omega) | exact weak_of 2 0 rfl rfl rfl rfl (by repeat (first | exact Sub.nil | refine Sub.cons _ _ _ rfl rfl ?_ | refine Sub.any _ _ ?_ | refine Sub.sl _ _ _ _ _ rfl ?_ | refine Sub.slnil _ _ _ rfl ?_ | (apply Sub.of; (focus exact rfl); (focus exact LeA.of_eq (vb (by simp [*]))); (focus exact rfl))))
  · skip
    refine aw_cond rfl (fun hb5 => ?_) (fun hb5 => ?_)
    · have hc5 := bp hb5
      refine aw_seq (fun K hK => ?_)
      refine aw_region ?_
      refine al_p rfl (st_assign rfl ?_)
      refine al_nil ?_
      refine x_then ?_
      refine hK _ ?_
      clear hK K
      refine aw_ret ?_
      refine x_thenR ?_
      clear hK K
      refine e_ret ?_
      first | (exfalso; first | contradiction | omega) | (exact vb (by rw [Bool.or_eq_true] at hc5; rcases hc5 with h | h <;> simp at h <;> simp [matL, h]))
    · have hc5 := bp hb5
      rw [Bool.or_eq_false_iff] at hc5
      have hq := mat_y hc5.1
      have hq2 := mat_y hc5.2
      refine aw_skip ?_
      refine x_then ?_
      refine hK _ ?_
      clear hK K
      refine aw_seq (fun K hK => ?_)
      refine aw_seq (fun K hK => ?_)
      refine aw_region ?_
      refine al_p rfl (st_assign rfl ?_)
      refine al_nil ?_
      refine x_then ?_
      refine hK _ ?_
      clear hK K
      refine aw_block ?_
      refine aw_loopW (fun n s => ∃ j : Nat, j ≤ r.tests.length ∧ n = r.tests.length - j ∧ (r.tests.take j).all (fun t => evalR t c) = true ∧ s = ⟨look [(3, .bp 0 0), (5, .bp 1 0), (7, .v (.int .i64 (j : Int)))], ⟨[rulA r, ctxA c k], []⟩⟩) (r.tests.length) ((wk 2 0)) (⟨0, by omega, rfl, rfl, rfl⟩) ?_
      rintro n s ⟨j, hj, rfl, ha, rfl⟩
      refine aw_seq (fun K hK => ?_)
      refine aw_seq (fun K hK => ?_)
      refine aw_region ?_
      refine al_p rfl (st_move rfl ?_)
      refine al_p rfl (st_fieldB rfl ?_)
      refine al_p rfl (st_loadB1 rfl rfl rfl ?_)
      first | refine al_p rfl (st_len rfl ?_) | refine al_p rfl (st_lenS (by kernel_rfl) rfl ?_) | refine al_p rfl (st_len0 rfl ?_)
      first | refine al_p rfl (st_lss rfl rfl ?_) | refine al_p rfl (st_lssS rfl rfl ?_)
      refine al_nil ?_
      refine x_then ?_
      refine hK _ ?_
      clear hK K
      refine aw_cond rfl (fun hb6 => ?_) (fun hb6 => ?_)
      · have hc6 := bp hb6
        obtain ⟨hlt, t, hy, hrow, -⟩ := row_at tstA hc6
        refine aw_skip ?_
        refine x_then ?_
        refine hK _ ?_
        clear hK K
        refine aw_seq (fun K hK => ?_)
        refine aw_block ?_
        refine aw_seq (fun K hK => ?_)
        refine aw_drawR 8 (by kernel_rfl) ?_
        refine r_y (i := 0) rfl (st_fieldB rfl ⟨rfl, rfl⟩) ?_
        refine r_y (i := 1) rfl (st_loadB1 rfl rfl rfl ⟨rfl, rfl⟩) ?_
        refine r_y (i := 2) rfl (st_move rfl ⟨rfl, rfl⟩) ?_
        refine r_y (i := 3) rfl (st_index rfl rfl rfl (by first | assumption | rfl) ⟨rfl, rfl⟩) ?_
        refine r_y (i := 4) rfl (st_loadFW rfl rfl ⟨rfl, rfl⟩) ?_
        refine r_y (i := 5) rfl (st_loadBW rfl rfl rfl ⟨rfl, rfl⟩) ?_
        refine aa_c (i := 6) rfl rfl (by kernel_rfl) (by first | rfl | exact wan_y rfl rfl (beq_tt ‹_›) | exact wan_y rfl rfl (beq_ff ‹_›) | exact wan_y rfl rfl (by simp [*])) (q_call (Reval t c k hn) ?_)
        rintro r rfl
        refine ⟨.inr rfl, ?_⟩
        refine r_y (i := 7) rfl (st_not rfl ⟨rfl, rfl⟩) ?_
        refine aa_done (by kernel_rfl) ?_ _
        refine x_then ?_
        refine hK _ ?_
        clear hK K
        refine aw_cond rfl (fun hb7 => ?_) (fun hb7 => ?_)
        · have hc7 := bp hb7
          refine aw_seq (fun K hK => ?_)
          refine aw_region ?_
          refine al_p rfl (st_assign rfl ?_)
          refine al_nil ?_
          refine x_then ?_
          refine hK _ ?_
          clear hK K
          refine aw_ret ?_
          refine x_blockR ?_
          refine x_thenR ?_
          clear hK K
          refine x_thenR ?_
          refine x_blockR ?_
          refine x_thenR ?_
          clear hK K
          refine e_ret ?_
          first | (exfalso; first | contradiction | omega) | (exact vb (by rw [matL, all_no hy (by simpa using hc7)]; simp))
        · have hc7 := bp hb7
          refine aw_skip ?_
          refine x_blockN ?_
          refine x_then ?_
          refine hK _ ?_
          clear hK K
          refine aw_region ?_
          refine al_p rfl (st_move rfl ?_)
          first | refine al_p rfl (st_add64 rfl rfl (by omega) ?_) | refine al_p rfl (st_addS rfl rfl (by omega) ?_) | refine al_p rfl (st_add rfl rfl ?_)
          refine al_p rfl (st_assign rfl ?_)
          refine al_nil ?_
          refine x_then ?_
          refine ⟨_, _, ?_, ⟨j + 1, by omega, rfl, (by rw [all_take _ _ _ hy, ha]; simp [*]), rfl⟩, (wk 2 0)⟩
          omega
      · have hc6 := bp hb6
        have e := row_no tstA hj hc6
        subst e
        rw [List.take_length] at ha
        refine aw_exit ?_
        refine x_thenE ?_
        clear hK K
        refine x_thenE ?_
        refine ABlock_out ?_
        refine x_then ?_
        refine hK _ ?_
        clear hK K
        refine aw_seq (fun K hK => ?_)
        refine aw_region ?_
        refine al_p rfl (st_assign rfl ?_)
        refine al_nil ?_
        refine x_then ?_
        refine hK _ ?_
        clear hK K
        refine aw_ret ?_
        refine e_ret ?_
        first | (exfalso; first | contradiction | omega) | (exact vb (by rw [matL, hq, ha, hq2]; rfl))

end
end Go.Proofs.YtokaaebbmcldaaaGreatDoor
