/-
  Rules: are two the same, where is one in a list, copies.
-/
import Derived.Test.YtokaaebbmcldaaaGreatDoorRh
namespace Go.Proofs.YtokaaebbmcldaaaGreatDoor
open Go.RowKit

deriving instance DecidableEq for Tst
deriving instance DecidableEq for Rul
theorem str_same (a b : ByteArray) : (a.toList == b.toList) = decide (a = b) := by
  by_cases h : a = b
  · simp [h]
  · have : a.toList ≠ b.toList := fun e => h (by
      rw [ByteArray.toList_eq, ByteArray.toList_eq] at e
      obtain ⟨⟨x⟩⟩ := a
      obtain ⟨⟨y⟩⟩ := b
      simpa using e)
    simp [h, this]
theorem tst_eq (a b : Tst) : (a.fld == b.fld && (a.op == b.op && (a.num == b.num && (a.text.toList == b.text.toList && a.other == b.other)))) = decide (a = b) := by
  rw [str_same]
  obtain ⟨a1, a2, a3, a4, a5⟩ := a
  obtain ⟨b1, b2, b3, b4, b5⟩ := b
  by_cases h1 : a1 = b1 <;> by_cases h2 : a2 = b2 <;> by_cases h3 : a3 = b3 <;> by_cases h4 : a4 = b4 <;> by_cases h5 : a5 = b5 <;> simp [h1, h2, h3, h4, h5]
/-- Two lists, place by place. -/
theorem eq_drop {α : Type} [DecidableEq α] {a b : List α} {j : Nat} {x y : α} (hx : a[j]? = some x) (hy : b[j]? = some y) : decide (a.drop j = b.drop j) = (decide (x = y) && decide (a.drop (j + 1) = b.drop (j + 1))) := by
  obtain ⟨h1, e1⟩ := List.getElem?_eq_some_iff.1 hx
  obtain ⟨h2, e2⟩ := List.getElem?_eq_some_iff.1 hy
  rw [List.drop_eq_getElem_cons h1, List.drop_eq_getElem_cons h2, e1, e2]
  by_cases h : x = y <;> simp [h]
theorem eq_len {α : Type} [DecidableEq α] {a b : List α} (h : a.length ≠ b.length) : decide (a = b) = false := by
  simp only [decide_eq_false_iff_not]
  intro e
  exact h (by rw [e])
section
set_option maxRecDepth 10000
set_option maxHeartbeats 1000000
theorem neqTst (a b : Tst) (w : World) : (binOp .neq 68 (.agg #[.int .i64 a.fld, .int .i64 a.op, .int .i64 a.num, .string a.text, .int .i64 a.other]) (.agg #[.int .i64 b.fld, .int .i64 b.op, .int .i64 b.num, .string b.text, .int .i64 b.other])).run Tryz.prog w = .ok (.bool (!decide (a = b))) w := by
  have u3 := Tryz.underlying3
  have a3 := Tryz.isAgg3
  have z3 := Tryz.sizeOf3
  have u9 := Tryz.underlying9
  have a9 := Tryz.isAgg9
  have z9 := Tryz.sizeOf9
  have hS : Tryz.prog.underlying 68 = some (.struct (Tryz.prog.fieldsOf 68)) := by kernel_rfl
  have hp : Tryz.prog.stoodInHeld 68 = false := by kernel_rfl
  rw [run_neq_struct, show (10000 : Nat) = 9999 + 1 from rfl, run_equalIn_agg w 9999 68 _ _ hS hp]
  simp only [Program.fieldsOf, Tryz.underlying68]
  go_simp
  rw [← tst_eq]
  by_cases h1 : a.fld = b.fld <;> by_cases h2 : a.op = b.op <;> by_cases h3 : a.num = b.num <;> by_cases h4 : a.text.toList = b.text.toList <;> by_cases h5 : a.other = b.other <;> simp [h1, h2, h3, h4, h5]
theorem Pequals (a b : List Tst) (ha : a.length ≤ 1000) : AFn Tryz.prog 79 [.sl 5 (a.map tstA) none, .sl 5 (b.map tstA) none] (fun x => x = .v (.bool (decide (a = b)))) := by
  refine enter Tryz.func79 rfl rfl rfl rfl rfl 0 rfl ?_
  refine aw_seq (fun K hK => ?_)
  refine aw_region ?_
  refine al_p rfl (st_assign rfl ?_)
  refine al_nil ?_
  refine x_then ?_
  refine hK _ ?_
  clear hK K
  refine aw_seq (fun K hK => ?_)
  refine aw_seq (fun K hK => ?_)
  refine aw_region ?_
  refine al_p rfl (st_move rfl ?_)
  first | refine al_p rfl (st_len rfl ?_) | refine al_p rfl (st_lenS (by kernel_rfl) rfl ?_) | refine al_p rfl (st_len0 rfl ?_)
  refine al_p rfl (st_move rfl ?_)
  first | refine al_p rfl (st_len rfl ?_) | refine al_p rfl (st_lenS (by kernel_rfl) rfl ?_) | refine al_p rfl (st_len0 rfl ?_)
  first | refine al_p rfl (st_neq rfl rfl ?_) | refine al_p rfl (st_neqS rfl rfl ?_) | refine al_p rfl (st_neqB (by kernel_rfl) rfl rfl ?_)
  refine al_nil ?_
  refine x_then ?_
  refine hK _ ?_
  clear hK K
  refine aw_cond rfl (fun hb1 => ?_) (fun hb1 => ?_)
  · have hc1 := bp hb1
    refine aw_seq (fun K hK => ?_)
    refine aw_region ?_
    refine al_p rfl (st_assign rfl ?_)
    refine al_nil ?_
    refine x_then ?_
    refine hK _ ?_
    clear hK K
    refine aw_ret ?_
    refine x_thenR ?_
    clear hK K
    refine e_ret ?_
    first | (exfalso; first | contradiction | omega) | (exact vb (by rw [eq_len (by simp at hc1; omega)]))
  · have hc1 := bp hb1
    have hl : a.length = b.length := by simp at hc1; omega
    refine aw_skip ?_
    refine x_then ?_
    refine hK _ ?_
    clear hK K
    refine aw_seq (fun K hK => ?_)
    refine aw_seq (fun K hK => ?_)
    refine aw_region ?_
    refine al_p rfl (st_move rfl ?_)
    first | refine al_p rfl (st_len rfl ?_) | refine al_p rfl (st_lenS (by kernel_rfl) rfl ?_) | refine al_p rfl (st_len0 rfl ?_)
    refine al_p rfl (st_move rfl ?_)
    refine al_nil ?_
    refine x_then ?_
    refine hK _ ?_
    clear hK K
    refine aw_block ?_
    refine aw_loopW (fun n s => ∃ j : Nat, j ≤ a.length ∧ n = a.length - j ∧ decide (a.drop j = b.drop j) = decide (a = b) ∧ s = ⟨look [(0, .sl 5 (a.map tstA) none), (1, .sl 5 (b.map tstA) none), (12, .v (.int .i64 ((a.map tstA).length : Int))), (13, .v (.int .i64 (j : Int)))], ⟨[], []⟩⟩) (a.length) ((wk 0 0)) (⟨0, by omega, rfl, rfl, rfl⟩) ?_
    rintro n s ⟨j, hj, rfl, hd, rfl⟩
    refine aw_seq (fun K hK => ?_)
    refine aw_region ?_
    first | refine al_p rfl (st_lss rfl rfl ?_) | refine al_p rfl (st_lssS rfl rfl ?_)
    refine al_nil ?_
    refine x_then ?_
    refine hK _ ?_
    clear hK K
    refine aw_seq (fun K hK => ?_)
    refine aw_cond rfl (fun hb2 => ?_) (fun hb2 => ?_)
    · have hc2 := bp hb2
      obtain ⟨hlt, x, hx, hrow, -⟩ := row_at tstA hc2
      obtain ⟨hlt2, y, hy, hrow2, -⟩ := row_at tstA (l := b) (k := j) (by simpa [hl] using hc2)
      refine aw_skip ?_
      refine x_then ?_
      refine hK _ ?_
      clear hK K
      refine aw_seq (fun K hK => ?_)
      refine aw_block ?_
      refine aw_seq (fun K hK => ?_)
      refine aw_region ?_
      refine al_p rfl (st_move rfl ?_)
      refine al_p rfl (st_assign rfl ?_)
      refine al_nil ?_
      refine x_then ?_
      refine hK _ ?_
      clear hK K
      refine aw_seq (fun K hK => ?_)
      refine aw_drawR 9 (by kernel_rfl) ?_
      refine r_y (i := 0) rfl (st_move rfl ⟨rfl, rfl⟩) ?_
      refine r_y (i := 1) rfl (st_move rfl ⟨rfl, rfl⟩) ?_
      refine r_y (i := 2) rfl (st_index rfl rfl rfl (by first | assumption | rfl) ⟨rfl, rfl⟩) ?_
      refine r_y (i := 3) rfl (st_loadFW rfl rfl ⟨rfl, rfl⟩) ?_
      refine r_y (i := 4) rfl (st_move rfl ⟨rfl, rfl⟩) ?_
      refine r_y (i := 5) rfl (st_move rfl ⟨rfl, rfl⟩) ?_
      refine r_y (i := 6) rfl (st_index rfl rfl rfl (by first | assumption | rfl) ⟨rfl, rfl⟩) ?_
      refine r_y (i := 7) rfl (st_loadFW rfl rfl ⟨rfl, rfl⟩) ?_
      refine r_y (i := 8) rfl (st_binA rfl rfl (by repeat constructor) (by repeat constructor) (fun w => neqTst x y w) (by kernel_rfl) ⟨rfl, rfl⟩) ?_
      refine aa_done (by kernel_rfl) ?_ _
      refine x_then ?_
      refine hK _ ?_
      clear hK K
      refine aw_cond rfl (fun hb3 => ?_) (fun hb3 => ?_)
      · have hc3 := bp hb3
        refine aw_seq (fun K hK => ?_)
        refine aw_region ?_
        refine al_p rfl (st_assign rfl ?_)
        refine al_nil ?_
        refine x_then ?_
        refine hK _ ?_
        clear hK K
        refine aw_ret ?_
        refine x_blockR ?_
        refine x_thenR ?_
        clear hK K
        refine x_thenR ?_
        refine x_blockR ?_
        refine x_thenR ?_
        clear hK K
        refine e_ret ?_
        first | (exfalso; first | contradiction | omega) | (exact vb (by rw [← hd, eq_drop hx hy]; simp [hc3]))
      · have hc3 := bp hb3
        refine aw_skip ?_
        refine x_blockN ?_
        refine x_then ?_
        refine hK _ ?_
        clear hK K
        refine aw_region ?_
        first | refine al_p rfl (st_add64 rfl rfl (by omega) ?_) | refine al_p rfl (st_addS rfl rfl (by omega) ?_) | refine al_p rfl (st_add rfl rfl ?_)
        refine al_p rfl (st_move rfl ?_)
        refine al_nil ?_
        refine x_then ?_
        refine ⟨_, _, ?_, ⟨j + 1, by omega, rfl, (by rw [← hd, eq_drop hx hy, hc3]; simp), rfl⟩, (wk 0 0)⟩
        omega
    · have hc2 := bp hb2
      have e := row_no tstA hj hc2
      subst e
      refine aw_exit ?_
      refine x_thenE ?_
      clear hK K
      refine x_thenE ?_
      refine ABlock_out ?_
      refine x_then ?_
      refine hK _ ?_
      clear hK K
      refine aw_seq (fun K hK => ?_)
      refine aw_region ?_
      refine al_p rfl (st_assign rfl ?_)
      refine al_nil ?_
      refine x_then ?_
      refine hK _ ?_
      clear hK K
      refine aw_ret ?_
      refine e_ret ?_
      first | (exfalso; first | contradiction | omega) | (exact vb (by rw [← hd, List.drop_length, hl, List.drop_length]; rfl))

theorem Pclones (a : List Tst) (ha : a.length ≤ 1000) : AFn Tryz.prog 70 [.sl 5 (a.map tstA) none] (fun x => x = .sl 5 (a.map tstA) none) := by
  refine enter Tryz.func70 rfl rfl rfl rfl rfl 0 rfl ?_
  refine aw_seq (fun K hK => ?_)
  refine aw_region ?_
  refine al_p rfl (st_assign rfl ?_)
  refine al_nil ?_
  refine x_then ?_
  refine hK _ ?_
  clear hK K
  refine aw_seq (fun K hK => ?_)
  refine aw_seq (fun K hK => ?_)
  refine aw_region ?_
  refine al_p rfl (st_move rfl ?_)
  refine al_p rfl (st_eqNil rfl rfl ?_)
  intro b hb
  refine al_nil ?_
  refine x_then ?_
  refine hK _ ?_
  clear hK K
  refine aw_cond rfl (fun hb1 => ?_) (fun hb1 => ?_)
  · have hc1 := bp hb1
    refine aw_seq (fun K hK => ?_)
    refine aw_region ?_
    refine al_p rfl (st_assign rfl ?_)
    refine al_nil ?_
    refine x_then ?_
    refine hK _ ?_
    clear hK K
    refine aw_ret ?_
    refine x_thenR ?_
    clear hK K
    refine abody_ret (xs := [.v (.slice none 0 0)]) (r := .sl 5 [] none) none (by repeat (first | exact ResA.nil | (apply ResA.tmp; (focus exact rfl)) | (apply ResA.cellN; (focus exact inferInstance); (focus exact rfl); (focus exact rfl); (focus exact rfl)) | (apply ResA.cell1; (focus exact inferInstance); (focus exact rfl); (focus exact rfl); (focus exact rfl)))) rfl rfl rfl (LeA.nil _) ⟨rfl, rfl, ?_⟩
    rw [hb hc1]
  · have hc1 := bp hb1
    refine aw_skip ?_
    refine x_then ?_
    refine hK _ ?_
    clear hK K
    refine aw_seq (fun K hK => ?_)
    refine aw_region ?_
    refine al_p rfl (s_slit0 (by repeat constructor) ?_)
    refine al_p rfl (st_move rfl ?_)
    first | refine al_p rfl (s_append rfl rfl rfl (by simp <;> omega) (by repeat constructor) ?_) | refine al_p rfl (s_append0 rfl rfl (by simp <;> omega) (by repeat constructor) ?_)
    refine al_p rfl (st_assign rfl ?_)
    refine al_nil ?_
    refine x_then ?_
    refine hK _ ?_
    clear hK K
    refine aw_ret ?_
    refine e_ret ?_
    rfl

theorem rul_iff (a b : Rul) : a = b ↔ a.list = b.list ∧ a.action = b.action ∧ a.calls = b.calls ∧ a.tests = b.tests ∧ a.watch = b.watch ∧ a.path = b.path ∧ a.perm = b.perm ∧ a.key = b.key := by
  cases a; cases b; simp
theorem rul_dec (a b : Rul) : decide (a = b) = decide (a.list = b.list ∧ a.action = b.action ∧ a.calls = b.calls ∧ a.tests = b.tests ∧ a.watch = b.watch ∧ a.path = b.path ∧ a.perm = b.perm ∧ a.key = b.key) := decide_eq_decide.2 (rul_iff a b)
theorem PruleEqual (a b : Rul) (ha : a.tests.length ≤ 1000) : AFn Tryz.prog 69 [.agg (rulA a), .agg (rulA b)] (fun x => x = .v (.bool (decide (a = b)))) := by
  refine enter Tryz.func69 rfl rfl rfl rfl rfl 0 rfl ?_
  refine aw_seq (fun K hK => ?_)
  refine aw_region ?_
  first | refine al_p rfl (s_boxA rfl rfl (by repeat constructor) ?_) | refine al_p rfl (s_box rfl rfl (by repeat constructor) ?_)
  first | refine al_p rfl (s_boxA rfl rfl (by repeat constructor) ?_) | refine al_p rfl (s_box rfl rfl (by repeat constructor) ?_)
  refine al_p rfl (st_assign rfl ?_)
  refine al_nil ?_
  refine x_then ?_
  refine hK _ ?_
  clear hK K
  refine aw_seq (fun K hK => ?_)
  refine aw_region ?_
  refine al_p rfl (st_fieldB rfl ?_)
  refine al_p rfl (st_loadB1 rfl rfl rfl ?_)
  refine al_p rfl (st_fieldB rfl ?_)
  refine al_p rfl (st_loadB1 rfl rfl rfl ?_)
  first | refine al_p rfl (st_eql rfl rfl ?_) | refine al_p rfl (st_eqlS rfl rfl ?_) | refine al_p rfl (st_eqlB (by kernel_rfl) rfl rfl ?_)
  refine al_p rfl (st_move rfl ?_)
  refine al_gs true rfl rfl (fun hb1 => ?_) (fun hb1 => ?_)
  · have hc1 := bp hb1
    refine g_y (st_fieldB rfl ?_)
    refine g_y (st_loadB1 rfl rfl rfl ?_)
    refine g_y (st_fieldB rfl ?_)
    refine g_y (st_loadB1 rfl rfl rfl ?_)
    first | refine g_y (st_eql rfl rfl ?_) | refine g_y (st_eqlS rfl rfl ?_) | refine g_y (st_eqlB (by kernel_rfl) rfl rfl ?_)
    refine al_p rfl (p_t ?_)
    refine al_p rfl (st_move rfl ?_)
    refine al_gs true rfl rfl (fun hb2 => ?_) (fun hb2 => ?_)
    · have hc2 := bp hb2
      refine g_y (st_fieldB rfl ?_)
      refine g_y (st_loadB1 rfl rfl rfl ?_)
      refine g_y (st_fieldB rfl ?_)
      refine g_y (st_loadB1 rfl rfl rfl ?_)
      first | refine g_y (st_eql rfl rfl ?_) | refine g_y (st_eqlS rfl rfl ?_) | refine g_y (st_eqlB (by kernel_rfl) rfl rfl ?_)
      refine al_p rfl (p_t ?_)
      refine al_p rfl (st_move rfl ?_)
      refine al_gs true rfl rfl (fun hb3 => ?_) (fun hb3 => ?_)
      · have hc3 := bp hb3
        refine g_y (st_fieldB rfl ?_)
        refine g_y (st_loadB1 rfl rfl rfl ?_)
        refine g_y (st_fieldB rfl ?_)
        refine g_y (st_loadB1 rfl rfl rfl ?_)
        refine g_y (q_call (Pequals a.tests b.tests ha) ?_)
        rintro r rfl
        refine al_p rfl (p_t ?_)
        refine al_p rfl (st_move rfl ?_)
        refine al_gs true rfl rfl (fun hb4 => ?_) (fun hb4 => ?_)
        · have hc4 := bp hb4
          refine g_y (st_fieldB rfl ?_)
          refine g_y (st_loadB1 rfl rfl rfl ?_)
          refine g_y (st_fieldB rfl ?_)
          refine g_y (st_loadB1 rfl rfl rfl ?_)
          first | refine g_y (st_eql rfl rfl ?_) | refine g_y (st_eqlS rfl rfl ?_) | refine g_y (st_eqlB (by kernel_rfl) rfl rfl ?_)
          refine al_p rfl (p_t ?_)
          refine al_p rfl (st_move rfl ?_)
          refine al_gs true rfl rfl (fun hb5 => ?_) (fun hb5 => ?_)
          · have hc5 := bp hb5
            refine g_y (st_fieldB rfl ?_)
            refine g_y (st_loadB1 rfl rfl rfl ?_)
            refine g_y (st_fieldB rfl ?_)
            refine g_y (st_loadB1 rfl rfl rfl ?_)
            first | refine g_y (st_eql rfl rfl ?_) | refine g_y (st_eqlS rfl rfl ?_) | refine g_y (st_eqlB (by kernel_rfl) rfl rfl ?_)
            refine al_p rfl (p_t ?_)
            refine al_p rfl (st_move rfl ?_)
            refine al_gs true rfl rfl (fun hb6 => ?_) (fun hb6 => ?_)
            · have hc6 := bp hb6
              refine g_y (st_fieldB rfl ?_)
              refine g_y (st_loadB1 rfl rfl rfl ?_)
              refine g_y (st_fieldB rfl ?_)
              refine g_y (st_loadB1 rfl rfl rfl ?_)
              first | refine g_y (st_eql rfl rfl ?_) | refine g_y (st_eqlS rfl rfl ?_) | refine g_y (st_eqlB (by kernel_rfl) rfl rfl ?_)
              refine al_p rfl (p_t ?_)
              refine al_p rfl (st_move rfl ?_)
              refine al_gs true rfl rfl (fun hb7 => ?_) (fun hb7 => ?_)
              · have hc7 := bp hb7
                refine g_y (st_fieldB rfl ?_)
                refine g_y (st_loadB1 rfl rfl rfl ?_)
                refine g_y (st_fieldB rfl ?_)
                refine g_y (st_loadB1 rfl rfl rfl ?_)
                first | refine g_y (st_eql rfl rfl ?_) | refine g_y (st_eqlS rfl rfl ?_) | refine g_y (st_eqlB (by kernel_rfl) rfl rfl ?_)
                refine al_p rfl (p_t ?_)
                refine al_p rfl (st_assign rfl ?_)
                refine al_nil ?_
                refine x_then ?_
                refine hK _ ?_
                clear hK K
                refine aw_ret ?_
                refine e_ret ?_
                first | (exfalso; first | contradiction | omega) | (exact vb (by rw [rul_dec]; simp [*]))
              · have hc7 := bp hb7
                refine g_n ?_
                refine g_n ?_
                refine g_n ?_
                refine g_n ?_
                refine g_n ?_
                refine al_p rfl (p_f ?_)
                refine al_p rfl (st_assign rfl ?_)
                refine al_nil ?_
                refine x_then ?_
                refine hK _ ?_
                clear hK K
                refine aw_ret ?_
                refine e_ret ?_
                first | (exfalso; first | contradiction | omega) | (exact vb (by rw [rul_dec]; simp [*]))
            · have hc6 := bp hb6
              refine g_n ?_
              refine g_n ?_
              refine g_n ?_
              refine g_n ?_
              refine g_n ?_
              refine al_p rfl (p_f ?_)
              refine al_p rfl (st_move rfl ?_)
              refine g_n ?_
              refine g_n ?_
              refine g_n ?_
              refine g_n ?_
              refine g_n ?_
              refine al_p rfl (p_f ?_)
              refine al_p rfl (st_assign rfl ?_)
              refine al_nil ?_
              refine x_then ?_
              refine hK _ ?_
              clear hK K
              refine aw_ret ?_
              refine e_ret ?_
              first | (exfalso; first | contradiction | omega) | (exact vb (by rw [rul_dec]; simp [*]))
          · have hc5 := bp hb5
            refine g_n ?_
            refine g_n ?_
            refine g_n ?_
            refine g_n ?_
            refine g_n ?_
            refine al_p rfl (p_f ?_)
            refine al_p rfl (st_move rfl ?_)
            refine g_n ?_
            refine g_n ?_
            refine g_n ?_
            refine g_n ?_
            refine g_n ?_
            refine al_p rfl (p_f ?_)
            refine al_p rfl (st_move rfl ?_)
            refine g_n ?_
            refine g_n ?_
            refine g_n ?_
            refine g_n ?_
            refine g_n ?_
            refine al_p rfl (p_f ?_)
            refine al_p rfl (st_assign rfl ?_)
            refine al_nil ?_
            refine x_then ?_
            refine hK _ ?_
            clear hK K
            refine aw_ret ?_
            refine e_ret ?_
            first | (exfalso; first | contradiction | omega) | (exact vb (by rw [rul_dec]; simp [*]))
        · have hc4 := bp hb4
          refine g_n ?_
          refine g_n ?_
          refine g_n ?_
          refine g_n ?_
          refine g_n ?_
          refine al_p rfl (p_f ?_)
          refine al_p rfl (st_move rfl ?_)
          refine g_n ?_
          refine g_n ?_
          refine g_n ?_
          refine g_n ?_
          refine g_n ?_
          refine al_p rfl (p_f ?_)
          refine al_p rfl (st_move rfl ?_)
          refine g_n ?_
          refine g_n ?_
          refine g_n ?_
          refine g_n ?_
          refine g_n ?_
          refine al_p rfl (p_f ?_)
          refine al_p rfl (st_move rfl ?_)
          refine g_n ?_
          refine g_n ?_
          refine g_n ?_
          refine g_n ?_
          refine g_n ?_
          refine al_p rfl (p_f ?_)
          refine al_p rfl (st_assign rfl ?_)
          refine al_nil ?_
          refine x_then ?_
          refine hK _ ?_
          clear hK K
          refine aw_ret ?_
          refine e_ret ?_
          first | (exfalso; first | contradiction | omega) | (exact vb (by rw [rul_dec]; simp [*]))
      · have hc3 := bp hb3
        refine g_n ?_
        refine g_n ?_
        refine g_n ?_
        refine g_n ?_
        refine g_n ?_
        refine al_p rfl (p_f ?_)
        refine al_p rfl (st_move rfl ?_)
        refine g_n ?_
        refine g_n ?_
        refine g_n ?_
        refine g_n ?_
        refine g_n ?_
        refine al_p rfl (p_f ?_)
        refine al_p rfl (st_move rfl ?_)
        refine g_n ?_
        refine g_n ?_
        refine g_n ?_
        refine g_n ?_
        refine g_n ?_
        refine al_p rfl (p_f ?_)
        refine al_p rfl (st_move rfl ?_)
        refine g_n ?_
        refine g_n ?_
        refine g_n ?_
        refine g_n ?_
        refine g_n ?_
        refine al_p rfl (p_f ?_)
        refine al_p rfl (st_move rfl ?_)
        refine g_n ?_
        refine g_n ?_
        refine g_n ?_
        refine g_n ?_
        refine g_n ?_
        refine al_p rfl (p_f ?_)
        refine al_p rfl (st_assign rfl ?_)
        refine al_nil ?_
        refine x_then ?_
        refine hK _ ?_
        clear hK K
        refine aw_ret ?_
        refine e_ret ?_
        first | (exfalso; first | contradiction | omega) | (exact vb (by rw [rul_dec]; simp [*]))
    · have hc2 := bp hb2
      refine g_n ?_
      refine g_n ?_
      refine g_n ?_
      refine g_n ?_
      refine g_n ?_
      refine al_p rfl (p_f ?_)
      refine al_p rfl (st_move rfl ?_)
      refine g_n ?_
      refine g_n ?_
      refine g_n ?_
      refine g_n ?_
      refine g_n ?_
      refine al_p rfl (p_f ?_)
      refine al_p rfl (st_move rfl ?_)
      refine g_n ?_
      refine g_n ?_
      refine g_n ?_
      refine g_n ?_
      refine g_n ?_
      refine al_p rfl (p_f ?_)
      refine al_p rfl (st_move rfl ?_)
      refine g_n ?_
      refine g_n ?_
      refine g_n ?_
      refine g_n ?_
      refine g_n ?_
      refine al_p rfl (p_f ?_)
      refine al_p rfl (st_move rfl ?_)
      refine g_n ?_
      refine g_n ?_
      refine g_n ?_
      refine g_n ?_
      refine g_n ?_
      refine al_p rfl (p_f ?_)
      refine al_p rfl (st_move rfl ?_)
      refine g_n ?_
      refine g_n ?_
      refine g_n ?_
      refine g_n ?_
      refine g_n ?_
      refine al_p rfl (p_f ?_)
      refine al_p rfl (st_assign rfl ?_)
      refine al_nil ?_
      refine x_then ?_
      refine hK _ ?_
      clear hK K
      refine aw_ret ?_
      refine e_ret ?_
      first | (exfalso; first | contradiction | omega) | (exact vb (by rw [rul_dec]; simp [*]))
  · have hc1 := bp hb1
    refine g_n ?_
    refine g_n ?_
    refine g_n ?_
    refine g_n ?_
    refine g_n ?_
    refine al_p rfl (p_f ?_)
    refine al_p rfl (st_move rfl ?_)
    refine g_n ?_
    refine g_n ?_
    refine g_n ?_
    refine g_n ?_
    refine g_n ?_
    refine al_p rfl (p_f ?_)
    refine al_p rfl (st_move rfl ?_)
    refine g_n ?_
    refine g_n ?_
    refine g_n ?_
    refine g_n ?_
    refine g_n ?_
    refine al_p rfl (p_f ?_)
    refine al_p rfl (st_move rfl ?_)
    refine g_n ?_
    refine g_n ?_
    refine g_n ?_
    refine g_n ?_
    refine g_n ?_
    refine al_p rfl (p_f ?_)
    refine al_p rfl (st_move rfl ?_)
    refine g_n ?_
    refine g_n ?_
    refine g_n ?_
    refine g_n ?_
    refine g_n ?_
    refine al_p rfl (p_f ?_)
    refine al_p rfl (st_move rfl ?_)
    refine g_n ?_
    refine g_n ?_
    refine g_n ?_
    refine g_n ?_
    refine g_n ?_
    refine al_p rfl (p_f ?_)
    refine al_p rfl (st_move rfl ?_)
    refine g_n ?_
    refine g_n ?_
    refine g_n ?_
    refine g_n ?_
    refine g_n ?_
    refine al_p rfl (p_f ?_)
    refine al_p rfl (st_assign rfl ?_)
    refine al_nil ?_
    refine x_then ?_
    refine hK _ ?_
    clear hK K
    refine aw_ret ?_
    refine e_ret ?_
    first | (exfalso; first | contradiction | omega) | (exact vb (by rw [rul_dec]; simp [*]))

theorem RruleEqual (a b : Rul) (ha : a.tests.length ≤ 1000) : AFn Tryz.prog 53 [.agg (rulA a), .agg (rulA b)] (fun x => x = .v (.bool (decide (a = b)))) := by
  refine enter Tryz.func53 rfl rfl rfl rfl rfl 0 rfl ?_
  refine aw_seq (fun K hK => ?_)
  refine aw_region ?_
  first | refine al_p rfl (s_boxA rfl rfl (by repeat constructor) ?_) | refine al_p rfl (s_box rfl rfl (by repeat constructor) ?_)
  first | refine al_p rfl (s_boxA rfl rfl (by repeat constructor) ?_) | refine al_p rfl (s_box rfl rfl (by repeat constructor) ?_)
  refine al_p rfl (st_assign rfl ?_)
  refine al_nil ?_
  refine x_then ?_
  refine hK _ ?_
  clear hK K
  refine aw_seq (fun K hK => ?_)
  refine aw_mid (⟨look [(2, .bp 0 0), (3, .bp 1 0), (61, .v (.bool (!decide (a.list = b.list ∧ a.action = b.action ∧ a.calls = b.calls ∧ a.watch = b.watch ∧ a.path = b.path ∧ a.perm = b.perm ∧ a.key = b.key ∧ (a.tests.length : Int) = (b.tests.length : Int)))))], ⟨[rulA a, rulA b], []⟩⟩) ?_ ?_
  · skip
    refine aw_region ?_
    refine al_p rfl (st_fieldB rfl ?_)
    refine al_p rfl (st_loadB1 rfl rfl rfl ?_)
    refine al_p rfl (st_fieldB rfl ?_)
    refine al_p rfl (st_loadB1 rfl rfl rfl ?_)
    first | refine al_p rfl (st_neq rfl rfl ?_) | refine al_p rfl (st_neqS rfl rfl ?_) | refine al_p rfl (st_neqB (by kernel_rfl) rfl rfl ?_)
    refine al_p rfl (st_move rfl ?_)
    refine al_gs false rfl rfl (fun hb1 => ?_) (fun hb1 => ?_)
    · have hc1 := bp hb1
      refine g_n ?_
      refine g_n ?_
      refine g_n ?_
      refine g_n ?_
      refine g_n ?_
      refine al_p rfl (p_t ?_)
      refine al_p rfl (st_move rfl ?_)
      refine g_n ?_
      refine g_n ?_
      refine g_n ?_
      refine g_n ?_
      refine g_n ?_
      refine al_p rfl (p_t ?_)
      refine al_p rfl (st_move rfl ?_)
      refine g_n ?_
      refine g_n ?_
      refine g_n ?_
      refine g_n ?_
      refine g_n ?_
      refine al_p rfl (p_t ?_)
      refine al_p rfl (st_move rfl ?_)
      refine g_n ?_
      refine g_n ?_
      refine g_n ?_
      refine g_n ?_
      refine g_n ?_
      refine al_p rfl (p_t ?_)
      refine al_p rfl (st_move rfl ?_)
      refine g_n ?_
      refine g_n ?_
      refine g_n ?_
      refine g_n ?_
      refine g_n ?_
      refine al_p rfl (p_t ?_)
      refine al_p rfl (st_move rfl ?_)
      refine g_n ?_
      refine g_n ?_
      refine g_n ?_
      refine g_n ?_
      refine g_n ?_
      refine al_p rfl (p_t ?_)
      refine al_p rfl (st_move rfl ?_)
      refine g_n ?_
      refine g_n ?_
      refine g_n ?_
      refine g_n ?_
      refine g_n ?_
      refine g_n ?_
      refine g_n ?_
      refine al_p rfl (p_t ?_)
      refine al_nil ?_
      refine x_then ?_
      first | (exfalso; first | contradiction | omega) | exact weak_of 2 0 rfl rfl rfl rfl (by repeat (first | exact Sub.nil | refine Sub.cons _ _ _ rfl rfl ?_ | refine Sub.any _ _ ?_ | refine Sub.sl _ _ _ _ _ rfl ?_ | refine Sub.slnil _ _ _ rfl ?_ | (apply Sub.of; (focus exact rfl); (focus exact LeA.of_eq (vb (by simp [*]))); (focus exact rfl))))
    · have hc1 := bp hb1
      refine g_y (st_fieldB rfl ?_)
      refine g_y (st_loadB1 rfl rfl rfl ?_)
      refine g_y (st_fieldB rfl ?_)
      refine g_y (st_loadB1 rfl rfl rfl ?_)
      first | refine g_y (st_neq rfl rfl ?_) | refine g_y (st_neqS rfl rfl ?_) | refine g_y (st_neqB (by kernel_rfl) rfl rfl ?_)
      refine al_p rfl (p_f ?_)
      refine al_p rfl (st_move rfl ?_)
      refine al_gs false rfl rfl (fun hb2 => ?_) (fun hb2 => ?_)
      · have hc2 := bp hb2
        refine g_n ?_
        refine g_n ?_
        refine g_n ?_
        refine g_n ?_
        refine g_n ?_
        refine al_p rfl (p_t ?_)
        refine al_p rfl (st_move rfl ?_)
        refine g_n ?_
        refine g_n ?_
        refine g_n ?_
        refine g_n ?_
        refine g_n ?_
        refine al_p rfl (p_t ?_)
        refine al_p rfl (st_move rfl ?_)
        refine g_n ?_
        refine g_n ?_
        refine g_n ?_
        refine g_n ?_
        refine g_n ?_
        refine al_p rfl (p_t ?_)
        refine al_p rfl (st_move rfl ?_)
        refine g_n ?_
        refine g_n ?_
        refine g_n ?_
        refine g_n ?_
        refine g_n ?_
        refine al_p rfl (p_t ?_)
        refine al_p rfl (st_move rfl ?_)
        refine g_n ?_
        refine g_n ?_
        refine g_n ?_
        refine g_n ?_
        refine g_n ?_
        refine al_p rfl (p_t ?_)
        refine al_p rfl (st_move rfl ?_)
        refine g_n ?_
        refine g_n ?_
        refine g_n ?_
        refine g_n ?_
        refine g_n ?_
        refine g_n ?_
        refine g_n ?_
        refine al_p rfl (p_t ?_)
        refine al_nil ?_
        refine x_then ?_
        first | (exfalso; first | contradiction | omega) | exact weak_of 2 0 rfl rfl rfl rfl (by repeat (first | exact Sub.nil | refine Sub.cons _ _ _ rfl rfl ?_ | refine Sub.any _ _ ?_ | refine Sub.sl _ _ _ _ _ rfl ?_ | refine Sub.slnil _ _ _ rfl ?_ | (apply Sub.of; (focus exact rfl); (focus exact LeA.of_eq (vb (by simp [*]))); (focus exact rfl))))
      · have hc2 := bp hb2
        refine g_y (st_fieldB rfl ?_)
        refine g_y (st_loadB1 rfl rfl rfl ?_)
        refine g_y (st_fieldB rfl ?_)
        refine g_y (st_loadB1 rfl rfl rfl ?_)
        first | refine g_y (st_neq rfl rfl ?_) | refine g_y (st_neqS rfl rfl ?_) | refine g_y (st_neqB (by kernel_rfl) rfl rfl ?_)
        refine al_p rfl (p_f ?_)
        refine al_p rfl (st_move rfl ?_)
        refine al_gs false rfl rfl (fun hb3 => ?_) (fun hb3 => ?_)
        · have hc3 := bp hb3
          refine g_n ?_
          refine g_n ?_
          refine g_n ?_
          refine g_n ?_
          refine g_n ?_
          refine al_p rfl (p_t ?_)
          refine al_p rfl (st_move rfl ?_)
          refine g_n ?_
          refine g_n ?_
          refine g_n ?_
          refine g_n ?_
          refine g_n ?_
          refine al_p rfl (p_t ?_)
          refine al_p rfl (st_move rfl ?_)
          refine g_n ?_
          refine g_n ?_
          refine g_n ?_
          refine g_n ?_
          refine g_n ?_
          refine al_p rfl (p_t ?_)
          refine al_p rfl (st_move rfl ?_)
          refine g_n ?_
          refine g_n ?_
          refine g_n ?_
          refine g_n ?_
          refine g_n ?_
          refine al_p rfl (p_t ?_)
          refine al_p rfl (st_move rfl ?_)
          refine g_n ?_
          refine g_n ?_
          refine g_n ?_
          refine g_n ?_
          refine g_n ?_
          refine g_n ?_
          refine g_n ?_
          refine al_p rfl (p_t ?_)
          refine al_nil ?_
          refine x_then ?_
          first | (exfalso; first | contradiction | omega) | exact weak_of 2 0 rfl rfl rfl rfl (by repeat (first | exact Sub.nil | refine Sub.cons _ _ _ rfl rfl ?_ | refine Sub.any _ _ ?_ | refine Sub.sl _ _ _ _ _ rfl ?_ | refine Sub.slnil _ _ _ rfl ?_ | (apply Sub.of; (focus exact rfl); (focus exact LeA.of_eq (vb (by simp [*]))); (focus exact rfl))))
        · have hc3 := bp hb3
          refine g_y (st_fieldB rfl ?_)
          refine g_y (st_loadB1 rfl rfl rfl ?_)
          refine g_y (st_fieldB rfl ?_)
          refine g_y (st_loadB1 rfl rfl rfl ?_)
          first | refine g_y (st_neq rfl rfl ?_) | refine g_y (st_neqS rfl rfl ?_) | refine g_y (st_neqB (by kernel_rfl) rfl rfl ?_)
          refine al_p rfl (p_f ?_)
          refine al_p rfl (st_move rfl ?_)
          refine al_gs false rfl rfl (fun hb4 => ?_) (fun hb4 => ?_)
          · have hc4 := bp hb4
            refine g_n ?_
            refine g_n ?_
            refine g_n ?_
            refine g_n ?_
            refine g_n ?_
            refine al_p rfl (p_t ?_)
            refine al_p rfl (st_move rfl ?_)
            refine g_n ?_
            refine g_n ?_
            refine g_n ?_
            refine g_n ?_
            refine g_n ?_
            refine al_p rfl (p_t ?_)
            refine al_p rfl (st_move rfl ?_)
            refine g_n ?_
            refine g_n ?_
            refine g_n ?_
            refine g_n ?_
            refine g_n ?_
            refine al_p rfl (p_t ?_)
            refine al_p rfl (st_move rfl ?_)
            refine g_n ?_
            refine g_n ?_
            refine g_n ?_
            refine g_n ?_
            refine g_n ?_
            refine g_n ?_
            refine g_n ?_
            refine al_p rfl (p_t ?_)
            refine al_nil ?_
            refine x_then ?_
            first | (exfalso; first | contradiction | omega) | exact weak_of 2 0 rfl rfl rfl rfl (by repeat (first | exact Sub.nil | refine Sub.cons _ _ _ rfl rfl ?_ | refine Sub.any _ _ ?_ | refine Sub.sl _ _ _ _ _ rfl ?_ | refine Sub.slnil _ _ _ rfl ?_ | (apply Sub.of; (focus exact rfl); (focus exact LeA.of_eq (vb (by simp [*]))); (focus exact rfl))))
          · have hc4 := bp hb4
            refine g_y (st_fieldB rfl ?_)
            refine g_y (st_loadB1 rfl rfl rfl ?_)
            refine g_y (st_fieldB rfl ?_)
            refine g_y (st_loadB1 rfl rfl rfl ?_)
            first | refine g_y (st_neq rfl rfl ?_) | refine g_y (st_neqS rfl rfl ?_) | refine g_y (st_neqB (by kernel_rfl) rfl rfl ?_)
            refine al_p rfl (p_f ?_)
            refine al_p rfl (st_move rfl ?_)
            refine al_gs false rfl rfl (fun hb5 => ?_) (fun hb5 => ?_)
            · have hc5 := bp hb5
              refine g_n ?_
              refine g_n ?_
              refine g_n ?_
              refine g_n ?_
              refine g_n ?_
              refine al_p rfl (p_t ?_)
              refine al_p rfl (st_move rfl ?_)
              refine g_n ?_
              refine g_n ?_
              refine g_n ?_
              refine g_n ?_
              refine g_n ?_
              refine al_p rfl (p_t ?_)
              refine al_p rfl (st_move rfl ?_)
              refine g_n ?_
              refine g_n ?_
              refine g_n ?_
              refine g_n ?_
              refine g_n ?_
              refine g_n ?_
              refine g_n ?_
              refine al_p rfl (p_t ?_)
              refine al_nil ?_
              refine x_then ?_
              first | (exfalso; first | contradiction | omega) | exact weak_of 2 0 rfl rfl rfl rfl (by repeat (first | exact Sub.nil | refine Sub.cons _ _ _ rfl rfl ?_ | refine Sub.any _ _ ?_ | refine Sub.sl _ _ _ _ _ rfl ?_ | refine Sub.slnil _ _ _ rfl ?_ | (apply Sub.of; (focus exact rfl); (focus exact LeA.of_eq (vb (by simp [*]))); (focus exact rfl))))
            · have hc5 := bp hb5
              refine g_y (st_fieldB rfl ?_)
              refine g_y (st_loadB1 rfl rfl rfl ?_)
              refine g_y (st_fieldB rfl ?_)
              refine g_y (st_loadB1 rfl rfl rfl ?_)
              first | refine g_y (st_neq rfl rfl ?_) | refine g_y (st_neqS rfl rfl ?_) | refine g_y (st_neqB (by kernel_rfl) rfl rfl ?_)
              refine al_p rfl (p_f ?_)
              refine al_p rfl (st_move rfl ?_)
              refine al_gs false rfl rfl (fun hb6 => ?_) (fun hb6 => ?_)
              · have hc6 := bp hb6
                refine g_n ?_
                refine g_n ?_
                refine g_n ?_
                refine g_n ?_
                refine g_n ?_
                refine al_p rfl (p_t ?_)
                refine al_p rfl (st_move rfl ?_)
                refine g_n ?_
                refine g_n ?_
                refine g_n ?_
                refine g_n ?_
                refine g_n ?_
                refine g_n ?_
                refine g_n ?_
                refine al_p rfl (p_t ?_)
                refine al_nil ?_
                refine x_then ?_
                first | (exfalso; first | contradiction | omega) | exact weak_of 2 0 rfl rfl rfl rfl (by repeat (first | exact Sub.nil | refine Sub.cons _ _ _ rfl rfl ?_ | refine Sub.any _ _ ?_ | refine Sub.sl _ _ _ _ _ rfl ?_ | refine Sub.slnil _ _ _ rfl ?_ | (apply Sub.of; (focus exact rfl); (focus exact LeA.of_eq (vb (by simp [*]))); (focus exact rfl))))
              · have hc6 := bp hb6
                refine g_y (st_fieldB rfl ?_)
                refine g_y (st_loadB1 rfl rfl rfl ?_)
                refine g_y (st_fieldB rfl ?_)
                refine g_y (st_loadB1 rfl rfl rfl ?_)
                first | refine g_y (st_neq rfl rfl ?_) | refine g_y (st_neqS rfl rfl ?_) | refine g_y (st_neqB (by kernel_rfl) rfl rfl ?_)
                refine al_p rfl (p_f ?_)
                refine al_p rfl (st_move rfl ?_)
                refine al_gs false rfl rfl (fun hb7 => ?_) (fun hb7 => ?_)
                · have hc7 := bp hb7
                  refine g_n ?_
                  refine g_n ?_
                  refine g_n ?_
                  refine g_n ?_
                  refine g_n ?_
                  refine g_n ?_
                  refine g_n ?_
                  refine al_p rfl (p_t ?_)
                  refine al_nil ?_
                  refine x_then ?_
                  first | (exfalso; first | contradiction | omega) | exact weak_of 2 0 rfl rfl rfl rfl (by repeat (first | exact Sub.nil | refine Sub.cons _ _ _ rfl rfl ?_ | refine Sub.any _ _ ?_ | refine Sub.sl _ _ _ _ _ rfl ?_ | refine Sub.slnil _ _ _ rfl ?_ | (apply Sub.of; (focus exact rfl); (focus exact LeA.of_eq (vb (by simp [*]))); (focus exact rfl))))
                · have hc7 := bp hb7
                  refine g_y (st_fieldB rfl ?_)
                  refine g_y (st_loadB1 rfl rfl rfl ?_)
                  first | refine g_y (st_len rfl ?_) | refine g_y (st_lenS (by kernel_rfl) rfl ?_) | refine g_y (st_len0 rfl ?_)
                  refine g_y (st_fieldB rfl ?_)
                  refine g_y (st_loadB1 rfl rfl rfl ?_)
                  first | refine g_y (st_len rfl ?_) | refine g_y (st_lenS (by kernel_rfl) rfl ?_) | refine g_y (st_len0 rfl ?_)
                  first | refine g_y (st_neq rfl rfl ?_) | refine g_y (st_neqS rfl rfl ?_) | refine g_y (st_neqB (by kernel_rfl) rfl rfl ?_)
                  refine al_p rfl (p_f ?_)
                  refine al_nil ?_
                  refine x_then ?_
                  first | (exfalso; first | contradiction | omega) | exact weak_of 2 0 rfl rfl rfl rfl (by repeat (first | exact Sub.nil | refine Sub.cons _ _ _ rfl rfl ?_ | refine Sub.any _ _ ?_ | refine Sub.sl _ _ _ _ _ rfl ?_ | refine Sub.slnil _ _ _ rfl ?_ | (apply Sub.of; (focus exact rfl); (focus exact LeA.of_eq (vb (by simp [*]))); (focus exact rfl))))
  · skip
    refine aw_cond rfl (fun hb8 => ?_) (fun hb8 => ?_)
    · have hc8 := bp hb8
      have hne : a ≠ b := by rintro rfl; simp at hc8
      refine aw_seq (fun K hK => ?_)
      refine aw_region ?_
      refine al_p rfl (st_assign rfl ?_)
      refine al_nil ?_
      refine x_then ?_
      refine hK _ ?_
      clear hK K
      refine aw_ret ?_
      refine x_thenR ?_
      clear hK K
      refine e_ret ?_
      first | (exfalso; first | contradiction | omega) | (exact vb (by simp [hne]))
    · have hc8 := bp hb8
      have hq : a.list = b.list ∧ a.action = b.action ∧ a.calls = b.calls ∧ a.watch = b.watch ∧ a.path = b.path ∧ a.perm = b.perm ∧ a.key = b.key ∧ (a.tests.length : Int) = (b.tests.length : Int) := by simpa using hc8
      obtain ⟨q1, q2, q3, q4, q5, q6, q7, q8⟩ := hq
      have hl : a.tests.length = b.tests.length := by omega
      refine aw_skip ?_
      refine x_then ?_
      refine hK _ ?_
      clear hK K
      refine aw_seq (fun K hK => ?_)
      refine aw_seq (fun K hK => ?_)
      refine aw_region ?_
      refine al_p rfl (st_assign rfl ?_)
      refine al_nil ?_
      refine x_then ?_
      refine hK _ ?_
      clear hK K
      refine aw_block ?_
      refine aw_loopW (fun n s => ∃ j : Nat, j ≤ a.tests.length ∧ n = a.tests.length - j ∧ decide (a.tests.drop j = b.tests.drop j) = decide (a.tests = b.tests) ∧ s = ⟨look [(2, .bp 0 0), (3, .bp 1 0), (5, .v (.int .i64 (j : Int)))], ⟨[rulA a, rulA b], []⟩⟩) (a.tests.length) ((wk 2 0)) (⟨0, by omega, rfl, rfl, rfl⟩) ?_
      rintro n s ⟨j, hj, rfl, hd, rfl⟩
      refine aw_seq (fun K hK => ?_)
      refine aw_seq (fun K hK => ?_)
      refine aw_region ?_
      refine al_p rfl (st_move rfl ?_)
      refine al_p rfl (st_fieldB rfl ?_)
      refine al_p rfl (st_loadB1 rfl rfl rfl ?_)
      first | refine al_p rfl (st_len rfl ?_) | refine al_p rfl (st_lenS (by kernel_rfl) rfl ?_) | refine al_p rfl (st_len0 rfl ?_)
      first | refine al_p rfl (st_lss rfl rfl ?_) | refine al_p rfl (st_lssS rfl rfl ?_)
      refine al_nil ?_
      refine x_then ?_
      refine hK _ ?_
      clear hK K
      refine aw_cond rfl (fun hb9 => ?_) (fun hb9 => ?_)
      · have hc9 := bp hb9
        obtain ⟨hlt, x, hx, hrow, -⟩ := row_at tstA hc9
        obtain ⟨hlt2, y, hy, hrow2, -⟩ := row_at tstA (l := b.tests) (k := j) (by simpa [hl] using hc9)
        refine aw_skip ?_
        refine x_then ?_
        refine hK _ ?_
        clear hK K
        refine aw_seq (fun K hK => ?_)
        refine aw_block ?_
        refine aw_seq (fun K hK => ?_)
        refine aw_drawR 11 (by kernel_rfl) ?_
        refine r_y (i := 0) rfl (st_fieldB rfl ⟨rfl, rfl⟩) ?_
        refine r_y (i := 1) rfl (st_loadB1 rfl rfl rfl ⟨rfl, rfl⟩) ?_
        refine r_y (i := 2) rfl (st_move rfl ⟨rfl, rfl⟩) ?_
        refine r_y (i := 3) rfl (st_index rfl rfl rfl (by first | assumption | rfl) ⟨rfl, rfl⟩) ?_
        refine r_y (i := 4) rfl (st_loadFW rfl rfl ⟨rfl, rfl⟩) ?_
        refine r_y (i := 5) rfl (st_fieldB rfl ⟨rfl, rfl⟩) ?_
        refine r_y (i := 6) rfl (st_loadB1 rfl rfl rfl ⟨rfl, rfl⟩) ?_
        refine r_y (i := 7) rfl (st_move rfl ⟨rfl, rfl⟩) ?_
        refine r_y (i := 8) rfl (st_index rfl rfl rfl (by first | assumption | rfl) ⟨rfl, rfl⟩) ?_
        refine r_y (i := 9) rfl (st_loadFW rfl rfl ⟨rfl, rfl⟩) ?_
        refine r_y (i := 10) rfl (st_binA rfl rfl (by repeat constructor) (by repeat constructor) (fun w => neqTst x y w) (by kernel_rfl) ⟨rfl, rfl⟩) ?_
        refine aa_done (by kernel_rfl) ?_ _
        refine x_then ?_
        refine hK _ ?_
        clear hK K
        refine aw_cond rfl (fun hb10 => ?_) (fun hb10 => ?_)
        · have hc10 := bp hb10
          have ht : decide (a.tests = b.tests) = false := by rw [← hd, eq_drop hx hy]; simp [hc10]
          refine aw_seq (fun K hK => ?_)
          refine aw_region ?_
          refine al_p rfl (st_assign rfl ?_)
          refine al_nil ?_
          refine x_then ?_
          refine hK _ ?_
          clear hK K
          refine aw_ret ?_
          refine x_blockR ?_
          refine x_thenR ?_
          clear hK K
          refine x_thenR ?_
          refine x_blockR ?_
          refine x_thenR ?_
          clear hK K
          refine e_ret ?_
          first | (exfalso; first | contradiction | omega) | (exact vb (by rw [rul_dec]; simp at ht; simp [ht]))
        · have hc10 := bp hb10
          refine aw_skip ?_
          refine x_blockN ?_
          refine x_then ?_
          refine hK _ ?_
          clear hK K
          refine aw_region ?_
          refine al_p rfl (st_move rfl ?_)
          first | refine al_p rfl (st_add64 rfl rfl (by omega) ?_) | refine al_p rfl (st_addS rfl rfl (by omega) ?_) | refine al_p rfl (st_add rfl rfl ?_)
          refine al_p rfl (st_assign rfl ?_)
          refine al_nil ?_
          refine x_then ?_
          refine ⟨_, _, ?_, ⟨j + 1, by omega, rfl, (by rw [← hd, eq_drop hx hy, hc10]; simp), rfl⟩, (wk 2 0)⟩
          omega
      · have hc9 := bp hb9
        have e := row_no tstA hj hc9
        subst e
        have ht : decide (a.tests = b.tests) = true := by rw [← hd, List.drop_length, hl, List.drop_length]; rfl
        refine aw_exit ?_
        refine x_thenE ?_
        clear hK K
        refine x_thenE ?_
        refine ABlock_out ?_
        refine x_then ?_
        refine hK _ ?_
        clear hK K
        refine aw_seq (fun K hK => ?_)
        refine aw_region ?_
        refine al_p rfl (st_assign rfl ?_)
        refine al_nil ?_
        refine x_then ?_
        refine hK _ ?_
        clear hK K
        refine aw_ret ?_
        refine e_ret ?_
        first | (exfalso; first | contradiction | omega) | (exact vb (by rw [rul_dec]; simp at ht; simp [*]))

def findL (l : List Rul) (r : Rul) : Int := firstI (fun _ x => decide (x = r)) l 0
theorem Pfind1 (i : Nat) (x r : Rul) (hx : x.tests.length ≤ 1000) : AFn Tryz.prog 68 [.v (.int .i64 (i : Int)), .agg (rulA x), .fp (rulA r)] (fun y => y = .v (.bool (decide (x = r)))) := by
  refine enter Tryz.func68 rfl rfl rfl rfl rfl 0 rfl ?_
  refine aw_seq (fun K hK => ?_)
  refine aw_region ?_
  first | refine al_p rfl (s_boxA rfl rfl (by repeat constructor) ?_) | refine al_p rfl (s_box rfl rfl (by repeat constructor) ?_)
  refine al_p rfl (st_assign rfl ?_)
  refine al_nil ?_
  refine x_then ?_
  refine hK _ ?_
  clear hK K
  refine aw_seq (fun K hK => ?_)
  refine aw_region ?_
  refine al_p rfl (st_loadBW rfl rfl rfl ?_)
  first | refine al_p rfl (st_loadB1 rfl rfl rfl ?_) | refine al_p rfl (st_loadBW rfl rfl rfl ?_) | refine al_p rfl (st_loadF1 rfl rfl ?_) | refine al_p rfl (st_loadFW rfl rfl ?_) | refine al_p rfl (st_loadBN rfl rfl rfl ?_) | refine al_p rfl (st_loadFN rfl rfl ?_)
  refine al_p rfl (q_call (PruleEqual x r hx) ?_)
  rintro r rfl
  refine al_p rfl (st_assign rfl ?_)
  refine al_nil ?_
  refine x_then ?_
  refine hK _ ?_
  clear hK K
  refine aw_ret ?_
  refine e_ret ?_
  rfl

theorem Pfind (l : List Rul) (r : Rul) (hl : l.length ≤ 1000) (ht : ∀ r ∈ l, r.tests.length ≤ 1000) : AFn Tryz.prog 48 [.sl 8 (l.map rulA) none, .agg (rulA r)] (fun x => x = .v (.int .i64 (findL l r))) := by
  refine enter Tryz.func48 rfl rfl rfl rfl rfl 0 rfl ?_
  refine aw_seq (fun K hK => ?_)
  refine aw_region ?_
  first | refine al_p rfl (s_boxA rfl rfl (by repeat constructor) ?_) | refine al_p rfl (s_box rfl rfl (by repeat constructor) ?_)
  refine al_p rfl (st_assign rfl ?_)
  refine al_nil ?_
  refine x_then ?_
  refine hK _ ?_
  clear hK K
  refine aw_seq (fun K hK => ?_)
  refine aw_region ?_
  refine al_p rfl (st_move rfl ?_)
  refine al_p rfl (st_makeFunc rfl ?_)
  refine al_p rfl (s_callS rfl (by repeat (first | exact ArgsL.nil | refine ArgsL.cons _ _ _ _ _ rfl rfl ?_)) (Pfirst l hl (fun _ x => decide (x = r)) 68 [.fp (rulA r)] rfl rfl fun i x hi => Pfind1 i x r (ht x (List.mem_of_getElem? hi))) ?_)
  rintro x rfl
  refine ⟨rfl, ?_⟩
  refine al_p rfl (st_assign rfl ?_)
  refine al_nil ?_
  refine x_then ?_
  refine hK _ ?_
  clear hK K
  refine aw_ret ?_
  refine e_ret ?_
  rfl

theorem Rfind (l : List Rul) (r : Rul) (hl : l.length ≤ 1000) (ht : ∀ r ∈ l, r.tests.length ≤ 1000) : AFn Tryz.prog 30 [.sl 8 (l.map rulA) none, .agg (rulA r)] (fun x => x = .v (.int .i64 (findL l r))) := by
  refine enter Tryz.func30 rfl rfl rfl rfl rfl 0 rfl ?_
  refine aw_seq (fun K hK => ?_)
  refine aw_region ?_
  first | refine al_p rfl (s_boxA rfl rfl (by repeat constructor) ?_) | refine al_p rfl (s_box rfl rfl (by repeat constructor) ?_)
  refine al_p rfl (st_assign rfl ?_)
  refine al_nil ?_
  refine x_then ?_
  refine hK _ ?_
  clear hK K
  refine aw_seq (fun K hK => ?_)
  refine aw_seq (fun K hK => ?_)
  refine aw_region ?_
  refine al_p rfl (st_assign rfl ?_)
  refine al_nil ?_
  refine x_then ?_
  refine hK _ ?_
  clear hK K
  refine aw_block ?_
  refine aw_loopW (fun n s => ∃ j : Nat, j ≤ l.length ∧ n = l.length - j ∧ firstI (fun _ x => decide (x = r)) (l.drop j) j = findL l r ∧ s = ⟨look [(0, .sl 8 (l.map rulA) none), (3, .bp 0 0), (5, .v (.int .i64 (j : Int)))], ⟨[rulA r], []⟩⟩) (l.length) ((wk 1 0)) (⟨0, by omega, rfl, rfl, rfl⟩) ?_
  rintro n s ⟨j, hj, rfl, ha, rfl⟩
  refine aw_seq (fun K hK => ?_)
  refine aw_seq (fun K hK => ?_)
  refine aw_region ?_
  refine al_p rfl (st_move rfl ?_)
  refine al_p rfl (st_move rfl ?_)
  first | refine al_p rfl (st_len rfl ?_) | refine al_p rfl (st_lenS (by kernel_rfl) rfl ?_) | refine al_p rfl (st_len0 rfl ?_)
  first | refine al_p rfl (st_lss rfl rfl ?_) | refine al_p rfl (st_lssS rfl rfl ?_)
  refine al_nil ?_
  refine x_then ?_
  refine hK _ ?_
  clear hK K
  refine aw_cond rfl (fun hb1 => ?_) (fun hb1 => ?_)
  · have hc1 := bp hb1
    obtain ⟨hlt, x, hy, hrow, -⟩ := row_at rulA hc1
    refine aw_skip ?_
    refine x_then ?_
    refine hK _ ?_
    clear hK K
    refine aw_seq (fun K hK => ?_)
    refine aw_block ?_
    refine aw_seq (fun K hK => ?_)
    refine aw_drawR 6 (by kernel_rfl) ?_
    refine r_y (i := 0) rfl (st_move rfl ⟨rfl, rfl⟩) ?_
    refine r_y (i := 1) rfl (st_move rfl ⟨rfl, rfl⟩) ?_
    refine r_y (i := 2) rfl (st_index rfl rfl rfl (by first | assumption | rfl) ⟨rfl, rfl⟩) ?_
    refine r_y (i := 3) rfl (st_loadFW rfl rfl ⟨rfl, rfl⟩) ?_
    refine r_y (i := 4) rfl (st_loadBW rfl rfl rfl ⟨rfl, rfl⟩) ?_
    refine aa_c (i := 5) rfl rfl (by kernel_rfl) (by first | rfl | exact wan_y rfl rfl (beq_tt ‹_›) | exact wan_y rfl rfl (beq_ff ‹_›) | exact wan_y rfl rfl (by simp [*])) (q_call (RruleEqual x r (ht x (List.mem_of_getElem? hy))) ?_)
    rintro r rfl
    refine ⟨.inr rfl, ?_⟩
    refine aa_done (by kernel_rfl) ?_ _
    refine x_then ?_
    refine hK _ ?_
    clear hK K
    refine aw_cond rfl (fun hb2 => ?_) (fun hb2 => ?_)
    · have hc2 := bp hb2
      refine aw_seq (fun K hK => ?_)
      refine aw_region ?_
      refine al_p rfl (st_move rfl ?_)
      refine al_p rfl (st_assign rfl ?_)
      refine al_nil ?_
      refine x_then ?_
      refine hK _ ?_
      clear hK K
      refine aw_ret ?_
      refine x_blockR ?_
      refine x_thenR ?_
      clear hK K
      refine x_thenR ?_
      refine x_blockR ?_
      refine x_thenR ?_
      clear hK K
      refine e_ret ?_
      first | (exfalso; first | contradiction | omega) | (exact vi (by rw [← ha, firstI_at hy]; simp [hc2]))
    · have hc2 := bp hb2
      refine aw_skip ?_
      refine x_blockN ?_
      refine x_then ?_
      refine hK _ ?_
      clear hK K
      refine aw_region ?_
      refine al_p rfl (st_move rfl ?_)
      first | refine al_p rfl (st_add64 rfl rfl (by omega) ?_) | refine al_p rfl (st_addS rfl rfl (by omega) ?_) | refine al_p rfl (st_add rfl rfl ?_)
      refine al_p rfl (st_assign rfl ?_)
      refine al_nil ?_
      refine x_then ?_
      refine ⟨_, _, ?_, ⟨j + 1, by omega, rfl, (by rw [← ha, firstI_at hy]; simp [hc2]), rfl⟩, (wk 1 0)⟩
      omega
  · have hc1 := bp hb1
    have e := row_no rulA hj hc1
    subst e
    refine aw_exit ?_
    refine x_thenE ?_
    clear hK K
    refine x_thenE ?_
    refine ABlock_out ?_
    refine x_then ?_
    refine hK _ ?_
    clear hK K
    refine aw_seq (fun K hK => ?_)
    refine aw_region ?_
    refine al_p rfl (st_assign rfl ?_)
    refine al_nil ?_
    refine x_then ?_
    refine hK _ ?_
    clear hK K
    refine aw_ret ?_
    refine e_ret ?_
    first | (exfalso; first | contradiction | omega) | (exact vi (by rw [← ha, firstI_end]))

def lchkL (pre : List Rul) : List Rul → Int
  | [] => 0
  | r :: rs => if rchkL r ≠ 0 then rchkL r else if 0 ≤ findL pre r then 141 else lchkL (pre ++ [r]) rs
theorem lchk_at {l : List Rul} {j : Nat} {r : Rul} (h : l[j]? = some r) : lchkL (l.take j) (l.drop j) = if rchkL r ≠ 0 then rchkL r else if 0 ≤ findL (l.take j) r then 141 else lchkL (l.take (j + 1)) (l.drop (j + 1)) := by
  obtain ⟨hk, e⟩ := List.getElem?_eq_some_iff.1 h
  rw [List.drop_eq_getElem_cons hk, lchkL, e, List.take_succ_eq_append_getElem hk, e]
/-- The first error of a list of rules. -/
def rsChk (l : List Rul) : Int := if 24 < (l.length : Int) then 140 else lchkL [] l
theorem Pcheckl (l : List Rul) (hl : l.length ≤ 1000) (hi : ∀ r ∈ l, RulIn r) : AFn Tryz.prog 46 [.sl 8 (l.map rulA) none] (fun x => x = .v (.int .i64 (rsChk l))) := by
  have hfind : ∀ j r, AFn Tryz.prog 48 [.sl 8 ((l.map rulA).take j) none, .agg (rulA r)] (fun x => x = .v (.int .i64 (findL (l.take j) r))) := fun j r => by
    rw [← List.map_take]
    exact Pfind (l.take j) r (by simp; omega) fun x hx => (hi x (List.mem_of_mem_take hx)).2.2.2
  refine enter Tryz.func46 rfl rfl rfl rfl rfl 0 rfl ?_
  refine aw_seq (fun K hK => ?_)
  refine aw_region ?_
  refine al_p rfl (st_assign rfl ?_)
  refine al_nil ?_
  refine x_then ?_
  refine hK _ ?_
  clear hK K
  refine aw_seq (fun K hK => ?_)
  refine aw_seq (fun K hK => ?_)
  refine aw_region ?_
  refine al_p rfl (st_move rfl ?_)
  first | refine al_p rfl (st_len rfl ?_) | refine al_p rfl (st_lenS (by kernel_rfl) rfl ?_) | refine al_p rfl (st_len0 rfl ?_)
  refine al_p rfl (st_gtr rfl rfl ?_)
  refine al_nil ?_
  refine x_then ?_
  refine hK _ ?_
  clear hK K
  refine aw_cond rfl (fun hb1 => ?_) (fun hb1 => ?_)
  · have hc1 := bp hb1
    rw [List.length_map] at hc1
    refine aw_seq (fun K hK => ?_)
    refine aw_region ?_
    refine al_p rfl (st_assign rfl ?_)
    refine al_nil ?_
    refine x_then ?_
    refine hK _ ?_
    clear hK K
    refine aw_ret ?_
    refine x_thenR ?_
    clear hK K
    refine e_ret ?_
    first | (exfalso; first | contradiction | omega) | (exact vi (by rw [rsChk, if_pos hc1]))
  · have hc1 := bp hb1
    rw [List.length_map] at hc1
    refine aw_skip ?_
    refine x_then ?_
    refine hK _ ?_
    clear hK K
    refine aw_seq (fun K hK => ?_)
    refine aw_seq (fun K hK => ?_)
    refine aw_region ?_
    refine al_p rfl (st_move rfl ?_)
    first | refine al_p rfl (st_len rfl ?_) | refine al_p rfl (st_lenS (by kernel_rfl) rfl ?_) | refine al_p rfl (st_len0 rfl ?_)
    refine al_p rfl (st_move rfl ?_)
    refine al_nil ?_
    refine x_then ?_
    refine hK _ ?_
    clear hK K
    refine aw_block ?_
    refine aw_loopW (fun n s => ∃ j : Nat, j ≤ l.length ∧ n = l.length - j ∧ lchkL (l.take j) (l.drop j) = lchkL [] l ∧ s = ⟨look [(0, .sl 8 (l.map rulA) none), (9, .sl 8 (l.map rulA) none), (10, .v (.int .i64 ((l.map rulA).length : Int))), (11, .v (.int .i64 (j : Int)))], ⟨[], []⟩⟩) (l.length) ((wk 0 0)) (⟨0, by omega, rfl, rfl, rfl⟩) ?_
    rintro n s ⟨j, hj, rfl, ha, rfl⟩
    refine aw_seq (fun K hK => ?_)
    refine aw_region ?_
    first | refine al_p rfl (st_lss rfl rfl ?_) | refine al_p rfl (st_lssS rfl rfl ?_)
    refine al_nil ?_
    refine x_then ?_
    refine hK _ ?_
    clear hK K
    refine aw_seq (fun K hK => ?_)
    refine aw_cond rfl (fun hb2 => ?_) (fun hb2 => ?_)
    · have hc2 := bp hb2
      obtain ⟨hlt, r, hy, hrow, -⟩ := row_at rulA hc2
      refine aw_skip ?_
      refine x_then ?_
      refine hK _ ?_
      clear hK K
      refine aw_seq (fun K hK => ?_)
      refine aw_block ?_
      refine aw_seq (fun K hK => ?_)
      refine aw_region ?_
      refine al_p rfl (st_move rfl ?_)
      refine al_p rfl (st_index rfl rfl rfl (by first | assumption | rfl) ?_)
      refine al_p rfl (st_loadFW rfl rfl ?_)
      refine al_p rfl (s_alloc (by repeat constructor) ?_)
      refine al_p rfl (st_assign rfl ?_)
      refine al_p0 (s_store rfl rfl rfl rfl rfl rfl (by repeat constructor) (by repeat constructor) ?_)
      refine al_nil ?_
      refine x_then ?_
      refine hK _ ?_
      clear hK K
      refine aw_seq (fun K hK => ?_)
      refine aw_seq (fun K hK => ?_)
      refine aw_region ?_
      refine al_p rfl (st_loadBW rfl rfl rfl ?_)
      refine al_p rfl (q_call (Prcheck r (hi r (List.mem_of_getElem? hy))) ?_)
      rintro r rfl
      refine al_p rfl (st_assign rfl ?_)
      refine al_nil ?_
      refine x_then ?_
      refine hK _ ?_
      clear hK K
      refine aw_seq (fun K hK => ?_)
      refine aw_region ?_
      refine al_p rfl (st_move rfl ?_)
      first | refine al_p rfl (st_neq rfl rfl ?_) | refine al_p rfl (st_neqS rfl rfl ?_) | refine al_p rfl (st_neqB (by kernel_rfl) rfl rfl ?_)
      refine al_nil ?_
      refine x_then ?_
      refine hK _ ?_
      clear hK K
      refine aw_cond rfl (fun hb3 => ?_) (fun hb3 => ?_)
      · have hc3 := bp hb3
        refine aw_seq (fun K hK => ?_)
        refine aw_region ?_
        refine al_p rfl (st_move rfl ?_)
        refine al_p rfl (st_assign rfl ?_)
        refine al_nil ?_
        refine x_then ?_
        refine hK _ ?_
        clear hK K
        refine aw_ret ?_
        refine x_thenR ?_
        clear hK K
        refine x_blockR ?_
        refine x_thenR ?_
        clear hK K
        refine x_thenR ?_
        refine x_blockR ?_
        refine x_thenR ?_
        clear hK K
        refine e_ret ?_
        first | (exfalso; first | contradiction | omega) | (exact vi (by rw [rsChk, if_neg hc1, ← ha, lchk_at hy, if_pos hc3]))
      · have hc3 := bp hb3
        refine aw_skip ?_
        refine x_then ?_
        refine hK _ ?_
        clear hK K
        refine aw_seq (fun K hK => ?_)
        refine aw_drawR 6 (by kernel_rfl) ?_
        refine r_y (i := 0) rfl (st_move rfl ⟨rfl, rfl⟩) ?_
        refine r_y (i := 1) rfl (st_move rfl ⟨rfl, rfl⟩) ?_
        refine r_y (i := 2) rfl (st_sliceHi (k := j) rfl rfl rfl (by simp; omega) ⟨rfl, rfl⟩) ?_
        refine r_y (i := 3) rfl (st_loadBW rfl rfl rfl ⟨rfl, rfl⟩) ?_
        refine aa_c (i := 4) rfl rfl (by kernel_rfl) (by first | rfl | exact wan_y rfl rfl (beq_tt ‹_›) | exact wan_y rfl rfl (beq_ff ‹_›) | exact wan_y rfl rfl (by simp [*])) (q_call (hfind j r) ?_)
        rintro r rfl
        refine ⟨.inr rfl, ?_⟩
        first | refine r_y (i := 5) rfl (st_geq rfl rfl ⟨rfl, rfl⟩) ?_ | refine r_y (i := 5) rfl (st_geqS rfl rfl ⟨rfl, rfl⟩) ?_
        refine aa_done (by kernel_rfl) ?_ _
        refine x_then ?_
        refine hK _ ?_
        clear hK K
        refine aw_cond rfl (fun hb4 => ?_) (fun hb4 => ?_)
        · have hc4 := bp hb4
          refine aw_seq (fun K hK => ?_)
          refine aw_region ?_
          refine al_p rfl (st_assign rfl ?_)
          refine al_nil ?_
          refine x_then ?_
          refine hK _ ?_
          clear hK K
          refine aw_ret ?_
          refine x_blockR ?_
          refine x_thenR ?_
          clear hK K
          refine x_thenR ?_
          refine x_blockR ?_
          refine x_thenR ?_
          clear hK K
          refine e_ret ?_
          first | (exfalso; first | contradiction | omega) | (exact vi (by rw [rsChk, if_neg hc1, ← ha, lchk_at hy, if_neg (by omega), if_pos hc4]))
        · have hc4 := bp hb4
          refine aw_skip ?_
          refine x_blockN ?_
          refine x_then ?_
          refine hK _ ?_
          clear hK K
          refine aw_region ?_
          first | refine al_p rfl (st_add64 rfl rfl (by omega) ?_) | refine al_p rfl (st_addS rfl rfl (by omega) ?_) | refine al_p rfl (st_add rfl rfl ?_)
          refine al_p rfl (st_move rfl ?_)
          refine al_nil ?_
          refine x_then ?_
          refine ⟨_, _, ?_, ⟨j + 1, by omega, rfl, (by rw [← ha, lchk_at hy, if_neg (by omega), if_neg hc4]), rfl⟩, (wk 0 0)⟩
          omega
    · have hc2 := bp hb2
      have e := row_no rulA hj hc2
      subst e
      refine aw_exit ?_
      refine x_thenE ?_
      clear hK K
      refine x_thenE ?_
      refine ABlock_out ?_
      refine x_then ?_
      refine hK _ ?_
      clear hK K
      refine aw_seq (fun K hK => ?_)
      refine aw_region ?_
      refine al_p rfl (st_assign rfl ?_)
      refine al_nil ?_
      refine x_then ?_
      refine hK _ ?_
      clear hK K
      refine aw_ret ?_
      refine e_ret ?_
      first | (exfalso; first | contradiction | omega) | (exact vi (by rw [rsChk, if_neg hc1, ← ha]; simp [lchkL]))

end
end Go.Proofs.YtokaaebbmcldaaaGreatDoor
