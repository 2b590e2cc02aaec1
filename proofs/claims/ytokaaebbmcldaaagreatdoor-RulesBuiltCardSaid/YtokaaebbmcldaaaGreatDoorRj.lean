/-
  Lists of rules: copies, Add, Remove, Same.
-/
import Derived.Test.YtokaaebbmcldaaaGreatDoorRi
namespace Go.Proofs.YtokaaebbmcldaaaGreatDoor
open Go.RowKit

section
set_option maxRecDepth 10000
set_option maxHeartbeats 1000000
theorem Rcheckl (l : List Rul) (hl : l.length ≤ 1000) (hi : ∀ r ∈ l, RulIn r) : AFn Tryz.prog 28 [.sl 8 (l.map rulA) none] (fun x => x = .v (.int .i64 (rsChk l))) := by
  have hfind : ∀ j r, AFn Tryz.prog 30 [.sl 8 ((l.map rulA).take j) none, .agg (rulA r)] (fun x => x = .v (.int .i64 (findL (l.take j) r))) := fun j r => by
    rw [← List.map_take]
    exact Rfind (l.take j) r (by simp; omega) fun x hx => (hi x (List.mem_of_mem_take hx)).2.2.2
  refine enter Tryz.func28 rfl rfl rfl rfl rfl 0 rfl ?_
  refine aw_seq (fun K hK => ?_)
  refine aw_region ?_
  refine al_p rfl (st_assign rfl ?_)
  refine al_nil ?_
  refine x_then ?_
  refine hK _ ?_
  clear hK K
  refine aw_seq (fun K hK => ?_)
  refine aw_seq (fun K hK => ?_)
  refine aw_region ?_
  refine al_p rfl (st_move rfl ?_)
  first | refine al_p rfl (st_len rfl ?_) | refine al_p rfl (st_lenS (by kernel_rfl) rfl ?_) | refine al_p rfl (st_len0 rfl ?_)
  refine al_p rfl (st_gtr rfl rfl ?_)
  refine al_nil ?_
  refine x_then ?_
  refine hK _ ?_
  clear hK K
  refine aw_cond rfl (fun hb1 => ?_) (fun hb1 => ?_)
  · have hc1 := bp hb1
    rw [List.length_map] at hc1
    refine aw_seq (fun K hK => ?_)
    refine aw_region ?_
    refine al_p rfl (st_assign rfl ?_)
    refine al_nil ?_
    refine x_then ?_
    refine hK _ ?_
    clear hK K
    refine aw_ret ?_
    refine x_thenR ?_
    clear hK K
    refine e_ret ?_
    first | (exfalso; first | contradiction | omega) | (exact vi (by rw [rsChk, if_pos hc1]))
  · have hc1 := bp hb1
    rw [List.length_map] at hc1
    refine aw_skip ?_
    refine x_then ?_
    refine hK _ ?_
    clear hK K
    refine aw_seq (fun K hK => ?_)
    refine aw_seq (fun K hK => ?_)
    refine aw_region ?_
    refine al_p rfl (st_assign rfl ?_)
    refine al_nil ?_
    refine x_then ?_
    refine hK _ ?_
    clear hK K
    refine aw_block ?_
    refine aw_loopW (fun n s => ∃ j : Nat, j ≤ l.length ∧ n = l.length - j ∧ lchkL (l.take j) (l.drop j) = lchkL [] l ∧ s = ⟨look [(0, .sl 8 (l.map rulA) none), (3, .v (.int .i64 (j : Int)))], ⟨[], []⟩⟩) (l.length) ((wk 0 0)) (⟨0, by omega, rfl, rfl, rfl⟩) ?_
    rintro n s ⟨j, hj, rfl, ha, rfl⟩
    refine aw_seq (fun K hK => ?_)
    refine aw_seq (fun K hK => ?_)
    refine aw_region ?_
    refine al_p rfl (st_move rfl ?_)
    refine al_p rfl (st_move rfl ?_)
    first | refine al_p rfl (st_len rfl ?_) | refine al_p rfl (st_lenS (by kernel_rfl) rfl ?_) | refine al_p rfl (st_len0 rfl ?_)
    first | refine al_p rfl (st_lss rfl rfl ?_) | refine al_p rfl (st_lssS rfl rfl ?_)
    refine al_nil ?_
    refine x_then ?_
    refine hK _ ?_
    clear hK K
    refine aw_cond rfl (fun hb2 => ?_) (fun hb2 => ?_)
    · have hc2 := bp hb2
      obtain ⟨hlt, r, hy, hrow, -⟩ := row_at rulA hc2
      refine aw_skip ?_
      refine x_then ?_
      refine hK _ ?_
      clear hK K
      refine aw_seq (fun K hK => ?_)
      refine aw_block ?_
      refine aw_seq (fun K hK => ?_)
      refine aw_seq (fun K hK => ?_)
      refine aw_region ?_
      refine al_p rfl (st_move rfl ?_)
      refine al_p rfl (st_move rfl ?_)
      refine al_p rfl (st_index rfl rfl rfl (by first | assumption | rfl) ?_)
      refine al_p rfl (st_loadFW rfl rfl ?_)
      refine al_p rfl (q_call (Rrcheck r (hi r (List.mem_of_getElem? hy))) ?_)
      rintro r rfl
      refine al_p rfl (st_assign rfl ?_)
      refine al_nil ?_
      refine x_then ?_
      refine hK _ ?_
      clear hK K
      refine aw_seq (fun K hK => ?_)
      refine aw_region ?_
      refine al_p rfl (st_move rfl ?_)
      first | refine al_p rfl (st_neq rfl rfl ?_) | refine al_p rfl (st_neqS rfl rfl ?_) | refine al_p rfl (st_neqB (by kernel_rfl) rfl rfl ?_)
      refine al_nil ?_
      refine x_then ?_
      refine hK _ ?_
      clear hK K
      refine aw_cond rfl (fun hb3 => ?_) (fun hb3 => ?_)
      · have hc3 := bp hb3
        refine aw_seq (fun K hK => ?_)
        refine aw_region ?_
        refine al_p rfl (st_move rfl ?_)
        refine al_p rfl (st_assign rfl ?_)
        refine al_nil ?_
        refine x_then ?_
        refine hK _ ?_
        clear hK K
        refine aw_ret ?_
        refine x_thenR ?_
        clear hK K
        refine x_blockR ?_
        refine x_thenR ?_
        clear hK K
        refine x_thenR ?_
        refine x_blockR ?_
        refine x_thenR ?_
        clear hK K
        refine e_ret ?_
        first | (exfalso; first | contradiction | omega) | (exact vi (by rw [rsChk, if_neg hc1, ← ha, lchk_at hy, if_pos hc3]))
      · have hc3 := bp hb3
        refine aw_skip ?_
        refine x_then ?_
        refine hK _ ?_
        clear hK K
        refine aw_seq (fun K hK => ?_)
        refine aw_drawR 9 (by kernel_rfl) ?_
        refine r_y (i := 0) rfl (st_move rfl ⟨rfl, rfl⟩) ?_
        refine r_y (i := 1) rfl (st_move rfl ⟨rfl, rfl⟩) ?_
        refine r_y (i := 2) rfl (st_sliceHi (k := j) rfl rfl rfl (by simp; omega) ⟨rfl, rfl⟩) ?_
        refine r_y (i := 3) rfl (st_move rfl ⟨rfl, rfl⟩) ?_
        refine r_y (i := 4) rfl (st_move rfl ⟨rfl, rfl⟩) ?_
        refine r_y (i := 5) rfl (st_index rfl rfl rfl (by first | assumption | rfl) ⟨rfl, rfl⟩) ?_
        refine r_y (i := 6) rfl (st_loadFW rfl rfl ⟨rfl, rfl⟩) ?_
        refine aa_c (i := 7) rfl rfl (by kernel_rfl) (by first | rfl | exact wan_y rfl rfl (beq_tt ‹_›) | exact wan_y rfl rfl (beq_ff ‹_›) | exact wan_y rfl rfl (by simp [*])) (q_call (hfind j r) ?_)
        rintro r rfl
        refine ⟨.inr rfl, ?_⟩
        first | refine r_y (i := 8) rfl (st_geq rfl rfl ⟨rfl, rfl⟩) ?_ | refine r_y (i := 8) rfl (st_geqS rfl rfl ⟨rfl, rfl⟩) ?_
        refine aa_done (by kernel_rfl) ?_ _
        refine x_then ?_
        refine hK _ ?_
        clear hK K
        refine aw_cond rfl (fun hb4 => ?_) (fun hb4 => ?_)
        · have hc4 := bp hb4
          refine aw_seq (fun K hK => ?_)
          refine aw_region ?_
          refine al_p rfl (st_assign rfl ?_)
          refine al_nil ?_
          refine x_then ?_
          refine hK _ ?_
          clear hK K
          refine aw_ret ?_
          refine x_blockR ?_
          refine x_thenR ?_
          clear hK K
          refine x_thenR ?_
          refine x_blockR ?_
          refine x_thenR ?_
          clear hK K
          refine e_ret ?_
          first | (exfalso; first | contradiction | omega) | (exact vi (by rw [rsChk, if_neg hc1, ← ha, lchk_at hy, if_neg (by omega), if_pos hc4]))
        · have hc4 := bp hb4
          refine aw_skip ?_
          refine x_blockN ?_
          refine x_then ?_
          refine hK _ ?_
          clear hK K
          refine aw_region ?_
          refine al_p rfl (st_move rfl ?_)
          first | refine al_p rfl (st_add64 rfl rfl (by omega) ?_) | refine al_p rfl (st_addS rfl rfl (by omega) ?_) | refine al_p rfl (st_add rfl rfl ?_)
          refine al_p rfl (st_assign rfl ?_)
          refine al_nil ?_
          refine x_then ?_
          refine ⟨_, _, ?_, ⟨j + 1, by omega, rfl, (by rw [← ha, lchk_at hy, if_neg (by omega), if_neg hc4]), rfl⟩, (wk 0 0)⟩
          omega
    · have hc2 := bp hb2
      have e := row_no rulA hj hc2
      subst e
      refine aw_exit ?_
      refine x_thenE ?_
      clear hK K
      refine x_thenE ?_
      refine ABlock_out ?_
      refine x_then ?_
      refine hK _ ?_
      clear hK K
      refine aw_seq (fun K hK => ?_)
      refine aw_region ?_
      refine al_p rfl (st_assign rfl ?_)
      refine al_nil ?_
      refine x_then ?_
      refine hK _ ?_
      clear hK K
      refine aw_ret ?_
      refine e_ret ?_
      first | (exfalso; first | contradiction | omega) | (exact vi (by rw [rsChk, if_neg hc1, ← ha]; simp [lchkL]))

theorem Pclone (r : Rul) (hr : r.tests.length ≤ 1000) : AFn Tryz.prog 49 [.agg (rulA r)] (fun x => x = .agg (rulA r)) := by
  refine enter Tryz.func49 rfl rfl rfl rfl rfl 0 rfl ?_
  refine aw_seq (fun K hK => ?_)
  refine aw_region ?_
  first | refine al_p rfl (s_boxA rfl rfl (by repeat constructor) ?_) | refine al_p rfl (s_box rfl rfl (by repeat constructor) ?_)
  refine al_p rfl (s_alloc (by repeat constructor) ?_)
  refine al_nil ?_
  refine x_then ?_
  refine hK _ ?_
  clear hK K
  refine aw_seq (fun K hK => ?_)
  refine aw_region ?_
  refine al_p rfl (st_fieldB rfl ?_)
  refine al_p rfl (st_loadB1 rfl rfl rfl ?_)
  refine al_p rfl (q_call (Pclones r.tests hr) ?_)
  rintro r rfl
  refine al_p rfl (st_fieldB rfl ?_)
  refine al_p0 (s_store rfl rfl rfl rfl rfl rfl (by repeat constructor) (by repeat constructor) ?_)
  refine al_nil ?_
  refine x_then ?_
  refine hK _ ?_
  clear hK K
  refine aw_seq (fun K hK => ?_)
  refine aw_region ?_
  refine al_p rfl (st_loadBW rfl rfl rfl ?_)
  refine al_p0 (s_store rfl rfl rfl rfl rfl rfl (by repeat constructor) (by repeat constructor) ?_)
  refine al_nil ?_
  refine x_then ?_
  refine hK _ ?_
  clear hK K
  refine aw_ret ?_
  refine e_ret ?_
  rfl

theorem RcopyRule (r : Rul) (hl : r.tests.length ≤ 1000) : AFn Tryz.prog 31 [.agg (rulA r)] (fun x => x = .agg (rulA r)) := by
  refine enter Tryz.func31 rfl rfl rfl rfl rfl 0 rfl ?_
  refine aw_seq (fun K hK => ?_)
  refine aw_region ?_
  first | refine al_p rfl (s_boxA rfl rfl (by repeat constructor) ?_) | refine al_p rfl (s_box rfl rfl (by repeat constructor) ?_)
  refine al_p rfl (s_alloc (by repeat constructor) ?_)
  refine al_nil ?_
  refine x_then ?_
  refine hK _ ?_
  clear hK K
  refine aw_seq (fun K hK => ?_)
  refine aw_region ?_
  refine al_p rfl (st_fieldB rfl ?_)
  refine al_p rfl (st_loadB1 rfl rfl rfl ?_)
  first | refine al_p rfl (s_append rfl rfl rfl (by simp <;> omega) (by repeat constructor) ?_) | refine al_p rfl (s_append0 rfl rfl (by simp <;> omega) (by repeat constructor) ?_)
  refine al_p rfl (st_fieldB rfl ?_)
  refine al_p0 (s_store rfl rfl rfl rfl rfl rfl (by repeat constructor) (by repeat constructor) ?_)
  refine al_nil ?_
  refine x_then ?_
  refine hK _ ?_
  clear hK K
  refine aw_seq (fun K hK => ?_)
  refine aw_region ?_
  refine al_p rfl (st_loadBW rfl rfl rfl ?_)
  refine al_p0 (s_store rfl rfl rfl rfl rfl rfl (by repeat constructor) (by repeat constructor) ?_)
  refine al_nil ?_
  refine x_then ?_
  refine hK _ ?_
  clear hK K
  refine aw_ret ?_
  refine e_ret ?_
  rfl

theorem RcopyT (l : List Rul) (h1 : l.length ≤ 1000) (hl : ∀ r ∈ l, r.tests.length ≤ 1000) : AFnT Tryz.prog 32 [.sl 8 (l.map rulA) none] (fun g => .sl 8 (l.map rulA) g) (48, 8, l.map rulA) := by
  refine enter Tryz.func32 rfl rfl rfl rfl rfl 0 rfl ?_
  refine aw_seq (fun K hK => ?_)
  refine aw_region ?_
  refine al_p rfl (st_assign rfl ?_)
  refine al_nil ?_
  refine x_then ?_
  refine hK _ ?_
  clear hK K
  refine aw_seq (fun K hK => ?_)
  refine aw_region ?_
  refine al_p rfl (st_assign rfl ?_)
  refine al_nil ?_
  refine x_then ?_
  refine hK _ ?_
  clear hK K
  refine aw_seq (fun K hK => ?_)
  refine aw_seq (fun K hK => ?_)
  refine aw_region ?_
  refine al_p rfl (st_assign rfl ?_)
  refine al_nil ?_
  refine x_then ?_
  refine hK _ ?_
  clear hK K
  refine aw_block ?_
  refine aw_nilTok 3 48 8 rfl (by repeat constructor) ?_
  refine aw_loopW (fun n s => ∃ k : Nat, k ≤ l.length ∧ n = l.length - k ∧ s = ⟨look [(0, .sl 8 (l.map rulA) none), (3, .sl 8 ((l.take k).map rulA) (some 0)), (4, .v (.int .i64 (k : Int)))], ⟨[], [(48, 8, (l.take k).map rulA)]⟩⟩) (l.length) ((wk 0 1)) (⟨0, Nat.zero_le _, rfl, rfl⟩) ?_
  rintro n s ⟨k, hk, rfl, rfl⟩
  refine aw_seq (fun K hK => ?_)
  refine aw_seq (fun K hK => ?_)
  refine aw_region ?_
  refine al_p rfl (st_move rfl ?_)
  refine al_p rfl (st_move rfl ?_)
  first | refine al_p rfl (st_len rfl ?_) | refine al_p rfl (st_lenS (by kernel_rfl) rfl ?_) | refine al_p rfl (st_len0 rfl ?_)
  first | refine al_p rfl (st_lss rfl rfl ?_) | refine al_p rfl (st_lssS rfl rfl ?_)
  refine al_nil ?_
  refine x_then ?_
  refine hK _ ?_
  clear hK K
  refine aw_cond rfl (fun hb1 => ?_) (fun hb1 => ?_)
  · have hc1 := bp hb1
    obtain ⟨hlt, r, hr, hrow, e⟩ := row_at rulA hc1
    refine aw_skip ?_
    refine x_then ?_
    refine hK _ ?_
    clear hK K
    refine aw_seq (fun K hK => ?_)
    refine aw_block ?_
    refine aw_region ?_
    refine al_p rfl (st_move rfl ?_)
    refine al_p rfl (st_move rfl ?_)
    refine al_p rfl (st_move rfl ?_)
    refine al_p rfl (st_index rfl rfl rfl (by first | assumption | rfl) ?_)
    refine al_p rfl (st_loadFW rfl rfl ?_)
    refine al_p rfl (q_call (RcopyRule r (hl r (List.mem_of_getElem? hr))) ?_)
    rintro r rfl
    refine al_p rfl (st_slit (by repeat (first | exact DenseA.nil _ | (apply DenseA.cons; (focus exact rfl); (focus exact rfl); (focus exact rfl); (focus exact rfl)) | (apply DenseA.consE; (focus exact rfl); (focus exact rfl); (focus exact rfl)))) rfl rfl rfl rfl ?_)
    first | refine al_p rfl (s_append rfl rfl rfl (by simp <;> omega) (by repeat constructor) ?_) | refine al_p rfl (s_append0 rfl rfl (by simp <;> omega) (by repeat constructor) ?_)
    refine al_p rfl (st_assign rfl ?_)
    refine al_nil ?_
    refine x_blockN ?_
    refine x_then ?_
    refine hK _ ?_
    clear hK K
    refine aw_region ?_
    refine al_p rfl (st_move rfl ?_)
    first | refine al_p rfl (st_add64 rfl rfl (by omega) ?_) | refine al_p rfl (st_addS rfl rfl (by omega) ?_) | refine al_p rfl (st_add rfl rfl ?_)
    refine al_p rfl (st_assign rfl ?_)
    refine al_nil ?_
    refine x_then ?_
    refine ⟨_, _, ?_, ⟨k + 1, by omega, rfl, rfl⟩, ?_⟩
    · omega
    · rw [e]; exact (wk 0 1)
  · have hc1 := bp hb1
    have e := row_no rulA hk hc1
    subst e
    rw [List.take_length]
    refine aw_exit ?_
    refine x_thenE ?_
    clear hK K
    refine x_thenE ?_
    refine ABlock_out ?_
    refine x_then ?_
    refine hK _ ?_
    clear hK K
    refine aw_seq (fun K hK => ?_)
    refine aw_region ?_
    refine al_p rfl (st_move rfl ?_)
    refine al_p rfl (st_assign rfl ?_)
    refine al_nil ?_
    refine x_then ?_
    refine hK _ ?_
    clear hK K
    refine aw_ret ?_
    refine abody_ret (some 0) (by repeat (first | exact ResA.nil | (apply ResA.tmp; (focus exact rfl)) | (apply ResA.cellN; (focus exact inferInstance); (focus exact rfl); (focus exact rfl); (focus exact rfl)) | (apply ResA.cell1; (focus exact inferInstance); (focus exact rfl); (focus exact rfl); (focus exact rfl)))) rfl rfl rfl (LeA.refl _) ⟨rfl, rfl, rfl⟩

theorem Rcopy (l : List Rul) (h1 : l.length ≤ 1000) (hl : ∀ r ∈ l, r.tests.length ≤ 1000) : AFn Tryz.prog 32 [.sl 8 (l.map rulA) none] (fun x => x = .sl 8 (l.map rulA) none) := by
  refine enter Tryz.func32 rfl rfl rfl rfl rfl 0 rfl ?_
  refine aw_seq (fun K hK => ?_)
  refine aw_region ?_
  refine al_p rfl (st_assign rfl ?_)
  refine al_nil ?_
  refine x_then ?_
  refine hK _ ?_
  clear hK K
  refine aw_seq (fun K hK => ?_)
  refine aw_region ?_
  refine al_p rfl (st_assign rfl ?_)
  refine al_nil ?_
  refine x_then ?_
  refine hK _ ?_
  clear hK K
  refine aw_seq (fun K hK => ?_)
  refine aw_seq (fun K hK => ?_)
  refine aw_region ?_
  refine al_p rfl (st_assign rfl ?_)
  refine al_nil ?_
  refine x_then ?_
  refine hK _ ?_
  clear hK K
  refine aw_block ?_
  refine aw_nilTok 3 48 8 rfl (by repeat constructor) ?_
  refine aw_loopW (fun n s => ∃ k : Nat, k ≤ l.length ∧ n = l.length - k ∧ s = ⟨look [(0, .sl 8 (l.map rulA) none), (3, .sl 8 ((l.take k).map rulA) (some 0)), (4, .v (.int .i64 (k : Int)))], ⟨[], [(48, 8, (l.take k).map rulA)]⟩⟩) (l.length) ((wk 0 1)) (⟨0, Nat.zero_le _, rfl, rfl⟩) ?_
  rintro n s ⟨k, hk, rfl, rfl⟩
  refine aw_seq (fun K hK => ?_)
  refine aw_seq (fun K hK => ?_)
  refine aw_region ?_
  refine al_p rfl (st_move rfl ?_)
  refine al_p rfl (st_move rfl ?_)
  first | refine al_p rfl (st_len rfl ?_) | refine al_p rfl (st_lenS (by kernel_rfl) rfl ?_) | refine al_p rfl (st_len0 rfl ?_)
  first | refine al_p rfl (st_lss rfl rfl ?_) | refine al_p rfl (st_lssS rfl rfl ?_)
  refine al_nil ?_
  refine x_then ?_
  refine hK _ ?_
  clear hK K
  refine aw_cond rfl (fun hb1 => ?_) (fun hb1 => ?_)
  · have hc1 := bp hb1
    obtain ⟨hlt, r, hr, hrow, e⟩ := row_at rulA hc1
    refine aw_skip ?_
    refine x_then ?_
    refine hK _ ?_
    clear hK K
    refine aw_seq (fun K hK => ?_)
    refine aw_block ?_
    refine aw_region ?_
    refine al_p rfl (st_move rfl ?_)
    refine al_p rfl (st_move rfl ?_)
    refine al_p rfl (st_move rfl ?_)
    refine al_p rfl (st_index rfl rfl rfl (by first | assumption | rfl) ?_)
    refine al_p rfl (st_loadFW rfl rfl ?_)
    refine al_p rfl (q_call (RcopyRule r (hl r (List.mem_of_getElem? hr))) ?_)
    rintro r rfl
    refine al_p rfl (st_slit (by repeat (first | exact DenseA.nil _ | (apply DenseA.cons; (focus exact rfl); (focus exact rfl); (focus exact rfl); (focus exact rfl)) | (apply DenseA.consE; (focus exact rfl); (focus exact rfl); (focus exact rfl)))) rfl rfl rfl rfl ?_)
    first | refine al_p rfl (s_append rfl rfl rfl (by simp <;> omega) (by repeat constructor) ?_) | refine al_p rfl (s_append0 rfl rfl (by simp <;> omega) (by repeat constructor) ?_)
    refine al_p rfl (st_assign rfl ?_)
    refine al_nil ?_
    refine x_blockN ?_
    refine x_then ?_
    refine hK _ ?_
    clear hK K
    refine aw_region ?_
    refine al_p rfl (st_move rfl ?_)
    first | refine al_p rfl (st_add64 rfl rfl (by omega) ?_) | refine al_p rfl (st_addS rfl rfl (by omega) ?_) | refine al_p rfl (st_add rfl rfl ?_)
    refine al_p rfl (st_assign rfl ?_)
    refine al_nil ?_
    refine x_then ?_
    refine ⟨_, _, ?_, ⟨k + 1, by omega, rfl, rfl⟩, ?_⟩
    · omega
    · rw [e]; exact (wk 0 1)
  · have hc1 := bp hb1
    have e := row_no rulA hk hc1
    subst e
    rw [List.take_length]
    refine aw_exit ?_
    refine x_thenE ?_
    clear hK K
    refine x_thenE ?_
    refine ABlock_out ?_
    refine x_then ?_
    refine hK _ ?_
    clear hK K
    refine aw_seq (fun K hK => ?_)
    refine aw_region ?_
    refine al_p rfl (st_move rfl ?_)
    refine al_p rfl (st_assign rfl ?_)
    refine al_nil ?_
    refine x_then ?_
    refine hK _ ?_
    clear hK K
    refine aw_ret ?_
    refine e_ret ?_
    rfl

end
end Go.Proofs.YtokaaebbmcldaaaGreatDoor
