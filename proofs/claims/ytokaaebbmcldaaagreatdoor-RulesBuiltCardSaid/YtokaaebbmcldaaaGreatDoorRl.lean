/-
  The reference's Add and Remove.
-/
import Derived.Test.YtokaaebbmcldaaaGreatDoorRk
namespace Go.Proofs.YtokaaebbmcldaaaGreatDoor
open Go.RowKit

theorem firstI_lt {α : Type} (p : Nat → α → Bool) : ∀ (l : List α) (i : Nat), firstI p l i = -1 ∨ ∃ k : Nat, firstI p l i = (k : Int) ∧ i ≤ k ∧ k < i + l.length
  | [], i => .inl rfl
  | x :: xs, i => by
    rw [firstI]
    split
    · exact .inr ⟨i, rfl, by omega, by simp⟩
    · rcases firstI_lt p xs (i + 1) with h | ⟨k, h1, h2, h3⟩
      · exact .inl h
      · exact .inr ⟨k, h1, by omega, by simp; omega⟩
theorem find_nat {l : List Rul} {r : Rul} (h : ¬ findL l r < 0) : ∃ k : Nat, findL l r = (k : Int) ∧ k < l.length := by
  rcases firstI_lt (fun _ x => decide (x = r)) l 0 with h1 | ⟨k, h1, _, h3⟩
  · exact absurd (show findL l r < 0 by unfold findL; omega) h
  · exact ⟨k, h1, by omega⟩
section
set_option maxRecDepth 10000
set_option maxHeartbeats 1000000
theorem Radd_t (l : List Rul) (r : Rul) (hl : l.length ≤ 1000) (hi : ∀ r ∈ l, RulIn r) (hr : RulIn r) : AFn Tryz.prog 14 [.sl 8 (l.map rulA) none, .agg (rulA r), .v (.bool true)] (fun x => x = resA (addL l r true)) := by
  refine enter Tryz.func14 rfl rfl rfl rfl rfl 0 rfl ?_
  refine aw_seq (fun K hK => ?_)
  refine aw_region ?_
  first | refine al_p rfl (s_boxA rfl rfl (by repeat constructor) ?_) | refine al_p rfl (s_box rfl rfl (by repeat constructor) ?_)
  refine al_p rfl (st_assign rfl ?_)
  refine al_p rfl (st_assign rfl ?_)
  refine al_nil ?_
  refine x_then ?_
  refine hK _ ?_
  clear hK K
  refine aw_seq (fun K hK => ?_)
  refine aw_seq (fun K hK => ?_)
  refine aw_region ?_
  refine al_p rfl (st_move rfl ?_)
  refine al_p rfl (q_call (Rcheckl l hl hi) ?_)
  rintro r rfl
  refine al_p rfl (st_assign rfl ?_)
  refine al_nil ?_
  refine x_then ?_
  refine hK _ ?_
  clear hK K
  refine aw_seq (fun K hK => ?_)
  refine aw_region ?_
  refine al_p rfl (st_move rfl ?_)
  first | refine al_p rfl (st_neq rfl rfl ?_) | refine al_p rfl (st_neqS rfl rfl ?_) | refine al_p rfl (st_neqB (by kernel_rfl) rfl rfl ?_)
  refine al_nil ?_
  refine x_then ?_
  refine hK _ ?_
  clear hK K
  refine aw_cond rfl (fun hb1 => ?_) (fun hb1 => ?_)
  · have hc1 := bp hb1
    refine aw_seq (fun K hK => ?_)
    refine aw_region ?_
    refine al_p rfl (st_move rfl ?_)
    refine al_p rfl (st_assign rfl ?_)
    refine al_p rfl (st_assign rfl ?_)
    refine al_nil ?_
    refine x_then ?_
    refine hK _ ?_
    clear hK K
    refine aw_ret ?_
    refine x_thenR ?_
    clear hK K
    refine abody_ret (r := resA (addL l r true)) none (by repeat (first | exact ResA.nil | (apply ResA.tmp; (focus exact rfl)) | (apply ResA.cellN; (focus exact inferInstance); (focus exact rfl); (focus exact rfl); (focus exact rfl)) | (apply ResA.cell1; (focus exact inferInstance); (focus exact rfl); (focus exact rfl); (focus exact rfl)))) rfl rfl rfl ?_ ⟨rfl, rfl, rfl⟩
    exact res_nil (by simp [addL, *])
  · have hc1 := bp hb1
    refine aw_skip ?_
    refine x_then ?_
    refine hK _ ?_
    clear hK K
    refine aw_seq (fun K hK => ?_)
    refine aw_seq (fun K hK => ?_)
    refine aw_region ?_
    refine al_p rfl (st_loadBW rfl rfl rfl ?_)
    refine al_p rfl (q_call (Rrcheck r hr) ?_)
    rintro r rfl
    refine al_p rfl (st_assign rfl ?_)
    refine al_nil ?_
    refine x_then ?_
    refine hK _ ?_
    clear hK K
    refine aw_seq (fun K hK => ?_)
    refine aw_region ?_
    refine al_p rfl (st_move rfl ?_)
    first | refine al_p rfl (st_neq rfl rfl ?_) | refine al_p rfl (st_neqS rfl rfl ?_) | refine al_p rfl (st_neqB (by kernel_rfl) rfl rfl ?_)
    refine al_nil ?_
    refine x_then ?_
    refine hK _ ?_
    clear hK K
    refine aw_cond rfl (fun hb2 => ?_) (fun hb2 => ?_)
    · have hc2 := bp hb2
      refine aw_seq (fun K hK => ?_)
      refine aw_region ?_
      refine al_p rfl (st_move rfl ?_)
      refine al_p rfl (st_assign rfl ?_)
      refine al_p rfl (st_assign rfl ?_)
      refine al_nil ?_
      refine x_then ?_
      refine hK _ ?_
      clear hK K
      refine aw_ret ?_
      refine x_thenR ?_
      clear hK K
      refine abody_ret (r := resA (addL l r true)) none (by repeat (first | exact ResA.nil | (apply ResA.tmp; (focus exact rfl)) | (apply ResA.cellN; (focus exact inferInstance); (focus exact rfl); (focus exact rfl); (focus exact rfl)) | (apply ResA.cell1; (focus exact inferInstance); (focus exact rfl); (focus exact rfl); (focus exact rfl)))) rfl rfl rfl ?_ ⟨rfl, rfl, rfl⟩
      exact res_nil (by simp [addL, *])
    · have hc2 := bp hb2
      refine aw_skip ?_
      refine x_then ?_
      refine hK _ ?_
      clear hK K
      refine aw_seq (fun K hK => ?_)
      refine aw_seq (fun K hK => ?_)
      refine aw_region ?_
      refine al_p rfl (st_move rfl ?_)
      refine al_p rfl (st_loadBW rfl rfl rfl ?_)
      refine al_p rfl (q_call (Rfind l r hl fun x hx => (hi x hx).2.2.2) ?_)
      rintro r rfl
      first | refine al_p rfl (st_geq rfl rfl ?_) | refine al_p rfl (st_geqS rfl rfl ?_)
      refine al_nil ?_
      refine x_then ?_
      refine hK _ ?_
      clear hK K
      refine aw_cond rfl (fun hb3 => ?_) (fun hb3 => ?_)
      · have hc3 := bp hb3
        refine aw_seq (fun K hK => ?_)
        refine aw_region ?_
        refine al_p rfl (st_assign rfl ?_)
        refine al_p rfl (st_assign rfl ?_)
        refine al_nil ?_
        refine x_then ?_
        refine hK _ ?_
        clear hK K
        refine aw_ret ?_
        refine x_thenR ?_
        clear hK K
        refine abody_ret (r := resA (addL l r true)) none (by repeat (first | exact ResA.nil | (apply ResA.tmp; (focus exact rfl)) | (apply ResA.cellN; (focus exact inferInstance); (focus exact rfl); (focus exact rfl); (focus exact rfl)) | (apply ResA.cell1; (focus exact inferInstance); (focus exact rfl); (focus exact rfl); (focus exact rfl)))) rfl rfl rfl ?_ ⟨rfl, rfl, rfl⟩
        exact res_nil (by simp [addL, *])
      · have hc3 := bp hb3
        refine aw_skip ?_
        refine x_then ?_
        refine hK _ ?_
        clear hK K
        refine aw_seq (fun K hK => ?_)
        refine aw_seq (fun K hK => ?_)
        refine aw_region ?_
        refine al_p rfl (st_move rfl ?_)
        first | refine al_p rfl (st_len rfl ?_) | refine al_p rfl (st_lenS (by kernel_rfl) rfl ?_) | refine al_p rfl (st_len0 rfl ?_)
        first | refine al_p rfl (st_eql rfl rfl ?_) | refine al_p rfl (st_eqlS rfl rfl ?_) | refine al_p rfl (st_eqlB (by kernel_rfl) rfl rfl ?_)
        refine al_nil ?_
        refine x_then ?_
        refine hK _ ?_
        clear hK K
        refine aw_cond rfl (fun hb4 => ?_) (fun hb4 => ?_)
        · have hc4 := bp hb4
          rw [List.length_map] at hc4
          refine aw_seq (fun K hK => ?_)
          refine aw_region ?_
          refine al_p rfl (st_assign rfl ?_)
          refine al_p rfl (st_assign rfl ?_)
          refine al_nil ?_
          refine x_then ?_
          refine hK _ ?_
          clear hK K
          refine aw_ret ?_
          refine x_thenR ?_
          clear hK K
          refine abody_ret (r := resA (addL l r true)) none (by repeat (first | exact ResA.nil | (apply ResA.tmp; (focus exact rfl)) | (apply ResA.cellN; (focus exact inferInstance); (focus exact rfl); (focus exact rfl); (focus exact rfl)) | (apply ResA.cell1; (focus exact inferInstance); (focus exact rfl); (focus exact rfl); (focus exact rfl)))) rfl rfl rfl ?_ ⟨rfl, rfl, rfl⟩
          exact res_nil (by simp [addL, *])
        · have hc4 := bp hb4
          rw [List.length_map] at hc4
          have h5 := rsChk_len (not_not_intro hc1)
          have h4 : ¬ 24 ≤ (l.length : Int) := by omega
          refine aw_skip ?_
          refine x_then ?_
          refine hK _ ?_
          clear hK K
          refine aw_seq (fun K hK => ?_)
          refine aw_seq (fun K hK => ?_)
          refine aw_region ?_
          refine al_p rfl (st_move rfl ?_)
          refine al_nil ?_
          refine x_then ?_
          refine hK _ ?_
          clear hK K
          refine aw_cond rfl (fun hb5 => ?_) (fun hb5 => ?_)
          · have hc5 := bp hb5
            refine aw_seq (fun K hK => ?_)
            refine aw_region ?_
            refine al_p rfl (st_loadBW rfl rfl rfl ?_)
            refine al_p rfl (q_call (RcopyRule r hr.2.2.2) ?_)
            rintro r rfl
            refine al_p rfl (s_slitT (by repeat (first | exact DenseA.nil _ | (apply DenseA.cons; (focus exact rfl); (focus exact rfl); (focus exact rfl); (focus exact rfl)) | (apply DenseA.consE; (focus exact rfl); (focus exact rfl); (focus exact rfl)))) rfl rfl rfl rfl (by repeat constructor) ?_)
            refine al_p rfl (st_move rfl ?_)
            refine al_p rfl (q_call (Rcopy l hl fun x hx => (hi x hx).2.2.2) ?_)
            rintro r rfl
            first | refine al_p rfl (s_append rfl rfl rfl (by simp <;> omega) (by repeat constructor) ?_) | refine al_p rfl (s_append0 rfl rfl (by simp <;> omega) (by repeat constructor) ?_)
            refine al_p rfl (st_assign rfl ?_)
            refine al_p rfl (st_assign rfl ?_)
            refine al_nil ?_
            refine x_then ?_
            refine hK _ ?_
            clear hK K
            refine aw_ret ?_
            refine x_thenR ?_
            clear hK K
            refine abody_ret (r := resA (addL l r true)) none (by repeat (first | exact ResA.nil | (apply ResA.tmp; (focus exact rfl)) | (apply ResA.cellN; (focus exact inferInstance); (focus exact rfl); (focus exact rfl); (focus exact rfl)) | (apply ResA.cell1; (focus exact inferInstance); (focus exact rfl); (focus exact rfl); (focus exact rfl)))) rfl rfl rfl ?_ ⟨rfl, rfl, rfl⟩
            exact res_ok (l := r :: l) (by simp [addL, *])
          · have hc5 := bp hb5
            exfalso; first | contradiction | omega

theorem Radd_f (l : List Rul) (r : Rul) (hl : l.length ≤ 1000) (hi : ∀ r ∈ l, RulIn r) (hr : RulIn r) : AFn Tryz.prog 14 [.sl 8 (l.map rulA) none, .agg (rulA r), .v (.bool false)] (fun x => x = resA (addL l r false)) := by
  refine enter Tryz.func14 rfl rfl rfl rfl rfl 0 rfl ?_
  refine aw_seq (fun K hK => ?_)
  refine aw_region ?_
  first | refine al_p rfl (s_boxA rfl rfl (by repeat constructor) ?_) | refine al_p rfl (s_box rfl rfl (by repeat constructor) ?_)
  refine al_p rfl (st_assign rfl ?_)
  refine al_p rfl (st_assign rfl ?_)
  refine al_nil ?_
  refine x_then ?_
  refine hK _ ?_
  clear hK K
  refine aw_seq (fun K hK => ?_)
  refine aw_seq (fun K hK => ?_)
  refine aw_region ?_
  refine al_p rfl (st_move rfl ?_)
  refine al_p rfl (q_call (Rcheckl l hl hi) ?_)
  rintro r rfl
  refine al_p rfl (st_assign rfl ?_)
  refine al_nil ?_
  refine x_then ?_
  refine hK _ ?_
  clear hK K
  refine aw_seq (fun K hK => ?_)
  refine aw_region ?_
  refine al_p rfl (st_move rfl ?_)
  first | refine al_p rfl (st_neq rfl rfl ?_) | refine al_p rfl (st_neqS rfl rfl ?_) | refine al_p rfl (st_neqB (by kernel_rfl) rfl rfl ?_)
  refine al_nil ?_
  refine x_then ?_
  refine hK _ ?_
  clear hK K
  refine aw_cond rfl (fun hb1 => ?_) (fun hb1 => ?_)
  · have hc1 := bp hb1
    refine aw_seq (fun K hK => ?_)
    refine aw_region ?_
    refine al_p rfl (st_move rfl ?_)
    refine al_p rfl (st_assign rfl ?_)
    refine al_p rfl (st_assign rfl ?_)
    refine al_nil ?_
    refine x_then ?_
    refine hK _ ?_
    clear hK K
    refine aw_ret ?_
    refine x_thenR ?_
    clear hK K
    refine abody_ret (r := resA (addL l r false)) none (by repeat (first | exact ResA.nil | (apply ResA.tmp; (focus exact rfl)) | (apply ResA.cellN; (focus exact inferInstance); (focus exact rfl); (focus exact rfl); (focus exact rfl)) | (apply ResA.cell1; (focus exact inferInstance); (focus exact rfl); (focus exact rfl); (focus exact rfl)))) rfl rfl rfl ?_ ⟨rfl, rfl, rfl⟩
    exact res_nil (by simp [addL, *])
  · have hc1 := bp hb1
    refine aw_skip ?_
    refine x_then ?_
    refine hK _ ?_
    clear hK K
    refine aw_seq (fun K hK => ?_)
    refine aw_seq (fun K hK => ?_)
    refine aw_region ?_
    refine al_p rfl (st_loadBW rfl rfl rfl ?_)
    refine al_p rfl (q_call (Rrcheck r hr) ?_)
    rintro r rfl
    refine al_p rfl (st_assign rfl ?_)
    refine al_nil ?_
    refine x_then ?_
    refine hK _ ?_
    clear hK K
    refine aw_seq (fun K hK => ?_)
    refine aw_region ?_
    refine al_p rfl (st_move rfl ?_)
    first | refine al_p rfl (st_neq rfl rfl ?_) | refine al_p rfl (st_neqS rfl rfl ?_) | refine al_p rfl (st_neqB (by kernel_rfl) rfl rfl ?_)
    refine al_nil ?_
    refine x_then ?_
    refine hK _ ?_
    clear hK K
    refine aw_cond rfl (fun hb2 => ?_) (fun hb2 => ?_)
    · have hc2 := bp hb2
      refine aw_seq (fun K hK => ?_)
      refine aw_region ?_
      refine al_p rfl (st_move rfl ?_)
      refine al_p rfl (st_assign rfl ?_)
      refine al_p rfl (st_assign rfl ?_)
      refine al_nil ?_
      refine x_then ?_
      refine hK _ ?_
      clear hK K
      refine aw_ret ?_
      refine x_thenR ?_
      clear hK K
      refine abody_ret (r := resA (addL l r false)) none (by repeat (first | exact ResA.nil | (apply ResA.tmp; (focus exact rfl)) | (apply ResA.cellN; (focus exact inferInstance); (focus exact rfl); (focus exact rfl); (focus exact rfl)) | (apply ResA.cell1; (focus exact inferInstance); (focus exact rfl); (focus exact rfl); (focus exact rfl)))) rfl rfl rfl ?_ ⟨rfl, rfl, rfl⟩
      exact res_nil (by simp [addL, *])
    · have hc2 := bp hb2
      refine aw_skip ?_
      refine x_then ?_
      refine hK _ ?_
      clear hK K
      refine aw_seq (fun K hK => ?_)
      refine aw_seq (fun K hK => ?_)
      refine aw_region ?_
      refine al_p rfl (st_move rfl ?_)
      refine al_p rfl (st_loadBW rfl rfl rfl ?_)
      refine al_p rfl (q_call (Rfind l r hl fun x hx => (hi x hx).2.2.2) ?_)
      rintro r rfl
      first | refine al_p rfl (st_geq rfl rfl ?_) | refine al_p rfl (st_geqS rfl rfl ?_)
      refine al_nil ?_
      refine x_then ?_
      refine hK _ ?_
      clear hK K
      refine aw_cond rfl (fun hb3 => ?_) (fun hb3 => ?_)
      · have hc3 := bp hb3
        refine aw_seq (fun K hK => ?_)
        refine aw_region ?_
        refine al_p rfl (st_assign rfl ?_)
        refine al_p rfl (st_assign rfl ?_)
        refine al_nil ?_
        refine x_then ?_
        refine hK _ ?_
        clear hK K
        refine aw_ret ?_
        refine x_thenR ?_
        clear hK K
        refine abody_ret (r := resA (addL l r false)) none (by repeat (first | exact ResA.nil | (apply ResA.tmp; (focus exact rfl)) | (apply ResA.cellN; (focus exact inferInstance); (focus exact rfl); (focus exact rfl); (focus exact rfl)) | (apply ResA.cell1; (focus exact inferInstance); (focus exact rfl); (focus exact rfl); (focus exact rfl)))) rfl rfl rfl ?_ ⟨rfl, rfl, rfl⟩
        exact res_nil (by simp [addL, *])
      · have hc3 := bp hb3
        refine aw_skip ?_
        refine x_then ?_
        refine hK _ ?_
        clear hK K
        refine aw_seq (fun K hK => ?_)
        refine aw_seq (fun K hK => ?_)
        refine aw_region ?_
        refine al_p rfl (st_move rfl ?_)
        first | refine al_p rfl (st_len rfl ?_) | refine al_p rfl (st_lenS (by kernel_rfl) rfl ?_) | refine al_p rfl (st_len0 rfl ?_)
        first | refine al_p rfl (st_eql rfl rfl ?_) | refine al_p rfl (st_eqlS rfl rfl ?_) | refine al_p rfl (st_eqlB (by kernel_rfl) rfl rfl ?_)
        refine al_nil ?_
        refine x_then ?_
        refine hK _ ?_
        clear hK K
        refine aw_cond rfl (fun hb4 => ?_) (fun hb4 => ?_)
        · have hc4 := bp hb4
          rw [List.length_map] at hc4
          refine aw_seq (fun K hK => ?_)
          refine aw_region ?_
          refine al_p rfl (st_assign rfl ?_)
          refine al_p rfl (st_assign rfl ?_)
          refine al_nil ?_
          refine x_then ?_
          refine hK _ ?_
          clear hK K
          refine aw_ret ?_
          refine x_thenR ?_
          clear hK K
          refine abody_ret (r := resA (addL l r false)) none (by repeat (first | exact ResA.nil | (apply ResA.tmp; (focus exact rfl)) | (apply ResA.cellN; (focus exact inferInstance); (focus exact rfl); (focus exact rfl); (focus exact rfl)) | (apply ResA.cell1; (focus exact inferInstance); (focus exact rfl); (focus exact rfl); (focus exact rfl)))) rfl rfl rfl ?_ ⟨rfl, rfl, rfl⟩
          exact res_nil (by simp [addL, *])
        · have hc4 := bp hb4
          rw [List.length_map] at hc4
          have h5 := rsChk_len (not_not_intro hc1)
          have h4 : ¬ 24 ≤ (l.length : Int) := by omega
          refine aw_skip ?_
          refine x_then ?_
          refine hK _ ?_
          clear hK K
          refine aw_seq (fun K hK => ?_)
          refine aw_seq (fun K hK => ?_)
          refine aw_region ?_
          refine al_p rfl (st_move rfl ?_)
          refine al_nil ?_
          refine x_then ?_
          refine hK _ ?_
          clear hK K
          refine aw_cond rfl (fun hb5 => ?_) (fun hb5 => ?_)
          · have hc5 := bp hb5
            exfalso; first | contradiction | omega
          · have hc5 := bp hb5
            refine aw_skip ?_
            refine x_then ?_
            refine hK _ ?_
            clear hK K
            refine aw_seq (fun K hK => ?_)
            refine aw_draw (fun h => h.bx = [rulA r]) 8 (by kernel_rfl) ?_
            refine aa_t (i := 0) rfl rfl (by kernel_rfl) (by first | rfl | exact wan_y rfl rfl (beq_tt ‹_›) | exact wan_y rfl rfl (beq_ff ‹_›) | exact wan_y rfl rfl (by simp [*])) (fun h0 hS => st_move rfl ⟨rfl, rfl⟩) rfl ?_
            first | refine aa_t (i := 2) rfl rfl (by kernel_rfl) (by first | rfl | exact wan_y rfl rfl (beq_tt ‹_›) | exact wan_y rfl rfl (beq_ff ‹_›) | exact wan_y rfl rfl (by simp [*])) (fun h0 hS => st_loadBW rfl (by rw [hS]; rfl) rfl ⟨rfl, rfl⟩) rfl ?_ | refine aa_t (i := 2) rfl rfl (by kernel_rfl) (by first | rfl | exact wan_y rfl rfl (beq_tt ‹_›) | exact wan_y rfl rfl (beq_ff ‹_›) | exact wan_y rfl rfl (by simp [*])) (fun h0 hS => st_loadBW rfl rfl rfl ⟨rfl, rfl⟩) rfl ?_
            refine aa_c (i := 1) rfl rfl (by kernel_rfl) (by first | rfl | exact wan_y rfl rfl (beq_tt ‹_›) | exact wan_y rfl rfl (beq_ff ‹_›) | exact wan_y rfl rfl (by simp [*])) (s_callT rfl (by repeat (first | exact Args.nil | refine Args.cons _ _ _ _ _ rfl (argOk_clean rfl) ?_ | refine Args.cons _ _ _ _ _ rfl (argOk_nil _) ?_ | refine Args.cons _ _ _ _ _ rfl (argOk_era _) ?_ | refine Args.cons _ _ _ _ _ rfl (argOk_le rfl (by repeat (first | exact LeA.refl _ | exact LeA.nil _ | exact LeL.refl _ | refine LeA.agg ?_ | refine LeA.tup ?_ | exact LeL.nil | refine LeL.cons ?_ ?_ | exact LeA.any _))) ?_)) (RcopyT l hl fun x hx => (hi x hx).2.2.2) (fun _ => rfl) (by repeat constructor) ?_)
            refine ⟨.inr rfl, ?_⟩
            refine aa_c (i := 3) rfl rfl (by kernel_rfl) (by first | rfl | exact wan_y rfl rfl (beq_tt ‹_›) | exact wan_y rfl rfl (beq_ff ‹_›) | exact wan_y rfl rfl (by simp [*])) (q_call (RcopyRule r hr.2.2.2) ?_)
            rintro r rfl
            refine ⟨.inr rfl, ?_⟩
            refine aa_t (i := 4) rfl rfl (by kernel_rfl) (by first | rfl | exact wan_y rfl rfl (beq_tt ‹_›) | exact wan_y rfl rfl (beq_ff ‹_›) | exact wan_y rfl rfl (by simp [*])) (fun h0 hS => st_slit (by repeat (first | exact DenseA.nil _ | (apply DenseA.cons; (focus exact rfl); (focus exact rfl); (focus exact rfl); (focus exact rfl)) | (apply DenseA.consE; (focus exact rfl); (focus exact rfl); (focus exact rfl)))) rfl rfl rfl rfl ⟨rfl, rfl⟩) rfl ?_
            first | refine aa_c (i := 5) rfl rfl (by kernel_rfl) (by first | rfl | exact wan_y rfl rfl (beq_tt ‹_›) | exact wan_y rfl rfl (beq_ff ‹_›) | exact wan_y rfl rfl (by simp [*])) (s_append rfl rfl rfl (by simp <;> omega) (by repeat constructor) ?_) | refine aa_c (i := 5) rfl rfl (by kernel_rfl) (by first | rfl | exact wan_y rfl rfl (beq_tt ‹_›) | exact wan_y rfl rfl (beq_ff ‹_›) | exact wan_y rfl rfl (by simp [*])) (s_append0 rfl rfl (by simp <;> omega) (by repeat constructor) ?_)
            refine ⟨.inr rfl, ?_⟩
            refine aa_t (i := 6) rfl rfl (by kernel_rfl) (by first | rfl | exact wan_y rfl rfl (beq_tt ‹_›) | exact wan_y rfl rfl (beq_ff ‹_›) | exact wan_y rfl rfl (by simp [*])) (fun h0 hS => st_assign rfl ⟨rfl, rfl⟩) rfl ?_
            refine aa_t (i := 7) rfl rfl (by kernel_rfl) (by first | rfl | exact wan_y rfl rfl (beq_tt ‹_›) | exact wan_y rfl rfl (beq_ff ‹_›) | exact wan_y rfl rfl (by simp [*])) (fun h0 hS => st_assign rfl ⟨rfl, rfl⟩) rfl ?_
            refine aa_done (by kernel_rfl) ?_ _
            refine x_then ?_
            refine hK _ ?_
            clear hK K
            refine aw_ret ?_
            refine abody_ret (r := resA (addL l r false)) none (by repeat (first | exact ResA.nil | (apply ResA.tmp; (focus exact rfl)) | (apply ResA.cellN; (focus exact inferInstance); (focus exact rfl); (focus exact rfl); (focus exact rfl)) | (apply ResA.cell1; (focus exact inferInstance); (focus exact rfl); (focus exact rfl); (focus exact rfl)))) rfl rfl rfl ?_ ⟨rfl, rfl, rfl⟩
            have := res_ok (x := addL l r false) (l := l ++ [r]) (e := 0) (by simp [addL, *])
            rw [List.map_append] at this
            exact this

theorem Radd (l : List Rul) (r : Rul) (front : Bool) (hl : l.length ≤ 1000) (hi : ∀ r ∈ l, RulIn r) (hr : RulIn r) : AFn Tryz.prog 14 [.sl 8 (l.map rulA) none, .agg (rulA r), .v (.bool front)] (fun x => x = resA (addL l r front)) := by
  cases front
  · exact Radd_f l r hl hi hr
  · exact Radd_t l r hl hi hr
end
end Go.Proofs.YtokaaebbmcldaaaGreatDoor
