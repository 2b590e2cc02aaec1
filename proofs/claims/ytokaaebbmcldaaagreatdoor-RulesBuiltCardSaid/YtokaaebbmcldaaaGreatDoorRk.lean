/-
  Add and Remove.
-/
import Derived.Test.YtokaaebbmcldaaaGreatDoorRj
namespace Go.Proofs.YtokaaebbmcldaaaGreatDoor
open Go.RowKit

def addL (l : List Rul) (r : Rul) (front : Bool) : List Rul × Int :=
  if rsChk l ≠ 0 then ([], rsChk l) else if rchkL r ≠ 0 then ([], rchkL r) else if 0 ≤ findL l r then ([], 141) else if 24 ≤ (l.length : Int) then ([], 140) else (if front = true then r :: l else l ++ [r], 0)
def remL (l : List Rul) (r : Rul) : List Rul × Int :=
  if rsChk l ≠ 0 then ([], rsChk l) else if findL l r < 0 then ([], 142) else (l.eraseIdx (findL l r).toNat, 0)
def resA (x : List Rul × Int) : AV := .tup [.sl 8 (x.1.map rulA) none, .v (.int .i64 x.2)]
theorem rsChk_len {l : List Rul} (h : ¬ rsChk l ≠ 0) : (l.length : Int) ≤ 24 := by
  unfold rsChk at h
  split at h
  · simp at h
  · omega
theorem resA_eq {x : List Rul × Int} {l : List Rul} {e : Int} (h : x = (l, e)) : (AV.tup [.sl 8 (l.map rulA) none, .v (.int .i64 e)]) = resA x := by rw [h]; rfl
theorem res_nil {x : List Rul × Int} {e : Int} (h : x = ([], e)) : LeA (.tup [.v (.slice none 0 0), .v (.int .i64 e)]) (resA x) := by
  rw [h]
  exact (by repeat (first | exact LeA.refl _ | exact LeA.nil _ | exact LeL.refl _ | refine LeA.agg ?_ | refine LeA.tup ?_ | exact LeL.nil | refine LeL.cons ?_ ?_ | exact LeA.any _))
theorem res_ok {x : List Rul × Int} {l : List Rul} {e : Int} (h : x = (l, e)) : LeA (.tup [.sl 8 (l.map rulA) none, .v (.int .i64 e)]) (resA x) := by
  rw [h]
  exact LeA.refl _
section
set_option maxRecDepth 10000
set_option maxHeartbeats 1000000
theorem Padd_t (l : List Rul) (r : Rul) (hl : l.length ≤ 1000) (hi : ∀ r ∈ l, RulIn r) (hr : RulIn r) : AFn Tryz.prog 27 [.sl 8 (l.map rulA) none, .agg (rulA r), .v (.bool true)] (fun x => x = resA (addL l r true)) := by
  refine enter Tryz.func27 rfl rfl rfl rfl rfl 0 rfl ?_
  refine aw_seq (fun K hK => ?_)
  refine aw_region ?_
  first | refine al_p rfl (s_boxA rfl rfl (by repeat constructor) ?_) | refine al_p rfl (s_box rfl rfl (by repeat constructor) ?_)
  refine al_p rfl (st_assign rfl ?_)
  refine al_p rfl (st_assign rfl ?_)
  refine al_nil ?_
  refine x_then ?_
  refine hK _ ?_
  clear hK K
  refine aw_seq (fun K hK => ?_)
  refine aw_seq (fun K hK => ?_)
  refine aw_region ?_
  refine al_p rfl (st_move rfl ?_)
  refine al_p rfl (q_call (Pcheckl l hl hi) ?_)
  rintro r rfl
  refine al_p rfl (st_assign rfl ?_)
  refine al_nil ?_
  refine x_then ?_
  refine hK _ ?_
  clear hK K
  refine aw_seq (fun K hK => ?_)
  refine aw_region ?_
  refine al_p rfl (st_move rfl ?_)
  first | refine al_p rfl (st_neq rfl rfl ?_) | refine al_p rfl (st_neqS rfl rfl ?_) | refine al_p rfl (st_neqB (by kernel_rfl) rfl rfl ?_)
  refine al_nil ?_
  refine x_then ?_
  refine hK _ ?_
  clear hK K
  refine aw_cond rfl (fun hb1 => ?_) (fun hb1 => ?_)
  · have hc1 := bp hb1
    refine aw_seq (fun K hK => ?_)
    refine aw_region ?_
    refine al_p rfl (st_move rfl ?_)
    refine al_p rfl (st_assign rfl ?_)
    refine al_p rfl (st_assign rfl ?_)
    refine al_nil ?_
    refine x_then ?_
    refine hK _ ?_
    clear hK K
    refine aw_ret ?_
    refine x_thenR ?_
    clear hK K
    refine abody_ret (r := resA (addL l r true)) none (by repeat (first | exact ResA.nil | (apply ResA.tmp; (focus exact rfl)) | (apply ResA.cellN; (focus exact inferInstance); (focus exact rfl); (focus exact rfl); (focus exact rfl)) | (apply ResA.cell1; (focus exact inferInstance); (focus exact rfl); (focus exact rfl); (focus exact rfl)))) rfl rfl rfl ?_ ⟨rfl, rfl, rfl⟩
    exact res_nil (by simp [addL, *])
  · have hc1 := bp hb1
    refine aw_skip ?_
    refine x_then ?_
    refine hK _ ?_
    clear hK K
    refine aw_seq (fun K hK => ?_)
    refine aw_seq (fun K hK => ?_)
    refine aw_region ?_
    refine al_p rfl (st_loadBW rfl rfl rfl ?_)
    refine al_p rfl (q_call (Prcheck r hr) ?_)
    rintro r rfl
    refine al_p rfl (st_assign rfl ?_)
    refine al_nil ?_
    refine x_then ?_
    refine hK _ ?_
    clear hK K
    refine aw_seq (fun K hK => ?_)
    refine aw_region ?_
    refine al_p rfl (st_move rfl ?_)
    first | refine al_p rfl (st_neq rfl rfl ?_) | refine al_p rfl (st_neqS rfl rfl ?_) | refine al_p rfl (st_neqB (by kernel_rfl) rfl rfl ?_)
    refine al_nil ?_
    refine x_then ?_
    refine hK _ ?_
    clear hK K
    refine aw_cond rfl (fun hb2 => ?_) (fun hb2 => ?_)
    · have hc2 := bp hb2
      refine aw_seq (fun K hK => ?_)
      refine aw_region ?_
      refine al_p rfl (st_move rfl ?_)
      refine al_p rfl (st_assign rfl ?_)
      refine al_p rfl (st_assign rfl ?_)
      refine al_nil ?_
      refine x_then ?_
      refine hK _ ?_
      clear hK K
      refine aw_ret ?_
      refine x_thenR ?_
      clear hK K
      refine abody_ret (r := resA (addL l r true)) none (by repeat (first | exact ResA.nil | (apply ResA.tmp; (focus exact rfl)) | (apply ResA.cellN; (focus exact inferInstance); (focus exact rfl); (focus exact rfl); (focus exact rfl)) | (apply ResA.cell1; (focus exact inferInstance); (focus exact rfl); (focus exact rfl); (focus exact rfl)))) rfl rfl rfl ?_ ⟨rfl, rfl, rfl⟩
      exact res_nil (by simp [addL, *])
    · have hc2 := bp hb2
      refine aw_skip ?_
      refine x_then ?_
      refine hK _ ?_
      clear hK K
      refine aw_seq (fun K hK => ?_)
      refine aw_seq (fun K hK => ?_)
      refine aw_region ?_
      refine al_p rfl (st_move rfl ?_)
      refine al_p rfl (st_loadBW rfl rfl rfl ?_)
      refine al_p rfl (q_call (Pfind l r hl fun x hx => (hi x hx).2.2.2) ?_)
      rintro r rfl
      first | refine al_p rfl (st_geq rfl rfl ?_) | refine al_p rfl (st_geqS rfl rfl ?_)
      refine al_nil ?_
      refine x_then ?_
      refine hK _ ?_
      clear hK K
      refine aw_cond rfl (fun hb3 => ?_) (fun hb3 => ?_)
      · have hc3 := bp hb3
        refine aw_seq (fun K hK => ?_)
        refine aw_region ?_
        refine al_p rfl (st_assign rfl ?_)
        refine al_p rfl (st_assign rfl ?_)
        refine al_nil ?_
        refine x_then ?_
        refine hK _ ?_
        clear hK K
        refine aw_ret ?_
        refine x_thenR ?_
        clear hK K
        refine abody_ret (r := resA (addL l r true)) none (by repeat (first | exact ResA.nil | (apply ResA.tmp; (focus exact rfl)) | (apply ResA.cellN; (focus exact inferInstance); (focus exact rfl); (focus exact rfl); (focus exact rfl)) | (apply ResA.cell1; (focus exact inferInstance); (focus exact rfl); (focus exact rfl); (focus exact rfl)))) rfl rfl rfl ?_ ⟨rfl, rfl, rfl⟩
        exact res_nil (by simp [addL, *])
      · have hc3 := bp hb3
        refine aw_skip ?_
        refine x_then ?_
        refine hK _ ?_
        clear hK K
        refine aw_seq (fun K hK => ?_)
        refine aw_seq (fun K hK => ?_)
        refine aw_region ?_
        refine al_p rfl (st_move rfl ?_)
        first | refine al_p rfl (st_len rfl ?_) | refine al_p rfl (st_lenS (by kernel_rfl) rfl ?_) | refine al_p rfl (st_len0 rfl ?_)
        first | refine al_p rfl (st_geq rfl rfl ?_) | refine al_p rfl (st_geqS rfl rfl ?_)
        refine al_nil ?_
        refine x_then ?_
        refine hK _ ?_
        clear hK K
        refine aw_cond rfl (fun hb4 => ?_) (fun hb4 => ?_)
        · have hc4 := bp hb4
          refine aw_seq (fun K hK => ?_)
          refine aw_region ?_
          refine al_p rfl (st_assign rfl ?_)
          refine al_p rfl (st_assign rfl ?_)
          refine al_nil ?_
          refine x_then ?_
          refine hK _ ?_
          clear hK K
          refine aw_ret ?_
          refine x_thenR ?_
          clear hK K
          refine abody_ret (r := resA (addL l r true)) none (by repeat (first | exact ResA.nil | (apply ResA.tmp; (focus exact rfl)) | (apply ResA.cellN; (focus exact inferInstance); (focus exact rfl); (focus exact rfl); (focus exact rfl)) | (apply ResA.cell1; (focus exact inferInstance); (focus exact rfl); (focus exact rfl); (focus exact rfl)))) rfl rfl rfl ?_ ⟨rfl, rfl, rfl⟩
          exact res_nil (by rw [List.length_map] at hc4; simp [addL, *])
        · have hc4 := bp hb4
          have h4 : ¬ 24 ≤ (l.length : Int) := by rw [List.length_map] at hc4; omega
          refine aw_skip ?_
          refine x_then ?_
          refine hK _ ?_
          clear hK K
          refine aw_seq (fun K hK => ?_)
          refine aw_region ?_
          refine al_p rfl (st_move rfl ?_)
          first | refine al_p rfl (st_len rfl ?_) | refine al_p rfl (st_lenS (by kernel_rfl) rfl ?_) | refine al_p rfl (st_len0 rfl ?_)
          first | refine al_p rfl (st_add64 rfl rfl (by omega) ?_) | refine al_p rfl (st_addS rfl rfl (by omega) ?_) | refine al_p rfl (st_add rfl rfl ?_)
          refine al_p rfl (s_make0 rfl rfl (by omega) (by repeat constructor) ?_)
          refine al_p rfl (st_assign rfl ?_)
          refine al_nil ?_
          refine x_then ?_
          refine hK _ ?_
          clear hK K
          refine aw_seq (fun K hK => ?_)
          refine aw_seq (fun K hK => ?_)
          refine aw_region ?_
          refine al_p rfl (st_move rfl ?_)
          refine al_nil ?_
          refine x_then ?_
          refine hK _ ?_
          clear hK K
          refine aw_cond rfl (fun hb5 => ?_) (fun hb5 => ?_)
          · have hc5 := bp hb5
            refine aw_region ?_
            refine al_p rfl (st_move rfl ?_)
            refine al_p rfl (st_loadBW rfl rfl rfl ?_)
            refine al_p rfl (q_call (Pclone r hr.2.2.2) ?_)
            rintro r rfl
            refine al_p rfl (st_slit (by repeat (first | exact DenseA.nil _ | (apply DenseA.cons; (focus exact rfl); (focus exact rfl); (focus exact rfl); (focus exact rfl)) | (apply DenseA.consE; (focus exact rfl); (focus exact rfl); (focus exact rfl)))) rfl rfl rfl rfl ?_)
            first | refine al_p rfl (s_append rfl rfl rfl (by simp <;> omega) (by repeat constructor) ?_) | refine al_p rfl (s_append0 rfl rfl (by simp <;> omega) (by repeat constructor) ?_)
            refine al_p rfl (st_assign rfl ?_)
            refine al_nil ?_
            refine x_then ?_
            refine hK _ ?_
            clear hK K
            refine aw_seq (fun K hK => ?_)
            refine aw_seq (fun K hK => ?_)
            refine aw_region ?_
            refine al_p rfl (st_move rfl ?_)
            first | refine al_p rfl (st_len rfl ?_) | refine al_p rfl (st_lenS (by kernel_rfl) rfl ?_) | refine al_p rfl (st_len0 rfl ?_)
            refine al_p rfl (st_move rfl ?_)
            refine al_nil ?_
            refine x_then ?_
            refine hK _ ?_
            clear hK K
            refine aw_block ?_
            refine aw_loopW (fun n s => ∃ j : Nat, j ≤ l.length ∧ n = l.length - j ∧ s = ⟨look [(2, .v (.bool true)), (4, .bp 0 0), (10, .sl 8 ((r :: l.take j).map rulA) (some 0)), (40, .sl 8 (l.map rulA) none), (41, .v (.int .i64 ((l.map rulA).length : Int))), (42, .v (.int .i64 (j : Int)))], ⟨[rulA r], [(48, 8, (r :: l.take j).map rulA)]⟩⟩) (l.length) ((wk 1 1)) (⟨0, Nat.zero_le _, rfl, rfl⟩) ?_
            rintro n s ⟨j, hj, rfl, rfl⟩
            refine aw_seq (fun K hK => ?_)
            refine aw_region ?_
            first | refine al_p rfl (st_lss rfl rfl ?_) | refine al_p rfl (st_lssS rfl rfl ?_)
            refine al_nil ?_
            refine x_then ?_
            refine hK _ ?_
            clear hK K
            refine aw_seq (fun K hK => ?_)
            refine aw_cond rfl (fun hb6 => ?_) (fun hb6 => ?_)
            · have hc6 := bp hb6
              obtain ⟨hlt, x, hx, hrow, e⟩ := row_at rulA hc6
              refine aw_skip ?_
              refine x_then ?_
              refine hK _ ?_
              clear hK K
              refine aw_seq (fun K hK => ?_)
              refine aw_block ?_
              refine aw_seq (fun K hK => ?_)
              refine aw_region ?_
              refine al_p rfl (st_index rfl rfl rfl (by first | assumption | rfl) ?_)
              refine al_p rfl (st_loadFW rfl rfl ?_)
              refine al_p rfl (s_alloc (by repeat constructor) ?_)
              refine al_p0 (s_store rfl rfl rfl rfl rfl rfl (by repeat constructor) (by repeat constructor) ?_)
              refine al_nil ?_
              refine x_then ?_
              refine hK _ ?_
              clear hK K
              refine aw_region ?_
              refine al_p rfl (st_move rfl ?_)
              refine al_p rfl (st_loadBW rfl rfl rfl ?_)
              refine al_p rfl (q_call (Pclone x (hi x (List.mem_of_getElem? hx)).2.2.2) ?_)
              rintro r rfl
              refine al_p rfl (st_slit (by repeat (first | exact DenseA.nil _ | (apply DenseA.cons; (focus exact rfl); (focus exact rfl); (focus exact rfl); (focus exact rfl)) | (apply DenseA.consE; (focus exact rfl); (focus exact rfl); (focus exact rfl)))) rfl rfl rfl rfl ?_)
              first | refine al_p rfl (s_append rfl rfl rfl (by simp <;> omega) (by repeat constructor) ?_) | refine al_p rfl (s_append0 rfl rfl (by simp <;> omega) (by repeat constructor) ?_)
              refine al_p rfl (st_assign rfl ?_)
              refine al_nil ?_
              refine x_blockN ?_
              refine x_then ?_
              refine hK _ ?_
              clear hK K
              refine aw_region ?_
              first | refine al_p rfl (st_add64 rfl rfl (by omega) ?_) | refine al_p rfl (st_addS rfl rfl (by omega) ?_) | refine al_p rfl (st_add rfl rfl ?_)
              refine al_p rfl (st_move rfl ?_)
              refine al_nil ?_
              refine x_then ?_
              refine ⟨_, _, ?_, ⟨j + 1, by omega, rfl, rfl⟩, ?_⟩
              · omega
              · rw [show (r :: l.take (j + 1)).map rulA = (r :: l.take j).map rulA ++ [rulA x] by rw [List.map_cons, e]; rfl]; exact (wk 1 1)
            · have hc6 := bp hb6
              have e := row_no rulA hj hc6
              subst e
              rw [List.take_length]
              refine aw_exit ?_
              refine x_thenE ?_
              clear hK K
              refine x_thenE ?_
              refine ABlock_out ?_
              refine x_then ?_
              refine hK _ ?_
              clear hK K
              refine aw_seq (fun K hK => ?_)
              refine aw_seq (fun K hK => ?_)
              refine aw_region ?_
              refine al_p rfl (st_move rfl ?_)
              refine al_p rfl (st_not rfl ?_)
              refine al_nil ?_
              refine x_then ?_
              refine hK _ ?_
              clear hK K
              refine aw_cond rfl (fun hb7 => ?_) (fun hb7 => ?_)
              · have hc7 := bp hb7
                exfalso; first | contradiction | omega
              · have hc7 := bp hb7
                refine aw_skip ?_
                refine x_then ?_
                refine hK _ ?_
                clear hK K
                refine aw_seq (fun K hK => ?_)
                refine aw_region ?_
                refine al_p rfl (st_move rfl ?_)
                refine al_p rfl (st_assign rfl ?_)
                refine al_p rfl (st_assign rfl ?_)
                refine al_nil ?_
                refine x_then ?_
                refine hK _ ?_
                clear hK K
                refine aw_ret ?_
                refine abody_ret (r := resA (addL l r true)) none (by repeat (first | exact ResA.nil | (apply ResA.tmp; (focus exact rfl)) | (apply ResA.cellN; (focus exact inferInstance); (focus exact rfl); (focus exact rfl); (focus exact rfl)) | (apply ResA.cell1; (focus exact inferInstance); (focus exact rfl); (focus exact rfl); (focus exact rfl)))) rfl rfl rfl ?_ ⟨rfl, rfl, rfl⟩
                exact res_ok (l := r :: l) (by simp [addL, *])
          · have hc5 := bp hb5
            exfalso; first | contradiction | omega

theorem Padd_f (l : List Rul) (r : Rul) (hl : l.length ≤ 1000) (hi : ∀ r ∈ l, RulIn r) (hr : RulIn r) : AFn Tryz.prog 27 [.sl 8 (l.map rulA) none, .agg (rulA r), .v (.bool false)] (fun x => x = resA (addL l r false)) := by
  refine enter Tryz.func27 rfl rfl rfl rfl rfl 0 rfl ?_
  refine aw_seq (fun K hK => ?_)
  refine aw_region ?_
  first | refine al_p rfl (s_boxA rfl rfl (by repeat constructor) ?_) | refine al_p rfl (s_box rfl rfl (by repeat constructor) ?_)
  refine al_p rfl (st_assign rfl ?_)
  refine al_p rfl (st_assign rfl ?_)
  refine al_nil ?_
  refine x_then ?_
  refine hK _ ?_
  clear hK K
  refine aw_seq (fun K hK => ?_)
  refine aw_seq (fun K hK => ?_)
  refine aw_region ?_
  refine al_p rfl (st_move rfl ?_)
  refine al_p rfl (q_call (Pcheckl l hl hi) ?_)
  rintro r rfl
  refine al_p rfl (st_assign rfl ?_)
  refine al_nil ?_
  refine x_then ?_
  refine hK _ ?_
  clear hK K
  refine aw_seq (fun K hK => ?_)
  refine aw_region ?_
  refine al_p rfl (st_move rfl ?_)
  first | refine al_p rfl (st_neq rfl rfl ?_) | refine al_p rfl (st_neqS rfl rfl ?_) | refine al_p rfl (st_neqB (by kernel_rfl) rfl rfl ?_)
  refine al_nil ?_
  refine x_then ?_
  refine hK _ ?_
  clear hK K
  refine aw_cond rfl (fun hb1 => ?_) (fun hb1 => ?_)
  · have hc1 := bp hb1
    refine aw_seq (fun K hK => ?_)
    refine aw_region ?_
    refine al_p rfl (st_move rfl ?_)
    refine al_p rfl (st_assign rfl ?_)
    refine al_p rfl (st_assign rfl ?_)
    refine al_nil ?_
    refine x_then ?_
    refine hK _ ?_
    clear hK K
    refine aw_ret ?_
    refine x_thenR ?_
    clear hK K
    refine abody_ret (r := resA (addL l r false)) none (by repeat (first | exact ResA.nil | (apply ResA.tmp; (focus exact rfl)) | (apply ResA.cellN; (focus exact inferInstance); (focus exact rfl); (focus exact rfl); (focus exact rfl)) | (apply ResA.cell1; (focus exact inferInstance); (focus exact rfl); (focus exact rfl); (focus exact rfl)))) rfl rfl rfl ?_ ⟨rfl, rfl, rfl⟩
    exact res_nil (by simp [addL, *])
  · have hc1 := bp hb1
    refine aw_skip ?_
    refine x_then ?_
    refine hK _ ?_
    clear hK K
    refine aw_seq (fun K hK => ?_)
    refine aw_seq (fun K hK => ?_)
    refine aw_region ?_
    refine al_p rfl (st_loadBW rfl rfl rfl ?_)
    refine al_p rfl (q_call (Prcheck r hr) ?_)
    rintro r rfl
    refine al_p rfl (st_assign rfl ?_)
    refine al_nil ?_
    refine x_then ?_
    refine hK _ ?_
    clear hK K
    refine aw_seq (fun K hK => ?_)
    refine aw_region ?_
    refine al_p rfl (st_move rfl ?_)
    first | refine al_p rfl (st_neq rfl rfl ?_) | refine al_p rfl (st_neqS rfl rfl ?_) | refine al_p rfl (st_neqB (by kernel_rfl) rfl rfl ?_)
    refine al_nil ?_
    refine x_then ?_
    refine hK _ ?_
    clear hK K
    refine aw_cond rfl (fun hb2 => ?_) (fun hb2 => ?_)
    · have hc2 := bp hb2
      refine aw_seq (fun K hK => ?_)
      refine aw_region ?_
      refine al_p rfl (st_move rfl ?_)
      refine al_p rfl (st_assign rfl ?_)
      refine al_p rfl (st_assign rfl ?_)
      refine al_nil ?_
      refine x_then ?_
      refine hK _ ?_
      clear hK K
      refine aw_ret ?_
      refine x_thenR ?_
      clear hK K
      refine abody_ret (r := resA (addL l r false)) none (by repeat (first | exact ResA.nil | (apply ResA.tmp; (focus exact rfl)) | (apply ResA.cellN; (focus exact inferInstance); (focus exact rfl); (focus exact rfl); (focus exact rfl)) | (apply ResA.cell1; (focus exact inferInstance); (focus exact rfl); (focus exact rfl); (focus exact rfl)))) rfl rfl rfl ?_ ⟨rfl, rfl, rfl⟩
      exact res_nil (by simp [addL, *])
    · have hc2 := bp hb2
      refine aw_skip ?_
      refine x_then ?_
      refine hK _ ?_
      clear hK K
      refine aw_seq (fun K hK => ?_)
      refine aw_seq (fun K hK => ?_)
      refine aw_region ?_
      refine al_p rfl (st_move rfl ?_)
      refine al_p rfl (st_loadBW rfl rfl rfl ?_)
      refine al_p rfl (q_call (Pfind l r hl fun x hx => (hi x hx).2.2.2) ?_)
      rintro r rfl
      first | refine al_p rfl (st_geq rfl rfl ?_) | refine al_p rfl (st_geqS rfl rfl ?_)
      refine al_nil ?_
      refine x_then ?_
      refine hK _ ?_
      clear hK K
      refine aw_cond rfl (fun hb3 => ?_) (fun hb3 => ?_)
      · have hc3 := bp hb3
        refine aw_seq (fun K hK => ?_)
        refine aw_region ?_
        refine al_p rfl (st_assign rfl ?_)
        refine al_p rfl (st_assign rfl ?_)
        refine al_nil ?_
        refine x_then ?_
        refine hK _ ?_
        clear hK K
        refine aw_ret ?_
        refine x_thenR ?_
        clear hK K
        refine abody_ret (r := resA (addL l r false)) none (by repeat (first | exact ResA.nil | (apply ResA.tmp; (focus exact rfl)) | (apply ResA.cellN; (focus exact inferInstance); (focus exact rfl); (focus exact rfl); (focus exact rfl)) | (apply ResA.cell1; (focus exact inferInstance); (focus exact rfl); (focus exact rfl); (focus exact rfl)))) rfl rfl rfl ?_ ⟨rfl, rfl, rfl⟩
        exact res_nil (by simp [addL, *])
      · have hc3 := bp hb3
        refine aw_skip ?_
        refine x_then ?_
        refine hK _ ?_
        clear hK K
        refine aw_seq (fun K hK => ?_)
        refine aw_seq (fun K hK => ?_)
        refine aw_region ?_
        refine al_p rfl (st_move rfl ?_)
        first | refine al_p rfl (st_len rfl ?_) | refine al_p rfl (st_lenS (by kernel_rfl) rfl ?_) | refine al_p rfl (st_len0 rfl ?_)
        first | refine al_p rfl (st_geq rfl rfl ?_) | refine al_p rfl (st_geqS rfl rfl ?_)
        refine al_nil ?_
        refine x_then ?_
        refine hK _ ?_
        clear hK K
        refine aw_cond rfl (fun hb4 => ?_) (fun hb4 => ?_)
        · have hc4 := bp hb4
          refine aw_seq (fun K hK => ?_)
          refine aw_region ?_
          refine al_p rfl (st_assign rfl ?_)
          refine al_p rfl (st_assign rfl ?_)
          refine al_nil ?_
          refine x_then ?_
          refine hK _ ?_
          clear hK K
          refine aw_ret ?_
          refine x_thenR ?_
          clear hK K
          refine abody_ret (r := resA (addL l r false)) none (by repeat (first | exact ResA.nil | (apply ResA.tmp; (focus exact rfl)) | (apply ResA.cellN; (focus exact inferInstance); (focus exact rfl); (focus exact rfl); (focus exact rfl)) | (apply ResA.cell1; (focus exact inferInstance); (focus exact rfl); (focus exact rfl); (focus exact rfl)))) rfl rfl rfl ?_ ⟨rfl, rfl, rfl⟩
          exact res_nil (by rw [List.length_map] at hc4; simp [addL, *])
        · have hc4 := bp hb4
          have h4 : ¬ 24 ≤ (l.length : Int) := by rw [List.length_map] at hc4; omega
          refine aw_skip ?_
          refine x_then ?_
          refine hK _ ?_
          clear hK K
          refine aw_seq (fun K hK => ?_)
          refine aw_region ?_
          refine al_p rfl (st_move rfl ?_)
          first | refine al_p rfl (st_len rfl ?_) | refine al_p rfl (st_lenS (by kernel_rfl) rfl ?_) | refine al_p rfl (st_len0 rfl ?_)
          first | refine al_p rfl (st_add64 rfl rfl (by omega) ?_) | refine al_p rfl (st_addS rfl rfl (by omega) ?_) | refine al_p rfl (st_add rfl rfl ?_)
          refine al_p rfl (s_make0 rfl rfl (by omega) (by repeat constructor) ?_)
          refine al_p rfl (st_assign rfl ?_)
          refine al_nil ?_
          refine x_then ?_
          refine hK _ ?_
          clear hK K
          refine aw_seq (fun K hK => ?_)
          refine aw_seq (fun K hK => ?_)
          refine aw_region ?_
          refine al_p rfl (st_move rfl ?_)
          refine al_nil ?_
          refine x_then ?_
          refine hK _ ?_
          clear hK K
          refine aw_cond rfl (fun hb5 => ?_) (fun hb5 => ?_)
          · have hc5 := bp hb5
            exfalso; first | contradiction | omega
          · have hc5 := bp hb5
            refine aw_skip ?_
            refine x_then ?_
            refine hK _ ?_
            clear hK K
            refine aw_seq (fun K hK => ?_)
            refine aw_seq (fun K hK => ?_)
            refine aw_region ?_
            refine al_p rfl (st_move rfl ?_)
            first | refine al_p rfl (st_len rfl ?_) | refine al_p rfl (st_lenS (by kernel_rfl) rfl ?_) | refine al_p rfl (st_len0 rfl ?_)
            refine al_p rfl (st_move rfl ?_)
            refine al_nil ?_
            refine x_then ?_
            refine hK _ ?_
            clear hK K
            refine aw_block ?_
            refine aw_loopW (fun n s => ∃ j : Nat, j ≤ l.length ∧ n = l.length - j ∧ s = ⟨look [(2, .v (.bool false)), (4, .bp 0 0), (10, .sl 8 ((l.take j).map rulA) (some 0)), (40, .sl 8 (l.map rulA) none), (41, .v (.int .i64 ((l.map rulA).length : Int))), (42, .v (.int .i64 (j : Int)))], ⟨[rulA r], [(48, 8, (l.take j).map rulA)]⟩⟩) (l.length) ((wk 1 1)) (⟨0, Nat.zero_le _, rfl, rfl⟩) ?_
            rintro n s ⟨j, hj, rfl, rfl⟩
            refine aw_seq (fun K hK => ?_)
            refine aw_region ?_
            first | refine al_p rfl (st_lss rfl rfl ?_) | refine al_p rfl (st_lssS rfl rfl ?_)
            refine al_nil ?_
            refine x_then ?_
            refine hK _ ?_
            clear hK K
            refine aw_seq (fun K hK => ?_)
            refine aw_cond rfl (fun hb6 => ?_) (fun hb6 => ?_)
            · have hc6 := bp hb6
              obtain ⟨hlt, x, hx, hrow, e⟩ := row_at rulA hc6
              refine aw_skip ?_
              refine x_then ?_
              refine hK _ ?_
              clear hK K
              refine aw_seq (fun K hK => ?_)
              refine aw_block ?_
              refine aw_seq (fun K hK => ?_)
              refine aw_region ?_
              refine al_p rfl (st_index rfl rfl rfl (by first | assumption | rfl) ?_)
              refine al_p rfl (st_loadFW rfl rfl ?_)
              refine al_p rfl (s_alloc (by repeat constructor) ?_)
              refine al_p0 (s_store rfl rfl rfl rfl rfl rfl (by repeat constructor) (by repeat constructor) ?_)
              refine al_nil ?_
              refine x_then ?_
              refine hK _ ?_
              clear hK K
              refine aw_region ?_
              refine al_p rfl (st_move rfl ?_)
              refine al_p rfl (st_loadBW rfl rfl rfl ?_)
              refine al_p rfl (q_call (Pclone x (hi x (List.mem_of_getElem? hx)).2.2.2) ?_)
              rintro r rfl
              refine al_p rfl (st_slit (by repeat (first | exact DenseA.nil _ | (apply DenseA.cons; (focus exact rfl); (focus exact rfl); (focus exact rfl); (focus exact rfl)) | (apply DenseA.consE; (focus exact rfl); (focus exact rfl); (focus exact rfl)))) rfl rfl rfl rfl ?_)
              first | refine al_p rfl (s_append rfl rfl rfl (by simp <;> omega) (by repeat constructor) ?_) | refine al_p rfl (s_append0 rfl rfl (by simp <;> omega) (by repeat constructor) ?_)
              refine al_p rfl (st_assign rfl ?_)
              refine al_nil ?_
              refine x_blockN ?_
              refine x_then ?_
              refine hK _ ?_
              clear hK K
              refine aw_region ?_
              first | refine al_p rfl (st_add64 rfl rfl (by omega) ?_) | refine al_p rfl (st_addS rfl rfl (by omega) ?_) | refine al_p rfl (st_add rfl rfl ?_)
              refine al_p rfl (st_move rfl ?_)
              refine al_nil ?_
              refine x_then ?_
              refine ⟨_, _, ?_, ⟨j + 1, by omega, rfl, rfl⟩, ?_⟩
              · omega
              · rw [e]; exact (wk 1 1)
            · have hc6 := bp hb6
              have e := row_no rulA hj hc6
              subst e
              rw [List.take_length]
              refine aw_exit ?_
              refine x_thenE ?_
              clear hK K
              refine x_thenE ?_
              refine ABlock_out ?_
              refine x_then ?_
              refine hK _ ?_
              clear hK K
              refine aw_seq (fun K hK => ?_)
              refine aw_seq (fun K hK => ?_)
              refine aw_region ?_
              refine al_p rfl (st_move rfl ?_)
              refine al_p rfl (st_not rfl ?_)
              refine al_nil ?_
              refine x_then ?_
              refine hK _ ?_
              clear hK K
              refine aw_cond rfl (fun hb7 => ?_) (fun hb7 => ?_)
              · have hc7 := bp hb7
                refine aw_region ?_
                refine al_p rfl (st_move rfl ?_)
                refine al_p rfl (st_loadBW rfl rfl rfl ?_)
                refine al_p rfl (q_call (Pclone r hr.2.2.2) ?_)
                rintro r rfl
                refine al_p rfl (st_slit (by repeat (first | exact DenseA.nil _ | (apply DenseA.cons; (focus exact rfl); (focus exact rfl); (focus exact rfl); (focus exact rfl)) | (apply DenseA.consE; (focus exact rfl); (focus exact rfl); (focus exact rfl)))) rfl rfl rfl rfl ?_)
                first | refine al_p rfl (s_append rfl rfl rfl (by simp <;> omega) (by repeat constructor) ?_) | refine al_p rfl (s_append0 rfl rfl (by simp <;> omega) (by repeat constructor) ?_)
                refine al_p rfl (st_assign rfl ?_)
                refine al_nil ?_
                refine x_then ?_
                refine hK _ ?_
                clear hK K
                refine aw_seq (fun K hK => ?_)
                refine aw_region ?_
                refine al_p rfl (st_move rfl ?_)
                refine al_p rfl (st_assign rfl ?_)
                refine al_p rfl (st_assign rfl ?_)
                refine al_nil ?_
                refine x_then ?_
                refine hK _ ?_
                clear hK K
                refine aw_ret ?_
                refine abody_ret (r := resA (addL l r false)) none (by repeat (first | exact ResA.nil | (apply ResA.tmp; (focus exact rfl)) | (apply ResA.cellN; (focus exact inferInstance); (focus exact rfl); (focus exact rfl); (focus exact rfl)) | (apply ResA.cell1; (focus exact inferInstance); (focus exact rfl); (focus exact rfl); (focus exact rfl)))) rfl rfl rfl ?_ ⟨rfl, rfl, rfl⟩
                have := res_ok (x := addL l r false) (l := l ++ [r]) (e := 0) (by simp [addL, *])
                rw [List.map_append] at this
                exact this
              · have hc7 := bp hb7
                exfalso; first | contradiction | omega

theorem Padd (l : List Rul) (r : Rul) (front : Bool) (hl : l.length ≤ 1000) (hi : ∀ r ∈ l, RulIn r) (hr : RulIn r) : AFn Tryz.prog 27 [.sl 8 (l.map rulA) none, .agg (rulA r), .v (.bool front)] (fun x => x = resA (addL l r front)) := by
  cases front
  · exact Padd_f l r hl hi hr
  · exact Padd_t l r hl hi hr
theorem erase_take {l : List Rul} {j k : Nat} {x : Rul} (hx : l[j]? = some x) : (l.take (j + 1)).eraseIdx k = if j = k then (l.take j).eraseIdx k else (l.take j).eraseIdx k ++ [x] := by
  obtain ⟨hk, e⟩ := List.getElem?_eq_some_iff.1 hx
  rw [List.take_succ_eq_append_getElem hk, e]
  have hl : (l.take j).length = j := by simp; omega
  split
  · rename_i h
    subst h
    have h2 : (l.take j).eraseIdx j = l.take j := List.eraseIdx_of_length_le (by omega)
    rw [List.eraseIdx_append_of_length_le (by omega), hl, h2]
    simp
  · rename_i h
    rcases Nat.lt_or_ge k j with h2 | h2
    · rw [List.eraseIdx_append_of_lt_length (by omega)]
    · rw [List.eraseIdx_of_length_le (by simp; omega), List.eraseIdx_of_length_le (by omega)]
end
end Go.Proofs.YtokaaebbmcldaaaGreatDoor
