/-
  The source of numbers: names, paths, identities, items, calls, contexts.
  The source of numbers: calls, contexts.
  Contexts that are made up, answers from a number, the law RulesOrder.
  The law RulesOrder.
-/
import Derived.Test.YtokaaebbmcldaaaGreatDoorSx
namespace Go.Proofs.YtokaaebbmcldaaaGreatDoor
open Go.RowKit

theorem SetAt.sym {α : Type} {x : α} : ∀ {row : List α} {o : Nat}, o < row.length → SetAt row o [x] (row.set o x)
  | [], _, h => by simp at h
  | y :: ys, 0, _ => SetAt.here y x ys [] ys (SetAt.nil ys 0)
  | y :: ys, o + 1, h => SetAt.there y x ys [] (ys.set o x) o (SetAt.sym (by simpa using h))
theorem size_app (a b : ByteArray) : (a ++ b).size = a.size + b.size := ByteArray.size_append
def shpOk : List AV → Bool
  | [.v (.string _), .v (.int .i64 a), .v (.int .i64 b), .v (.int .i64 c), .v (.int .i64 d)] => decide (0 ≤ a ∧ a ≤ 2 ∧ 0 ≤ b ∧ b ≤ 2 ∧ 0 ≤ c ∧ c ≤ d ∧ d ≤ 100)
  | _ => false
theorem shp_of {r : List AV} (h : shpOk r = true) : ∃ (s : ByteArray) (a b c d : Int), r = [.v (.string s), .v (.int .i64 a), .v (.int .i64 b), .v (.int .i64 c), .v (.int .i64 d)] ∧ 0 ≤ a ∧ a ≤ 2 ∧ 0 ≤ b ∧ b ≤ 2 ∧ 0 ≤ c ∧ c ≤ d ∧ d ≤ 100 := by
  unfold shpOk at h
  split at h
  · rename_i s a b c d
    exact ⟨s, a, b, c, d, rfl, of_decide_eq_true h⟩
  · cases h
section
set_option maxRecDepth 10000
set_option maxHeartbeats 2000000
theorem Rtable : AFn Tryz.prog 76 [] (fun r => ∃ rows : List (List AV), rows.length = 22 ∧ rows.all shpOk = true ∧ r = .sl 5 rows none) := by
  refine enter Tryz.func76 rfl rfl rfl rfl rfl 0 rfl ?_
  refine aw_seq (fun K hK => ?_)
  refine aw_region ?_
  refine al_p rfl (st_assign rfl ?_)
  refine al_nil ?_
  refine x_then ?_
  refine hK _ ?_
  clear hK K
  refine aw_seq (fun K hK => ?_)
  refine aw_region ?_
  refine al_p rfl (st_build (by repeat (first | exact FillA.nil _ | (apply FillA.cons; (focus exact rfl); (focus exact rfl); (focus exact rfl); (focus exact rfl); (focus exact rfl); (focus (repeat constructor))))) ?_)
  refine al_p rfl (st_build (by repeat (first | exact FillA.nil _ | (apply FillA.cons; (focus exact rfl); (focus exact rfl); (focus exact rfl); (focus exact rfl); (focus exact rfl); (focus (repeat constructor))))) ?_)
  refine al_p rfl (st_build (by repeat (first | exact FillA.nil _ | (apply FillA.cons; (focus exact rfl); (focus exact rfl); (focus exact rfl); (focus exact rfl); (focus exact rfl); (focus (repeat constructor))))) ?_)
  refine al_p rfl (st_build (by repeat (first | exact FillA.nil _ | (apply FillA.cons; (focus exact rfl); (focus exact rfl); (focus exact rfl); (focus exact rfl); (focus exact rfl); (focus (repeat constructor))))) ?_)
  refine al_p rfl (st_build (by repeat (first | exact FillA.nil _ | (apply FillA.cons; (focus exact rfl); (focus exact rfl); (focus exact rfl); (focus exact rfl); (focus exact rfl); (focus (repeat constructor))))) ?_)
  refine al_p rfl (st_build (by repeat (first | exact FillA.nil _ | (apply FillA.cons; (focus exact rfl); (focus exact rfl); (focus exact rfl); (focus exact rfl); (focus exact rfl); (focus (repeat constructor))))) ?_)
  refine al_p rfl (st_build (by repeat (first | exact FillA.nil _ | (apply FillA.cons; (focus exact rfl); (focus exact rfl); (focus exact rfl); (focus exact rfl); (focus exact rfl); (focus (repeat constructor))))) ?_)
  refine al_p rfl (st_build (by repeat (first | exact FillA.nil _ | (apply FillA.cons; (focus exact rfl); (focus exact rfl); (focus exact rfl); (focus exact rfl); (focus exact rfl); (focus (repeat constructor))))) ?_)
  refine al_p rfl (st_build (by repeat (first | exact FillA.nil _ | (apply FillA.cons; (focus exact rfl); (focus exact rfl); (focus exact rfl); (focus exact rfl); (focus exact rfl); (focus (repeat constructor))))) ?_)
  refine al_p rfl (st_build (by repeat (first | exact FillA.nil _ | (apply FillA.cons; (focus exact rfl); (focus exact rfl); (focus exact rfl); (focus exact rfl); (focus exact rfl); (focus (repeat constructor))))) ?_)
  refine al_p rfl (st_build (by repeat (first | exact FillA.nil _ | (apply FillA.cons; (focus exact rfl); (focus exact rfl); (focus exact rfl); (focus exact rfl); (focus exact rfl); (focus (repeat constructor))))) ?_)
  refine al_p rfl (st_build (by repeat (first | exact FillA.nil _ | (apply FillA.cons; (focus exact rfl); (focus exact rfl); (focus exact rfl); (focus exact rfl); (focus exact rfl); (focus (repeat constructor))))) ?_)
  refine al_p rfl (st_build (by repeat (first | exact FillA.nil _ | (apply FillA.cons; (focus exact rfl); (focus exact rfl); (focus exact rfl); (focus exact rfl); (focus exact rfl); (focus (repeat constructor))))) ?_)
  refine al_p rfl (st_build (by repeat (first | exact FillA.nil _ | (apply FillA.cons; (focus exact rfl); (focus exact rfl); (focus exact rfl); (focus exact rfl); (focus exact rfl); (focus (repeat constructor))))) ?_)
  refine al_p rfl (st_build (by repeat (first | exact FillA.nil _ | (apply FillA.cons; (focus exact rfl); (focus exact rfl); (focus exact rfl); (focus exact rfl); (focus exact rfl); (focus (repeat constructor))))) ?_)
  refine al_p rfl (st_build (by repeat (first | exact FillA.nil _ | (apply FillA.cons; (focus exact rfl); (focus exact rfl); (focus exact rfl); (focus exact rfl); (focus exact rfl); (focus (repeat constructor))))) ?_)
  refine al_p rfl (st_build (by repeat (first | exact FillA.nil _ | (apply FillA.cons; (focus exact rfl); (focus exact rfl); (focus exact rfl); (focus exact rfl); (focus exact rfl); (focus (repeat constructor))))) ?_)
  refine al_p rfl (st_build (by repeat (first | exact FillA.nil _ | (apply FillA.cons; (focus exact rfl); (focus exact rfl); (focus exact rfl); (focus exact rfl); (focus exact rfl); (focus (repeat constructor))))) ?_)
  refine al_p rfl (st_build (by repeat (first | exact FillA.nil _ | (apply FillA.cons; (focus exact rfl); (focus exact rfl); (focus exact rfl); (focus exact rfl); (focus exact rfl); (focus (repeat constructor))))) ?_)
  refine al_p rfl (st_build (by repeat (first | exact FillA.nil _ | (apply FillA.cons; (focus exact rfl); (focus exact rfl); (focus exact rfl); (focus exact rfl); (focus exact rfl); (focus (repeat constructor))))) ?_)
  refine al_p rfl (st_build (by repeat (first | exact FillA.nil _ | (apply FillA.cons; (focus exact rfl); (focus exact rfl); (focus exact rfl); (focus exact rfl); (focus exact rfl); (focus (repeat constructor))))) ?_)
  refine al_p rfl (st_build (by repeat (first | exact FillA.nil _ | (apply FillA.cons; (focus exact rfl); (focus exact rfl); (focus exact rfl); (focus exact rfl); (focus exact rfl); (focus (repeat constructor))))) ?_)
  refine al_p rfl (st_slit (by repeat (first | exact DenseA.nil _ | (apply DenseA.cons; (focus exact rfl); (focus exact rfl); (focus exact rfl); (focus exact rfl)) | (apply DenseA.consE; (focus exact rfl); (focus exact rfl); (focus exact rfl)))) rfl rfl rfl rfl ?_)
  refine al_p rfl (st_assign rfl ?_)
  refine al_nil ?_
  refine x_then ?_
  refine hK _ ?_
  clear hK K
  refine aw_ret ?_
  refine e_ret ?_
  exact ⟨_, rfl, rfl, rfl⟩

theorem Rcount : AFn Tryz.prog 75 [] (fun r => r = .v (.int .i64 22)) := by
  refine enter Tryz.func75 rfl rfl rfl rfl rfl 0 rfl ?_
  refine aw_seq (fun K hK => ?_)
  refine aw_region ?_
  refine al_p rfl (st_assign rfl ?_)
  refine al_nil ?_
  refine x_then ?_
  refine hK _ ?_
  clear hK K
  refine aw_seq (fun K hK => ?_)
  refine aw_region ?_
  refine al_p rfl (q_call (Rtable) ?_)
  rintro r ⟨rows, hrl, hra, rfl⟩
  first | refine al_p rfl (st_len rfl ?_) | refine al_p rfl (st_lenS (by kernel_rfl) rfl ?_) | refine al_p rfl (st_len0 rfl ?_)
  refine al_p rfl (st_assign rfl ?_)
  refine al_nil ?_
  refine x_then ?_
  refine hK _ ?_
  clear hK K
  refine aw_ret ?_
  refine e_ret ?_
  exact vi (by rw [hrl]; rfl)

theorem Rget (n : Int) : AFn Tryz.prog 56 [.v (.int .i64 n)] (fun r => ∃ row, shpOk row = true ∧ r = .agg row) := by
  refine enter Tryz.func56 rfl rfl rfl rfl rfl 0 rfl ?_
  refine aw_seq (fun K hK => ?_)
  refine aw_region ?_
  refine al_p rfl (s_alloc (by repeat constructor) ?_)
  refine al_nil ?_
  refine x_then ?_
  refine hK _ ?_
  clear hK K
  refine aw_seq (fun K hK => ?_)
  refine aw_seq (fun K hK => ?_)
  refine aw_region ?_
  refine al_p rfl (st_move rfl ?_)
  first | refine al_p rfl (st_lss rfl rfl ?_) | refine al_p rfl (st_lssS rfl rfl ?_)
  refine al_p rfl (st_move rfl ?_)
  refine al_gs false rfl rfl (fun hb1 => ?_) (fun hb1 => ?_)
  · have hc1 := bp hb1
    refine g_n ?_
    refine g_n ?_
    refine g_n ?_
    refine al_p rfl (p_t ?_)
    refine al_nil ?_
    refine x_then ?_
    refine hK _ ?_
    clear hK K
    refine aw_cy rfl (by first | rfl | assumption | simp [*]) ?_
    refine aw_seq (fun K hK => ?_)
    refine aw_region ?_
    refine al_p rfl (st_build (by repeat (first | exact FillA.nil _ | (apply FillA.cons; (focus exact rfl); (focus exact rfl); (focus exact rfl); (focus exact rfl); (focus exact rfl); (focus (repeat constructor))))) ?_)
    refine al_p0 (s_store rfl rfl rfl rfl rfl rfl (by repeat constructor) (by repeat constructor) ?_)
    refine al_nil ?_
    refine x_then ?_
    refine hK _ ?_
    clear hK K
    refine aw_ret ?_
    refine x_thenR ?_
    clear hK K
    refine e_ret ?_
    exact ⟨_, rfl, rfl⟩
  · have hc1 := bp hb1
    refine g_y (st_move rfl ?_)
    refine g_y (q_call (Rcount) ?_)
    rintro r rfl
    first | refine g_y (st_geq rfl rfl ?_) | refine g_y (st_geqS rfl rfl ?_)
    refine al_p rfl (p_f ?_)
    refine al_nil ?_
    refine x_then ?_
    refine hK _ ?_
    clear hK K
    refine aw_cond rfl (fun hb2 => ?_) (fun hb2 => ?_)
    · have hc2 := bp hb2
      refine aw_seq (fun K hK => ?_)
      refine aw_region ?_
      refine al_p rfl (st_build (by repeat (first | exact FillA.nil _ | (apply FillA.cons; (focus exact rfl); (focus exact rfl); (focus exact rfl); (focus exact rfl); (focus exact rfl); (focus (repeat constructor))))) ?_)
      refine al_p0 (s_store rfl rfl rfl rfl rfl rfl (by repeat constructor) (by repeat constructor) ?_)
      refine al_nil ?_
      refine x_then ?_
      refine hK _ ?_
      clear hK K
      refine aw_ret ?_
      refine x_thenR ?_
      clear hK K
      refine e_ret ?_
      exact ⟨_, rfl, rfl⟩
    · have hc2 := bp hb2
      refine aw_skip ?_
      refine x_then ?_
      refine hK _ ?_
      clear hK K
      refine aw_seq (fun K hK => ?_)
      refine aw_region ?_
      refine al_p rfl (q_call (Rtable) ?_)
      rintro r ⟨rows, hrl, hra, rfl⟩
      obtain ⟨m, rfl⟩ := Int.eq_ofNat_of_zero_le (show 0 ≤ n by omega)
      obtain ⟨row, hrow⟩ : ∃ row, rows[m]? = some row := ⟨rows[m]'(by omega), List.getElem?_eq_getElem (by omega)⟩
      have hok := List.all_eq_true.1 hra row (List.mem_of_getElem? hrow)
      obtain ⟨s0, a0, b0, c0, d0, rfl, -⟩ := shp_of hok
      refine al_p rfl (st_move rfl ?_)
      refine al_p rfl (st_index (n := m) rfl rfl rfl hrow ?_)
      first | refine al_p rfl (st_loadB1 rfl rfl rfl ?_) | refine al_p rfl (st_loadBW rfl rfl rfl ?_) | refine al_p rfl (st_loadF1 rfl rfl ?_) | refine al_p rfl (st_loadFW rfl rfl ?_) | refine al_p rfl (st_loadBN rfl rfl rfl ?_) | refine al_p rfl (st_loadFN rfl rfl ?_)
      refine al_p0 (s_store rfl rfl rfl rfl rfl rfl (by repeat constructor) (by repeat constructor) ?_)
      refine al_nil ?_
      refine x_then ?_
      refine hK _ ?_
      clear hK K
      refine aw_ret ?_
      refine e_ret ?_
      exact ⟨_, hok, rfl⟩

theorem Rshape (n : Int) : AFn Tryz.prog 35 [.v (.int .i64 n)] (fun r => ∃ a b c d : Int, 0 ≤ a ∧ a ≤ 2 ∧ 0 ≤ b ∧ b ≤ 2 ∧ 0 ≤ c ∧ c ≤ d ∧ d ≤ 100 ∧ r = .tup [.v (.int .i64 a), .v (.int .i64 b), .v (.int .i64 c), .v (.int .i64 d)]) := by
  refine enter Tryz.func35 rfl rfl rfl rfl rfl 0 rfl ?_
  refine aw_seq (fun K hK => ?_)
  refine aw_region ?_
  refine al_p rfl (st_assign rfl ?_)
  refine al_p rfl (st_assign rfl ?_)
  refine al_p rfl (st_assign rfl ?_)
  refine al_p rfl (st_assign rfl ?_)
  refine al_nil ?_
  refine x_then ?_
  refine hK _ ?_
  clear hK K
  refine aw_seq (fun K hK => ?_)
  refine aw_region ?_
  refine al_p rfl (st_move rfl ?_)
  refine al_p rfl (q_call (Rget n) ?_)
  rintro r ⟨row, hok, rfl⟩
  obtain ⟨s0, a0, b0, c0, d0, rfl, q1, q2, q3, q4, q5, q6, q7⟩ := shp_of hok
  refine al_p rfl (s_alloc (by repeat constructor) ?_)
  refine al_p0 (s_store rfl rfl rfl rfl rfl rfl (by repeat constructor) (by repeat constructor) ?_)
  refine al_nil ?_
  refine x_then ?_
  refine hK _ ?_
  clear hK K
  refine aw_seq (fun K hK => ?_)
  refine aw_drawR 12 (by kernel_rfl) ?_
  refine r_y (i := 0) rfl (st_fieldB rfl ⟨rfl, rfl⟩) ?_
  refine r_y (i := 1) rfl (st_loadB1 rfl rfl rfl ⟨rfl, rfl⟩) ?_
  refine r_y (i := 2) rfl (st_fieldB rfl ⟨rfl, rfl⟩) ?_
  refine r_y (i := 3) rfl (st_loadB1 rfl rfl rfl ⟨rfl, rfl⟩) ?_
  refine r_y (i := 4) rfl (st_fieldB rfl ⟨rfl, rfl⟩) ?_
  refine r_y (i := 5) rfl (st_loadB1 rfl rfl rfl ⟨rfl, rfl⟩) ?_
  refine r_y (i := 6) rfl (st_fieldB rfl ⟨rfl, rfl⟩) ?_
  refine r_y (i := 7) rfl (st_loadB1 rfl rfl rfl ⟨rfl, rfl⟩) ?_
  refine r_y (i := 8) rfl (st_assign rfl ⟨rfl, rfl⟩) ?_
  refine r_y (i := 9) rfl (st_assign rfl ⟨rfl, rfl⟩) ?_
  refine r_y (i := 10) rfl (st_assign rfl ⟨rfl, rfl⟩) ?_
  refine r_y (i := 11) rfl (st_assign rfl ⟨rfl, rfl⟩) ?_
  refine aa_done (by kernel_rfl) ?_ _
  refine x_then ?_
  refine hK _ ?_
  clear hK K
  refine aw_ret ?_
  refine e_ret ?_
  exact ⟨a0, b0, c0, d0, q1, q2, q3, q4, q5, q6, q7, rfl⟩

theorem Gname (l : List Int) (a : Nat) (ha : a ≤ 100000000000) : GenF Tryz.prog 38 l a [] 2 (fun r => ∃ s : ByteArray, r = .v (.string s) ∧ s.size ≤ 13) := by
  refine enter Tryz.func38 rfl rfl rfl rfl rfl 1 rfl ?_
  refine aw_seq (fun K hK => ?_)
  refine aw_region ?_
  refine al_p rfl (st_assign rfl ?_)
  refine al_nil ?_
  refine x_then ?_
  refine hK _ ?_
  clear hK K
  refine aw_seq (fun K hK => ?_)
  refine aw_seq (fun K hK => ?_)
  refine aw_region ?_
  refine al_p rfl (st_move rfl ?_)
  refine al_p rfl (s_gen 0 (hc := Gn l _ (20) (by omega) (by omega)) (hR := ?_))
  rintro r a1 ha1 ⟨k1, rfl, p1, q1, o1⟩
  refine ⟨rfl, _, (by repeat constructor), ?_⟩
  first | refine al_p rfl (st_eql rfl rfl ?_) | refine al_p rfl (st_eqlS rfl rfl ?_) | refine al_p rfl (st_eqlB (by kernel_rfl) rfl rfl ?_)
  refine al_nil ?_
  refine x_then ?_
  refine hK _ ?_
  clear hK K
  refine aw_cond rfl (fun hb1 => ?_) (fun hb1 => ?_)
  · have hc1 := bp hb1
    refine aw_seq (fun K hK => ?_)
    refine aw_region ?_
    refine al_p rfl (st_move rfl ?_)
    refine al_p rfl (st_slit (by repeat (first | exact DenseA.nil _ | (apply DenseA.cons; (focus exact rfl); (focus exact rfl); (focus exact rfl); (focus exact rfl)) | (apply DenseA.consE; (focus exact rfl); (focus exact rfl); (focus exact rfl)))) rfl rfl rfl rfl ?_)
    refine al_p rfl (s_gen 0 (hc := Gword l _ _ (fun s => decide (s.size ≤ 13)) (by omega) (by rfl) (by rfl) (by rfl)) (hR := ?_))
    rintro r a2 ha2 ⟨k2, rfl, p2⟩
    refine ⟨rfl, _, (by repeat constructor), ?_⟩
    refine al_p rfl (st_assign rfl ?_)
    refine al_nil ?_
    refine x_then ?_
    refine hK _ ?_
    clear hK K
    refine aw_ret ?_
    refine x_thenR ?_
    clear hK K
    refine abody_ret none (by repeat (first | exact ResA.nil | (apply ResA.tmp; (focus exact rfl)) | (apply ResA.cellN; (focus exact inferInstance); (focus exact rfl); (focus exact rfl); (focus exact rfl)) | (apply ResA.cell1; (focus exact inferInstance); (focus exact rfl); (focus exact rfl); (focus exact rfl)))) rfl rfl rfl (LeA.refl _) ⟨_, rfl, rfl, _, ?_, rfl, _, rfl, of_decide_eq_true ‹_›⟩ <;> omega
  · have hc1 := bp hb1
    refine aw_skip ?_
    refine x_then ?_
    refine hK _ ?_
    clear hK K
    refine aw_seq (fun K hK => ?_)
    refine aw_region ?_
    refine al_p rfl (st_move rfl ?_)
    refine al_p rfl (st_slit (by repeat (first | exact DenseA.nil _ | (apply DenseA.cons; (focus exact rfl); (focus exact rfl); (focus exact rfl); (focus exact rfl)) | (apply DenseA.consE; (focus exact rfl); (focus exact rfl); (focus exact rfl)))) rfl rfl rfl rfl ?_)
    refine al_p rfl (s_gen 0 (hc := Gword l _ _ (fun s => decide (s.size ≤ 13)) (by omega) (by rfl) (by rfl) (by rfl)) (hR := ?_))
    rintro r a3 ha3 ⟨k3, rfl, p3⟩
    refine ⟨rfl, _, (by repeat constructor), ?_⟩
    refine al_p rfl (st_assign rfl ?_)
    refine al_nil ?_
    refine x_then ?_
    refine hK _ ?_
    clear hK K
    refine aw_ret ?_
    refine abody_ret none (by repeat (first | exact ResA.nil | (apply ResA.tmp; (focus exact rfl)) | (apply ResA.cellN; (focus exact inferInstance); (focus exact rfl); (focus exact rfl); (focus exact rfl)) | (apply ResA.cell1; (focus exact inferInstance); (focus exact rfl); (focus exact rfl); (focus exact rfl)))) rfl rfl rfl (LeA.refl _) ⟨_, rfl, rfl, _, ?_, rfl, _, rfl, of_decide_eq_true ‹_›⟩ <;> omega

theorem Gpath (l : List Int) (a : Nat) (ha : a ≤ 50000000000) : GenF Tryz.prog 36 l a [] 20 (fun r => ∃ s : ByteArray, r = .v (.string s) ∧ s.size ≤ 100) := by
  have e1 : (⟨#[47]⟩ : ByteArray).size = 1 := rfl
  have e0 : (⟨#[]⟩ : ByteArray).size = 0 := rfl
  refine enter Tryz.func36 rfl rfl rfl rfl rfl 1 rfl ?_
  refine aw_seq (fun K hK => ?_)
  refine aw_region ?_
  refine al_p rfl (st_assign rfl ?_)
  refine al_nil ?_
  refine x_then ?_
  refine hK _ ?_
  clear hK K
  refine aw_seq (fun K hK => ?_)
  refine aw_region ?_
  refine al_p rfl (st_assign rfl ?_)
  refine al_nil ?_
  refine x_then ?_
  refine hK _ ?_
  clear hK K
  refine aw_midI (fun s => ∃ (b : Nat) (t : ByteArray), b ≤ a + 1 ∧ t.size ≤ 1 ∧ s = ⟨look [(0, .bp 0 0), (3, .v (.string t))], ⟨[srcA l b], []⟩⟩) ?_ ?_
  · skip
    refine aw_seq (fun K hK => ?_)
    refine aw_region ?_
    refine al_p rfl (st_move rfl ?_)
    refine al_p rfl (s_gen 0 (hc := Gn l _ (6) (by omega) (by omega)) (hR := ?_))
    rintro r a1 ha1 ⟨k1, rfl, p1, q1, o1⟩
    refine ⟨rfl, _, (by repeat constructor), ?_⟩
    refine al_p rfl (st_gtr rfl rfl ?_)
    refine al_nil ?_
    refine x_then ?_
    refine hK _ ?_
    clear hK K
    refine aw_cond rfl (fun hb1 => ?_) (fun hb1 => ?_)
    · have hc1 := bp hb1
      refine aw_region ?_
      refine al_p rfl (st_assign rfl ?_)
      refine al_nil ?_
      refine x_then ?_
      refine ⟨_, ⟨_, _, ?_, ?_, rfl⟩, (wk 1 0)⟩ <;> first | omega | exact Nat.le_of_ble_eq_true rfl
    · have hc1 := bp hb1
      refine aw_skip ?_
      refine x_then ?_
      refine ⟨_, ⟨_, _, ?_, ?_, rfl⟩, (wk 1 0)⟩ <;> first | omega | exact Nat.le_of_ble_eq_true rfl
  · rintro s ⟨b, t0, hb, ht0, rfl⟩
    refine aw_seq (fun K hK => ?_)
    refine aw_region ?_
    refine al_p rfl (st_move rfl ?_)
    refine al_p rfl (st_slit (by repeat (first | exact DenseA.nil _ | (apply DenseA.cons; (focus exact rfl); (focus exact rfl); (focus exact rfl); (focus exact rfl)) | (apply DenseA.consE; (focus exact rfl); (focus exact rfl); (focus exact rfl)))) rfl rfl rfl rfl ?_)
    refine al_p rfl (s_gen 0 (hc := Gpick l _ _ (fun z => decide (0 ≤ z ∧ z ≤ 4)) (by omega) (by rfl) (by rfl) (by rfl)) (hR := ?_))
    rintro r a2 ha2 ⟨k2, rfl, p2⟩
    refine ⟨rfl, _, (by repeat constructor), ?_⟩
    obtain ⟨hz1, hz2⟩ := of_decide_eq_true p2
    obtain ⟨m, rfl⟩ := Int.eq_ofNat_of_zero_le hz1
    refine al_p rfl (st_assign rfl ?_)
    refine al_nil ?_
    refine x_then ?_
    refine hK _ ?_
    clear hK K
    refine aw_seq (fun K hK => ?_)
    refine aw_seq (fun K hK => ?_)
    refine aw_region ?_
    refine al_p rfl (st_assign rfl ?_)
    refine al_nil ?_
    refine x_then ?_
    refine hK _ ?_
    clear hK K
    refine aw_block ?_
    refine aw_loopW (fun n s => ∃ (j b1 : Nat) (t : ByteArray), j ≤ m ∧ n = m - j ∧ b1 ≤ b + 1 + 4 * j ∧ t.size ≤ 1 + 15 * j ∧ s = ⟨look [(0, .bp 0 0), (3, .v (.string t)), (4, .v (.int .i64 (m : Int))), (5, .v (.int .i64 (j : Int)))], ⟨[srcA l b1], []⟩⟩) (m) ((wk 1 0)) (⟨0, _, t0, by omega, rfl, by omega, by omega, rfl⟩) ?_
    rintro n s ⟨j, b1, t, hj, rfl, hb1, ht, rfl⟩
    refine aw_seq (fun K hK => ?_)
    refine aw_seq (fun K hK => ?_)
    refine aw_region ?_
    refine al_p rfl (st_move rfl ?_)
    refine al_p rfl (st_move rfl ?_)
    first | refine al_p rfl (st_lss rfl rfl ?_) | refine al_p rfl (st_lssS rfl rfl ?_)
    refine al_nil ?_
    refine x_then ?_
    refine hK _ ?_
    clear hK K
    refine aw_cond rfl (fun hb2 => ?_) (fun hb2 => ?_)
    · have hc2 := bp hb2
      refine aw_skip ?_
      refine x_then ?_
      refine hK _ ?_
      clear hK K
      refine aw_midI (fun s => ∃ (b3 : Nat) (t1 : ByteArray), b3 ≤ b1 + 4 ∧ t1.size ≤ 1 + 15 * (j + 1) ∧ s = ⟨look [(0, .bp 0 0), (3, .v (.string t1)), (4, .v (.int .i64 (m : Int))), (5, .v (.int .i64 (j : Int)))], ⟨[srcA l b3], []⟩⟩) ?_ ?_
      · skip
        refine aw_block ?_
        refine aw_seq (fun K hK => ?_)
        refine aw_seq (fun K hK => ?_)
        refine aw_region ?_
        refine al_p rfl (st_move rfl ?_)
        refine al_p rfl (st_gtr rfl rfl ?_)
        refine al_nil ?_
        refine x_then ?_
        refine hK _ ?_
        clear hK K
        refine aw_cond rfl (fun hb3 => ?_) (fun hb3 => ?_)
        · have hc3 := bp hb3
          refine aw_region ?_
          refine al_p rfl (st_move rfl ?_)
          refine al_p rfl (st_addS rfl rfl (by (try simp only [size_app]); omega) ?_)
          refine al_p rfl (st_assign rfl ?_)
          refine al_nil ?_
          refine x_then ?_
          refine hK _ ?_
          clear hK K
          refine aw_seq (fun K hK => ?_)
          refine aw_region ?_
          refine al_p rfl (st_move rfl ?_)
          refine al_p rfl (s_gen 0 (hc := Gn l _ (8) (by omega) (by omega)) (hR := ?_))
          rintro r a3 ha3 ⟨k3, rfl, p3, q3, o3⟩
          refine ⟨rfl, _, (by repeat constructor), ?_⟩
          first | refine al_p rfl (st_eql rfl rfl ?_) | refine al_p rfl (st_eqlS rfl rfl ?_) | refine al_p rfl (st_eqlB (by kernel_rfl) rfl rfl ?_)
          refine al_nil ?_
          refine x_then ?_
          refine hK _ ?_
          clear hK K
          refine aw_cond rfl (fun hb4 => ?_) (fun hb4 => ?_)
          · have hc4 := bp hb4
            refine aw_region ?_
            refine al_p rfl (st_move rfl ?_)
            refine al_p rfl (st_move rfl ?_)
            refine al_p rfl (st_slit (by repeat (first | exact DenseA.nil _ | (apply DenseA.cons; (focus exact rfl); (focus exact rfl); (focus exact rfl); (focus exact rfl)) | (apply DenseA.consE; (focus exact rfl); (focus exact rfl); (focus exact rfl)))) rfl rfl rfl rfl ?_)
            refine al_p rfl (s_gen 0 (hc := Gword l _ _ (fun s => decide (s.size ≤ 13)) (by omega) (by rfl) (by rfl) (by rfl)) (hR := ?_))
            rintro r a4 ha4 ⟨k4, rfl, p4⟩
            refine ⟨rfl, _, (by repeat constructor), ?_⟩
            have hw := of_decide_eq_true p4
            refine al_p rfl (st_addS rfl rfl (by (try simp only [size_app]); omega) ?_)
            refine al_p rfl (st_assign rfl ?_)
            refine al_nil ?_
            refine x_blockN ?_
            refine x_then ?_
            refine ⟨_, ⟨_, _, ?_, ?_, rfl⟩, (wk 1 0)⟩ <;> (try simp only [size_app]) <;> omega
          · have hc4 := bp hb4
            refine aw_region ?_
            refine al_p rfl (st_move rfl ?_)
            refine al_p rfl (st_move rfl ?_)
            refine al_p rfl (s_gen 0 (hc := Gname l _ (by omega)) (hR := ?_))
            rintro r a5 ha5 ⟨k5, rfl, hw⟩
            refine ⟨rfl, _, (by repeat constructor), ?_⟩
            refine al_p rfl (st_addS rfl rfl (by (try simp only [size_app]); omega) ?_)
            refine al_p rfl (st_assign rfl ?_)
            refine al_nil ?_
            refine x_blockN ?_
            refine x_then ?_
            refine ⟨_, ⟨_, _, ?_, ?_, rfl⟩, (wk 1 0)⟩ <;> (try simp only [size_app]) <;> omega
        · have hc3 := bp hb3
          refine aw_skip ?_
          refine x_then ?_
          refine hK _ ?_
          clear hK K
          refine aw_seq (fun K hK => ?_)
          refine aw_region ?_
          refine al_p rfl (st_move rfl ?_)
          refine al_p rfl (s_gen 0 (hc := Gn l _ (8) (by omega) (by omega)) (hR := ?_))
          rintro r a6 ha6 ⟨k6, rfl, p6, q6, o6⟩
          refine ⟨rfl, _, (by repeat constructor), ?_⟩
          first | refine al_p rfl (st_eql rfl rfl ?_) | refine al_p rfl (st_eqlS rfl rfl ?_) | refine al_p rfl (st_eqlB (by kernel_rfl) rfl rfl ?_)
          refine al_nil ?_
          refine x_then ?_
          refine hK _ ?_
          clear hK K
          refine aw_cond rfl (fun hb5 => ?_) (fun hb5 => ?_)
          · have hc5 := bp hb5
            refine aw_region ?_
            refine al_p rfl (st_move rfl ?_)
            refine al_p rfl (st_move rfl ?_)
            refine al_p rfl (st_slit (by repeat (first | exact DenseA.nil _ | (apply DenseA.cons; (focus exact rfl); (focus exact rfl); (focus exact rfl); (focus exact rfl)) | (apply DenseA.consE; (focus exact rfl); (focus exact rfl); (focus exact rfl)))) rfl rfl rfl rfl ?_)
            refine al_p rfl (s_gen 0 (hc := Gword l _ _ (fun s => decide (s.size ≤ 13)) (by omega) (by rfl) (by rfl) (by rfl)) (hR := ?_))
            rintro r a7 ha7 ⟨k7, rfl, p7⟩
            refine ⟨rfl, _, (by repeat constructor), ?_⟩
            have hw := of_decide_eq_true p7
            refine al_p rfl (st_addS rfl rfl (by (try simp only [size_app]); omega) ?_)
            refine al_p rfl (st_assign rfl ?_)
            refine al_nil ?_
            refine x_blockN ?_
            refine x_then ?_
            refine ⟨_, ⟨_, _, ?_, ?_, rfl⟩, (wk 1 0)⟩ <;> (try simp only [size_app]) <;> omega
          · have hc5 := bp hb5
            refine aw_region ?_
            refine al_p rfl (st_move rfl ?_)
            refine al_p rfl (st_move rfl ?_)
            refine al_p rfl (s_gen 0 (hc := Gname l _ (by omega)) (hR := ?_))
            rintro r a8 ha8 ⟨k8, rfl, hw⟩
            refine ⟨rfl, _, (by repeat constructor), ?_⟩
            refine al_p rfl (st_addS rfl rfl (by (try simp only [size_app]); omega) ?_)
            refine al_p rfl (st_assign rfl ?_)
            refine al_nil ?_
            refine x_blockN ?_
            refine x_then ?_
            refine ⟨_, ⟨_, _, ?_, ?_, rfl⟩, (wk 1 0)⟩ <;> (try simp only [size_app]) <;> omega
      · rintro s ⟨b3, t1, hb3, ht1, rfl⟩
        refine aw_region ?_
        refine al_p rfl (st_move rfl ?_)
        first | refine al_p rfl (st_add64 rfl rfl (by omega) ?_) | refine al_p rfl (st_addS rfl rfl (by omega) ?_) | refine al_p rfl (st_add rfl rfl ?_)
        refine al_p rfl (st_assign rfl ?_)
        refine al_nil ?_
        refine x_then ?_
        refine ⟨_, _, ?_, ⟨j + 1, _, _, by omega, rfl, ?_, ?_, rfl⟩, (wk 1 0)⟩ <;> omega
    · have hc2 := bp hb2
      refine aw_exit ?_
      refine x_thenE ?_
      clear hK K
      refine x_thenE ?_
      refine ABlock_out ?_
      refine x_then ?_
      refine hK _ ?_
      clear hK K
      refine aw_seq (fun K hK => ?_)
      refine aw_seq (fun K hK => ?_)
      refine aw_region ?_
      refine al_p rfl (st_move rfl ?_)
      refine al_p rfl (s_gen 0 (hc := Gn l _ (8) (by omega) (by omega)) (hR := ?_))
      rintro r a9 ha9 ⟨k9, rfl, p9, q9, o9⟩
      refine ⟨rfl, _, (by repeat constructor), ?_⟩
      first | refine al_p rfl (st_eql rfl rfl ?_) | refine al_p rfl (st_eqlS rfl rfl ?_) | refine al_p rfl (st_eqlB (by kernel_rfl) rfl rfl ?_)
      refine al_nil ?_
      refine x_then ?_
      refine hK _ ?_
      clear hK K
      refine aw_cond rfl (fun hb6 => ?_) (fun hb6 => ?_)
      · have hc6 := bp hb6
        refine aw_region ?_
        refine al_p rfl (st_move rfl ?_)
        refine al_p rfl (st_addS rfl rfl (by (try simp only [size_app]); omega) ?_)
        refine al_p rfl (st_assign rfl ?_)
        refine al_nil ?_
        refine x_then ?_
        refine hK _ ?_
        clear hK K
        refine aw_seq (fun K hK => ?_)
        refine aw_region ?_
        refine al_p rfl (st_move rfl ?_)
        refine al_p rfl (st_assign rfl ?_)
        refine al_nil ?_
        refine x_then ?_
        refine hK _ ?_
        clear hK K
        refine aw_ret ?_
        refine abody_ret none (by repeat (first | exact ResA.nil | (apply ResA.tmp; (focus exact rfl)) | (apply ResA.cellN; (focus exact inferInstance); (focus exact rfl); (focus exact rfl); (focus exact rfl)) | (apply ResA.cell1; (focus exact inferInstance); (focus exact rfl); (focus exact rfl); (focus exact rfl)))) rfl rfl rfl (LeA.refl _) ⟨_, rfl, rfl, _, ?_, rfl, _, rfl, ?_⟩ <;> (try simp only [size_app]) <;> omega
      · have hc6 := bp hb6
        refine aw_skip ?_
        refine x_then ?_
        refine hK _ ?_
        clear hK K
        refine aw_seq (fun K hK => ?_)
        refine aw_region ?_
        refine al_p rfl (st_move rfl ?_)
        refine al_p rfl (st_assign rfl ?_)
        refine al_nil ?_
        refine x_then ?_
        refine hK _ ?_
        clear hK K
        refine aw_ret ?_
        refine abody_ret none (by repeat (first | exact ResA.nil | (apply ResA.tmp; (focus exact rfl)) | (apply ResA.cellN; (focus exact inferInstance); (focus exact rfl); (focus exact rfl); (focus exact rfl)) | (apply ResA.cell1; (focus exact inferInstance); (focus exact rfl); (focus exact rfl); (focus exact rfl)))) rfl rfl rfl (LeA.refl _) ⟨_, rfl, rfl, _, ?_, rfl, _, rfl, ?_⟩ <;> (try simp only [size_app]) <;> omega

theorem Gident (l : List Int) (a : Nat) (ha : a ≤ 100000000000) : GenF Tryz.prog 17 l a [] 20 (fun r => ∃ (p1 p2 p3 p4 p5 p6 p7 p8 : Int) (s t : ByteArray) (w : Bool), r = .agg [.v (.int .i64 p1), .v (.int .i64 p2), .v (.int .i64 p3), .v (.int .i64 p4), .v (.int .i64 p5), .v (.int .i64 p6), .v (.int .i64 p7), .v (.int .i64 p8), .v (.int .i64 0), .v (.int .i64 0), .v (.string s), .v (.string t), .sl 4 [] none, .v (.bool w)]) := by
  refine enter Tryz.func17 rfl rfl rfl rfl rfl 1 rfl ?_
  refine aw_seq (fun K hK => ?_)
  refine aw_region ?_
  refine al_p rfl (s_alloc (by repeat constructor) ?_)
  refine al_nil ?_
  refine x_then ?_
  refine hK _ ?_
  clear hK K
  refine aw_seq (fun K hK => ?_)
  refine aw_region ?_
  refine al_p rfl (st_slit (by repeat (first | exact DenseA.nil _ | (apply DenseA.cons; (focus exact rfl); (focus exact rfl); (focus exact rfl); (focus exact rfl)) | (apply DenseA.consE; (focus exact rfl); (focus exact rfl); (focus exact rfl)))) rfl rfl rfl rfl ?_)
  refine al_p rfl (st_assign rfl ?_)
  refine al_nil ?_
  refine x_then ?_
  refine hK _ ?_
  clear hK K
  refine aw_seq (fun K hK => ?_)
  refine aw_region ?_
  refine al_p rfl (st_move rfl ?_)
  refine al_p rfl (s_gen 0 (hc := Grange l _ (1) (4) (by omega) (by omega) (by omega) (by omega)) (hR := ?_))
  rintro r a1 ha1 ⟨k1, rfl, p1, q1⟩
  refine ⟨rfl, _, (by repeat constructor), ?_⟩
  refine al_p rfl (st_move rfl ?_)
  refine al_p rfl (s_gen 0 (hc := Gn l _ (3) (by omega) (by omega)) (hR := ?_))
  rintro r a2 ha2 ⟨k2, rfl, p2, q2, o2⟩
  refine ⟨rfl, _, (by repeat constructor), ?_⟩
  refine al_p rfl (st_move rfl ?_)
  refine al_p rfl (st_move rfl ?_)
  refine al_p rfl (s_gen 0 (hc := Gpick l _ _ (fun _ => true) (by omega) (by rfl) (by rfl) (by rfl)) (hR := ?_))
  rintro r a3 ha3 ⟨k3, rfl, p3⟩
  refine ⟨rfl, _, (by repeat constructor), ?_⟩
  refine al_p rfl (st_move rfl ?_)
  refine al_p rfl (st_move rfl ?_)
  refine al_p rfl (s_gen 0 (hc := Gpick l _ _ (fun _ => true) (by omega) (by rfl) (by rfl) (by rfl)) (hR := ?_))
  rintro r a4 ha4 ⟨k4, rfl, p4⟩
  refine ⟨rfl, _, (by repeat constructor), ?_⟩
  refine al_p rfl (st_move rfl ?_)
  refine al_p rfl (st_move rfl ?_)
  refine al_p rfl (s_gen 0 (hc := Gpick l _ _ (fun _ => true) (by omega) (by rfl) (by rfl) (by rfl)) (hR := ?_))
  rintro r a5 ha5 ⟨k5, rfl, p5⟩
  refine ⟨rfl, _, (by repeat constructor), ?_⟩
  refine al_p rfl (st_move rfl ?_)
  refine al_p rfl (st_move rfl ?_)
  refine al_p rfl (s_gen 0 (hc := Gpick l _ _ (fun _ => true) (by omega) (by rfl) (by rfl) (by rfl)) (hR := ?_))
  rintro r a6 ha6 ⟨k6, rfl, p6⟩
  refine ⟨rfl, _, (by repeat constructor), ?_⟩
  refine al_p rfl (st_move rfl ?_)
  refine al_p rfl (st_move rfl ?_)
  refine al_p rfl (s_gen 0 (hc := Gpick l _ _ (fun _ => true) (by omega) (by rfl) (by rfl) (by rfl)) (hR := ?_))
  rintro r a7 ha7 ⟨k7, rfl, p7⟩
  refine ⟨rfl, _, (by repeat constructor), ?_⟩
  refine al_p rfl (st_move rfl ?_)
  refine al_p rfl (st_move rfl ?_)
  refine al_p rfl (s_gen 0 (hc := Gpick l _ _ (fun _ => true) (by omega) (by rfl) (by rfl) (by rfl)) (hR := ?_))
  rintro r a8 ha8 ⟨k8, rfl, p8⟩
  refine ⟨rfl, _, (by repeat constructor), ?_⟩
  refine al_p rfl (st_move rfl ?_)
  refine al_p rfl (st_slit (by repeat (first | exact DenseA.nil _ | (apply DenseA.cons; (focus exact rfl); (focus exact rfl); (focus exact rfl); (focus exact rfl)) | (apply DenseA.consE; (focus exact rfl); (focus exact rfl); (focus exact rfl)))) rfl rfl rfl rfl ?_)
  refine al_p rfl (s_gen 0 (hc := Gword l _ _ (fun _ => true) (by omega) (by rfl) (by rfl) (by rfl)) (hR := ?_))
  rintro r a9 ha9 ⟨k9, rfl, p9⟩
  refine ⟨rfl, _, (by repeat constructor), ?_⟩
  refine al_p rfl (st_move rfl ?_)
  refine al_p rfl (st_slit (by repeat (first | exact DenseA.nil _ | (apply DenseA.cons; (focus exact rfl); (focus exact rfl); (focus exact rfl); (focus exact rfl)) | (apply DenseA.consE; (focus exact rfl); (focus exact rfl); (focus exact rfl)))) rfl rfl rfl rfl ?_)
  refine al_p rfl (s_gen 0 (hc := Gword l _ _ (fun _ => true) (by omega) (by rfl) (by rfl) (by rfl)) (hR := ?_))
  rintro r a10 ha10 ⟨k10, rfl, p10⟩
  refine ⟨rfl, _, (by repeat constructor), ?_⟩
  refine al_p rfl (st_move rfl ?_)
  refine al_p rfl (s_gen 0 (hc := Gn l _ (8) (by omega) (by omega)) (hR := ?_))
  rintro r a11 ha11 ⟨k11, rfl, p11, q11, o11⟩
  refine ⟨rfl, _, (by repeat constructor), ?_⟩
  refine al_p rfl (st_gtr rfl rfl ?_)
  refine al_p rfl (st_build (by repeat (first | exact FillA.nil _ | (apply FillA.cons; (focus exact rfl); (focus exact rfl); (focus exact rfl); (focus exact rfl); (focus exact rfl); (focus (repeat constructor))))) ?_)
  refine al_p0 (s_store rfl rfl rfl rfl rfl rfl (by repeat constructor) (by repeat constructor) ?_)
  refine al_nil ?_
  refine x_then ?_
  refine hK _ ?_
  clear hK K
  refine aw_ret ?_
  refine abody_ret none (by repeat (first | exact ResA.nil | (apply ResA.tmp; (focus exact rfl)) | (apply ResA.cellN; (focus exact inferInstance); (focus exact rfl); (focus exact rfl); (focus exact rfl)) | (apply ResA.cell1; (focus exact inferInstance); (focus exact rfl); (focus exact rfl); (focus exact rfl)))) rfl rfl rfl (by repeat (first | exact LeA.refl _ | exact LeA.nil _ | exact LeL.refl _ | refine LeA.agg ?_ | refine LeA.tup ?_ | exact LeL.nil | refine LeL.cons ?_ ?_ | exact LeA.any _)) ⟨_, rfl, rfl, _, ?_, rfl, _, _, _, _, _, _, _, _, _, _, _, rfl⟩ <;> omega

theorem Gitem (l : List Int) (a : Nat) (ha : a ≤ 10000000000) : GenF Tryz.prog 20 l a [] 60 (fun r => ∃ y : Itm, r = .agg (itmA y)) := by
  refine enter Tryz.func20 rfl rfl rfl rfl rfl 1 rfl ?_
  refine aw_seq (fun K hK => ?_)
  refine aw_region ?_
  refine al_p rfl (s_alloc (by repeat constructor) ?_)
  refine al_nil ?_
  refine x_then ?_
  refine hK _ ?_
  clear hK K
  refine aw_seq (fun K hK => ?_)
  refine aw_region ?_
  refine al_p rfl (st_move rfl ?_)
  refine al_p rfl (s_gen 0 (hc := Gpath l _ (by omega)) (hR := ?_))
  rintro r a1 ha1 ⟨k1, rfl, p1⟩
  refine ⟨rfl, _, (by repeat constructor), ?_⟩
  refine al_p rfl (st_move rfl ?_)
  refine al_p rfl (s_gen 0 (hc := Grange l _ (1) (3) (by omega) (by omega) (by omega) (by omega)) (hR := ?_))
  rintro r a2 ha2 ⟨k2, rfl, p2, q2⟩
  refine ⟨rfl, _, (by repeat constructor), ?_⟩
  refine al_p rfl (st_move rfl ?_)
  refine al_p rfl (s_gen 0 (hc := Gn l _ (16) (by omega) (by omega)) (hR := ?_))
  rintro r a3 ha3 ⟨k3, rfl, p3, q3, o3⟩
  refine ⟨rfl, _, (by repeat constructor), ?_⟩
  refine al_p rfl (st_build (by repeat (first | exact FillA.nil _ | (apply FillA.cons; (focus exact rfl); (focus exact rfl); (focus exact rfl); (focus exact rfl); (focus exact rfl); (focus (repeat constructor))))) ?_)
  refine al_p rfl (s_alloc (by repeat constructor) ?_)
  refine al_p0 (s_store rfl rfl rfl rfl rfl rfl (by repeat constructor) (by repeat constructor) ?_)
  refine al_nil ?_
  refine x_then ?_
  refine hK _ ?_
  clear hK K
  refine aw_seq (fun K hK => ?_)
  refine aw_seq (fun K hK => ?_)
  refine aw_region ?_
  refine al_p rfl (st_move rfl ?_)
  refine al_p rfl (s_gen 0 (hc := Gn l _ (4) (by omega) (by omega)) (hR := ?_))
  rintro r a4 ha4 ⟨k4, rfl, p4, q4, o4⟩
  refine ⟨rfl, _, (by repeat constructor), ?_⟩
  refine al_p rfl (st_gtr rfl rfl ?_)
  refine al_nil ?_
  refine x_then ?_
  refine hK _ ?_
  clear hK K
  refine aw_cond rfl (fun hb1 => ?_) (fun hb1 => ?_)
  · have hc1 := bp hb1
    refine aw_seq (fun K hK => ?_)
    refine aw_region ?_
    refine al_p rfl (st_move rfl ?_)
    refine al_p rfl (s_gen 0 (hc := Gclean l _ (by omega)) (hR := ?_))
    rintro r a5 ha5 ⟨k5, rfl, p5⟩
    refine ⟨rfl, _, (by repeat constructor), ?_⟩
    refine al_p rfl (st_move rfl ?_)
    refine al_p rfl (s_gen 0 (hc := Grange l _ (1) (4) (by omega) (by omega) (by omega) (by omega)) (hR := ?_))
    rintro r a6 ha6 ⟨k6, rfl, p6, q6⟩
    refine ⟨rfl, _, (by repeat constructor), ?_⟩
    refine al_p rfl (st_build (by repeat (first | exact FillA.nil _ | (apply FillA.cons; (focus exact rfl); (focus exact rfl); (focus exact rfl); (focus exact rfl); (focus exact rfl); (focus (repeat constructor))))) ?_)
    refine al_p rfl (st_move rfl ?_)
    refine al_p rfl (s_gen 0 (hc := Gname l _ (by omega)) (hR := ?_))
    rintro r a7 ha7 ⟨k7, rfl, p7⟩
    refine ⟨rfl, _, (by repeat constructor), ?_⟩
    refine al_p rfl (st_fieldB rfl ?_)
    refine al_p0 (s_store rfl rfl rfl rfl rfl rfl (by repeat constructor) (by repeat constructor) ?_)
    refine al_p rfl (st_fieldB rfl ?_)
    refine al_p0 (s_store rfl rfl rfl rfl rfl rfl (by repeat constructor) (by repeat constructor) ?_)
    refine al_p rfl (st_fieldB rfl ?_)
    refine al_p0 (s_store rfl rfl rfl rfl rfl rfl (by repeat constructor) (by repeat constructor) ?_)
    refine al_nil ?_
    refine x_then ?_
    refine hK _ ?_
    clear hK K
    refine aw_region ?_
    refine al_p rfl (st_move rfl ?_)
    refine al_p rfl (s_gen 0 (hc := Gn l _ (2) (by omega) (by omega)) (hR := ?_))
    rintro r a8 ha8 ⟨k8, rfl, p8, q8, o8⟩
    refine ⟨rfl, _, (by repeat constructor), ?_⟩
    refine al_p rfl (st_move rfl ?_)
    refine al_p rfl (s_gen 0 (hc := Gn l _ (5) (by omega) (by omega)) (hR := ?_))
    rintro r a9 ha9 ⟨k9, rfl, p9, q9, o9⟩
    refine ⟨rfl, _, (by repeat constructor), ?_⟩
    refine al_p rfl (st_build (by repeat (first | exact FillA.nil _ | (apply FillA.cons; (focus exact rfl); (focus exact rfl); (focus exact rfl); (focus exact rfl); (focus exact rfl); (focus (repeat constructor))))) ?_)
    refine al_p rfl (st_move rfl ?_)
    refine al_p rfl (s_gen 0 (hc := Gn l _ (4) (by omega) (by omega)) (hR := ?_))
    rintro r a10 ha10 ⟨k10, rfl, p10, q10, o10⟩
    refine ⟨rfl, _, (by repeat constructor), ?_⟩
    refine al_p rfl (st_move rfl ?_)
    refine al_p rfl (st_slit (by repeat (first | exact DenseA.nil _ | (apply DenseA.cons; (focus exact rfl); (focus exact rfl); (focus exact rfl); (focus exact rfl)) | (apply DenseA.consE; (focus exact rfl); (focus exact rfl); (focus exact rfl)))) rfl rfl rfl rfl ?_)
    refine al_p rfl (s_gen 0 (hc := Gpick l _ _ (fun _ => true) (by omega) (by rfl) (by rfl) (by rfl)) (hR := ?_))
    rintro r a11 ha11 ⟨k11, rfl, p11⟩
    refine ⟨rfl, _, (by repeat constructor), ?_⟩
    refine al_p rfl (st_move rfl ?_)
    refine al_p rfl (st_slit (by repeat (first | exact DenseA.nil _ | (apply DenseA.cons; (focus exact rfl); (focus exact rfl); (focus exact rfl); (focus exact rfl)) | (apply DenseA.consE; (focus exact rfl); (focus exact rfl); (focus exact rfl)))) rfl rfl rfl rfl ?_)
    refine al_p rfl (s_gen 0 (hc := Gpick l _ _ (fun _ => true) (by omega) (by rfl) (by rfl) (by rfl)) (hR := ?_))
    rintro r a12 ha12 ⟨k12, rfl, p12⟩
    refine ⟨rfl, _, (by repeat constructor), ?_⟩
    refine al_p rfl (st_fieldB rfl ?_)
    refine al_p0 (s_store rfl rfl rfl rfl rfl rfl (by repeat constructor) (by repeat constructor) ?_)
    refine al_p rfl (st_fieldB rfl ?_)
    refine al_p0 (s_store rfl rfl rfl rfl rfl rfl (by repeat constructor) (by repeat constructor) ?_)
    refine al_p rfl (st_fieldB rfl ?_)
    refine al_p0 (s_store rfl rfl rfl rfl rfl rfl (by repeat constructor) (by repeat constructor) ?_)
    refine al_p rfl (st_fieldB rfl ?_)
    refine al_p0 (s_store rfl rfl rfl rfl rfl rfl (by repeat constructor) (by repeat constructor) ?_)
    refine al_p rfl (st_fieldB rfl ?_)
    refine al_p0 (s_store rfl rfl rfl rfl rfl rfl (by repeat constructor) (by repeat constructor) ?_)
    refine al_nil ?_
    refine x_then ?_
    refine hK _ ?_
    clear hK K
    refine aw_seq (fun K hK => ?_)
    refine aw_region ?_
    refine al_p rfl (st_loadBW rfl rfl rfl ?_)
    refine al_p0 (s_store rfl rfl rfl rfl rfl rfl (by repeat constructor) (by repeat constructor) ?_)
    refine al_nil ?_
    refine x_then ?_
    refine hK _ ?_
    clear hK K
    refine aw_ret ?_
    refine abody_ret none (by repeat (first | exact ResA.nil | (apply ResA.tmp; (focus exact rfl)) | (apply ResA.cellN; (focus exact inferInstance); (focus exact rfl); (focus exact rfl); (focus exact rfl)) | (apply ResA.cell1; (focus exact inferInstance); (focus exact rfl); (focus exact rfl); (focus exact rfl)))) rfl rfl rfl (LeA.refl _) ⟨_, rfl, rfl, _, ?_, rfl, ⟨_, _, (_, _), _, (_, _), _, _, _, _, _, _⟩, rfl⟩ <;> omega
  · have hc1 := bp hb1
    refine aw_skip ?_
    refine x_then ?_
    refine hK _ ?_
    clear hK K
    refine aw_seq (fun K hK => ?_)
    refine aw_region ?_
    refine al_p rfl (st_loadBW rfl rfl rfl ?_)
    refine al_p0 (s_store rfl rfl rfl rfl rfl rfl (by repeat constructor) (by repeat constructor) ?_)
    refine al_nil ?_
    refine x_then ?_
    refine hK _ ?_
    clear hK K
    refine aw_ret ?_
    refine abody_ret none (by repeat (first | exact ResA.nil | (apply ResA.tmp; (focus exact rfl)) | (apply ResA.cellN; (focus exact inferInstance); (focus exact rfl); (focus exact rfl); (focus exact rfl)) | (apply ResA.cell1; (focus exact inferInstance); (focus exact rfl); (focus exact rfl); (focus exact rfl)))) rfl rfl rfl (LeA.refl _) ⟨_, rfl, rfl, _, ?_, rfl, ⟨_, _, (_, _), _, (_, _), _, _, _, _, _, _⟩, rfl⟩ <;> omega

end
end Go.Proofs.YtokaaebbmcldaaaGreatDoor
namespace Go.Proofs.YtokaaebbmcldaaaGreatDoor
open Go.RowKit

theorem blt_lt {a b : Nat} (h : a < b) : Nat.blt a b = true := by rw [Nat.blt_eq]; exact h
section
set_option maxRecDepth 10000
set_option maxHeartbeats 4000000
theorem Gcall (l : List Int) (a : Nat) (ha : a ≤ 10000000000) : GenF Tryz.prog 18 l a [] 300 (fun r => ∃ (n a0 a1 a2 a3 : Int) (ps rs : List (List AV)), r = .agg [.v (.int .i64 n), .v (.int .i64 a0), .v (.int .i64 a1), .v (.int .i64 a2), .v (.int .i64 a3), .sl 1 ps none, .sl 1 rs none]) := by
  refine enter Tryz.func18 rfl rfl rfl rfl rfl 1 rfl ?_
  refine aw_seq (fun K hK => ?_)
  refine aw_region ?_
  refine al_p rfl (s_alloc (by repeat constructor) ?_)
  refine al_nil ?_
  refine x_then ?_
  refine hK _ ?_
  clear hK K
  refine aw_seq (fun K hK => ?_)
  refine aw_region ?_
  refine al_p rfl (st_move rfl ?_)
  refine al_p rfl (st_slit (by repeat (first | exact DenseA.nil _ | (apply DenseA.cons; (focus exact rfl); (focus exact rfl); (focus exact rfl); (focus exact rfl)) | (apply DenseA.consE; (focus exact rfl); (focus exact rfl); (focus exact rfl)))) rfl rfl rfl rfl ?_)
  refine al_p rfl (s_gen 0 (hc := Gpick l _ _ (fun _ => true) (by omega) (by rfl) (by rfl) (by rfl)) (hR := ?_))
  rintro r a1 ha1 ⟨k1, rfl, p1⟩
  refine ⟨rfl, _, (by repeat constructor), ?_⟩
  refine al_p rfl (st_build (by repeat (first | exact FillA.nil _ | (apply FillA.cons; (focus exact rfl); (focus exact rfl); (focus exact rfl); (focus exact rfl); (focus exact rfl); (focus (repeat constructor))))) ?_)
  refine al_p rfl (s_alloc (by repeat constructor) ?_)
  refine al_p0 (s_store rfl rfl rfl rfl rfl rfl (by repeat constructor) (by repeat constructor) ?_)
  refine al_nil ?_
  refine x_then ?_
  refine hK _ ?_
  clear hK K
  refine aw_seq (fun K hK => ?_)
  refine aw_region ?_
  refine al_p rfl (st_fieldB rfl ?_)
  refine al_p rfl (st_loadB1 rfl rfl rfl ?_)
  refine al_p rfl (q_call (Rshape _) ?_)
  rintro r ⟨la, lb, lc, ld, q1, q2, q3, q4, q5, q6, q7, rfl⟩
  obtain ⟨na, rfl⟩ := Int.eq_ofNat_of_zero_le q1
  obtain ⟨nb, rfl⟩ := Int.eq_ofNat_of_zero_le q3
  refine al_p rfl (st_move rfl ?_)
  refine al_p rfl (st_extract rfl rfl ?_)
  refine al_p rfl (st_extract rfl rfl ?_)
  refine al_p rfl (st_extract rfl rfl ?_)
  refine al_p rfl (st_extract rfl rfl ?_)
  refine al_p rfl (st_assign rfl ?_)
  refine al_p rfl (st_assign rfl ?_)
  refine al_p rfl (st_assign rfl ?_)
  refine al_p rfl (st_assign rfl ?_)
  refine al_nil ?_
  refine x_then ?_
  refine hK _ ?_
  clear hK K
  refine aw_seq (fun K hK => ?_)
  refine aw_seq (fun K hK => ?_)
  refine aw_region ?_
  refine al_p rfl (st_assign rfl ?_)
  refine al_nil ?_
  refine x_then ?_
  refine hK _ ?_
  clear hK K
  refine aw_block ?_
  refine aw_loopW (fun n s => ∃ (j b1 : Nat) (n0 y0 y1 y2 y3 : Int), j ≤ na ∧ n = na - j ∧ b1 ≤ a + 1 + j ∧ s = ⟨look [(0, .bp 0 0), (2, .bp 1 0), (3, .bp 2 0), (4, .v (.int .i64 (na : Int))), (5, .v (.int .i64 (nb : Int))), (6, .v (.int .i64 lc)), (7, .v (.int .i64 ld)), (8, .v (.int .i64 (j : Int)))], ⟨[srcA l b1, [.v (.int .i64 0), .v (.int .i64 0), .v (.int .i64 0), .v (.int .i64 0), .v (.int .i64 0), .v (.slice none 0 0), .v (.slice none 0 0)], [.v (.int .i64 n0), .v (.int .i64 y0), .v (.int .i64 y1), .v (.int .i64 y2), .v (.int .i64 y3), .v (.slice none 0 0), .v (.slice none 0 0)]], []⟩⟩) (na) ((wk 3 0)) (⟨0, _, _, _, _, _, _, by omega, rfl, by omega, rfl⟩) ?_
  rintro n s ⟨j, b1, n0, y0, y1, y2, y3, hj, rfl, hb1, rfl⟩
  refine aw_seq (fun K hK => ?_)
  refine aw_seq (fun K hK => ?_)
  refine aw_region ?_
  refine al_p rfl (st_move rfl ?_)
  refine al_p rfl (st_move rfl ?_)
  first | refine al_p rfl (st_lss rfl rfl ?_) | refine al_p rfl (st_lssS rfl rfl ?_)
  refine al_nil ?_
  refine x_then ?_
  refine hK _ ?_
  clear hK K
  refine aw_cond rfl (fun hb1 => ?_) (fun hb1 => ?_)
  · have hc1 := bp hb1
    refine aw_skip ?_
    refine x_then ?_
    refine hK _ ?_
    clear hK K
    refine aw_seq (fun K hK => ?_)
    refine aw_block ?_
    refine aw_region ?_
    refine al_p rfl (st_move rfl ?_)
    refine al_p rfl (st_move rfl ?_)
    refine al_p rfl (st_slit (by repeat (first | exact DenseA.nil _ | (apply DenseA.cons; (focus exact rfl); (focus exact rfl); (focus exact rfl); (focus exact rfl)) | (apply DenseA.consE; (focus exact rfl); (focus exact rfl); (focus exact rfl)))) rfl rfl rfl rfl ?_)
    refine al_p rfl (s_gen 0 (hc := Gpick l _ _ (fun _ => true) (by omega) (by rfl) (by rfl) (by rfl)) (hR := ?_))
    rintro r a2 ha2 ⟨k2, rfl, p2⟩
    refine ⟨rfl, _, (by repeat constructor), ?_⟩
    refine al_p rfl (st_fieldB rfl ?_)
    refine al_p rfl (st_indexB (len := 4) (sz := 1) (n := j) (by kernel_rfl) rfl rfl rfl (blt_lt (by omega)) ?_)
    refine al_p0 (s_store rfl rfl rfl rfl rfl rfl (SetAt.sym (by simp; omega)) (by repeat constructor) ?_)
    refine al_nil ?_
    refine x_blockN ?_
    refine x_then ?_
    refine hK _ ?_
    clear hK K
    refine aw_region ?_
    refine al_p rfl (st_move rfl ?_)
    first | refine al_p rfl (st_add64 rfl rfl (by omega) ?_) | refine al_p rfl (st_addS rfl rfl (by omega) ?_) | refine al_p rfl (st_add rfl rfl ?_)
    refine al_p rfl (st_assign rfl ?_)
    refine al_nil ?_
    refine x_then ?_
    have hj2 : j = 0 ∨ j = 1 := by omega
    rcases hj2 with rfl | rfl
    · refine ⟨_, _, ?_, ⟨1, _, _, _, _, _, _, by omega, rfl, ?_, rfl⟩, (wk 3 0)⟩ <;> omega
    · refine ⟨_, _, ?_, ⟨2, _, _, _, _, _, _, by omega, rfl, ?_, rfl⟩, (wk 3 0)⟩ <;> omega
  · have hc1 := bp hb1
    refine aw_exit ?_
    refine x_thenE ?_
    clear hK K
    refine x_thenE ?_
    refine ABlock_out ?_
    refine x_then ?_
    refine hK _ ?_
    clear hK K
    refine aw_midI (fun s => ∃ (b2 : Nat) (n1 x0 x1 x2 x3 : Int), b2 ≤ a + 20 ∧ s = ⟨look [(0, .bp 0 0), (2, .bp 1 0), (3, .bp 2 0), (5, .v (.int .i64 (nb : Int))), (6, .v (.int .i64 lc)), (7, .v (.int .i64 ld))], ⟨[srcA l b2, [.v (.int .i64 0), .v (.int .i64 0), .v (.int .i64 0), .v (.int .i64 0), .v (.int .i64 0), .v (.slice none 0 0), .v (.slice none 0 0)], [.v (.int .i64 n1), .v (.int .i64 x0), .v (.int .i64 x1), .v (.int .i64 x2), .v (.int .i64 x3), .v (.slice none 0 0), .v (.slice none 0 0)]], []⟩⟩) ?_ ?_
    · skip
      refine aw_seq (fun K hK => ?_)
      refine aw_region ?_
      refine al_p rfl (st_fieldB rfl ?_)
      refine al_p rfl (st_loadB1 rfl rfl rfl ?_)
      refine al_nil ?_
      refine x_then ?_
      refine hK _ ?_
      clear hK K
      refine aw_block ?_
      refine aw_seq (fun K hK => ?_)
      refine aw_region ?_
      first | refine al_p rfl (st_eql rfl rfl ?_) | refine al_p rfl (st_eqlS rfl rfl ?_) | refine al_p rfl (st_eqlB (by kernel_rfl) rfl rfl ?_)
      refine al_p rfl (st_assign rfl ?_)
      refine al_nil ?_
      refine x_then ?_
      refine hK _ ?_
      clear hK K
      refine aw_cond rfl (fun hb2 => ?_) (fun hb2 => ?_)
      · have hc2 := bp hb2
        refine aw_region ?_
        refine al_p rfl (st_move rfl ?_)
        refine al_p rfl (st_slit (by repeat (first | exact DenseA.nil _ | (apply DenseA.cons; (focus exact rfl); (focus exact rfl); (focus exact rfl); (focus exact rfl)) | (apply DenseA.consE; (focus exact rfl); (focus exact rfl); (focus exact rfl)))) rfl rfl rfl rfl ?_)
        refine al_p rfl (s_gen 0 (hc := Gpick l _ _ (fun _ => true) (by omega) (by rfl) (by rfl) (by rfl)) (hR := ?_))
        rintro r a3 ha3 ⟨k3, rfl, p3⟩
        refine ⟨rfl, _, (by repeat constructor), ?_⟩
        refine al_p rfl (st_move rfl ?_)
        refine al_p rfl (st_slit (by repeat (first | exact DenseA.nil _ | (apply DenseA.cons; (focus exact rfl); (focus exact rfl); (focus exact rfl); (focus exact rfl)) | (apply DenseA.consE; (focus exact rfl); (focus exact rfl); (focus exact rfl)))) rfl rfl rfl rfl ?_)
        refine al_p rfl (s_gen 0 (hc := Gpick l _ _ (fun _ => true) (by omega) (by rfl) (by rfl) (by rfl)) (hR := ?_))
        rintro r a4 ha4 ⟨k4, rfl, p4⟩
        refine ⟨rfl, _, (by repeat constructor), ?_⟩
        refine al_p rfl (st_build (by repeat (first | exact FillA.nil _ | (apply FillA.cons; (focus exact rfl); (focus exact rfl); (focus exact rfl); (focus exact rfl); (focus exact rfl); (focus (repeat constructor))))) ?_)
        refine al_p rfl (st_fieldB rfl ?_)
        refine al_p0 (s_store rfl rfl rfl rfl rfl rfl (by repeat constructor) (by repeat constructor) ?_)
        refine al_nil ?_
        refine x_blockN ?_
        refine x_then ?_
        refine ⟨_, ⟨_, _, _, _, _, _, ?_, rfl⟩, (wk 3 0)⟩ <;> omega
      · have hc2 := bp hb2
        refine aw_seq (fun K hK => ?_)
        refine aw_region ?_
        first | refine al_p rfl (st_eql rfl rfl ?_) | refine al_p rfl (st_eqlS rfl rfl ?_) | refine al_p rfl (st_eqlB (by kernel_rfl) rfl rfl ?_)
        refine al_p rfl (st_assign rfl ?_)
        refine al_nil ?_
        refine x_then ?_
        refine hK _ ?_
        clear hK K
        refine aw_cond rfl (fun hb3 => ?_) (fun hb3 => ?_)
        · have hc3 := bp hb3
          refine aw_region ?_
          refine al_p rfl (st_move rfl ?_)
          refine al_p rfl (st_slit (by repeat (first | exact DenseA.nil _ | (apply DenseA.cons; (focus exact rfl); (focus exact rfl); (focus exact rfl); (focus exact rfl)) | (apply DenseA.consE; (focus exact rfl); (focus exact rfl); (focus exact rfl)))) rfl rfl rfl rfl ?_)
          refine al_p rfl (s_gen 0 (hc := Gpick l _ _ (fun _ => true) (by omega) (by rfl) (by rfl) (by rfl)) (hR := ?_))
          rintro r a5 ha5 ⟨k5, rfl, p5⟩
          refine ⟨rfl, _, (by repeat constructor), ?_⟩
          refine al_p rfl (st_fieldB rfl ?_)
          refine al_p rfl (st_indexB (len := 4) (sz := 1) (n := 0) (by kernel_rfl) rfl rfl rfl rfl ?_)
          refine al_p0 (s_store rfl rfl rfl rfl rfl rfl (by repeat constructor) (by repeat constructor) ?_)
          refine al_nil ?_
          refine x_blockN ?_
          refine x_then ?_
          refine ⟨_, ⟨_, _, _, _, _, _, ?_, rfl⟩, (wk 3 0)⟩ <;> omega
        · have hc3 := bp hb3
          refine aw_seq (fun K hK => ?_)
          refine aw_seq (fun K hK => ?_)
          refine aw_region ?_
          first | refine al_p rfl (st_eql rfl rfl ?_) | refine al_p rfl (st_eqlS rfl rfl ?_) | refine al_p rfl (st_eqlB (by kernel_rfl) rfl rfl ?_)
          refine al_p rfl (st_assign rfl ?_)
          refine al_nil ?_
          refine x_then ?_
          refine hK _ ?_
          clear hK K
          refine aw_cond rfl (fun hb4 => ?_) (fun hb4 => ?_)
          · have hc4 := bp hb4
            refine aw_skip ?_
            refine x_then ?_
            refine hK _ ?_
            clear hK K
            refine aw_cy rfl (by first | rfl | assumption | simp [*]) ?_
            refine aw_region ?_
            refine al_p rfl (st_move rfl ?_)
            refine al_p rfl (s_gen 0 (hc := Gn l _ (3) (by omega) (by omega)) (hR := ?_))
            rintro r a6 ha6 ⟨k6, rfl, p6, q6, o6⟩
            refine ⟨rfl, _, (by repeat constructor), ?_⟩
            refine al_p rfl (st_fieldB rfl ?_)
            refine al_p rfl (st_indexB (len := 4) (sz := 1) (n := 0) (by kernel_rfl) rfl rfl rfl rfl ?_)
            refine al_p0 (s_store rfl rfl rfl rfl rfl rfl (by repeat constructor) (by repeat constructor) ?_)
            refine al_nil ?_
            refine x_blockN ?_
            refine x_then ?_
            refine ⟨_, ⟨_, _, _, _, _, _, ?_, rfl⟩, (wk 3 0)⟩ <;> omega
          · have hc4 := bp hb4
            refine aw_region ?_
            first | refine al_p rfl (st_eql rfl rfl ?_) | refine al_p rfl (st_eqlS rfl rfl ?_) | refine al_p rfl (st_eqlB (by kernel_rfl) rfl rfl ?_)
            refine al_p rfl (st_assign rfl ?_)
            refine al_nil ?_
            refine x_then ?_
            refine hK _ ?_
            clear hK K
            refine aw_cond rfl (fun hb5 => ?_) (fun hb5 => ?_)
            · have hc5 := bp hb5
              refine aw_region ?_
              refine al_p rfl (st_move rfl ?_)
              refine al_p rfl (s_gen 0 (hc := Gn l _ (3) (by omega) (by omega)) (hR := ?_))
              rintro r a7 ha7 ⟨k7, rfl, p7, q7, o7⟩
              refine ⟨rfl, _, (by repeat constructor), ?_⟩
              refine al_p rfl (st_fieldB rfl ?_)
              refine al_p rfl (st_indexB (len := 4) (sz := 1) (n := 0) (by kernel_rfl) rfl rfl rfl rfl ?_)
              refine al_p0 (s_store rfl rfl rfl rfl rfl rfl (by repeat constructor) (by repeat constructor) ?_)
              refine al_nil ?_
              refine x_blockN ?_
              refine x_then ?_
              refine ⟨_, ⟨_, _, _, _, _, _, ?_, rfl⟩, (wk 3 0)⟩ <;> omega
            · have hc5 := bp hb5
              refine aw_seq (fun K hK => ?_)
              refine aw_region ?_
              first | refine al_p rfl (st_eql rfl rfl ?_) | refine al_p rfl (st_eqlS rfl rfl ?_) | refine al_p rfl (st_eqlB (by kernel_rfl) rfl rfl ?_)
              refine al_p rfl (st_assign rfl ?_)
              refine al_nil ?_
              refine x_then ?_
              refine hK _ ?_
              clear hK K
              refine aw_cond rfl (fun hb6 => ?_) (fun hb6 => ?_)
              · have hc6 := bp hb6
                refine aw_region ?_
                refine al_p rfl (st_move rfl ?_)
                refine al_p rfl (s_gen 0 (hc := Grange l _ (1) (4) (by omega) (by omega) (by omega) (by omega)) (hR := ?_))
                rintro r a8 ha8 ⟨k8, rfl, p8, q8⟩
                refine ⟨rfl, _, (by repeat constructor), ?_⟩
                refine al_p rfl (st_move rfl ?_)
                refine al_p rfl (st_slit (by repeat (first | exact DenseA.nil _ | (apply DenseA.cons; (focus exact rfl); (focus exact rfl); (focus exact rfl); (focus exact rfl)) | (apply DenseA.consE; (focus exact rfl); (focus exact rfl); (focus exact rfl)))) rfl rfl rfl rfl ?_)
                refine al_p rfl (s_gen 0 (hc := Gpick l _ _ (fun _ => true) (by omega) (by rfl) (by rfl) (by rfl)) (hR := ?_))
                rintro r a9 ha9 ⟨k9, rfl, p9⟩
                refine ⟨rfl, _, (by repeat constructor), ?_⟩
                refine al_p rfl (st_build (by repeat (first | exact FillA.nil _ | (apply FillA.cons; (focus exact rfl); (focus exact rfl); (focus exact rfl); (focus exact rfl); (focus exact rfl); (focus (repeat constructor))))) ?_)
                refine al_p rfl (st_fieldB rfl ?_)
                refine al_p0 (s_store rfl rfl rfl rfl rfl rfl (by repeat constructor) (by repeat constructor) ?_)
                refine al_nil ?_
                refine x_blockN ?_
                refine x_then ?_
                refine ⟨_, ⟨_, _, _, _, _, _, ?_, rfl⟩, (wk 3 0)⟩ <;> omega
              · have hc6 := bp hb6
                refine aw_skip ?_
                refine x_blockN ?_
                refine x_then ?_
                refine ⟨_, ⟨_, _, _, _, _, _, ?_, rfl⟩, (wk 3 0)⟩ <;> omega
    · rintro s ⟨b2, n1, x0, x1, x2, x3, hb2, rfl⟩
      refine aw_seq (fun K hK => ?_)
      refine aw_seq (fun K hK => ?_)
      refine aw_region ?_
      refine al_p rfl (st_assign rfl ?_)
      refine al_nil ?_
      refine x_then ?_
      refine hK _ ?_
      clear hK K
      refine aw_block ?_
      refine aw_nilTokB 2 5 9 1 rfl rfl (by repeat constructor) (by repeat constructor) (by repeat constructor) ?_
      refine aw_loopW (fun n s => ∃ (j b1 : Nat) (ps : List (List AV)), j ≤ nb ∧ n = nb - j ∧ b1 ≤ b2 + 20 * j ∧ ps.length = j ∧ s = ⟨look [(0, .bp 0 0), (2, .bp 1 0), (3, .bp 2 0), (5, .v (.int .i64 (nb : Int))), (6, .v (.int .i64 lc)), (7, .v (.int .i64 ld)), (9, .v (.int .i64 (j : Int)))], ⟨[srcA l b1, [.v (.int .i64 0), .v (.int .i64 0), .v (.int .i64 0), .v (.int .i64 0), .v (.int .i64 0), .v (.slice none 0 0), .v (.slice none 0 0)], [.v (.int .i64 n1), .v (.int .i64 x0), .v (.int .i64 x1), .v (.int .i64 x2), .v (.int .i64 x3), .sl 1 ps (some 0), .v (.slice none 0 0)]], [(9, 1, ps)]⟩⟩) (nb) ((wk 3 1)) (⟨0, b2, [], by omega, rfl, by omega, by simp, rfl⟩) ?_
      rintro n s ⟨j, b1, ps, hj, rfl, hb1, hps, rfl⟩
      refine aw_seq (fun K hK => ?_)
      refine aw_seq (fun K hK => ?_)
      refine aw_region ?_
      refine al_p rfl (st_move rfl ?_)
      refine al_p rfl (st_move rfl ?_)
      first | refine al_p rfl (st_lss rfl rfl ?_) | refine al_p rfl (st_lssS rfl rfl ?_)
      refine al_nil ?_
      refine x_then ?_
      refine hK _ ?_
      clear hK K
      refine aw_cond rfl (fun hb7 => ?_) (fun hb7 => ?_)
      · have hc7 := bp hb7
        refine aw_skip ?_
        refine x_then ?_
        refine hK _ ?_
        clear hK K
        refine aw_seq (fun K hK => ?_)
        refine aw_block ?_
        refine aw_draw (fun h => ∃ b, h.bx = [srcA l b, [.v (.int .i64 0), .v (.int .i64 0), .v (.int .i64 0), .v (.int .i64 0), .v (.int .i64 0), .v (.slice none 0 0), .v (.slice none 0 0)], [.v (.int .i64 n1), .v (.int .i64 x0), .v (.int .i64 x1), .v (.int .i64 x2), .v (.int .i64 x3), .sl 1 ps (some 0), .v (.slice none 0 0)]]) 7 (by kernel_rfl) ?_
        refine aa_t (i := 0) rfl rfl (by kernel_rfl) (by first | rfl | exact wan_y rfl rfl (beq_tt ‹_›) | exact wan_y rfl rfl (beq_ff ‹_›) | exact wan_y rfl rfl (by simp [*])) (fun h0 hS => st_fieldB rfl ⟨rfl, rfl⟩) ⟨_, rfl⟩ ?_
        first | refine aa_t (i := 1) rfl rfl (by kernel_rfl) (by first | rfl | exact wan_y rfl rfl (beq_tt ‹_›) | exact wan_y rfl rfl (beq_ff ‹_›) | exact wan_y rfl rfl (by simp [*])) (fun h0 hS => st_loadB1 (row := [.v (.int .i64 n1), .v (.int .i64 x0), .v (.int .i64 x1), .v (.int .i64 x2), .v (.int .i64 x3), .sl 1 ps (some 0), .v (.slice none 0 0)]) rfl (by obtain ⟨_, e⟩ := hS; rw [e]; rfl) rfl ⟨rfl, rfl⟩) ⟨_, rfl⟩ ?_ | refine aa_t (i := 1) rfl rfl (by kernel_rfl) (by first | rfl | exact wan_y rfl rfl (beq_tt ‹_›) | exact wan_y rfl rfl (beq_ff ‹_›) | exact wan_y rfl rfl (by simp [*])) (fun h0 hS => st_loadB1 rfl rfl rfl ⟨rfl, rfl⟩) ⟨_, rfl⟩ ?_
        refine aa_t (i := 2) rfl rfl (by kernel_rfl) (by first | rfl | exact wan_y rfl rfl (beq_tt ‹_›) | exact wan_y rfl rfl (beq_ff ‹_›) | exact wan_y rfl rfl (by simp [*])) (fun h0 hS => st_move rfl ⟨rfl, rfl⟩) ⟨_, rfl⟩ ?_
        refine aa_c (i := 3) rfl rfl (by kernel_rfl) (by first | rfl | exact wan_y rfl rfl (beq_tt ‹_›) | exact wan_y rfl rfl (beq_ff ‹_›) | exact wan_y rfl rfl (by simp [*])) (s_gen 0 (hc := Gpath l _ (by omega)) (hR := ?_))
        rintro r a10 ha10 ⟨k10, rfl, p10⟩
        refine ⟨rfl, _, (by repeat constructor), ?_⟩
        refine ⟨.inr ⟨_, rfl⟩, ?_⟩
        refine aa_t (i := 4) rfl rfl (by kernel_rfl) (by first | rfl | exact wan_y rfl rfl (beq_tt ‹_›) | exact wan_y rfl rfl (beq_ff ‹_›) | exact wan_y rfl rfl (by simp [*])) (fun h0 hS => st_slit (by repeat (first | exact DenseA.nil _ | (apply DenseA.cons; (focus exact rfl); (focus exact rfl); (focus exact rfl); (focus exact rfl)) | (apply DenseA.consE; (focus exact rfl); (focus exact rfl); (focus exact rfl)))) rfl rfl rfl rfl ⟨rfl, rfl⟩) ⟨_, rfl⟩ ?_
        first | refine aa_c (i := 5) rfl rfl (by kernel_rfl) (by first | rfl | exact wan_y rfl rfl (beq_tt ‹_›) | exact wan_y rfl rfl (beq_ff ‹_›) | exact wan_y rfl rfl (by simp [*])) (s_append rfl rfl rfl (by simp <;> omega) (by repeat constructor) ?_) | refine aa_c (i := 5) rfl rfl (by kernel_rfl) (by first | rfl | exact wan_y rfl rfl (beq_tt ‹_›) | exact wan_y rfl rfl (beq_ff ‹_›) | exact wan_y rfl rfl (by simp [*])) (s_append0 rfl rfl (by simp <;> omega) (by repeat constructor) ?_)
        refine ⟨.inr ⟨_, rfl⟩, ?_⟩
        refine aa_t (i := 6) rfl rfl (by kernel_rfl) (by first | rfl | exact wan_y rfl rfl (beq_tt ‹_›) | exact wan_y rfl rfl (beq_ff ‹_›) | exact wan_y rfl rfl (by simp [*])) (fun h0 hS => st_fieldB rfl ⟨rfl, rfl⟩) ⟨_, rfl⟩ ?_
        refine aa_c0 (i := 7) rfl (by kernel_rfl) (by first | rfl | exact wan_y rfl rfl (beq_tt ‹_›) | exact wan_y rfl rfl (beq_ff ‹_›) | exact wan_y rfl rfl (by simp [*])) (s_store rfl rfl rfl rfl rfl rfl (by repeat constructor) (by repeat constructor) ?_)
        refine ⟨.inl rfl, ?_⟩
        refine aa_done (by kernel_rfl) ?_ _
        refine x_blockN ?_
        refine x_then ?_
        refine hK _ ?_
        clear hK K
        refine aw_region ?_
        refine al_p rfl (st_move rfl ?_)
        first | refine al_p rfl (st_add64 rfl rfl (by omega) ?_) | refine al_p rfl (st_addS rfl rfl (by omega) ?_) | refine al_p rfl (st_add rfl rfl ?_)
        refine al_p rfl (st_assign rfl ?_)
        refine al_nil ?_
        refine x_then ?_
        refine ⟨_, _, ?_, ⟨j + 1, _, _, by omega, rfl, ?_, ?_, rfl⟩, (wk 3 1)⟩
        · omega
        · omega
        · simp; omega
      · have hc7 := bp hb7
        refine aw_exit ?_
        refine x_thenE ?_
        clear hK K
        refine x_thenE ?_
        refine ABlock_out ?_
        refine x_then ?_
        refine hK _ ?_
        clear hK K
        refine aw_seq (fun K hK => ?_)
        refine aw_seq (fun K hK => ?_)
        refine aw_region ?_
        refine al_p rfl (st_move rfl ?_)
        refine al_p rfl (st_move rfl ?_)
        refine al_p rfl (st_move rfl ?_)
        refine al_p rfl (s_gen 0 (hc := Grange l _ lc ld (by omega) (by omega) (by omega) (by omega)) (hR := ?_))
        rintro r a11 ha11 ⟨k0, rfl, p0, p1⟩
        refine ⟨rfl, _, (by repeat constructor), ?_⟩
        obtain ⟨m, rfl⟩ := Int.eq_ofNat_of_zero_le (show 0 ≤ k0 by omega)
        refine al_p rfl (st_assign rfl ?_)
        refine al_nil ?_
        refine x_then ?_
        refine hK _ ?_
        clear hK K
        refine aw_block ?_
        refine aw_nilTokB 2 6 9 1 rfl rfl (by repeat constructor) (by repeat constructor) (by repeat constructor) ?_
        refine aw_loopW (fun n s => ∃ (j b3 : Nat) (rs : List (List AV)), j ≤ m ∧ n = j ∧ b3 ≤ b1 + 1 + (m - j) ∧ rs.length = m - j ∧ s = ⟨look [(0, .bp 0 0), (2, .bp 1 0), (3, .bp 2 0), (10, .v (.int .i64 (j : Int)))], ⟨[srcA l b3, [.v (.int .i64 0), .v (.int .i64 0), .v (.int .i64 0), .v (.int .i64 0), .v (.int .i64 0), .v (.slice none 0 0), .v (.slice none 0 0)], [.v (.int .i64 n1), .v (.int .i64 x0), .v (.int .i64 x1), .v (.int .i64 x2), .v (.int .i64 x3), .sl 1 ps (some 0), .sl 1 rs (some 1)]], [(9, 1, ps), (9, 1, rs)]⟩⟩) (m) ((wk 3 2)) (⟨m, _, [], by omega, rfl, by omega, by simp, rfl⟩) ?_
        rintro n s ⟨j, b3, rs, hj, hn, hb3, hrs, rfl⟩
        subst n
        refine aw_seq (fun K hK => ?_)
        refine aw_seq (fun K hK => ?_)
        refine aw_region ?_
        refine al_p rfl (st_move rfl ?_)
        refine al_p rfl (st_gtr rfl rfl ?_)
        refine al_nil ?_
        refine x_then ?_
        refine hK _ ?_
        clear hK K
        refine aw_cond rfl (fun hb8 => ?_) (fun hb8 => ?_)
        · have hc8 := bp hb8
          refine aw_skip ?_
          refine x_then ?_
          refine hK _ ?_
          clear hK K
          refine aw_seq (fun K hK => ?_)
          refine aw_block ?_
          refine aw_draw (fun h => ∃ b, h.bx = [srcA l b, [.v (.int .i64 0), .v (.int .i64 0), .v (.int .i64 0), .v (.int .i64 0), .v (.int .i64 0), .v (.slice none 0 0), .v (.slice none 0 0)], [.v (.int .i64 n1), .v (.int .i64 x0), .v (.int .i64 x1), .v (.int .i64 x2), .v (.int .i64 x3), .sl 1 ps (some 0), .sl 1 rs (some 1)]]) 8 (by kernel_rfl) ?_
          refine aa_t (i := 0) rfl rfl (by kernel_rfl) (by first | rfl | exact wan_y rfl rfl (beq_tt ‹_›) | exact wan_y rfl rfl (beq_ff ‹_›) | exact wan_y rfl rfl (by simp [*])) (fun h0 hS => st_fieldB rfl ⟨rfl, rfl⟩) ⟨_, rfl⟩ ?_
          first | refine aa_t (i := 1) rfl rfl (by kernel_rfl) (by first | rfl | exact wan_y rfl rfl (beq_tt ‹_›) | exact wan_y rfl rfl (beq_ff ‹_›) | exact wan_y rfl rfl (by simp [*])) (fun h0 hS => st_loadB1 (row := [.v (.int .i64 n1), .v (.int .i64 x0), .v (.int .i64 x1), .v (.int .i64 x2), .v (.int .i64 x3), .sl 1 ps (some 0), .sl 1 rs (some 1)]) rfl (by obtain ⟨_, e⟩ := hS; rw [e]; rfl) rfl ⟨rfl, rfl⟩) ⟨_, rfl⟩ ?_ | refine aa_t (i := 1) rfl rfl (by kernel_rfl) (by first | rfl | exact wan_y rfl rfl (beq_tt ‹_›) | exact wan_y rfl rfl (beq_ff ‹_›) | exact wan_y rfl rfl (by simp [*])) (fun h0 hS => st_loadB1 rfl rfl rfl ⟨rfl, rfl⟩) ⟨_, rfl⟩ ?_
          refine aa_t (i := 2) rfl rfl (by kernel_rfl) (by first | rfl | exact wan_y rfl rfl (beq_tt ‹_›) | exact wan_y rfl rfl (beq_ff ‹_›) | exact wan_y rfl rfl (by simp [*])) (fun h0 hS => st_move rfl ⟨rfl, rfl⟩) ⟨_, rfl⟩ ?_
          refine aa_t (i := 3) rfl rfl (by kernel_rfl) (by first | rfl | exact wan_y rfl rfl (beq_tt ‹_›) | exact wan_y rfl rfl (beq_ff ‹_›) | exact wan_y rfl rfl (by simp [*])) (fun h0 hS => st_slit (by repeat (first | exact DenseA.nil _ | (apply DenseA.cons; (focus exact rfl); (focus exact rfl); (focus exact rfl); (focus exact rfl)) | (apply DenseA.consE; (focus exact rfl); (focus exact rfl); (focus exact rfl)))) rfl rfl rfl rfl ⟨rfl, rfl⟩) ⟨_, rfl⟩ ?_
          refine aa_c (i := 4) rfl rfl (by kernel_rfl) (by first | rfl | exact wan_y rfl rfl (beq_tt ‹_›) | exact wan_y rfl rfl (beq_ff ‹_›) | exact wan_y rfl rfl (by simp [*])) (s_gen 0 (hc := Gword l _ _ (fun _ => true) (by omega) (by rfl) (by rfl) (by rfl)) (hR := ?_))
          rintro r a12 ha12 ⟨k12, rfl, p12⟩
          refine ⟨rfl, _, (by repeat constructor), ?_⟩
          refine ⟨.inr ⟨_, rfl⟩, ?_⟩
          refine aa_t (i := 5) rfl rfl (by kernel_rfl) (by first | rfl | exact wan_y rfl rfl (beq_tt ‹_›) | exact wan_y rfl rfl (beq_ff ‹_›) | exact wan_y rfl rfl (by simp [*])) (fun h0 hS => st_slit (by repeat (first | exact DenseA.nil _ | (apply DenseA.cons; (focus exact rfl); (focus exact rfl); (focus exact rfl); (focus exact rfl)) | (apply DenseA.consE; (focus exact rfl); (focus exact rfl); (focus exact rfl)))) rfl rfl rfl rfl ⟨rfl, rfl⟩) ⟨_, rfl⟩ ?_
          first | refine aa_c (i := 6) rfl rfl (by kernel_rfl) (by first | rfl | exact wan_y rfl rfl (beq_tt ‹_›) | exact wan_y rfl rfl (beq_ff ‹_›) | exact wan_y rfl rfl (by simp [*])) (s_append rfl rfl rfl (by simp <;> omega) (by repeat constructor) ?_) | refine aa_c (i := 6) rfl rfl (by kernel_rfl) (by first | rfl | exact wan_y rfl rfl (beq_tt ‹_›) | exact wan_y rfl rfl (beq_ff ‹_›) | exact wan_y rfl rfl (by simp [*])) (s_append0 rfl rfl (by simp <;> omega) (by repeat constructor) ?_)
          refine ⟨.inr ⟨_, rfl⟩, ?_⟩
          refine aa_t (i := 7) rfl rfl (by kernel_rfl) (by first | rfl | exact wan_y rfl rfl (beq_tt ‹_›) | exact wan_y rfl rfl (beq_ff ‹_›) | exact wan_y rfl rfl (by simp [*])) (fun h0 hS => st_fieldB rfl ⟨rfl, rfl⟩) ⟨_, rfl⟩ ?_
          refine aa_c0 (i := 8) rfl (by kernel_rfl) (by first | rfl | exact wan_y rfl rfl (beq_tt ‹_›) | exact wan_y rfl rfl (beq_ff ‹_›) | exact wan_y rfl rfl (by simp [*])) (s_store rfl rfl rfl rfl rfl rfl (by repeat constructor) (by repeat constructor) ?_)
          refine ⟨.inl rfl, ?_⟩
          refine aa_done (by kernel_rfl) ?_ _
          refine x_blockN ?_
          refine x_then ?_
          refine hK _ ?_
          clear hK K
          refine aw_region ?_
          refine al_p rfl (st_move rfl ?_)
          first | refine al_p rfl (st_sub64 rfl rfl (by omega) ?_) | refine al_p rfl (st_sub rfl rfl ?_)
          refine al_p rfl (st_assign rfl ?_)
          refine al_nil ?_
          refine x_then ?_
          obtain ⟨j, rfl⟩ : ∃ i, j = i + 1 := ⟨j - 1, by omega⟩
          refine ⟨_, _, ?_, ⟨j, _, _, by omega, rfl, ?_, ?_, rfl⟩, weak_of 3 2 rfl rfl rfl rfl (by repeat (first | exact Sub.nil | refine Sub.cons _ _ _ rfl rfl ?_ | (apply Sub.of; (focus exact rfl); (focus exact LeA.of_eq (vi (by omega))); (focus exact rfl))))⟩
          · omega
          · omega
          · simp; omega
        · have hc8 := bp hb8
          refine aw_exit ?_
          refine x_thenE ?_
          clear hK K
          refine x_thenE ?_
          refine ABlock_out ?_
          refine x_then ?_
          refine hK _ ?_
          clear hK K
          refine aw_seq (fun K hK => ?_)
          refine aw_seq (fun K hK => ?_)
          refine aw_region ?_
          refine al_p rfl (st_move rfl ?_)
          refine al_p rfl (s_gen 0 (hc := Gn l _ (40) (by omega) (by omega)) (hR := ?_))
          rintro r a13 ha13 ⟨k13, rfl, p13, q13, o13⟩
          refine ⟨rfl, _, (by repeat constructor), ?_⟩
          first | refine al_p rfl (st_eql rfl rfl ?_) | refine al_p rfl (st_eqlS rfl rfl ?_) | refine al_p rfl (st_eqlB (by kernel_rfl) rfl rfl ?_)
          refine al_nil ?_
          refine x_then ?_
          refine hK _ ?_
          clear hK K
          refine aw_cond rfl (fun hb9 => ?_) (fun hb9 => ?_)
          · have hc9 := bp hb9
            refine aw_region ?_
            refine al_p rfl (st_move rfl ?_)
            refine al_p rfl (s_gen 0 (hc := Gn l _ (2) (by omega) (by omega)) (hR := ?_))
            rintro r a14 ha14 ⟨k14, rfl, p14, q14, o14⟩
            refine ⟨rfl, _, (by repeat constructor), ?_⟩
            refine al_p rfl (st_move rfl ?_)
            refine al_p rfl (s_gen 0 (hc := Grange l _ (-1) (33) (by omega) (by omega) (by omega) (by omega)) (hR := ?_))
            rintro r a15 ha15 ⟨k15, rfl, p15, q15⟩
            refine ⟨rfl, _, (by repeat constructor), ?_⟩
            refine al_p rfl (st_fieldB rfl ?_)
            refine al_p rfl (st_indexB (len := 4) (sz := 1) (n := 3) (by kernel_rfl) rfl rfl rfl rfl ?_)
            refine al_p0 (s_store rfl rfl rfl rfl rfl rfl (by repeat constructor) (by repeat constructor) ?_)
            refine al_p rfl (st_fieldB rfl ?_)
            refine al_p0 (s_store rfl rfl rfl rfl rfl rfl (by repeat constructor) (by repeat constructor) ?_)
            refine al_nil ?_
            refine x_then ?_
            refine hK _ ?_
            clear hK K
            refine aw_seq (fun K hK => ?_)
            refine aw_region ?_
            refine al_p rfl (st_loadBW rfl rfl rfl ?_)
            refine al_p0 (s_store rfl rfl rfl rfl rfl rfl (by repeat constructor) (by repeat constructor) ?_)
            refine al_nil ?_
            refine x_then ?_
            refine hK _ ?_
            clear hK K
            refine aw_ret ?_
            refine abody_ret none (by repeat (first | exact ResA.nil | (apply ResA.tmp; (focus exact rfl)) | (apply ResA.cellN; (focus exact inferInstance); (focus exact rfl); (focus exact rfl); (focus exact rfl)) | (apply ResA.cell1; (focus exact inferInstance); (focus exact rfl); (focus exact rfl); (focus exact rfl)))) rfl rfl rfl (LeA.refl _) ⟨_, rfl, rfl, _, ?_, rfl, _, _, _, _, _, _, _, rfl⟩ <;> omega
          · have hc9 := bp hb9
            refine aw_skip ?_
            refine x_then ?_
            refine hK _ ?_
            clear hK K
            refine aw_seq (fun K hK => ?_)
            refine aw_region ?_
            refine al_p rfl (st_loadBW rfl rfl rfl ?_)
            refine al_p0 (s_store rfl rfl rfl rfl rfl rfl (by repeat constructor) (by repeat constructor) ?_)
            refine al_nil ?_
            refine x_then ?_
            refine hK _ ?_
            clear hK K
            refine aw_ret ?_
            refine abody_ret none (by repeat (first | exact ResA.nil | (apply ResA.tmp; (focus exact rfl)) | (apply ResA.cellN; (focus exact inferInstance); (focus exact rfl); (focus exact rfl); (focus exact rfl)) | (apply ResA.cell1; (focus exact inferInstance); (focus exact rfl); (focus exact rfl); (focus exact rfl)))) rfl rfl rfl (LeA.refl _) ⟨_, rfl, rfl, _, ?_, rfl, _, _, _, _, _, _, _, rfl⟩ <;> omega

end
end Go.Proofs.YtokaaebbmcldaaaGreatDoor
namespace Go.Proofs.YtokaaebbmcldaaaGreatDoor
open Go.RowKit

section
set_option maxRecDepth 10000
set_option maxHeartbeats 4000000
theorem Gcontext (l : List Int) (a : Nat) (ha : a ≤ 1000000000) : GenF Tryz.prog 6 l a [] 600 (fun r => ∃ (c : Ctx) (k : Cxs), c.items.length ≤ 2 ∧ r = .agg (ctxA c k)) := by
  refine enter Tryz.func6 rfl rfl rfl rfl rfl 1 rfl ?_
  refine aw_seq (fun K hK => ?_)
  refine aw_region ?_
  refine al_p rfl (s_alloc (by repeat constructor) ?_)
  refine al_nil ?_
  refine x_then ?_
  refine hK _ ?_
  clear hK K
  refine aw_seq (fun K hK => ?_)
  refine aw_region ?_
  refine al_p rfl (st_move rfl ?_)
  refine al_p rfl (s_gen 0 (hc := Grange l _ (1) (2) (by omega) (by omega) (by omega) (by omega)) (hR := ?_))
  rintro r a1 ha1 ⟨k1, rfl, p1, q1⟩
  refine ⟨rfl, _, (by repeat constructor), ?_⟩
  refine al_p rfl (st_move rfl ?_)
  refine al_p rfl (s_gen 0 (hc := Gident l _ (by omega)) (hR := ?_))
  rintro r a2 ha2 ⟨i1, i2, i3, i4, i5, i6, i7, i8, s1, s2, w1, rfl⟩
  refine ⟨rfl, _, (by repeat constructor), ?_⟩
  refine al_p rfl (st_move rfl ?_)
  refine al_p rfl (s_gen 0 (hc := Gcall l _ (by omega)) (hR := ?_))
  rintro r a3 ha3 ⟨c0, c1, c2, c3, c4, ps, rs, rfl⟩
  refine ⟨rfl, _, (by repeat constructor), ?_⟩
  refine al_p rfl (st_build (by repeat (first | exact FillA.nil _ | (apply FillA.cons; (focus exact rfl); (focus exact rfl); (focus exact rfl); (focus exact rfl); (focus exact rfl); (focus (repeat constructor))))) ?_)
  refine al_p rfl (s_alloc (by repeat constructor) ?_)
  refine al_p0 (s_store rfl rfl rfl rfl rfl rfl (by repeat constructor) (by repeat constructor) ?_)
  refine al_nil ?_
  refine x_then ?_
  refine hK _ ?_
  clear hK K
  refine aw_midI (fun s => ∃ (b2 : Nat) (ph : Int), b2 ≤ a + 330 ∧ s = ⟨look [(0, .bp 0 0), (2, .bp 1 0), (3, .bp 2 0)], ⟨[srcA l b2, [.v (.int .i64 0), .v (.int .i64 0), .v (.int .i64 0), .v (.int .i64 0), .v (.int .i64 0), .v (.int .i64 0), .v (.int .i64 0), .v (.int .i64 0), .v (.int .i64 0), .v (.int .i64 0), .v (.int .i64 0), .v (.string ⟨#[]⟩), .v (.string ⟨#[]⟩), .v (.slice none 0 0), .v (.bool false), .v (.int .i64 0), .v (.int .i64 0), .v (.int .i64 0), .v (.int .i64 0), .v (.int .i64 0), .v (.slice none 0 0), .v (.slice none 0 0), .v (.int .i64 0), .v (.slice none 0 0), .v (.int .i64 0)], [.v (.int .i64 ph), .v (.int .i64 i1), .v (.int .i64 i2), .v (.int .i64 i3), .v (.int .i64 i4), .v (.int .i64 i5), .v (.int .i64 i6), .v (.int .i64 i7), .v (.int .i64 i8), .v (.int .i64 0), .v (.int .i64 0), .v (.string s1), .v (.string s2), .sl 4 [] none, .v (.bool w1), .v (.int .i64 c0), .v (.int .i64 c1), .v (.int .i64 c2), .v (.int .i64 c3), .v (.int .i64 c4), .sl 1 ps none, .sl 1 rs none, .v (.int .i64 0), .v (.slice none 0 0), .v (.int .i64 0)]], []⟩⟩) ?_ ?_
  · skip
    refine aw_seq (fun K hK => ?_)
    refine aw_region ?_
    refine al_p rfl (st_move rfl ?_)
    refine al_p rfl (s_gen 0 (hc := Gn l _ (4) (by omega) (by omega)) (hR := ?_))
    rintro r a4 ha4 ⟨k4, rfl, p4, q4, o4⟩
    refine ⟨rfl, _, (by repeat constructor), ?_⟩
    refine al_p rfl (st_gtr rfl rfl ?_)
    refine al_nil ?_
    refine x_then ?_
    refine hK _ ?_
    clear hK K
    refine aw_cond rfl (fun hb1 => ?_) (fun hb1 => ?_)
    · have hc1 := bp hb1
      refine aw_region ?_
      refine al_p rfl (st_fieldB rfl ?_)
      refine al_p0 (s_store rfl rfl rfl rfl rfl rfl (by repeat constructor) (by repeat constructor) ?_)
      refine al_nil ?_
      refine x_then ?_
      refine ⟨_, ⟨_, _, ?_, rfl⟩, (wk 3 0)⟩ <;> omega
    · have hc1 := bp hb1
      refine aw_skip ?_
      refine x_then ?_
      refine ⟨_, ⟨_, _, ?_, rfl⟩, (wk 3 0)⟩ <;> omega
  · rintro s ⟨b2, ph, hb2, rfl⟩
    refine aw_nilTokB 2 23 63 13 rfl rfl (by repeat constructor) (by repeat constructor) (by repeat constructor) ?_
    refine aw_midI (fun s => ∃ (b3 : Nat) (ext : Int) (is : List Itm), b3 ≤ a + 500 ∧ is.length ≤ 2 ∧ s = ⟨look [(0, .bp 0 0), (2, .bp 1 0), (3, .bp 2 0)], ⟨[srcA l b3, [.v (.int .i64 0), .v (.int .i64 0), .v (.int .i64 0), .v (.int .i64 0), .v (.int .i64 0), .v (.int .i64 0), .v (.int .i64 0), .v (.int .i64 0), .v (.int .i64 0), .v (.int .i64 0), .v (.int .i64 0), .v (.string ⟨#[]⟩), .v (.string ⟨#[]⟩), .v (.slice none 0 0), .v (.bool false), .v (.int .i64 0), .v (.int .i64 0), .v (.int .i64 0), .v (.int .i64 0), .v (.int .i64 0), .v (.slice none 0 0), .v (.slice none 0 0), .v (.int .i64 0), .v (.slice none 0 0), .v (.int .i64 0)], [.v (.int .i64 ph), .v (.int .i64 i1), .v (.int .i64 i2), .v (.int .i64 i3), .v (.int .i64 i4), .v (.int .i64 i5), .v (.int .i64 i6), .v (.int .i64 i7), .v (.int .i64 i8), .v (.int .i64 0), .v (.int .i64 0), .v (.string s1), .v (.string s2), .sl 4 [] none, .v (.bool w1), .v (.int .i64 c0), .v (.int .i64 c1), .v (.int .i64 c2), .v (.int .i64 c3), .v (.int .i64 c4), .sl 1 ps none, .sl 1 rs none, .v (.int .i64 ext), .sl 13 (is.map itmA) (some 0), .v (.int .i64 0)]], [(63, 13, is.map itmA)]⟩⟩) ?_ ?_
    · skip
      refine aw_seq (fun K hK => ?_)
      refine aw_region ?_
      refine al_p rfl (st_fieldB rfl ?_)
      refine al_p rfl (st_loadB1 rfl rfl rfl ?_)
      first | refine al_p rfl (st_eql rfl rfl ?_) | refine al_p rfl (st_eqlS rfl rfl ?_) | refine al_p rfl (st_eqlB (by kernel_rfl) rfl rfl ?_)
      refine al_nil ?_
      refine x_then ?_
      refine hK _ ?_
      clear hK K
      refine aw_cond rfl (fun hb2 => ?_) (fun hb2 => ?_)
      · have hc2 := bp hb2
        refine aw_seq (fun K hK => ?_)
        refine aw_region ?_
        refine al_p rfl (st_move rfl ?_)
        refine al_p rfl (st_slit (by repeat (first | exact DenseA.nil _ | (apply DenseA.cons; (focus exact rfl); (focus exact rfl); (focus exact rfl); (focus exact rfl)) | (apply DenseA.consE; (focus exact rfl); (focus exact rfl); (focus exact rfl)))) rfl rfl rfl rfl ?_)
        refine al_p rfl (s_gen 0 (hc := Gpick l _ _ (fun _ => true) (by omega) (by rfl) (by rfl) (by rfl)) (hR := ?_))
        rintro r a5 ha5 ⟨k5, rfl, p5⟩
        refine ⟨rfl, _, (by repeat constructor), ?_⟩
        refine al_p rfl (st_fieldB rfl ?_)
        refine al_p0 (s_store rfl rfl rfl rfl rfl rfl (by repeat constructor) (by repeat constructor) ?_)
        refine al_nil ?_
        refine x_then ?_
        refine hK _ ?_
        clear hK K
        refine aw_seq (fun K hK => ?_)
        refine aw_region ?_
        refine al_p rfl (st_move rfl ?_)
        refine al_p rfl (s_gen 0 (hc := Gn l _ (3) (by omega) (by omega)) (hR := ?_))
        rintro r a6 ha6 ⟨k6, rfl, p6, q6, o6⟩
        refine ⟨rfl, _, (by repeat constructor), ?_⟩
        obtain ⟨m, rfl⟩ := Int.eq_ofNat_of_zero_le p6
        refine al_p rfl (st_assign rfl ?_)
        refine al_nil ?_
        refine x_then ?_
        refine hK _ ?_
        clear hK K
        refine aw_block ?_
        refine aw_loopW (fun n s => ∃ (j b1 : Nat) (ext : Int) (is : List Itm), j ≤ m ∧ n = j ∧ b1 ≤ b2 + 2 + 60 * (m - j) ∧ is.length = m - j ∧ s = ⟨look [(0, .bp 0 0), (2, .bp 1 0), (3, .bp 2 0), (4, .v (.int .i64 (j : Int)))], ⟨[srcA l b1, [.v (.int .i64 0), .v (.int .i64 0), .v (.int .i64 0), .v (.int .i64 0), .v (.int .i64 0), .v (.int .i64 0), .v (.int .i64 0), .v (.int .i64 0), .v (.int .i64 0), .v (.int .i64 0), .v (.int .i64 0), .v (.string ⟨#[]⟩), .v (.string ⟨#[]⟩), .v (.slice none 0 0), .v (.bool false), .v (.int .i64 0), .v (.int .i64 0), .v (.int .i64 0), .v (.int .i64 0), .v (.int .i64 0), .v (.slice none 0 0), .v (.slice none 0 0), .v (.int .i64 0), .v (.slice none 0 0), .v (.int .i64 0)], [.v (.int .i64 ph), .v (.int .i64 i1), .v (.int .i64 i2), .v (.int .i64 i3), .v (.int .i64 i4), .v (.int .i64 i5), .v (.int .i64 i6), .v (.int .i64 i7), .v (.int .i64 i8), .v (.int .i64 0), .v (.int .i64 0), .v (.string s1), .v (.string s2), .sl 4 [] none, .v (.bool w1), .v (.int .i64 c0), .v (.int .i64 c1), .v (.int .i64 c2), .v (.int .i64 c3), .v (.int .i64 c4), .sl 1 ps none, .sl 1 rs none, .v (.int .i64 ext), .sl 13 (is.map itmA) (some 0), .v (.int .i64 0)]], [(63, 13, is.map itmA)]⟩⟩) (m) ((wk 3 1)) (⟨m, _, _, [], by omega, rfl, by omega, by simp, rfl⟩) ?_
        rintro n s ⟨j, b1, ext, is, hj, hn, hb1, his, rfl⟩
        subst n
        refine aw_seq (fun K hK => ?_)
        refine aw_seq (fun K hK => ?_)
        refine aw_region ?_
        refine al_p rfl (st_move rfl ?_)
        refine al_p rfl (st_gtr rfl rfl ?_)
        refine al_nil ?_
        refine x_then ?_
        refine hK _ ?_
        clear hK K
        refine aw_cond rfl (fun hb3 => ?_) (fun hb3 => ?_)
        · have hc3 := bp hb3
          refine aw_skip ?_
          refine x_then ?_
          refine hK _ ?_
          clear hK K
          refine aw_seq (fun K hK => ?_)
          refine aw_block ?_
          refine aw_draw (fun h => ∃ b, h.bx = [srcA l b, [.v (.int .i64 0), .v (.int .i64 0), .v (.int .i64 0), .v (.int .i64 0), .v (.int .i64 0), .v (.int .i64 0), .v (.int .i64 0), .v (.int .i64 0), .v (.int .i64 0), .v (.int .i64 0), .v (.int .i64 0), .v (.string ⟨#[]⟩), .v (.string ⟨#[]⟩), .v (.slice none 0 0), .v (.bool false), .v (.int .i64 0), .v (.int .i64 0), .v (.int .i64 0), .v (.int .i64 0), .v (.int .i64 0), .v (.slice none 0 0), .v (.slice none 0 0), .v (.int .i64 0), .v (.slice none 0 0), .v (.int .i64 0)], [.v (.int .i64 ph), .v (.int .i64 i1), .v (.int .i64 i2), .v (.int .i64 i3), .v (.int .i64 i4), .v (.int .i64 i5), .v (.int .i64 i6), .v (.int .i64 i7), .v (.int .i64 i8), .v (.int .i64 0), .v (.int .i64 0), .v (.string s1), .v (.string s2), .sl 4 [] none, .v (.bool w1), .v (.int .i64 c0), .v (.int .i64 c1), .v (.int .i64 c2), .v (.int .i64 c3), .v (.int .i64 c4), .sl 1 ps none, .sl 1 rs none, .v (.int .i64 ext), .sl 13 (is.map itmA) (some 0), .v (.int .i64 0)]]) 7 (by kernel_rfl) ?_
          refine aa_t (i := 0) rfl rfl (by kernel_rfl) (by first | rfl | exact wan_y rfl rfl (beq_tt ‹_›) | exact wan_y rfl rfl (beq_ff ‹_›) | exact wan_y rfl rfl (by simp [*])) (fun h0 hS => st_fieldB rfl ⟨rfl, rfl⟩) ⟨_, rfl⟩ ?_
          first | refine aa_t (i := 1) rfl rfl (by kernel_rfl) (by first | rfl | exact wan_y rfl rfl (beq_tt ‹_›) | exact wan_y rfl rfl (beq_ff ‹_›) | exact wan_y rfl rfl (by simp [*])) (fun h0 hS => st_loadB1 (row := [.v (.int .i64 ph), .v (.int .i64 i1), .v (.int .i64 i2), .v (.int .i64 i3), .v (.int .i64 i4), .v (.int .i64 i5), .v (.int .i64 i6), .v (.int .i64 i7), .v (.int .i64 i8), .v (.int .i64 0), .v (.int .i64 0), .v (.string s1), .v (.string s2), .sl 4 [] none, .v (.bool w1), .v (.int .i64 c0), .v (.int .i64 c1), .v (.int .i64 c2), .v (.int .i64 c3), .v (.int .i64 c4), .sl 1 ps none, .sl 1 rs none, .v (.int .i64 ext), .sl 13 (is.map itmA) (some 0), .v (.int .i64 0)]) rfl (by obtain ⟨_, e⟩ := hS; rw [e]; rfl) rfl ⟨rfl, rfl⟩) ⟨_, rfl⟩ ?_ | refine aa_t (i := 1) rfl rfl (by kernel_rfl) (by first | rfl | exact wan_y rfl rfl (beq_tt ‹_›) | exact wan_y rfl rfl (beq_ff ‹_›) | exact wan_y rfl rfl (by simp [*])) (fun h0 hS => st_loadB1 rfl rfl rfl ⟨rfl, rfl⟩) ⟨_, rfl⟩ ?_
          refine aa_t (i := 2) rfl rfl (by kernel_rfl) (by first | rfl | exact wan_y rfl rfl (beq_tt ‹_›) | exact wan_y rfl rfl (beq_ff ‹_›) | exact wan_y rfl rfl (by simp [*])) (fun h0 hS => st_move rfl ⟨rfl, rfl⟩) ⟨_, rfl⟩ ?_
          refine aa_c (i := 3) rfl rfl (by kernel_rfl) (by first | rfl | exact wan_y rfl rfl (beq_tt ‹_›) | exact wan_y rfl rfl (beq_ff ‹_›) | exact wan_y rfl rfl (by simp [*])) (s_gen 0 (hc := Gitem l _ (by omega)) (hR := ?_))
          rintro r a7 ha7 ⟨Y, rfl⟩
          refine ⟨rfl, _, (by repeat constructor), ?_⟩
          refine ⟨.inr ⟨_, rfl⟩, ?_⟩
          refine aa_t (i := 4) rfl rfl (by kernel_rfl) (by first | rfl | exact wan_y rfl rfl (beq_tt ‹_›) | exact wan_y rfl rfl (beq_ff ‹_›) | exact wan_y rfl rfl (by simp [*])) (fun h0 hS => st_slit (by repeat (first | exact DenseA.nil _ | (apply DenseA.cons; (focus exact rfl); (focus exact rfl); (focus exact rfl); (focus exact rfl)) | (apply DenseA.consE; (focus exact rfl); (focus exact rfl); (focus exact rfl)))) rfl rfl rfl rfl ⟨rfl, rfl⟩) ⟨_, rfl⟩ ?_
          first | refine aa_c (i := 5) rfl rfl (by kernel_rfl) (by first | rfl | exact wan_y rfl rfl (beq_tt ‹_›) | exact wan_y rfl rfl (beq_ff ‹_›) | exact wan_y rfl rfl (by simp [*])) (s_append rfl rfl rfl (by simp <;> omega) (by repeat constructor) ?_) | refine aa_c (i := 5) rfl rfl (by kernel_rfl) (by first | rfl | exact wan_y rfl rfl (beq_tt ‹_›) | exact wan_y rfl rfl (beq_ff ‹_›) | exact wan_y rfl rfl (by simp [*])) (s_append0 rfl rfl (by simp <;> omega) (by repeat constructor) ?_)
          refine ⟨.inr ⟨_, rfl⟩, ?_⟩
          refine aa_t (i := 6) rfl rfl (by kernel_rfl) (by first | rfl | exact wan_y rfl rfl (beq_tt ‹_›) | exact wan_y rfl rfl (beq_ff ‹_›) | exact wan_y rfl rfl (by simp [*])) (fun h0 hS => st_fieldB rfl ⟨rfl, rfl⟩) ⟨_, rfl⟩ ?_
          refine aa_c0 (i := 7) rfl (by kernel_rfl) (by first | rfl | exact wan_y rfl rfl (beq_tt ‹_›) | exact wan_y rfl rfl (beq_ff ‹_›) | exact wan_y rfl rfl (by simp [*])) (s_store rfl rfl rfl rfl rfl rfl (by repeat constructor) (by repeat constructor) ?_)
          refine ⟨.inl rfl, ?_⟩
          refine aa_done (by kernel_rfl) ?_ _
          refine x_blockN ?_
          refine x_then ?_
          refine hK _ ?_
          clear hK K
          refine aw_region ?_
          refine al_p rfl (st_move rfl ?_)
          first | refine al_p rfl (st_sub64 rfl rfl (by omega) ?_) | refine al_p rfl (st_sub rfl rfl ?_)
          refine al_p rfl (st_assign rfl ?_)
          refine al_nil ?_
          refine x_then ?_
          obtain ⟨j, rfl⟩ : ∃ i, j = i + 1 := ⟨j - 1, by omega⟩
          refine ⟨_, _, ?_, ⟨j, _, _, is ++ [Y], by omega, rfl, ?_, ?_, rfl⟩, (by rw [List.map_append]; exact weak_of 3 1 rfl rfl rfl rfl (by repeat (first | exact Sub.nil | refine Sub.cons _ _ _ rfl rfl ?_ | (apply Sub.of; (focus exact rfl); (focus exact LeA.of_eq (vi (by omega))); (focus exact rfl)))))⟩
          · omega
          · omega
          · simp; omega
        · have hc3 := bp hb3
          refine aw_exit ?_
          refine x_thenE ?_
          clear hK K
          refine x_thenE ?_
          refine ABlock_out ?_
          refine x_then ?_
          first | (refine ⟨_, ⟨_, _, is, ?_, ?_, rfl⟩, (wk 3 1)⟩ <;> omega) | (refine ⟨_, ⟨_, _, [], ?_, ?_, rfl⟩, (wk 3 1)⟩ <;> first | omega | exact Nat.zero_le _)
      · have hc2 := bp hb2
        refine aw_skip ?_
        refine x_then ?_
        first | (refine ⟨_, ⟨_, _, is, ?_, ?_, rfl⟩, (wk 3 1)⟩ <;> omega) | (refine ⟨_, ⟨_, _, [], ?_, ?_, rfl⟩, (wk 3 1)⟩ <;> first | omega | exact Nat.zero_le _)
    · rintro s ⟨b3, ext, is, hb3, his, rfl⟩
      refine aw_seq (fun K hK => ?_)
      refine aw_seq (fun K hK => ?_)
      refine aw_region ?_
      refine al_p rfl (st_move rfl ?_)
      refine al_p rfl (s_gen 0 (hc := Gn l _ (6) (by omega) (by omega)) (hR := ?_))
      rintro r a8 ha8 ⟨k8, rfl, p8, q8, o8⟩
      refine ⟨rfl, _, (by repeat constructor), ?_⟩
      first | refine al_p rfl (st_eql rfl rfl ?_) | refine al_p rfl (st_eqlS rfl rfl ?_) | refine al_p rfl (st_eqlB (by kernel_rfl) rfl rfl ?_)
      refine al_nil ?_
      refine x_then ?_
      refine hK _ ?_
      clear hK K
      refine aw_cond rfl (fun hb4 => ?_) (fun hb4 => ?_)
      · have hc4 := bp hb4
        refine aw_region ?_
        refine al_p rfl (st_move rfl ?_)
        refine al_p rfl (st_slit (by repeat (first | exact DenseA.nil _ | (apply DenseA.cons; (focus exact rfl); (focus exact rfl); (focus exact rfl); (focus exact rfl)) | (apply DenseA.consE; (focus exact rfl); (focus exact rfl); (focus exact rfl)))) rfl rfl rfl rfl ?_)
        refine al_p rfl (s_gen 0 (hc := Gpick l _ _ (fun _ => true) (by omega) (by rfl) (by rfl) (by rfl)) (hR := ?_))
        rintro r a9 ha9 ⟨k9, rfl, p9⟩
        refine ⟨rfl, _, (by repeat constructor), ?_⟩
        refine al_p rfl (st_fieldB rfl ?_)
        refine al_p0 (s_store rfl rfl rfl rfl rfl rfl (by repeat constructor) (by repeat constructor) ?_)
        refine al_nil ?_
        refine x_then ?_
        refine hK _ ?_
        clear hK K
        refine aw_seq (fun K hK => ?_)
        refine aw_region ?_
        refine al_p rfl (st_loadBW rfl rfl rfl ?_)
        refine al_p0 (s_store rfl rfl rfl rfl rfl rfl (by repeat constructor) (by repeat constructor) ?_)
        refine al_nil ?_
        refine x_then ?_
        refine hK _ ?_
        clear hK K
        refine aw_ret ?_
        refine abody_ret none (by repeat (first | exact ResA.nil | (apply ResA.tmp; (focus exact rfl)) | (apply ResA.cellN; (focus exact inferInstance); (focus exact rfl); (focus exact rfl); (focus exact rfl)) | (apply ResA.cell1; (focus exact inferInstance); (focus exact rfl); (focus exact rfl); (focus exact rfl)))) rfl rfl rfl (LeA.refl _) ⟨_, rfl, rfl, _, ?_, rfl, ⟨ph, i1, i2, i3, i4, i5, i6, i7, i8, (0, 0), s1, s2, w1, c0, c1, c2, c3, c4, ext, is, _⟩, ⟨[], ps, rs⟩, his, rfl⟩ <;> omega
      · have hc4 := bp hb4
        refine aw_skip ?_
        refine x_then ?_
        refine hK _ ?_
        clear hK K
        refine aw_seq (fun K hK => ?_)
        refine aw_region ?_
        refine al_p rfl (st_loadBW rfl rfl rfl ?_)
        refine al_p0 (s_store rfl rfl rfl rfl rfl rfl (by repeat constructor) (by repeat constructor) ?_)
        refine al_nil ?_
        refine x_then ?_
        refine hK _ ?_
        clear hK K
        refine aw_ret ?_
        refine abody_ret none (by repeat (first | exact ResA.nil | (apply ResA.tmp; (focus exact rfl)) | (apply ResA.cellN; (focus exact inferInstance); (focus exact rfl); (focus exact rfl); (focus exact rfl)) | (apply ResA.cell1; (focus exact inferInstance); (focus exact rfl); (focus exact rfl); (focus exact rfl)))) rfl rfl rfl (LeA.refl _) ⟨_, rfl, rfl, _, ?_, rfl, ⟨ph, i1, i2, i3, i4, i5, i6, i7, i8, (0, 0), s1, s2, w1, c0, c1, c2, c3, c4, ext, is, _⟩, ⟨[], ps, rs⟩, his, rfl⟩ <;> omega

theorem Lbools (n : Nat) (k : Int) (hn : n ≤ 1000) : AFn Tryz.prog 7 [.v (.int .i64 (n : Int)), .v (.int .i64 k)] (fun r => ∃ hits : List Bool, hits.length = n ∧ r = .sl 1 (hits.map bolA) none) := by
  refine enter Tryz.func7 rfl rfl rfl rfl rfl 0 rfl ?_
  refine aw_seq (fun K hK => ?_)
  refine aw_region ?_
  refine al_p rfl (st_assign rfl ?_)
  refine al_nil ?_
  refine x_then ?_
  refine hK _ ?_
  clear hK K
  refine aw_seq (fun K hK => ?_)
  refine aw_region ?_
  refine al_p rfl (st_assign rfl ?_)
  refine al_nil ?_
  refine x_then ?_
  refine hK _ ?_
  clear hK K
  refine aw_seq (fun K hK => ?_)
  refine aw_seq (fun K hK => ?_)
  refine aw_region ?_
  refine al_p rfl (st_assign rfl ?_)
  refine al_nil ?_
  refine x_then ?_
  refine hK _ ?_
  clear hK K
  refine aw_block ?_
  refine aw_nilTok 5 4 1 rfl (by repeat constructor) ?_
  refine aw_loopW (fun m s => ∃ (j : Nat) (hs : List Bool), j ≤ n ∧ m = n - j ∧ hs.length = j ∧ s = ⟨look [(0, .v (.int .i64 (n : Int))), (1, .v (.int .i64 k)), (5, .sl 1 (hs.map bolA) (some 0)), (6, .v (.int .i64 (j : Int)))], ⟨[], [(4, 1, hs.map bolA)]⟩⟩) (n) ((wk 0 1)) (⟨0, [], by omega, rfl, rfl, rfl⟩) ?_
  rintro m s ⟨j, hs, hj, rfl, hhs, rfl⟩
  refine aw_seq (fun K hK => ?_)
  refine aw_seq (fun K hK => ?_)
  refine aw_region ?_
  refine al_p rfl (st_move rfl ?_)
  refine al_p rfl (st_move rfl ?_)
  first | refine al_p rfl (st_lss rfl rfl ?_) | refine al_p rfl (st_lssS rfl rfl ?_)
  refine al_nil ?_
  refine x_then ?_
  refine hK _ ?_
  clear hK K
  refine aw_cond rfl (fun hb1 => ?_) (fun hb1 => ?_)
  · have hc1 := bp hb1
    refine aw_skip ?_
    refine x_then ?_
    refine hK _ ?_
    clear hK K
    refine aw_seq (fun K hK => ?_)
    refine aw_block ?_
    refine aw_region ?_
    refine al_p rfl (st_move rfl ?_)
    refine al_p rfl (st_move rfl ?_)
    refine al_p rfl (st_move rfl ?_)
    refine al_p rfl (st_rem rfl rfl (by omega) ?_)
    refine al_p rfl (st_conv rfl Tryz.underlying3 Tryz.underlying65 ?_)
    refine al_p rfl (st_shr rfl rfl (wrap_u64 _).1 ?_)
    refine al_p rfl (st_and rfl rfl ?_)
    first | refine al_p rfl (st_eql rfl rfl ?_) | refine al_p rfl (st_eqlS rfl rfl ?_) | refine al_p rfl (st_eqlB (by kernel_rfl) rfl rfl ?_)
    refine al_p rfl (st_slit (by repeat (first | exact DenseA.nil _ | (apply DenseA.cons; (focus exact rfl); (focus exact rfl); (focus exact rfl); (focus exact rfl)) | (apply DenseA.consE; (focus exact rfl); (focus exact rfl); (focus exact rfl)))) rfl rfl rfl rfl ?_)
    first | refine al_p rfl (s_append rfl rfl rfl (by simp <;> omega) (by repeat constructor) ?_) | refine al_p rfl (s_append0 rfl rfl (by simp <;> omega) (by repeat constructor) ?_)
    refine al_p rfl (st_assign rfl ?_)
    refine al_nil ?_
    refine x_blockN ?_
    refine x_then ?_
    refine hK _ ?_
    clear hK K
    refine aw_region ?_
    refine al_p rfl (st_move rfl ?_)
    first | refine al_p rfl (st_add64 rfl rfl (by omega) ?_) | refine al_p rfl (st_addS rfl rfl (by omega) ?_) | refine al_p rfl (st_add rfl rfl ?_)
    refine al_p rfl (st_assign rfl ?_)
    refine al_nil ?_
    refine x_then ?_
    refine ⟨_, _, ?_, ⟨j + 1, hs ++ [_], by omega, rfl, ?_, rfl⟩, (by rw [List.map_append]; exact (wk 0 1))⟩
    · omega
    · simp; omega
  · have hc1 := bp hb1
    refine aw_exit ?_
    refine x_thenE ?_
    clear hK K
    refine x_thenE ?_
    refine ABlock_out ?_
    refine x_then ?_
    refine hK _ ?_
    clear hK K
    refine aw_seq (fun K hK => ?_)
    refine aw_region ?_
    refine al_p rfl (st_move rfl ?_)
    refine al_p rfl (st_assign rfl ?_)
    refine al_nil ?_
    refine x_then ?_
    refine hK _ ?_
    clear hK K
    refine aw_ret ?_
    refine e_ret ?_
    exact ⟨hs, by omega, rfl⟩

end
end Go.Proofs.YtokaaebbmcldaaaGreatDoor
namespace Go.Proofs.YtokaaebbmcldaaaGreatDoor
open Go.RowKit

theorem firstI_congr {α β : Type} {p : Nat → α → Bool} {q : Nat → β → Bool} : ∀ {l : List α} {z : List β} {s : Nat}, l.length = z.length → (∀ i x y, l[i]? = some x → z[i]? = some y → p (s + i) x = q (s + i) y) → firstI p l s = firstI q z s
  | [], [], _, _, _ => rfl
  | [], _ :: _, _, h, _ => by simp at h
  | _ :: _, [], _, h, _ => by simp at h
  | x :: xs, y :: ys, s, h, hp => by
    have h0 := hp 0 x y rfl rfl
    simp only [Nat.add_zero] at h0
    rw [firstI, firstI, h0, firstI_congr (l := xs) (z := ys) (by simpa using h) fun i a b ha hb => by
      have := hp (i + 1) a b (by simpa using ha) (by simpa using hb)
      rwa [show s + 1 + i = s + (i + 1) by omega]]
theorem firstI_take {α : Type} {p : Nat → α → Bool} : ∀ {l : List α} {s i m : Nat}, firstI p l s = ((s + i : Nat) : Int) → firstI p (l.take m) s = if i < m then ((s + i : Nat) : Int) else -1
  | [], s, i, m, h => by simp [firstI] at h; omega
  | x :: xs, s, i, m, h => by
    cases m with
    | zero => simp [firstI]
    | succ m =>
      rw [List.take_succ_cons, firstI]
      rw [firstI] at h
      split at h
      · rename_i hp
        obtain rfl : i = 0 := by omega
        rw [if_pos hp, if_pos (by omega)]
        rfl
      · rename_i hp
        rw [if_neg hp]
        cases i with
        | zero =>
          exfalso
          rcases firstI_lt p xs (s + 1) with e | ⟨k, e, e1, _⟩ <;> rw [e] at h <;> omega
        | succ i =>
          rw [firstI_take (l := xs) (s := s + 1) (i := i) (m := m) (by rw [h]; congr 1; omega)]
          by_cases hlt : i < m
          · rw [if_pos hlt, if_pos (by omega)]; congr 1; omega
          · rw [if_neg hlt, if_neg (by omega)]
theorem firstI_filter {β : Type} {q k : β → Bool} (h : ∀ p, q p = true → k p = true) : ∀ (z : List β) (s t : Nat), (firstI (fun _ p => q p) z s = -1 ∧ firstI (fun _ p => q p) (z.filter k) t = -1) ∨
    ∃ i j p, firstI (fun _ p => q p) z s = ((s + i : Nat) : Int) ∧ firstI (fun _ p => q p) (z.filter k) t = ((t + j : Nat) : Int) ∧ z[i]? = some p ∧ (z.filter k)[j]? = some p
  | [], _, _ => .inl ⟨rfl, rfl⟩
  | x :: xs, s, t => by
    by_cases hq : q x = true
    · refine .inr ⟨0, 0, x, ?_, ?_, rfl, ?_⟩
      · rw [firstI, if_pos hq]; rfl
      · rw [List.filter_cons_of_pos (h x hq), firstI, if_pos hq]; rfl
      · rw [List.filter_cons_of_pos (h x hq)]; rfl
    · by_cases hk : k x = true
      · rw [List.filter_cons_of_pos hk, firstI, if_neg hq, firstI, if_neg hq]
        rcases firstI_filter h xs (s + 1) (t + 1) with ⟨h1, h2⟩ | ⟨i, j, p, h1, h2, h3, h4⟩
        · exact .inl ⟨h1, h2⟩
        · exact .inr ⟨i + 1, j + 1, p, by rw [h1]; congr 1; omega, by rw [h2]; congr 1; omega, by simpa using h3, by simpa using h4⟩
      · rw [List.filter_cons_of_neg hk, firstI, if_neg hq]
        rcases firstI_filter h xs (s + 1) t with ⟨h1, h2⟩ | ⟨i, j, p, h1, h2, h3, h4⟩
        · exact .inl ⟨h1, h2⟩
        · exact .inr ⟨i + 1, j, p, by rw [h1]; congr 1; omega, h2, by simpa using h3, h4⟩
def keepL (kind : Int) (p : Rul × Bool) : Bool := decide (p.1.list = kind)
def zipF (L : List Rul) (hits : List Bool) (kind : Int) (j : Nat) : List (Rul × Bool) := ((L.zip hits).take j).filter (keepL kind)
theorem zipF_at {L : List Rul} {hits : List Bool} {kind : Int} {j : Nat} {r : Rul} {b : Bool} (hr : L[j]? = some r) (hb : hits[j]? = some b) : zipF L hits kind (j + 1) = zipF L hits kind j ++ (if r.list = kind then [(r, b)] else []) := by
  have hz : (L.zip hits)[j]? = some (r, b) := by rw [List.getElem?_zip_eq_some]; exact ⟨hr, hb⟩
  obtain ⟨hk, e⟩ := List.getElem?_eq_some_iff.1 hz
  unfold zipF
  rw [List.take_succ_eq_append_getElem hk, e, List.filter_append]
  congr 1
  by_cases h : r.list = kind <;> simp [keepL, h]
theorem own_in {L : List Rul} {hits : List Bool} {kind : Int} {j : Nat} : ∀ r ∈ (zipF L hits kind j).map (·.1), r ∈ L := by
  intro r hr
  obtain ⟨p, hp, rfl⟩ := List.mem_map.1 hr
  have := List.mem_of_mem_take (List.mem_filter.1 hp).1
  exact (List.of_mem_zip this).1
theorem own_len (L : List Rul) (hits : List Bool) (kind : Int) (j : Nat) : (zipF L hits kind j).length ≤ L.length := by
  unfold zipF
  refine Nat.le_trans (List.length_filter_le _ _) ?_
  simp
  omega
theorem ordL {L : List Rul} {hits : List Bool} {kind : Int} {c : Ctx} (hlen : hits.length = L.length) :
    (firstI (ownL kind hits c) L 0 = -1 ∧ firstI (ownL kind ((zipF L hits kind L.length).map (·.2)) c) ((zipF L hits kind L.length).map (·.1)) 0 = -1) ∨
    ∃ (i j : Nat) (r : Rul), firstI (ownL kind hits c) L 0 = (i : Int) ∧ firstI (ownL kind ((zipF L hits kind L.length).map (·.2)) c) ((zipF L hits kind L.length).map (·.1)) 0 = (j : Int) ∧ L[i]? = some r ∧ ((zipF L hits kind L.length).map (·.1))[j]? = some r ∧
      firstI (ownL kind hits c) (L.take (i + 1)) 0 = (i : Int) ∧ firstI (ownL kind hits c) (L.take i) 0 = -1 := by
  have e1 : firstI (ownL kind hits c) L 0 = firstI (fun _ (p : Rul × Bool) => decide (p.1.list = kind) && matL p.1 p.2 c) (L.zip hits) 0 := by
    refine firstI_congr (by simp [hlen]) fun i x y hx hy => ?_
    rw [List.getElem?_zip_eq_some] at hy
    obtain ⟨h1, h2⟩ := hy
    rw [hx] at h1
    injection h1 with h1
    rw [Nat.zero_add]
    simp only [ownL, hit_at h2, h1]
  have hz : (L.zip hits).take L.length = L.zip hits := List.take_of_length_le (by simp; omega)
  have e2 : firstI (ownL kind ((zipF L hits kind L.length).map (·.2)) c) ((zipF L hits kind L.length).map (·.1)) 0 = firstI (fun _ (p : Rul × Bool) => decide (p.1.list = kind) && matL p.1 p.2 c) ((L.zip hits).filter (keepL kind)) 0 := by
    unfold zipF
    rw [hz]
    refine firstI_congr (by simp) fun i x y hx hy => ?_
    rw [List.getElem?_map, hy] at hx
    simp only [Option.map_some, Option.some.injEq] at hx
    subst hx
    rw [Nat.zero_add]
    simp only [ownL]
    rw [hit_at (b := y.2) (by rw [List.getElem?_map, hy]; rfl)]
  rcases firstI_filter (q := fun p : Rul × Bool => decide (p.1.list = kind) && matL p.1 p.2 c) (k := keepL kind) (fun p hp => by simp only [Bool.and_eq_true] at hp; exact hp.1) (L.zip hits) 0 0 with ⟨h1, h2⟩ | ⟨i, j, p, h1, h2, h3, h4⟩
  · exact .inl ⟨e1.trans h1, e2.trans h2⟩
  · right
    have h5 : firstI (ownL kind hits c) L 0 = ((0 + i : Nat) : Int) := e1.trans h1
    have t1 := firstI_take (m := i + 1) h5
    have t2 := firstI_take (m := i) h5
    rw [if_pos (by omega)] at t1
    rw [if_neg (by omega)] at t2
    simp only [Nat.zero_add] at h5 t1 t2
    refine ⟨i, j, p.1, h5, by simpa using e2.trans h2, (List.getElem?_zip_eq_some.1 h3).1, ?_, t1, t2⟩
    unfold zipF
    rw [hz, List.getElem?_map, h4]
    rfl
section
set_option maxRecDepth 10000
set_option maxHeartbeats 4000000
end
end Go.Proofs.YtokaaebbmcldaaaGreatDoor
