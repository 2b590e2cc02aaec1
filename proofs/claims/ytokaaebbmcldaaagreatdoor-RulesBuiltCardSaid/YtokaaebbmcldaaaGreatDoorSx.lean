/-
  The source of numbers: New, N, Range, Pick, Word, Mask, Clean.
  The source of numbers: sets of calls, clean paths, tests.
  The source of numbers: rules and lists of rules.
  The source of numbers: good rules, sound lists; the laws RulesBack and RulesChange.
-/
import Derived.Test.YtokaaebbmcldaaaGreatDoorGs
import Derived.Test.YtokaaebbmcldaaaGreatDoorTyp
import Derived.Test.YtokaaebbmcldaaaGreatDoorRh
import Derived.Test.YtokaaebbmcldaaaGreatDoorRl
import Derived.Test.YtokaaebbmcldaaaGreatDoorRm
namespace Go.Proofs.YtokaaebbmcldaaaGreatDoor
open Go.RowKit

theorem tmod_rng (z : Int) {n : Int} (h : 1 ≤ n) : -n < z.tmod n ∧ z.tmod n < n := ⟨Int.lt_tmod_of_pos z (by omega), Int.tmod_lt_of_pos z (by omega)⟩
section
set_option maxRecDepth 10000
set_option maxHeartbeats 1000000
theorem Gnew (l : List Int) : ACall Tryz.prog 4 [.sl 1 (l.map intA) none] [] (fun r b t => r = .bp 0 0 ∧ b = [srcA l 0] ∧ t = []) := by
  refine enter Tryz.func4 rfl rfl rfl rfl rfl 1 rfl ?_
  refine aw_seq (fun K hK => ?_)
  refine aw_region ?_
  refine al_p rfl (st_assign rfl ?_)
  refine al_nil ?_
  refine x_then ?_
  refine hK _ ?_
  clear hK K
  refine aw_seq (fun K hK => ?_)
  refine aw_region ?_
  refine al_p rfl (st_move rfl ?_)
  refine al_p rfl (st_build (by repeat (first | exact FillA.nil _ | (apply FillA.cons; (focus exact rfl); (focus exact rfl); (focus exact rfl); (focus exact rfl); (focus exact rfl); (focus (repeat constructor))))) ?_)
  first | refine al_p rfl (s_boxA rfl rfl (by repeat constructor) ?_) | refine al_p rfl (s_box rfl rfl (by repeat constructor) ?_)
  refine al_p rfl (st_assign rfl ?_)
  refine al_nil ?_
  refine x_then ?_
  refine hK _ ?_
  clear hK K
  refine aw_ret ?_
  refine abody_ret none (by repeat (first | exact ResA.nil | (apply ResA.tmp; (focus exact rfl)) | (apply ResA.cellN; (focus exact inferInstance); (focus exact rfl); (focus exact rfl); (focus exact rfl)) | (apply ResA.cell1; (focus exact inferInstance); (focus exact rfl); (focus exact rfl); (focus exact rfl)))) rfl rfl rfl (LeA.refl _) ⟨rfl, rfl, rfl⟩

theorem Gn (l : List Int) (a : Nat) (n : Int) (ha : a ≤ 1000000000000) (hn : n ≤ 1000000000000) : GenF Tryz.prog 8 l a [.v (.int .i64 n)] 1 (fun r => ∃ k : Int, r = .v (.int .i64 k) ∧ 0 ≤ k ∧ (1 ≤ n → k < n) ∧ (n < 1 → k = 0)) := by
  refine enter Tryz.func8 rfl rfl rfl rfl rfl 1 rfl ?_
  refine aw_seq (fun K hK => ?_)
  refine aw_region ?_
  refine al_p rfl (st_assign rfl ?_)
  refine al_nil ?_
  refine x_then ?_
  refine hK _ ?_
  clear hK K
  refine aw_seq (fun K hK => ?_)
  refine aw_seq (fun K hK => ?_)
  refine aw_region ?_
  refine al_p rfl (st_move rfl ?_)
  first | refine al_p rfl (st_lss rfl rfl ?_) | refine al_p rfl (st_lssS rfl rfl ?_)
  refine al_nil ?_
  refine x_then ?_
  refine hK _ ?_
  clear hK K
  refine aw_cond rfl (fun hb1 => ?_) (fun hb1 => ?_)
  · have hc1 := bp hb1
    refine aw_seq (fun K hK => ?_)
    refine aw_region ?_
    refine al_p rfl (st_assign rfl ?_)
    refine al_nil ?_
    refine x_then ?_
    refine hK _ ?_
    clear hK K
    refine aw_ret ?_
    refine x_thenR ?_
    clear hK K
    refine abody_ret none (by repeat (first | exact ResA.nil | (apply ResA.tmp; (focus exact rfl)) | (apply ResA.cellN; (focus exact inferInstance); (focus exact rfl); (focus exact rfl); (focus exact rfl)) | (apply ResA.cell1; (focus exact inferInstance); (focus exact rfl); (focus exact rfl); (focus exact rfl)))) rfl rfl rfl (LeA.refl _) ⟨_, rfl, rfl, a, by omega, rfl, 0, rfl, by omega, by omega, by omega⟩
  · have hc1 := bp hb1
    refine aw_skip ?_
    refine x_then ?_
    refine hK _ ?_
    clear hK K
    refine aw_seq (fun K hK => ?_)
    refine aw_region ?_
    refine al_p rfl (st_move rfl ?_)
    first | refine al_p rfl (st_nilB rfl ?_) | refine al_p rfl (st_nilF rfl ?_)
    first | refine al_p rfl (st_fieldB rfl ?_) | refine al_p rfl (st_fieldF rfl ?_)
    first | refine al_p rfl (st_loadB1 rfl rfl rfl ?_) | refine al_p rfl (st_loadBW rfl rfl rfl ?_) | refine al_p rfl (st_loadF1 rfl rfl ?_) | refine al_p rfl (st_loadFW rfl rfl ?_) | refine al_p rfl (st_loadBN rfl rfl rfl ?_) | refine al_p rfl (st_loadFN rfl rfl ?_)
    first | refine al_p rfl (st_add64 rfl rfl (by omega) ?_) | refine al_p rfl (st_addS rfl rfl (by omega) ?_) | refine al_p rfl (st_add rfl rfl ?_)
    first | refine al_p rfl (st_nilB rfl ?_) | refine al_p rfl (st_nilF rfl ?_)
    first | refine al_p rfl (st_fieldB rfl ?_) | refine al_p rfl (st_fieldF rfl ?_)
    refine al_p0 (s_store rfl rfl rfl rfl rfl rfl (by repeat constructor) (by repeat constructor) ?_)
    refine al_nil ?_
    refine x_then ?_
    refine hK _ ?_
    clear hK K
    refine aw_seq (fun K hK => ?_)
    refine aw_region ?_
    refine al_p rfl (st_move rfl ?_)
    first | refine al_p rfl (st_nilB rfl ?_) | refine al_p rfl (st_nilF rfl ?_)
    first | refine al_p rfl (st_fieldB rfl ?_) | refine al_p rfl (st_fieldF rfl ?_)
    first | refine al_p rfl (st_loadB1 rfl rfl rfl ?_) | refine al_p rfl (st_loadBW rfl rfl rfl ?_) | refine al_p rfl (st_loadF1 rfl rfl ?_) | refine al_p rfl (st_loadFW rfl rfl ?_) | refine al_p rfl (st_loadBN rfl rfl rfl ?_) | refine al_p rfl (st_loadFN rfl rfl ?_)
    refine al_p rfl (st_mul rfl rfl ?_)
    refine al_p rfl (st_assign rfl ?_)
    refine al_nil ?_
    refine x_then ?_
    refine hK _ ?_
    clear hK K
    refine aw_seq (fun K hK => ?_)
    refine aw_seq (fun K hK => ?_)
    refine aw_drawR 10 (by kernel_rfl) ?_
    refine r_y (i := 0) rfl (st_move rfl ⟨rfl, rfl⟩) ?_
    first | refine r_y (i := 1) rfl (st_nilB rfl ⟨rfl, rfl⟩) ?_ | refine r_y (i := 1) rfl (st_nilF rfl ⟨rfl, rfl⟩) ?_
    first | refine r_y (i := 2) rfl (st_fieldB rfl ⟨rfl, rfl⟩) ?_ | refine r_y (i := 2) rfl (st_fieldF rfl ⟨rfl, rfl⟩) ?_
    first | refine r_y (i := 3) rfl (st_loadB1 rfl rfl rfl ⟨rfl, rfl⟩) ?_ | refine r_y (i := 3) rfl (st_loadBW rfl rfl rfl ⟨rfl, rfl⟩) ?_ | refine r_y (i := 3) rfl (st_loadF1 rfl rfl ⟨rfl, rfl⟩) ?_ | refine r_y (i := 3) rfl (st_loadFW rfl rfl ⟨rfl, rfl⟩) ?_ | refine r_y (i := 3) rfl (st_loadBN rfl rfl rfl ⟨rfl, rfl⟩) ?_ | refine r_y (i := 3) rfl (st_loadFN rfl rfl ⟨rfl, rfl⟩) ?_
    refine r_y (i := 4) rfl (st_move rfl ⟨rfl, rfl⟩) ?_
    first | refine r_y (i := 5) rfl (st_nilB rfl ⟨rfl, rfl⟩) ?_ | refine r_y (i := 5) rfl (st_nilF rfl ⟨rfl, rfl⟩) ?_
    first | refine r_y (i := 6) rfl (st_fieldB rfl ⟨rfl, rfl⟩) ?_ | refine r_y (i := 6) rfl (st_fieldF rfl ⟨rfl, rfl⟩) ?_
    first | refine r_y (i := 7) rfl (st_loadB1 rfl rfl rfl ⟨rfl, rfl⟩) ?_ | refine r_y (i := 7) rfl (st_loadBW rfl rfl rfl ⟨rfl, rfl⟩) ?_ | refine r_y (i := 7) rfl (st_loadF1 rfl rfl ⟨rfl, rfl⟩) ?_ | refine r_y (i := 7) rfl (st_loadFW rfl rfl ⟨rfl, rfl⟩) ?_ | refine r_y (i := 7) rfl (st_loadBN rfl rfl rfl ⟨rfl, rfl⟩) ?_ | refine r_y (i := 7) rfl (st_loadFN rfl rfl ⟨rfl, rfl⟩) ?_
    first | refine r_y (i := 8) rfl (st_len rfl ⟨rfl, rfl⟩) ?_ | refine r_y (i := 8) rfl (st_lenS (by kernel_rfl) rfl ⟨rfl, rfl⟩) ?_ | refine r_y (i := 8) rfl (st_len0 rfl ⟨rfl, rfl⟩) ?_
    refine r_y (i := 9) rfl (st_leq rfl rfl ⟨rfl, rfl⟩) ?_
    refine aa_done (by kernel_rfl) ?_ _
    refine x_then ?_
    refine hK _ ?_
    clear hK K
    refine aw_cond rfl (fun hb2 => ?_) (fun hb2 => ?_)
    · have hc2 := bp hb2
      have hlt : a < l.length := by simp at hc2; omega
      obtain ⟨z, hz⟩ : ∃ z, (l.map intA)[a]? = some (intA z) := ⟨l[a], by simp [hlt]⟩
      have tz := tmod_rng z (n := n) (by omega)
      refine aw_drawR 12 (by kernel_rfl) ?_
      refine r_y (i := 0) rfl (st_move rfl ⟨rfl, rfl⟩) ?_
      first | refine r_y (i := 1) rfl (st_nilB rfl ⟨rfl, rfl⟩) ?_ | refine r_y (i := 1) rfl (st_nilF rfl ⟨rfl, rfl⟩) ?_
      first | refine r_y (i := 2) rfl (st_fieldB rfl ⟨rfl, rfl⟩) ?_ | refine r_y (i := 2) rfl (st_fieldF rfl ⟨rfl, rfl⟩) ?_
      first | refine r_y (i := 3) rfl (st_loadB1 rfl rfl rfl ⟨rfl, rfl⟩) ?_ | refine r_y (i := 3) rfl (st_loadBW rfl rfl rfl ⟨rfl, rfl⟩) ?_ | refine r_y (i := 3) rfl (st_loadF1 rfl rfl ⟨rfl, rfl⟩) ?_ | refine r_y (i := 3) rfl (st_loadFW rfl rfl ⟨rfl, rfl⟩) ?_ | refine r_y (i := 3) rfl (st_loadBN rfl rfl rfl ⟨rfl, rfl⟩) ?_ | refine r_y (i := 3) rfl (st_loadFN rfl rfl ⟨rfl, rfl⟩) ?_
      refine r_y (i := 4) rfl (st_move rfl ⟨rfl, rfl⟩) ?_
      first | refine r_y (i := 5) rfl (st_nilB rfl ⟨rfl, rfl⟩) ?_ | refine r_y (i := 5) rfl (st_nilF rfl ⟨rfl, rfl⟩) ?_
      first | refine r_y (i := 6) rfl (st_fieldB rfl ⟨rfl, rfl⟩) ?_ | refine r_y (i := 6) rfl (st_fieldF rfl ⟨rfl, rfl⟩) ?_
      first | refine r_y (i := 7) rfl (st_loadB1 rfl rfl rfl ⟨rfl, rfl⟩) ?_ | refine r_y (i := 7) rfl (st_loadBW rfl rfl rfl ⟨rfl, rfl⟩) ?_ | refine r_y (i := 7) rfl (st_loadF1 rfl rfl ⟨rfl, rfl⟩) ?_ | refine r_y (i := 7) rfl (st_loadFW rfl rfl ⟨rfl, rfl⟩) ?_ | refine r_y (i := 7) rfl (st_loadBN rfl rfl rfl ⟨rfl, rfl⟩) ?_ | refine r_y (i := 7) rfl (st_loadFN rfl rfl ⟨rfl, rfl⟩) ?_
      first | refine r_y (i := 8) rfl (st_sub64 rfl rfl (by omega) ⟨rfl, rfl⟩) ?_ | refine r_y (i := 8) rfl (st_sub rfl rfl ⟨rfl, rfl⟩) ?_
      refine r_y (i := 9) rfl (st_index (n := a) rfl rfl (by omega) hz ⟨rfl, rfl⟩) ?_
      refine r_y (i := 10) rfl (st_loadF1 rfl rfl ⟨rfl, rfl⟩) ?_
      refine r_y (i := 11) rfl (st_assign rfl ⟨rfl, rfl⟩) ?_
      refine aa_done (by kernel_rfl) ?_ _
      refine x_then ?_
      refine hK _ ?_
      clear hK K
      refine aw_seq (fun K hK => ?_)
      refine aw_region ?_
      refine al_p rfl (st_move rfl ?_)
      refine al_p rfl (st_move rfl ?_)
      refine al_p rfl (st_rem rfl rfl (by omega) ?_)
      refine al_p rfl (st_assign rfl ?_)
      refine al_nil ?_
      refine x_then ?_
      refine hK _ ?_
      clear hK K
      refine aw_seq (fun K hK => ?_)
      refine aw_seq (fun K hK => ?_)
      refine aw_region ?_
      refine al_p rfl (st_move rfl ?_)
      first | refine al_p rfl (st_lss rfl rfl ?_) | refine al_p rfl (st_lssS rfl rfl ?_)
      refine al_nil ?_
      refine x_then ?_
      refine hK _ ?_
      clear hK K
      refine aw_cond rfl (fun hb3 => ?_) (fun hb3 => ?_)
      · have hc3 := bp hb3
        refine aw_region ?_
        refine al_p rfl (st_move rfl ?_)
        refine al_p rfl (st_move rfl ?_)
        refine al_p rfl (st_add64 rfl rfl (by omega) ?_)
        refine al_p rfl (st_assign rfl ?_)
        refine al_nil ?_
        refine x_then ?_
        refine hK _ ?_
        clear hK K
        refine aw_seq (fun K hK => ?_)
        refine aw_region ?_
        refine al_p rfl (st_move rfl ?_)
        refine al_p rfl (st_assign rfl ?_)
        refine al_nil ?_
        refine x_then ?_
        refine hK _ ?_
        clear hK K
        refine aw_ret ?_
        refine abody_ret none (by repeat (first | exact ResA.nil | (apply ResA.tmp; (focus exact rfl)) | (apply ResA.cellN; (focus exact inferInstance); (focus exact rfl); (focus exact rfl); (focus exact rfl)) | (apply ResA.cell1; (focus exact inferInstance); (focus exact rfl); (focus exact rfl); (focus exact rfl)))) rfl rfl rfl (LeA.refl _) ⟨_, rfl, rfl, a + 1, by omega, rfl, _, rfl, by omega, by omega, by omega⟩
      · have hc3 := bp hb3
        refine aw_skip ?_
        refine x_then ?_
        refine hK _ ?_
        clear hK K
        refine aw_seq (fun K hK => ?_)
        refine aw_region ?_
        refine al_p rfl (st_move rfl ?_)
        refine al_p rfl (st_assign rfl ?_)
        refine al_nil ?_
        refine x_then ?_
        refine hK _ ?_
        clear hK K
        refine aw_ret ?_
        refine abody_ret none (by repeat (first | exact ResA.nil | (apply ResA.tmp; (focus exact rfl)) | (apply ResA.cellN; (focus exact inferInstance); (focus exact rfl); (focus exact rfl); (focus exact rfl)) | (apply ResA.cell1; (focus exact inferInstance); (focus exact rfl); (focus exact rfl); (focus exact rfl)))) rfl rfl rfl (LeA.refl _) ⟨_, rfl, rfl, a + 1, by omega, rfl, _, rfl, by omega, by omega, by omega⟩
    · have hc2 := bp hb2
      have tz := tmod_rng (IntKind.i64.wrap (((a : Int) + 1) * 7)) (n := n) (by omega)
      refine aw_skip ?_
      refine x_then ?_
      refine hK _ ?_
      clear hK K
      refine aw_seq (fun K hK => ?_)
      refine aw_region ?_
      refine al_p rfl (st_move rfl ?_)
      refine al_p rfl (st_move rfl ?_)
      refine al_p rfl (st_rem rfl rfl (by omega) ?_)
      refine al_p rfl (st_assign rfl ?_)
      refine al_nil ?_
      refine x_then ?_
      refine hK _ ?_
      clear hK K
      refine aw_seq (fun K hK => ?_)
      refine aw_seq (fun K hK => ?_)
      refine aw_region ?_
      refine al_p rfl (st_move rfl ?_)
      first | refine al_p rfl (st_lss rfl rfl ?_) | refine al_p rfl (st_lssS rfl rfl ?_)
      refine al_nil ?_
      refine x_then ?_
      refine hK _ ?_
      clear hK K
      refine aw_cond rfl (fun hb4 => ?_) (fun hb4 => ?_)
      · have hc4 := bp hb4
        refine aw_region ?_
        refine al_p rfl (st_move rfl ?_)
        refine al_p rfl (st_move rfl ?_)
        refine al_p rfl (st_add64 rfl rfl (by omega) ?_)
        refine al_p rfl (st_assign rfl ?_)
        refine al_nil ?_
        refine x_then ?_
        refine hK _ ?_
        clear hK K
        refine aw_seq (fun K hK => ?_)
        refine aw_region ?_
        refine al_p rfl (st_move rfl ?_)
        refine al_p rfl (st_assign rfl ?_)
        refine al_nil ?_
        refine x_then ?_
        refine hK _ ?_
        clear hK K
        refine aw_ret ?_
        refine abody_ret none (by repeat (first | exact ResA.nil | (apply ResA.tmp; (focus exact rfl)) | (apply ResA.cellN; (focus exact inferInstance); (focus exact rfl); (focus exact rfl); (focus exact rfl)) | (apply ResA.cell1; (focus exact inferInstance); (focus exact rfl); (focus exact rfl); (focus exact rfl)))) rfl rfl rfl (LeA.refl _) ⟨_, rfl, rfl, a + 1, by omega, rfl, _, rfl, by omega, by omega, by omega⟩
      · have hc4 := bp hb4
        refine aw_skip ?_
        refine x_then ?_
        refine hK _ ?_
        clear hK K
        refine aw_seq (fun K hK => ?_)
        refine aw_region ?_
        refine al_p rfl (st_move rfl ?_)
        refine al_p rfl (st_assign rfl ?_)
        refine al_nil ?_
        refine x_then ?_
        refine hK _ ?_
        clear hK K
        refine aw_ret ?_
        refine abody_ret none (by repeat (first | exact ResA.nil | (apply ResA.tmp; (focus exact rfl)) | (apply ResA.cellN; (focus exact inferInstance); (focus exact rfl); (focus exact rfl); (focus exact rfl)) | (apply ResA.cell1; (focus exact inferInstance); (focus exact rfl); (focus exact rfl); (focus exact rfl)))) rfl rfl rfl (LeA.refl _) ⟨_, rfl, rfl, a + 1, by omega, rfl, _, rfl, by omega, by omega, by omega⟩

theorem Grange (l : List Int) (a : Nat) (lo hi : Int) (ha : a ≤ 1000000000000) (h1 : -1000000 ≤ lo) (h2 : lo ≤ hi) (h3 : hi ≤ 1000000) : GenF Tryz.prog 16 l a [.v (.int .i64 lo), .v (.int .i64 hi)] 1 (fun r => ∃ k : Int, r = .v (.int .i64 k) ∧ lo ≤ k ∧ k ≤ hi) := by
  refine enter Tryz.func16 rfl rfl rfl rfl rfl 1 rfl ?_
  refine aw_seq (fun K hK => ?_)
  refine aw_region ?_
  refine al_p rfl (st_assign rfl ?_)
  refine al_nil ?_
  refine x_then ?_
  refine hK _ ?_
  clear hK K
  refine aw_seq (fun K hK => ?_)
  refine aw_region ?_
  refine al_p rfl (st_move rfl ?_)
  refine al_p rfl (st_move rfl ?_)
  refine al_p rfl (st_move rfl ?_)
  refine al_p rfl (st_move rfl ?_)
  first | refine al_p rfl (st_sub64 rfl rfl (by omega) ?_) | refine al_p rfl (st_sub rfl rfl ?_)
  first | refine al_p rfl (st_add64 rfl rfl (by omega) ?_) | refine al_p rfl (st_addS rfl rfl (by omega) ?_) | refine al_p rfl (st_add rfl rfl ?_)
  refine al_p rfl (s_gen 0 (hc := Gn l a (hi - lo + 1) ha (by omega)) (hR := ?_))
  rintro r a1 ha1 ⟨k, rfl, k1, k2, k3⟩
  refine ⟨rfl, _, (by repeat constructor), ?_⟩
  first | refine al_p rfl (st_add64 rfl rfl (by omega) ?_) | refine al_p rfl (st_addS rfl rfl (by omega) ?_) | refine al_p rfl (st_add rfl rfl ?_)
  refine al_p rfl (st_assign rfl ?_)
  refine al_nil ?_
  refine x_then ?_
  refine hK _ ?_
  clear hK K
  refine aw_ret ?_
  refine abody_ret none (by repeat (first | exact ResA.nil | (apply ResA.tmp; (focus exact rfl)) | (apply ResA.cellN; (focus exact inferInstance); (focus exact rfl); (focus exact rfl); (focus exact rfl)) | (apply ResA.cell1; (focus exact inferInstance); (focus exact rfl); (focus exact rfl); (focus exact rfl)))) rfl rfl rfl (LeA.refl _) ⟨_, rfl, rfl, a1, by omega, rfl, _, rfl, by omega, by omega⟩

theorem Gpick (l : List Int) (a : Nat) (rows : List (List AV)) (p : Int → Bool) (ha : a ≤ 1000000000000) (h0 : Nat.blt 0 rows.length = true) (h1 : Nat.ble rows.length 1000 = true) (hp : allI p rows = true) : GenF Tryz.prog 19 l a [.sl 1 rows none] 1 (fun r => ∃ z : Int, r = .v (.int .i64 z) ∧ p z = true) := by
  have h0' : 0 < rows.length := Nat.le_of_ble_eq_true h0
  have h1' : rows.length ≤ 1000 := Nat.le_of_ble_eq_true h1
  refine enter Tryz.func19 rfl rfl rfl rfl rfl 1 rfl ?_
  refine aw_seq (fun K hK => ?_)
  refine aw_region ?_
  refine al_p rfl (st_assign rfl ?_)
  refine al_nil ?_
  refine x_then ?_
  refine hK _ ?_
  clear hK K
  refine aw_seq (fun K hK => ?_)
  refine aw_region ?_
  refine al_p rfl (st_move rfl ?_)
  refine al_p rfl (st_move rfl ?_)
  refine al_p rfl (st_move rfl ?_)
  first | refine al_p rfl (st_len rfl ?_) | refine al_p rfl (st_lenS (by kernel_rfl) rfl ?_) | refine al_p rfl (st_len0 rfl ?_)
  refine al_p rfl (s_gen 0 (hc := Gn l a rows.length ha (by omega)) (hR := ?_))
  rintro r a1 ha1 ⟨k, rfl, k1, k2, k3⟩
  refine ⟨rfl, _, (by repeat constructor), ?_⟩
  obtain ⟨m, rfl⟩ := Int.eq_ofNat_of_zero_le k1
  obtain ⟨z, hz, pz⟩ := allI_get hp (i := m) (by omega)
  refine al_p rfl (st_index (n := m) rfl rfl rfl hz ?_)
  first | refine al_p rfl (st_loadB1 rfl rfl rfl ?_) | refine al_p rfl (st_loadBW rfl rfl rfl ?_) | refine al_p rfl (st_loadF1 rfl rfl ?_) | refine al_p rfl (st_loadFW rfl rfl ?_) | refine al_p rfl (st_loadBN rfl rfl rfl ?_) | refine al_p rfl (st_loadFN rfl rfl ?_)
  refine al_p rfl (st_assign rfl ?_)
  refine al_nil ?_
  refine x_then ?_
  refine hK _ ?_
  clear hK K
  refine aw_ret ?_
  refine abody_ret none (by repeat (first | exact ResA.nil | (apply ResA.tmp; (focus exact rfl)) | (apply ResA.cellN; (focus exact inferInstance); (focus exact rfl); (focus exact rfl); (focus exact rfl)) | (apply ResA.cell1; (focus exact inferInstance); (focus exact rfl); (focus exact rfl); (focus exact rfl)))) rfl rfl rfl (LeA.refl _) ⟨_, rfl, rfl, a1, by omega, rfl, z, rfl, pz⟩

theorem Gword (l : List Int) (a : Nat) (rows : List (List AV)) (p : ByteArray → Bool) (ha : a ≤ 1000000000000) (h0 : Nat.blt 0 rows.length = true) (h1 : Nat.ble rows.length 1000 = true) (hp : allS p rows = true) : GenF Tryz.prog 34 l a [.sl 1 rows none] 1 (fun r => ∃ z : ByteArray, r = .v (.string z) ∧ p z = true) := by
  have h0' : 0 < rows.length := Nat.le_of_ble_eq_true h0
  have h1' : rows.length ≤ 1000 := Nat.le_of_ble_eq_true h1
  refine enter Tryz.func34 rfl rfl rfl rfl rfl 1 rfl ?_
  refine aw_seq (fun K hK => ?_)
  refine aw_region ?_
  refine al_p rfl (st_assign rfl ?_)
  refine al_nil ?_
  refine x_then ?_
  refine hK _ ?_
  clear hK K
  refine aw_seq (fun K hK => ?_)
  refine aw_region ?_
  refine al_p rfl (st_move rfl ?_)
  refine al_p rfl (st_move rfl ?_)
  refine al_p rfl (st_move rfl ?_)
  first | refine al_p rfl (st_len rfl ?_) | refine al_p rfl (st_lenS (by kernel_rfl) rfl ?_) | refine al_p rfl (st_len0 rfl ?_)
  refine al_p rfl (s_gen 0 (hc := Gn l a rows.length ha (by omega)) (hR := ?_))
  rintro r a1 ha1 ⟨k, rfl, k1, k2, k3⟩
  refine ⟨rfl, _, (by repeat constructor), ?_⟩
  obtain ⟨m, rfl⟩ := Int.eq_ofNat_of_zero_le k1
  obtain ⟨z, hz, pz⟩ := allS_get hp (i := m) (by omega)
  refine al_p rfl (st_index (n := m) rfl rfl rfl hz ?_)
  first | refine al_p rfl (st_loadB1 rfl rfl rfl ?_) | refine al_p rfl (st_loadBW rfl rfl rfl ?_) | refine al_p rfl (st_loadF1 rfl rfl ?_) | refine al_p rfl (st_loadFW rfl rfl ?_) | refine al_p rfl (st_loadBN rfl rfl rfl ?_) | refine al_p rfl (st_loadFN rfl rfl ?_)
  refine al_p rfl (st_assign rfl ?_)
  refine al_nil ?_
  refine x_then ?_
  refine hK _ ?_
  clear hK K
  refine aw_ret ?_
  refine abody_ret none (by repeat (first | exact ResA.nil | (apply ResA.tmp; (focus exact rfl)) | (apply ResA.cellN; (focus exact inferInstance); (focus exact rfl); (focus exact rfl); (focus exact rfl)) | (apply ResA.cell1; (focus exact inferInstance); (focus exact rfl); (focus exact rfl); (focus exact rfl)))) rfl rfl rfl (LeA.refl _) ⟨_, rfl, rfl, a1, by omega, rfl, z, rfl, pz⟩

end
end Go.Proofs.YtokaaebbmcldaaaGreatDoor
namespace Go.Proofs.YtokaaebbmcldaaaGreatDoor
open Go.RowKit

theorem wrap_u64 (a : Int) : 0 ≤ IntKind.u64.wrap a ∧ IntKind.u64.wrap a < 18446744073709551616 := by
  simp only [IntKind.wrap, IntKind.signed, IntKind.bits]
  simp
  omega
theorem or_u64 (a b : Int) : 0 ≤ orI .u64 a b ∧ orI .u64 a b < 18446744073709551616 := wrap_u64 _
theorem shl_u64 (a b : Int) : 0 ≤ shlI .u64 a b ∧ shlI .u64 a b < 18446744073709551616 := wrap_u64 _
section
set_option maxRecDepth 10000
set_option maxHeartbeats 1000000
theorem Gmask (l : List Int) (a : Nat) (ha : a ≤ 100000000000) : GenF Tryz.prog 54 l a [] 40 (fun r => ∃ m : Int, r = .v (.int .u64 m) ∧ 0 ≤ m ∧ m < 18446744073709551616) := by
  refine enter Tryz.func54 rfl rfl rfl rfl rfl 1 rfl ?_
  refine aw_seq (fun K hK => ?_)
  refine aw_region ?_
  refine al_p rfl (st_assign rfl ?_)
  refine al_nil ?_
  refine x_then ?_
  refine hK _ ?_
  clear hK K
  refine aw_seq (fun K hK => ?_)
  refine aw_seq (fun K hK => ?_)
  refine aw_region ?_
  refine al_p rfl (st_move rfl ?_)
  refine al_p rfl (s_gen 0 (hc := Gn l _ (6) (by omega) (by omega)) (hR := ?_))
  rintro r a1 ha1 ⟨k1, rfl, p1, q1, o1⟩
  refine ⟨rfl, _, (by repeat constructor), ?_⟩
  refine al_nil ?_
  refine x_then ?_
  refine hK _ ?_
  clear hK K
  refine aw_block ?_
  refine aw_seq (fun K hK => ?_)
  refine aw_region ?_
  first | refine al_p rfl (st_eql rfl rfl ?_) | refine al_p rfl (st_eqlS rfl rfl ?_) | refine al_p rfl (st_eqlB (by kernel_rfl) rfl rfl ?_)
  refine al_p rfl (st_assign rfl ?_)
  refine al_nil ?_
  refine x_then ?_
  refine hK _ ?_
  clear hK K
  refine aw_cond rfl (fun hb1 => ?_) (fun hb1 => ?_)
  · have hc1 := bp hb1
    refine aw_seq (fun K hK => ?_)
    refine aw_region ?_
    refine al_p rfl (st_assign rfl ?_)
    refine al_nil ?_
    refine x_then ?_
    refine hK _ ?_
    clear hK K
    refine aw_ret ?_
    refine x_blockR ?_
    refine x_thenR ?_
    clear hK K
    refine abody_ret none (by repeat (first | exact ResA.nil | (apply ResA.tmp; (focus exact rfl)) | (apply ResA.cellN; (focus exact inferInstance); (focus exact rfl); (focus exact rfl); (focus exact rfl)) | (apply ResA.cell1; (focus exact inferInstance); (focus exact rfl); (focus exact rfl); (focus exact rfl)))) rfl rfl rfl (LeA.refl _) ⟨_, rfl, rfl, a1, by omega, rfl, _, rfl, by omega, by omega⟩
  · have hc1 := bp hb1
    refine aw_seq (fun K hK => ?_)
    refine aw_region ?_
    first | refine al_p rfl (st_eql rfl rfl ?_) | refine al_p rfl (st_eqlS rfl rfl ?_) | refine al_p rfl (st_eqlB (by kernel_rfl) rfl rfl ?_)
    refine al_p rfl (st_assign rfl ?_)
    refine al_nil ?_
    refine x_then ?_
    refine hK _ ?_
    clear hK K
    refine aw_cond rfl (fun hb2 => ?_) (fun hb2 => ?_)
    · have hc2 := bp hb2
      refine aw_seq (fun K hK => ?_)
      refine aw_region ?_
      refine al_p rfl (st_move rfl ?_)
      refine al_p rfl (s_gen 0 (hc := Gn l _ (32) (by omega) (by omega)) (hR := ?_))
      rintro r a2 ha2 ⟨k2, rfl, p2, q2, o2⟩
      refine ⟨rfl, _, (by repeat constructor), ?_⟩
      first | refine al_p rfl (st_conv rfl Tryz.underlying3 Tryz.underlying65 ?_) | refine al_p rfl (st_conv rfl Tryz.underlying3 Tryz.underlying45 ?_)
      refine al_p rfl (st_shl rfl rfl (wrap_u64 _).1 ?_)
      refine al_p rfl (st_assign rfl ?_)
      refine al_nil ?_
      refine x_then ?_
      refine hK _ ?_
      clear hK K
      refine aw_ret ?_
      refine x_blockR ?_
      refine x_thenR ?_
      clear hK K
      refine abody_ret none (by repeat (first | exact ResA.nil | (apply ResA.tmp; (focus exact rfl)) | (apply ResA.cellN; (focus exact inferInstance); (focus exact rfl); (focus exact rfl); (focus exact rfl)) | (apply ResA.cell1; (focus exact inferInstance); (focus exact rfl); (focus exact rfl); (focus exact rfl)))) rfl rfl rfl (LeA.refl _) ⟨_, rfl, rfl, a2, by omega, rfl, _, rfl, shl_u64 _ _⟩
    · have hc2 := bp hb2
      refine aw_skip ?_
      refine x_blockN ?_
      refine x_then ?_
      refine hK _ ?_
      clear hK K
      refine aw_seq (fun K hK => ?_)
      refine aw_region ?_
      refine al_p rfl (st_assign rfl ?_)
      refine al_nil ?_
      refine x_then ?_
      refine hK _ ?_
      clear hK K
      refine aw_seq (fun K hK => ?_)
      refine aw_seq (fun K hK => ?_)
      refine aw_region ?_
      refine al_p rfl (st_assign rfl ?_)
      refine al_nil ?_
      refine x_then ?_
      refine hK _ ?_
      clear hK K
      refine aw_block ?_
      refine aw_loopW (fun n s => ∃ (j a1 : Nat) (m : Int), j ≤ 32 ∧ n = 32 - j ∧ a1 ≤ a + 1 + j ∧ 0 ≤ m ∧ m < 18446744073709551616 ∧ s = ⟨look [(0, .bp 0 0), (3, .v (.int .u64 m)), (4, .v (.int .i64 (j : Int)))], ⟨[srcA l a1], []⟩⟩) (32) ((wk 1 0)) (⟨0, a1, 0, by omega, rfl, by omega, by omega, by omega, rfl⟩) ?_
      rintro n s ⟨j, b1, m, hj, rfl, hb1, hm1, hm2, rfl⟩
      refine aw_seq (fun K hK => ?_)
      refine aw_seq (fun K hK => ?_)
      refine aw_region ?_
      refine al_p rfl (st_move rfl ?_)
      first | refine al_p rfl (st_lss rfl rfl ?_) | refine al_p rfl (st_lssS rfl rfl ?_)
      refine al_nil ?_
      refine x_then ?_
      refine hK _ ?_
      clear hK K
      refine aw_cond rfl (fun hb3 => ?_) (fun hb3 => ?_)
      · have hc3 := bp hb3
        refine aw_skip ?_
        refine x_then ?_
        refine hK _ ?_
        clear hK K
        refine aw_seq (fun K hK => ?_)
        refine aw_block ?_
        refine aw_region ?_
        refine al_p rfl (st_move rfl ?_)
        refine al_p rfl (st_move rfl ?_)
        refine al_p rfl (s_gen 0 (hc := Gn l _ (2) (by omega) (by omega)) (hR := ?_))
        rintro r a3 ha3 ⟨k3, rfl, p3, q3, o3⟩
        refine ⟨rfl, _, (by repeat constructor), ?_⟩
        first | refine al_p rfl (st_conv rfl Tryz.underlying3 Tryz.underlying65 ?_) | refine al_p rfl (st_conv rfl Tryz.underlying3 Tryz.underlying45 ?_)
        refine al_p rfl (st_move rfl ?_)
        first | refine al_p rfl (st_conv rfl Tryz.underlying3 Tryz.underlying65 ?_) | refine al_p rfl (st_conv rfl Tryz.underlying3 Tryz.underlying45 ?_)
        refine al_p rfl (st_shl rfl rfl (wrap_u64 _).1 ?_)
        refine al_p rfl (st_or rfl rfl ?_)
        refine al_p rfl (st_assign rfl ?_)
        refine al_nil ?_
        refine x_blockN ?_
        refine x_then ?_
        refine hK _ ?_
        clear hK K
        refine aw_region ?_
        refine al_p rfl (st_move rfl ?_)
        first | refine al_p rfl (st_add64 rfl rfl (by omega) ?_) | refine al_p rfl (st_addS rfl rfl (by omega) ?_) | refine al_p rfl (st_add rfl rfl ?_)
        refine al_p rfl (st_assign rfl ?_)
        refine al_nil ?_
        refine x_then ?_
        refine ⟨_, _, ?_, ⟨j + 1, _, _, by omega, rfl, ?_, (or_u64 _ _).1, (or_u64 _ _).2, rfl⟩, (wk 1 0)⟩ <;> omega
      · have hc3 := bp hb3
        refine aw_exit ?_
        refine x_thenE ?_
        clear hK K
        refine x_thenE ?_
        refine ABlock_out ?_
        refine x_then ?_
        refine hK _ ?_
        clear hK K
        refine aw_seq (fun K hK => ?_)
        refine aw_region ?_
        refine al_p rfl (st_move rfl ?_)
        refine al_p rfl (st_assign rfl ?_)
        refine al_nil ?_
        refine x_then ?_
        refine hK _ ?_
        clear hK K
        refine aw_ret ?_
        refine abody_ret none (by repeat (first | exact ResA.nil | (apply ResA.tmp; (focus exact rfl)) | (apply ResA.cellN; (focus exact inferInstance); (focus exact rfl); (focus exact rfl); (focus exact rfl)) | (apply ResA.cell1; (focus exact inferInstance); (focus exact rfl); (focus exact rfl); (focus exact rfl)))) rfl rfl rfl (LeA.refl _) ⟨_, rfl, rfl, b1, by omega, rfl, m, rfl, hm1, hm2⟩

theorem Gclean (l : List Int) (a : Nat) (ha : a ≤ 100000000000) : GenF Tryz.prog 37 l a [] 4 (fun r => ∃ s : ByteArray, r = .v (.string s) ∧ s.size ≤ 60) := by
  refine enter Tryz.func37 rfl rfl rfl rfl rfl 1 rfl ?_
  refine aw_seq (fun K hK => ?_)
  refine aw_region ?_
  refine al_p rfl (st_assign rfl ?_)
  refine al_nil ?_
  refine x_then ?_
  refine hK _ ?_
  clear hK K
  refine aw_seq (fun K hK => ?_)
  refine aw_region ?_
  refine al_p rfl (st_assign rfl ?_)
  refine al_nil ?_
  refine x_then ?_
  refine hK _ ?_
  clear hK K
  refine aw_seq (fun K hK => ?_)
  refine aw_seq (fun K hK => ?_)
  refine aw_region ?_
  refine al_p rfl (st_move rfl ?_)
  refine al_p rfl (st_slit (by repeat (first | exact DenseA.nil _ | (apply DenseA.cons; (focus exact rfl); (focus exact rfl); (focus exact rfl); (focus exact rfl)) | (apply DenseA.consE; (focus exact rfl); (focus exact rfl); (focus exact rfl)))) rfl rfl rfl rfl ?_)
  refine al_p rfl (s_gen 0 (hc := Gpick l _ _ (fun z => decide (1 ≤ z ∧ z ≤ 3)) (by omega) (by rfl) (by rfl) (by rfl)) (hR := ?_))
  rintro r a1 ha1 ⟨k1, rfl, p1⟩
  refine ⟨rfl, _, (by repeat constructor), ?_⟩
  obtain ⟨hz1, hz2⟩ := of_decide_eq_true p1
  obtain ⟨m, rfl⟩ := Int.eq_ofNat_of_zero_le (show 0 ≤ k1 by omega)
  refine al_p rfl (st_assign rfl ?_)
  refine al_nil ?_
  refine x_then ?_
  refine hK _ ?_
  clear hK K
  refine aw_block ?_
  refine aw_loopW (fun n s => ∃ (j a1 : Nat) (t : ByteArray), j ≤ m ∧ n = j ∧ a1 ≤ a + 1 + (m - j) ∧ t.size ≤ 2 * (m - j) ∧ s = ⟨look [(0, .bp 0 0), (3, .v (.string t)), (4, .v (.int .i64 (j : Int)))], ⟨[srcA l a1], []⟩⟩) (m) ((wk 1 0)) (⟨m, a1, ⟨#[]⟩, by omega, rfl, by omega, by rw [Nat.sub_self]; exact Nat.le_refl 0, rfl⟩) ?_
  rintro n s ⟨j, b1, t, hj, hn, hb1, ht, rfl⟩
  subst n
  refine aw_seq (fun K hK => ?_)
  refine aw_seq (fun K hK => ?_)
  refine aw_region ?_
  refine al_p rfl (st_move rfl ?_)
  refine al_p rfl (st_gtr rfl rfl ?_)
  refine al_nil ?_
  refine x_then ?_
  refine hK _ ?_
  clear hK K
  refine aw_cond rfl (fun hb1 => ?_) (fun hb1 => ?_)
  · have hc1 := bp hb1
    refine aw_skip ?_
    refine x_then ?_
    refine hK _ ?_
    clear hK K
    refine aw_seq (fun K hK => ?_)
    refine aw_block ?_
    refine aw_region ?_
    refine al_p rfl (st_move rfl ?_)
    refine al_p rfl (st_move rfl ?_)
    refine al_p rfl (st_slit (by repeat (first | exact DenseA.nil _ | (apply DenseA.cons; (focus exact rfl); (focus exact rfl); (focus exact rfl); (focus exact rfl)) | (apply DenseA.consE; (focus exact rfl); (focus exact rfl); (focus exact rfl)))) rfl rfl rfl rfl ?_)
    refine al_p rfl (s_gen 0 (hc := Gword l _ _ (fun s => decide (s.size ≤ 1)) (by omega) (by rfl) (by rfl) (by rfl)) (hR := ?_))
    rintro r a2 ha2 ⟨k2, rfl, p2⟩
    refine ⟨rfl, _, (by repeat constructor), ?_⟩
    have hw := of_decide_eq_true p2
    refine al_p rfl (st_addS rfl rfl (by show 1 + k2.size ≤ _; omega) ?_)
    refine al_p rfl (st_addS rfl rfl (by have e := ByteArray.size_append (a := ⟨#[47]⟩) (b := k2); have : (⟨#[47]⟩ : ByteArray).size = 1 := rfl; omega) ?_)
    refine al_p rfl (st_assign rfl ?_)
    refine al_nil ?_
    refine x_blockN ?_
    refine x_then ?_
    refine hK _ ?_
    clear hK K
    refine aw_region ?_
    refine al_p rfl (st_move rfl ?_)
    first | refine al_p rfl (st_sub64 rfl rfl (by omega) ?_) | refine al_p rfl (st_sub rfl rfl ?_)
    refine al_p rfl (st_assign rfl ?_)
    refine al_nil ?_
    refine x_then ?_
    obtain ⟨j, rfl⟩ : ∃ i, j = i + 1 := ⟨j - 1, by omega⟩
    refine ⟨_, _, ?_, ⟨j, _, _, by omega, rfl, ?_, ?_, rfl⟩, weak_of 1 0 rfl rfl rfl rfl (by repeat (first | exact Sub.nil | refine Sub.cons _ _ _ rfl rfl ?_ | (apply Sub.of; (focus exact rfl); (focus exact LeA.of_eq (vi (by omega))); (focus exact rfl))))⟩
    · omega
    · omega
    · have e := ByteArray.size_append (a := ⟨#[47]⟩) (b := k2)
      have e2 := ByteArray.size_append (a := t) (b := ⟨#[47]⟩ ++ k2)
      have : (⟨#[47]⟩ : ByteArray).size = 1 := rfl
      omega
  · have hc1 := bp hb1
    refine aw_exit ?_
    refine x_thenE ?_
    clear hK K
    refine x_thenE ?_
    refine ABlock_out ?_
    refine x_then ?_
    refine hK _ ?_
    clear hK K
    refine aw_seq (fun K hK => ?_)
    refine aw_region ?_
    refine al_p rfl (st_move rfl ?_)
    refine al_p rfl (st_assign rfl ?_)
    refine al_nil ?_
    refine x_then ?_
    refine hK _ ?_
    clear hK K
    refine aw_ret ?_
    refine abody_ret none (by repeat (first | exact ResA.nil | (apply ResA.tmp; (focus exact rfl)) | (apply ResA.cellN; (focus exact inferInstance); (focus exact rfl); (focus exact rfl); (focus exact rfl)) | (apply ResA.cell1; (focus exact inferInstance); (focus exact rfl); (focus exact rfl); (focus exact rfl)))) rfl rfl rfl (LeA.refl _) ⟨_, rfl, rfl, b1, by omega, rfl, t, rfl, by omega⟩

theorem Gtest (l : List Int) (a : Nat) (list : Int) (ha : a ≤ 100000000000) : GenF Tryz.prog 55 l a [.v (.int .i64 list)] 20 (fun r => ∃ t : Tst, r = .agg (tstA t)) := by
  refine enter Tryz.func55 rfl rfl rfl rfl rfl 1 rfl ?_
  refine aw_seq (fun K hK => ?_)
  refine aw_region ?_
  refine al_p rfl (s_alloc (by repeat constructor) ?_)
  refine al_nil ?_
  refine x_then ?_
  refine hK _ ?_
  clear hK K
  refine aw_seq (fun K hK => ?_)
  refine aw_region ?_
  refine al_p rfl (st_move rfl ?_)
  refine al_p rfl (s_gen 0 (hc := Grange l _ (1) (8) (by omega) (by omega) (by omega) (by omega)) (hR := ?_))
  rintro r a1 ha1 ⟨k1, rfl, p1, q1⟩
  refine ⟨rfl, _, (by repeat constructor), ?_⟩
  refine al_p rfl (st_move rfl ?_)
  refine al_p rfl (s_gen 0 (hc := Grange l _ (1) (8) (by omega) (by omega) (by omega) (by omega)) (hR := ?_))
  rintro r a2 ha2 ⟨k2, rfl, p2, q2⟩
  refine ⟨rfl, _, (by repeat constructor), ?_⟩
  refine al_p rfl (st_move rfl ?_)
  refine al_p rfl (st_slit (by repeat (first | exact DenseA.nil _ | (apply DenseA.cons; (focus exact rfl); (focus exact rfl); (focus exact rfl); (focus exact rfl)) | (apply DenseA.consE; (focus exact rfl); (focus exact rfl); (focus exact rfl)))) rfl rfl rfl rfl ?_)
  refine al_p rfl (s_gen 0 (hc := Gpick l _ _ (fun _ => true) (by omega) (by rfl) (by rfl) (by rfl)) (hR := ?_))
  rintro r a3 ha3 ⟨k3, rfl, p3⟩
  refine ⟨rfl, _, (by repeat constructor), ?_⟩
  refine al_p rfl (st_build (by repeat (first | exact FillA.nil _ | (apply FillA.cons; (focus exact rfl); (focus exact rfl); (focus exact rfl); (focus exact rfl); (focus exact rfl); (focus (repeat constructor))))) ?_)
  refine al_p rfl (s_alloc (by repeat constructor) ?_)
  refine al_p0 (s_store rfl rfl rfl rfl rfl rfl (by repeat constructor) (by repeat constructor) ?_)
  refine al_nil ?_
  refine x_then ?_
  refine hK _ ?_
  clear hK K
  refine aw_seq (fun K hK => ?_)
  refine aw_region ?_
  refine al_p rfl (st_move rfl ?_)
  refine al_p rfl (s_gen 0 (hc := Gn l _ (8) (by omega) (by omega)) (hR := ?_))
  rintro r a4 ha4 ⟨k4, rfl, p4, q4, o4⟩
  refine ⟨rfl, _, (by repeat constructor), ?_⟩
  refine al_p rfl (st_assign rfl ?_)
  refine al_nil ?_
  refine x_then ?_
  refine hK _ ?_
  clear hK K
  refine aw_midI (fun s => ∃ (b : Nat) (f o n ot : Int) (t : ByteArray), b ≤ a + 8 ∧ s = ⟨look [(0, .bp 0 0), (4, .bp 1 0), (5, .bp 2 0)], ⟨[srcA l b, [.v (.int .i64 0), .v (.int .i64 0), .v (.int .i64 0), .v (.string ⟨#[]⟩), .v (.int .i64 0)], [.v (.int .i64 f), .v (.int .i64 o), .v (.int .i64 n), .v (.string t), .v (.int .i64 ot)]], []⟩⟩) ?_ ?_
  · skip
    refine aw_block ?_
    refine aw_seq (fun K hK => ?_)
    refine aw_region ?_
    refine al_p rfl (st_move rfl ?_)
    first | refine al_p rfl (st_eql rfl rfl ?_) | refine al_p rfl (st_eqlS rfl rfl ?_) | refine al_p rfl (st_eqlB (by kernel_rfl) rfl rfl ?_)
    refine al_p rfl (st_assign rfl ?_)
    refine al_nil ?_
    refine x_then ?_
    refine hK _ ?_
    clear hK K
    refine aw_cond rfl (fun hb1 => ?_) (fun hb1 => ?_)
    · have hc1 := bp hb1
      refine aw_region ?_
      refine al_p rfl (st_move rfl ?_)
      refine al_p rfl (s_gen 0 (hc := Grange l _ (13) (14) (by omega) (by omega) (by omega) (by omega)) (hR := ?_))
      rintro r a5 ha5 ⟨k5, rfl, p5, q5⟩
      refine ⟨rfl, _, (by repeat constructor), ?_⟩
      refine al_p rfl (st_move rfl ?_)
      refine al_p rfl (s_gen 0 (hc := Grange l _ (1) (2) (by omega) (by omega) (by omega) (by omega)) (hR := ?_))
      rintro r a6 ha6 ⟨k6, rfl, p6, q6⟩
      refine ⟨rfl, _, (by repeat constructor), ?_⟩
      refine al_p rfl (st_move rfl ?_)
      refine al_p rfl (st_slit (by repeat (first | exact DenseA.nil _ | (apply DenseA.cons; (focus exact rfl); (focus exact rfl); (focus exact rfl); (focus exact rfl)) | (apply DenseA.consE; (focus exact rfl); (focus exact rfl); (focus exact rfl)))) rfl rfl rfl rfl ?_)
      refine al_p rfl (s_gen 0 (hc := Gword l _ _ (fun _ => true) (by omega) (by rfl) (by rfl) (by rfl)) (hR := ?_))
      rintro r a7 ha7 ⟨k7, rfl, p7⟩
      refine ⟨rfl, _, (by repeat constructor), ?_⟩
      refine al_p rfl (st_build (by repeat (first | exact FillA.nil _ | (apply FillA.cons; (focus exact rfl); (focus exact rfl); (focus exact rfl); (focus exact rfl); (focus exact rfl); (focus (repeat constructor))))) ?_)
      refine al_p0 (s_store rfl rfl rfl rfl rfl rfl (by repeat constructor) (by repeat constructor) ?_)
      refine al_nil ?_
      refine x_blockN ?_
      refine x_then ?_
      refine ⟨_, ⟨_, _, _, _, _, _, ?_, rfl⟩, (wk 3 0)⟩ <;> omega
    · have hc1 := bp hb1
      refine aw_seq (fun K hK => ?_)
      refine aw_region ?_
      refine al_p rfl (st_move rfl ?_)
      first | refine al_p rfl (st_eql rfl rfl ?_) | refine al_p rfl (st_eqlS rfl rfl ?_) | refine al_p rfl (st_eqlB (by kernel_rfl) rfl rfl ?_)
      refine al_p rfl (st_assign rfl ?_)
      refine al_nil ?_
      refine x_then ?_
      refine hK _ ?_
      clear hK K
      refine aw_cond rfl (fun hb2 => ?_) (fun hb2 => ?_)
      · have hc2 := bp hb2
        refine aw_region ?_
        refine al_p rfl (st_move rfl ?_)
        refine al_p rfl (s_gen 0 (hc := Grange l _ (3) (7) (by omega) (by omega) (by omega) (by omega)) (hR := ?_))
        rintro r a8 ha8 ⟨k8, rfl, p8, q8⟩
        refine ⟨rfl, _, (by repeat constructor), ?_⟩
        refine al_p rfl (st_move rfl ?_)
        refine al_p rfl (s_gen 0 (hc := Grange l _ (1) (2) (by omega) (by omega) (by omega) (by omega)) (hR := ?_))
        rintro r a9 ha9 ⟨k9, rfl, p9, q9⟩
        refine ⟨rfl, _, (by repeat constructor), ?_⟩
        refine al_p rfl (st_move rfl ?_)
        refine al_p rfl (s_gen 0 (hc := Grange l _ (3) (7) (by omega) (by omega) (by omega) (by omega)) (hR := ?_))
        rintro r a10 ha10 ⟨k10, rfl, p10, q10⟩
        refine ⟨rfl, _, (by repeat constructor), ?_⟩
        refine al_p rfl (st_build (by repeat (first | exact FillA.nil _ | (apply FillA.cons; (focus exact rfl); (focus exact rfl); (focus exact rfl); (focus exact rfl); (focus exact rfl); (focus (repeat constructor))))) ?_)
        refine al_p0 (s_store rfl rfl rfl rfl rfl rfl (by repeat constructor) (by repeat constructor) ?_)
        refine al_nil ?_
        refine x_blockN ?_
        refine x_then ?_
        refine ⟨_, ⟨_, _, _, _, _, _, ?_, rfl⟩, (wk 3 0)⟩ <;> omega
      · have hc2 := bp hb2
        refine aw_seq (fun K hK => ?_)
        refine aw_region ?_
        refine al_p rfl (st_move rfl ?_)
        first | refine al_p rfl (st_eql rfl rfl ?_) | refine al_p rfl (st_eqlS rfl rfl ?_) | refine al_p rfl (st_eqlB (by kernel_rfl) rfl rfl ?_)
        refine al_p rfl (st_move rfl ?_)
        refine al_gs true rfl rfl (fun hb3 => ?_) (fun hb3 => ?_)
        · have hc3 := bp hb3
          refine g_y (st_move rfl ?_)
          first | refine g_y (st_eql rfl rfl ?_) | refine g_y (st_eqlS rfl rfl ?_) | refine g_y (st_eqlB (by kernel_rfl) rfl rfl ?_)
          refine al_p rfl (p_t ?_)
          refine al_p rfl (st_assign rfl ?_)
          refine al_nil ?_
          refine x_then ?_
          refine hK _ ?_
          clear hK K
          refine aw_cond rfl (fun hb4 => ?_) (fun hb4 => ?_)
          · have hc4 := bp hb4
            refine aw_region ?_
            refine al_p rfl (st_move rfl ?_)
            refine al_p rfl (s_gen 0 (hc := Grange l _ (19) (20) (by omega) (by omega) (by omega) (by omega)) (hR := ?_))
            rintro r a11 ha11 ⟨k11, rfl, p11, q11⟩
            refine ⟨rfl, _, (by repeat constructor), ?_⟩
            refine al_p rfl (st_move rfl ?_)
            refine al_p rfl (s_gen 0 (hc := Grange l _ (1) (2) (by omega) (by omega) (by omega) (by omega)) (hR := ?_))
            rintro r a12 ha12 ⟨k12, rfl, p12, q12⟩
            refine ⟨rfl, _, (by repeat constructor), ?_⟩
            refine al_p rfl (st_move rfl ?_)
            refine al_p rfl (st_slit (by repeat (first | exact DenseA.nil _ | (apply DenseA.cons; (focus exact rfl); (focus exact rfl); (focus exact rfl); (focus exact rfl)) | (apply DenseA.consE; (focus exact rfl); (focus exact rfl); (focus exact rfl)))) rfl rfl rfl rfl ?_)
            refine al_p rfl (s_gen 0 (hc := Gpick l _ _ (fun _ => true) (by omega) (by rfl) (by rfl) (by rfl)) (hR := ?_))
            rintro r a13 ha13 ⟨k13, rfl, p13⟩
            refine ⟨rfl, _, (by repeat constructor), ?_⟩
            refine al_p rfl (st_build (by repeat (first | exact FillA.nil _ | (apply FillA.cons; (focus exact rfl); (focus exact rfl); (focus exact rfl); (focus exact rfl); (focus exact rfl); (focus (repeat constructor))))) ?_)
            refine al_p0 (s_store rfl rfl rfl rfl rfl rfl (by repeat constructor) (by repeat constructor) ?_)
            refine al_nil ?_
            refine x_blockN ?_
            refine x_then ?_
            refine ⟨_, ⟨_, _, _, _, _, _, ?_, rfl⟩, (wk 3 0)⟩ <;> omega
          · have hc4 := bp hb4
            refine aw_seq (fun K hK => ?_)
            refine aw_region ?_
            refine al_p rfl (st_move rfl ?_)
            first | refine al_p rfl (st_lss rfl rfl ?_) | refine al_p rfl (st_lssS rfl rfl ?_)
            refine al_p rfl (st_move rfl ?_)
            refine al_gs true rfl rfl (fun hb5 => ?_) (fun hb5 => ?_)
            · have hc5 := bp hb5
              refine g_y (st_move rfl ?_)
              first | refine g_y (st_eql rfl rfl ?_) | refine g_y (st_eqlS rfl rfl ?_) | refine g_y (st_eqlB (by kernel_rfl) rfl rfl ?_)
              refine al_p rfl (p_t ?_)
              refine al_p rfl (st_assign rfl ?_)
              refine al_nil ?_
              refine x_then ?_
              refine hK _ ?_
              clear hK K
              refine aw_cn rfl (by first | rfl | assumption | simp [*]) ?_
              refine aw_seq (fun K hK => ?_)
              refine aw_region ?_
              refine al_p rfl (st_move rfl ?_)
              first | refine al_p rfl (st_lss rfl rfl ?_) | refine al_p rfl (st_lssS rfl rfl ?_)
              refine al_p rfl (st_move rfl ?_)
              refine g_y (st_move rfl ?_)
              first | refine g_y (st_eql rfl rfl ?_) | refine g_y (st_eqlS rfl rfl ?_) | refine g_y (st_eqlB (by kernel_rfl) rfl rfl ?_)
              refine al_p rfl (p_t ?_)
              refine al_p rfl (st_assign rfl ?_)
              refine al_nil ?_
              refine x_then ?_
              refine hK _ ?_
              clear hK K
              refine aw_cond rfl (fun hb6 => ?_) (fun hb6 => ?_)
              · have hc6 := bp hb6
                refine aw_region ?_
                refine al_p rfl (st_move rfl ?_)
                refine al_p rfl (s_gen 0 (hc := Grange l _ (9) (12) (by omega) (by omega) (by omega) (by omega)) (hR := ?_))
                rintro r a14 ha14 ⟨k14, rfl, p14, q14⟩
                refine ⟨rfl, _, (by repeat constructor), ?_⟩
                refine al_p rfl (st_fieldB rfl ?_)
                refine al_p0 (s_store rfl rfl rfl rfl rfl rfl (by repeat constructor) (by repeat constructor) ?_)
                refine al_nil ?_
                refine x_blockN ?_
                refine x_then ?_
                refine ⟨_, ⟨_, _, _, _, _, _, ?_, rfl⟩, (wk 3 0)⟩ <;> omega
              · have hc6 := bp hb6
                refine aw_seq (fun K hK => ?_)
                refine aw_region ?_
                refine al_p rfl (st_move rfl ?_)
                first | refine al_p rfl (st_lss rfl rfl ?_) | refine al_p rfl (st_lssS rfl rfl ?_)
                refine al_p rfl (st_move rfl ?_)
                refine al_gs true rfl rfl (fun hb7 => ?_) (fun hb7 => ?_)
                · have hc7 := bp hb7
                  refine g_y (st_move rfl ?_)
                  first | refine g_y (st_eql rfl rfl ?_) | refine g_y (st_eqlS rfl rfl ?_) | refine g_y (st_eqlB (by kernel_rfl) rfl rfl ?_)
                  refine al_p rfl (p_t ?_)
                  refine al_p rfl (st_assign rfl ?_)
                  refine al_nil ?_
                  refine x_then ?_
                  refine hK _ ?_
                  clear hK K
                  refine aw_cond rfl (fun hb8 => ?_) (fun hb8 => ?_)
                  · have hc8 := bp hb8
                    refine aw_region ?_
                    refine al_p rfl (st_move rfl ?_)
                    refine al_p rfl (s_gen 0 (hc := Grange l _ (1) (6) (by omega) (by omega) (by omega) (by omega)) (hR := ?_))
                    rintro r a15 ha15 ⟨k15, rfl, p15, q15⟩
                    refine ⟨rfl, _, (by repeat constructor), ?_⟩
                    refine al_p rfl (st_move rfl ?_)
                    refine al_p rfl (st_slit (by repeat (first | exact DenseA.nil _ | (apply DenseA.cons; (focus exact rfl); (focus exact rfl); (focus exact rfl); (focus exact rfl)) | (apply DenseA.consE; (focus exact rfl); (focus exact rfl); (focus exact rfl)))) rfl rfl rfl rfl ?_)
                    refine al_p rfl (s_gen 0 (hc := Gpick l _ _ (fun _ => true) (by omega) (by rfl) (by rfl) (by rfl)) (hR := ?_))
                    rintro r a16 ha16 ⟨k16, rfl, p16⟩
                    refine ⟨rfl, _, (by repeat constructor), ?_⟩
                    refine al_p rfl (st_build (by repeat (first | exact FillA.nil _ | (apply FillA.cons; (focus exact rfl); (focus exact rfl); (focus exact rfl); (focus exact rfl); (focus exact rfl); (focus (repeat constructor))))) ?_)
                    refine al_p0 (s_store rfl rfl rfl rfl rfl rfl (by repeat constructor) (by repeat constructor) ?_)
                    refine al_nil ?_
                    refine x_blockN ?_
                    refine x_then ?_
                    refine ⟨_, ⟨_, _, _, _, _, _, ?_, rfl⟩, (wk 3 0)⟩ <;> omega
                  · have hc8 := bp hb8
                    refine aw_skip ?_
                    refine x_blockN ?_
                    refine x_then ?_
                    refine ⟨_, ⟨_, _, _, _, _, _, ?_, rfl⟩, (wk 3 0)⟩ <;> omega
                · have hc7 := bp hb7
                  refine g_n ?_
                  refine g_n ?_
                  refine al_p rfl (p_f ?_)
                  refine al_p rfl (st_assign rfl ?_)
                  refine al_nil ?_
                  refine x_then ?_
                  refine hK _ ?_
                  clear hK K
                  refine aw_cn rfl (by first | rfl | assumption | simp [*]) ?_
                  refine aw_skip ?_
                  refine x_blockN ?_
                  refine x_then ?_
                  refine ⟨_, ⟨_, _, _, _, _, _, ?_, rfl⟩, (wk 3 0)⟩ <;> omega
            · have hc5 := bp hb5
              refine g_n ?_
              refine g_n ?_
              refine al_p rfl (p_f ?_)
              refine al_p rfl (st_assign rfl ?_)
              refine al_nil ?_
              refine x_then ?_
              refine hK _ ?_
              clear hK K
              refine aw_cn rfl (by first | rfl | assumption | simp [*]) ?_
              refine aw_seq (fun K hK => ?_)
              refine aw_region ?_
              refine al_p rfl (st_move rfl ?_)
              first | refine al_p rfl (st_lss rfl rfl ?_) | refine al_p rfl (st_lssS rfl rfl ?_)
              refine al_p rfl (st_move rfl ?_)
              refine g_n ?_
              refine g_n ?_
              refine al_p rfl (p_f ?_)
              refine al_p rfl (st_assign rfl ?_)
              refine al_nil ?_
              refine x_then ?_
              refine hK _ ?_
              clear hK K
              refine aw_cn rfl (by first | rfl | assumption | simp [*]) ?_
              refine aw_seq (fun K hK => ?_)
              refine aw_region ?_
              refine al_p rfl (st_move rfl ?_)
              first | refine al_p rfl (st_lss rfl rfl ?_) | refine al_p rfl (st_lssS rfl rfl ?_)
              refine al_p rfl (st_move rfl ?_)
              refine al_gs true rfl rfl (fun hb9 => ?_) (fun hb9 => ?_)
              · have hc9 := bp hb9
                refine g_y (st_move rfl ?_)
                first | refine g_y (st_eql rfl rfl ?_) | refine g_y (st_eqlS rfl rfl ?_) | refine g_y (st_eqlB (by kernel_rfl) rfl rfl ?_)
                refine al_p rfl (p_t ?_)
                refine al_p rfl (st_assign rfl ?_)
                refine al_nil ?_
                refine x_then ?_
                refine hK _ ?_
                clear hK K
                refine aw_cond rfl (fun hb10 => ?_) (fun hb10 => ?_)
                · have hc10 := bp hb10
                  refine aw_region ?_
                  refine al_p rfl (st_move rfl ?_)
                  refine al_p rfl (s_gen 0 (hc := Grange l _ (1) (6) (by omega) (by omega) (by omega) (by omega)) (hR := ?_))
                  rintro r a17 ha17 ⟨k17, rfl, p17, q17⟩
                  refine ⟨rfl, _, (by repeat constructor), ?_⟩
                  refine al_p rfl (st_move rfl ?_)
                  refine al_p rfl (st_slit (by repeat (first | exact DenseA.nil _ | (apply DenseA.cons; (focus exact rfl); (focus exact rfl); (focus exact rfl); (focus exact rfl)) | (apply DenseA.consE; (focus exact rfl); (focus exact rfl); (focus exact rfl)))) rfl rfl rfl rfl ?_)
                  refine al_p rfl (s_gen 0 (hc := Gpick l _ _ (fun _ => true) (by omega) (by rfl) (by rfl) (by rfl)) (hR := ?_))
                  rintro r a18 ha18 ⟨k18, rfl, p18⟩
                  refine ⟨rfl, _, (by repeat constructor), ?_⟩
                  refine al_p rfl (st_build (by repeat (first | exact FillA.nil _ | (apply FillA.cons; (focus exact rfl); (focus exact rfl); (focus exact rfl); (focus exact rfl); (focus exact rfl); (focus (repeat constructor))))) ?_)
                  refine al_p0 (s_store rfl rfl rfl rfl rfl rfl (by repeat constructor) (by repeat constructor) ?_)
                  refine al_nil ?_
                  refine x_blockN ?_
                  refine x_then ?_
                  refine ⟨_, ⟨_, _, _, _, _, _, ?_, rfl⟩, (wk 3 0)⟩ <;> omega
                · have hc10 := bp hb10
                  refine aw_skip ?_
                  refine x_blockN ?_
                  refine x_then ?_
                  refine ⟨_, ⟨_, _, _, _, _, _, ?_, rfl⟩, (wk 3 0)⟩ <;> omega
              · have hc9 := bp hb9
                refine g_n ?_
                refine g_n ?_
                refine al_p rfl (p_f ?_)
                refine al_p rfl (st_assign rfl ?_)
                refine al_nil ?_
                refine x_then ?_
                refine hK _ ?_
                clear hK K
                refine aw_cn rfl (by first | rfl | assumption | simp [*]) ?_
                refine aw_skip ?_
                refine x_blockN ?_
                refine x_then ?_
                refine ⟨_, ⟨_, _, _, _, _, _, ?_, rfl⟩, (wk 3 0)⟩ <;> omega
        · have hc3 := bp hb3
          refine g_n ?_
          refine g_n ?_
          refine al_p rfl (p_f ?_)
          refine al_p rfl (st_assign rfl ?_)
          refine al_nil ?_
          refine x_then ?_
          refine hK _ ?_
          clear hK K
          refine aw_cn rfl (by first | rfl | assumption | simp [*]) ?_
          refine aw_seq (fun K hK => ?_)
          refine aw_region ?_
          refine al_p rfl (st_move rfl ?_)
          first | refine al_p rfl (st_lss rfl rfl ?_) | refine al_p rfl (st_lssS rfl rfl ?_)
          refine al_p rfl (st_move rfl ?_)
          refine al_gs true rfl rfl (fun hb11 => ?_) (fun hb11 => ?_)
          · have hc11 := bp hb11
            refine g_y (st_move rfl ?_)
            first | refine g_y (st_eql rfl rfl ?_) | refine g_y (st_eqlS rfl rfl ?_) | refine g_y (st_eqlB (by kernel_rfl) rfl rfl ?_)
            refine al_p rfl (p_t ?_)
            refine al_p rfl (st_assign rfl ?_)
            refine al_nil ?_
            refine x_then ?_
            refine hK _ ?_
            clear hK K
            refine aw_cond rfl (fun hb12 => ?_) (fun hb12 => ?_)
            · have hc12 := bp hb12
              refine aw_region ?_
              refine al_p rfl (st_move rfl ?_)
              refine al_p rfl (s_gen 0 (hc := Grange l _ (15) (21) (by omega) (by omega) (by omega) (by omega)) (hR := ?_))
              rintro r a19 ha19 ⟨k19, rfl, p19, q19⟩
              refine ⟨rfl, _, (by repeat constructor), ?_⟩
              refine al_p rfl (st_move rfl ?_)
              refine al_p rfl (st_slit (by repeat (first | exact DenseA.nil _ | (apply DenseA.cons; (focus exact rfl); (focus exact rfl); (focus exact rfl); (focus exact rfl)) | (apply DenseA.consE; (focus exact rfl); (focus exact rfl); (focus exact rfl)))) rfl rfl rfl rfl ?_)
              refine al_p rfl (s_gen 0 (hc := Gpick l _ _ (fun _ => true) (by omega) (by rfl) (by rfl) (by rfl)) (hR := ?_))
              rintro r a20 ha20 ⟨k20, rfl, p20⟩
              refine ⟨rfl, _, (by repeat constructor), ?_⟩
              refine al_p rfl (st_fieldB rfl ?_)
              refine al_p0 (s_store rfl rfl rfl rfl rfl rfl (by repeat constructor) (by repeat constructor) ?_)
              refine al_p rfl (st_fieldB rfl ?_)
              refine al_p0 (s_store rfl rfl rfl rfl rfl rfl (by repeat constructor) (by repeat constructor) ?_)
              refine al_nil ?_
              refine x_blockN ?_
              refine x_then ?_
              refine ⟨_, ⟨_, _, _, _, _, _, ?_, rfl⟩, (wk 3 0)⟩ <;> omega
            · have hc12 := bp hb12
              refine aw_seq (fun K hK => ?_)
              refine aw_region ?_
              refine al_p rfl (st_move rfl ?_)
              first | refine al_p rfl (st_lss rfl rfl ?_) | refine al_p rfl (st_lssS rfl rfl ?_)
              refine al_p rfl (st_move rfl ?_)
              refine g_y (st_move rfl ?_)
              first | refine g_y (st_eql rfl rfl ?_) | refine g_y (st_eqlS rfl rfl ?_) | refine g_y (st_eqlB (by kernel_rfl) rfl rfl ?_)
              refine al_p rfl (p_t ?_)
              refine al_p rfl (st_assign rfl ?_)
              refine al_nil ?_
              refine x_then ?_
              refine hK _ ?_
              clear hK K
              refine aw_cond rfl (fun hb13 => ?_) (fun hb13 => ?_)
              · have hc13 := bp hb13
                refine aw_region ?_
                refine al_p rfl (st_move rfl ?_)
                refine al_p rfl (s_gen 0 (hc := Grange l _ (9) (12) (by omega) (by omega) (by omega) (by omega)) (hR := ?_))
                rintro r a21 ha21 ⟨k21, rfl, p21, q21⟩
                refine ⟨rfl, _, (by repeat constructor), ?_⟩
                refine al_p rfl (st_fieldB rfl ?_)
                refine al_p0 (s_store rfl rfl rfl rfl rfl rfl (by repeat constructor) (by repeat constructor) ?_)
                refine al_nil ?_
                refine x_blockN ?_
                refine x_then ?_
                refine ⟨_, ⟨_, _, _, _, _, _, ?_, rfl⟩, (wk 3 0)⟩ <;> omega
              · have hc13 := bp hb13
                refine aw_seq (fun K hK => ?_)
                refine aw_region ?_
                refine al_p rfl (st_move rfl ?_)
                first | refine al_p rfl (st_lss rfl rfl ?_) | refine al_p rfl (st_lssS rfl rfl ?_)
                refine al_p rfl (st_move rfl ?_)
                refine al_gs true rfl rfl (fun hb14 => ?_) (fun hb14 => ?_)
                · have hc14 := bp hb14
                  refine g_y (st_move rfl ?_)
                  first | refine g_y (st_eql rfl rfl ?_) | refine g_y (st_eqlS rfl rfl ?_) | refine g_y (st_eqlB (by kernel_rfl) rfl rfl ?_)
                  refine al_p rfl (p_t ?_)
                  refine al_p rfl (st_assign rfl ?_)
                  refine al_nil ?_
                  refine x_then ?_
                  refine hK _ ?_
                  clear hK K
                  refine aw_cond rfl (fun hb15 => ?_) (fun hb15 => ?_)
                  · have hc15 := bp hb15
                    refine aw_region ?_
                    refine al_p rfl (st_move rfl ?_)
                    refine al_p rfl (s_gen 0 (hc := Grange l _ (1) (6) (by omega) (by omega) (by omega) (by omega)) (hR := ?_))
                    rintro r a22 ha22 ⟨k22, rfl, p22, q22⟩
                    refine ⟨rfl, _, (by repeat constructor), ?_⟩
                    refine al_p rfl (st_move rfl ?_)
                    refine al_p rfl (st_slit (by repeat (first | exact DenseA.nil _ | (apply DenseA.cons; (focus exact rfl); (focus exact rfl); (focus exact rfl); (focus exact rfl)) | (apply DenseA.consE; (focus exact rfl); (focus exact rfl); (focus exact rfl)))) rfl rfl rfl rfl ?_)
                    refine al_p rfl (s_gen 0 (hc := Gpick l _ _ (fun _ => true) (by omega) (by rfl) (by rfl) (by rfl)) (hR := ?_))
                    rintro r a23 ha23 ⟨k23, rfl, p23⟩
                    refine ⟨rfl, _, (by repeat constructor), ?_⟩
                    refine al_p rfl (st_build (by repeat (first | exact FillA.nil _ | (apply FillA.cons; (focus exact rfl); (focus exact rfl); (focus exact rfl); (focus exact rfl); (focus exact rfl); (focus (repeat constructor))))) ?_)
                    refine al_p0 (s_store rfl rfl rfl rfl rfl rfl (by repeat constructor) (by repeat constructor) ?_)
                    refine al_nil ?_
                    refine x_blockN ?_
                    refine x_then ?_
                    refine ⟨_, ⟨_, _, _, _, _, _, ?_, rfl⟩, (wk 3 0)⟩ <;> omega
                  · have hc15 := bp hb15
                    refine aw_skip ?_
                    refine x_blockN ?_
                    refine x_then ?_
                    refine ⟨_, ⟨_, _, _, _, _, _, ?_, rfl⟩, (wk 3 0)⟩ <;> omega
                · have hc14 := bp hb14
                  refine g_n ?_
                  refine g_n ?_
                  refine al_p rfl (p_f ?_)
                  refine al_p rfl (st_assign rfl ?_)
                  refine al_nil ?_
                  refine x_then ?_
                  refine hK _ ?_
                  clear hK K
                  refine aw_cn rfl (by first | rfl | assumption | simp [*]) ?_
                  refine aw_skip ?_
                  refine x_blockN ?_
                  refine x_then ?_
                  refine ⟨_, ⟨_, _, _, _, _, _, ?_, rfl⟩, (wk 3 0)⟩ <;> omega
          · have hc11 := bp hb11
            refine g_n ?_
            refine g_n ?_
            refine al_p rfl (p_f ?_)
            refine al_p rfl (st_assign rfl ?_)
            refine al_nil ?_
            refine x_then ?_
            refine hK _ ?_
            clear hK K
            refine aw_cn rfl (by first | rfl | assumption | simp [*]) ?_
            refine aw_seq (fun K hK => ?_)
            refine aw_region ?_
            refine al_p rfl (st_move rfl ?_)
            first | refine al_p rfl (st_lss rfl rfl ?_) | refine al_p rfl (st_lssS rfl rfl ?_)
            refine al_p rfl (st_move rfl ?_)
            refine g_n ?_
            refine g_n ?_
            refine al_p rfl (p_f ?_)
            refine al_p rfl (st_assign rfl ?_)
            refine al_nil ?_
            refine x_then ?_
            refine hK _ ?_
            clear hK K
            refine aw_cn rfl (by first | rfl | assumption | simp [*]) ?_
            refine aw_seq (fun K hK => ?_)
            refine aw_region ?_
            refine al_p rfl (st_move rfl ?_)
            first | refine al_p rfl (st_lss rfl rfl ?_) | refine al_p rfl (st_lssS rfl rfl ?_)
            refine al_p rfl (st_move rfl ?_)
            refine al_gs true rfl rfl (fun hb16 => ?_) (fun hb16 => ?_)
            · have hc16 := bp hb16
              refine g_y (st_move rfl ?_)
              first | refine g_y (st_eql rfl rfl ?_) | refine g_y (st_eqlS rfl rfl ?_) | refine g_y (st_eqlB (by kernel_rfl) rfl rfl ?_)
              refine al_p rfl (p_t ?_)
              refine al_p rfl (st_assign rfl ?_)
              refine al_nil ?_
              refine x_then ?_
              refine hK _ ?_
              clear hK K
              refine aw_cond rfl (fun hb17 => ?_) (fun hb17 => ?_)
              · have hc17 := bp hb17
                refine aw_region ?_
                refine al_p rfl (st_move rfl ?_)
                refine al_p rfl (s_gen 0 (hc := Grange l _ (1) (6) (by omega) (by omega) (by omega) (by omega)) (hR := ?_))
                rintro r a24 ha24 ⟨k24, rfl, p24, q24⟩
                refine ⟨rfl, _, (by repeat constructor), ?_⟩
                refine al_p rfl (st_move rfl ?_)
                refine al_p rfl (st_slit (by repeat (first | exact DenseA.nil _ | (apply DenseA.cons; (focus exact rfl); (focus exact rfl); (focus exact rfl); (focus exact rfl)) | (apply DenseA.consE; (focus exact rfl); (focus exact rfl); (focus exact rfl)))) rfl rfl rfl rfl ?_)
                refine al_p rfl (s_gen 0 (hc := Gpick l _ _ (fun _ => true) (by omega) (by rfl) (by rfl) (by rfl)) (hR := ?_))
                rintro r a25 ha25 ⟨k25, rfl, p25⟩
                refine ⟨rfl, _, (by repeat constructor), ?_⟩
                refine al_p rfl (st_build (by repeat (first | exact FillA.nil _ | (apply FillA.cons; (focus exact rfl); (focus exact rfl); (focus exact rfl); (focus exact rfl); (focus exact rfl); (focus (repeat constructor))))) ?_)
                refine al_p0 (s_store rfl rfl rfl rfl rfl rfl (by repeat constructor) (by repeat constructor) ?_)
                refine al_nil ?_
                refine x_blockN ?_
                refine x_then ?_
                refine ⟨_, ⟨_, _, _, _, _, _, ?_, rfl⟩, (wk 3 0)⟩ <;> omega
              · have hc17 := bp hb17
                refine aw_skip ?_
                refine x_blockN ?_
                refine x_then ?_
                refine ⟨_, ⟨_, _, _, _, _, _, ?_, rfl⟩, (wk 3 0)⟩ <;> omega
            · have hc16 := bp hb16
              refine g_n ?_
              refine g_n ?_
              refine al_p rfl (p_f ?_)
              refine al_p rfl (st_assign rfl ?_)
              refine al_nil ?_
              refine x_then ?_
              refine hK _ ?_
              clear hK K
              refine aw_cn rfl (by first | rfl | assumption | simp [*]) ?_
              refine aw_skip ?_
              refine x_blockN ?_
              refine x_then ?_
              refine ⟨_, ⟨_, _, _, _, _, _, ?_, rfl⟩, (wk 3 0)⟩ <;> omega
  · rintro s ⟨b, f, o, n, ot, t, hb, rfl⟩
    refine aw_seq (fun K hK => ?_)
    refine aw_seq (fun K hK => ?_)
    refine aw_region ?_
    refine al_p rfl (st_move rfl ?_)
    refine al_p rfl (s_gen 0 (hc := Gn l _ (24) (by omega) (by omega)) (hR := ?_))
    rintro r a26 ha26 ⟨k26, rfl, p26, q26, o26⟩
    refine ⟨rfl, _, (by repeat constructor), ?_⟩
    first | refine al_p rfl (st_eql rfl rfl ?_) | refine al_p rfl (st_eqlS rfl rfl ?_) | refine al_p rfl (st_eqlB (by kernel_rfl) rfl rfl ?_)
    refine al_nil ?_
    refine x_then ?_
    refine hK _ ?_
    clear hK K
    refine aw_cond rfl (fun hb18 => ?_) (fun hb18 => ?_)
    · have hc18 := bp hb18
      refine aw_region ?_
      refine al_p rfl (st_move rfl ?_)
      refine al_p rfl (s_gen 0 (hc := Grange l _ (0) (24) (by omega) (by omega) (by omega) (by omega)) (hR := ?_))
      rintro r a27 ha27 ⟨k27, rfl, p27, q27⟩
      refine ⟨rfl, _, (by repeat constructor), ?_⟩
      refine al_p rfl (st_move rfl ?_)
      refine al_p rfl (s_gen 0 (hc := Grange l _ (0) (9) (by omega) (by omega) (by omega) (by omega)) (hR := ?_))
      rintro r a28 ha28 ⟨k28, rfl, p28, q28⟩
      refine ⟨rfl, _, (by repeat constructor), ?_⟩
      refine al_p rfl (st_fieldB rfl ?_)
      refine al_p0 (s_store rfl rfl rfl rfl rfl rfl (by repeat constructor) (by repeat constructor) ?_)
      refine al_p rfl (st_fieldB rfl ?_)
      refine al_p0 (s_store rfl rfl rfl rfl rfl rfl (by repeat constructor) (by repeat constructor) ?_)
      refine al_nil ?_
      refine x_then ?_
      refine hK _ ?_
      clear hK K
      refine aw_seq (fun K hK => ?_)
      refine aw_region ?_
      refine al_p rfl (st_loadBW rfl rfl rfl ?_)
      refine al_p0 (s_store rfl rfl rfl rfl rfl rfl (by repeat constructor) (by repeat constructor) ?_)
      refine al_nil ?_
      refine x_then ?_
      refine hK _ ?_
      clear hK K
      refine aw_ret ?_
      refine abody_ret none (by repeat (first | exact ResA.nil | (apply ResA.tmp; (focus exact rfl)) | (apply ResA.cellN; (focus exact inferInstance); (focus exact rfl); (focus exact rfl); (focus exact rfl)) | (apply ResA.cell1; (focus exact inferInstance); (focus exact rfl); (focus exact rfl); (focus exact rfl)))) rfl rfl rfl (LeA.refl _) ⟨_, rfl, rfl, _, ?_, rfl, ⟨_, _, _, _, _⟩, rfl⟩ <;> omega
    · have hc18 := bp hb18
      refine aw_skip ?_
      refine x_then ?_
      refine hK _ ?_
      clear hK K
      refine aw_seq (fun K hK => ?_)
      refine aw_region ?_
      refine al_p rfl (st_loadBW rfl rfl rfl ?_)
      refine al_p0 (s_store rfl rfl rfl rfl rfl rfl (by repeat constructor) (by repeat constructor) ?_)
      refine al_nil ?_
      refine x_then ?_
      refine hK _ ?_
      clear hK K
      refine aw_ret ?_
      refine abody_ret none (by repeat (first | exact ResA.nil | (apply ResA.tmp; (focus exact rfl)) | (apply ResA.cellN; (focus exact inferInstance); (focus exact rfl); (focus exact rfl); (focus exact rfl)) | (apply ResA.cell1; (focus exact inferInstance); (focus exact rfl); (focus exact rfl); (focus exact rfl)))) rfl rfl rfl (LeA.refl _) ⟨_, rfl, rfl, _, ?_, rfl, ⟨_, _, _, _, _⟩, rfl⟩ <;> omega

end
end Go.Proofs.YtokaaebbmcldaaaGreatDoor
namespace Go.Proofs.YtokaaebbmcldaaaGreatDoor
open Go.RowKit

theorem firstI_none {α : Type} {p : Nat → α → Bool} : ∀ {l : List α} {i : Nat}, (∀ k x, l[k]? = some x → p (i + k) x = false) → firstI p l i = -1
  | [], _, _ => rfl
  | x :: xs, i, h => by
    rw [firstI, if_neg (by simpa using h 0 x rfl)]
    exact firstI_none fun k y hy => by
      have := h (k + 1) y (by simpa using hy)
      rwa [show i + 1 + k = i + (k + 1) by omega]
theorem firstI_some {α : Type} {p : Nat → α → Bool} : ∀ {l : List α} {i : Nat}, 0 ≤ firstI p l i → ∃ k x, l[k]? = some x ∧ p (i + k) x = true ∧ firstI p l i = ((i + k : Nat) : Int)
  | [], _, h => by simp [firstI] at h
  | x :: xs, i, h => by
    rw [firstI] at h ⊢
    split
    · rename_i hp; exact ⟨0, x, rfl, hp, by simp⟩
    · rename_i hp
      rw [if_neg hp] at h
      obtain ⟨k, y, h1, h2, h3⟩ := firstI_some h
      exact ⟨k + 1, y, by simpa using h1, by rwa [show i + (k + 1) = i + 1 + k by omega], by rw [h3]; congr 1; omega⟩
theorem find_neg {l : List Rul} {r : Rul} : findL l r < 0 ↔ r ∉ l := by
  constructor
  · intro h hm
    obtain ⟨k, hk⟩ := List.getElem?_of_mem hm
    rcases Int.lt_or_le (findL l r) 0 with h1 | h1
    · clear h
      have : ∀ (l : List Rul) (i k : Nat), l[k]? = some r → 0 ≤ firstI (fun _ x => decide (x = r)) l i := by
        intro l
        induction l with
        | nil => intro i k hk; simp at hk
        | cons x xs ih =>
          intro i k hk
          rw [firstI]
          split
          · omega
          · rename_i hne
            cases k with
            | zero => simp at hk; simp [hk] at hne
            | succ k => exact ih (i + 1) k (by simpa using hk)
      have := this l 0 k hk
      unfold findL at h1
      omega
    · omega
  · intro h
    have : findL l r = -1 := firstI_none fun k x hx => by
      simp only [decide_eq_false_iff_not]
      rintro rfl
      exact h (List.mem_of_getElem? hx)
    omega
theorem lchk_iff : ∀ (l pre : List Rul), lchkL pre l = 0 ↔ (∀ x ∈ l, rchkL x = 0 ∧ x ∉ pre) ∧ l.Nodup
  | [], pre => by simp [lchkL]
  | r :: rs, pre => by
    rw [lchkL]
    by_cases h1 : rchkL r = 0
    · rw [if_neg (by simpa using h1)]
      by_cases h2 : 0 ≤ findL pre r
      · rw [if_pos h2]
        have h3 : r ∈ pre := Classical.byContradiction fun h => by have := find_neg.2 h; omega
        exact ⟨fun h => absurd h (by decide), fun h => absurd h3 (h.1 r (by simp)).2⟩
      · rw [if_neg h2, lchk_iff rs (pre ++ [r])]
        have h3 : r ∉ pre := find_neg.1 (by omega)
        constructor
        · rintro ⟨k1, k2⟩
          refine ⟨?_, ?_⟩
          · intro x hx
            rcases List.mem_cons.1 hx with rfl | hx
            · exact ⟨h1, h3⟩
            · exact ⟨(k1 x hx).1, fun hm => (k1 x hx).2 (by simp [hm])⟩
          · exact List.nodup_cons.2 ⟨fun hm => (k1 r hm).2 (by simp), k2⟩
        · rintro ⟨k1, k2⟩
          obtain ⟨k3, k4⟩ := List.nodup_cons.1 k2
          refine ⟨fun x hx => ⟨(k1 x (by simp [hx])).1, fun hm => ?_⟩, k4⟩
          rcases List.mem_append.1 hm with hm | hm
          · exact (k1 x (by simp [hx])).2 hm
          · rw [List.mem_singleton.1 hm] at hx; exact k3 hx
    · rw [if_pos (by simpa using h1)]
      constructor
      · intro h; exact absurd h h1
      · intro h; exact absurd (h.1 r (by simp)).1 h1
theorem rsChk_iff (l : List Rul) : rsChk l = 0 ↔ l.length ≤ 24 ∧ (∀ x ∈ l, rchkL x = 0) ∧ l.Nodup := by
  unfold rsChk
  split
  · simp; omega
  · rw [lchk_iff]
    simp
    omega
/-- A sound list of rules. -/
structure LstOk (l : List Rul) (n : Nat) : Prop where
  chk : rsChk l = 0
  ins : ∀ r ∈ l, RulIn r
  len : l.length ≤ n
theorem LstOk.nil (n : Nat) : LstOk [] n := ⟨(rsChk_iff []).2 (by simp), by simp, by simp⟩
theorem LstOk.add {l : List Rul} {n : Nat} {r : Rul} {f : Bool} (h : LstOk l n) (hr : RulIn r) (he : (addL l r f).2 = 0) : LstOk (addL l r f).1 (n + 1) := by
  unfold addL at he ⊢
  rw [if_neg (by rw [h.chk]; simp)] at he ⊢
  split at he
  · rename_i h1; exact absurd he h1
  · rename_i h1
    rw [if_neg h1]
    split at he
    · cases he
    · rename_i h2
      rw [if_neg h2]
      split at he
      · cases he
      · rename_i h3
        rw [if_neg h3]
        have hm : r ∉ l := find_neg.1 (by omega)
        obtain ⟨c1, c2, c3⟩ := (rsChk_iff l).1 h.chk
        have h1' : rchkL r = 0 := by simpa using h1
        cases f
        · refine ⟨(rsChk_iff _).2 ⟨by simp; omega, ?_, ?_⟩, ?_, ?_⟩
          · intro x hx
            rcases (by simpa using hx : x ∈ l ∨ x = r) with hx | hx
            · exact c2 x hx
            · rw [hx]; exact h1'
          · simp only [Bool.false_eq_true, if_false]
            exact List.nodup_append.2 ⟨c3, by simp, fun a ha b hb => by rw [List.mem_singleton.1 hb]; rintro rfl; exact hm ha⟩
          · intro x hx
            rcases (by simpa using hx : x ∈ l ∨ x = r) with hx | hx
            · exact h.ins x hx
            · rw [hx]; exact hr
          · have := h.len; simp; omega
        · refine ⟨(rsChk_iff _).2 ⟨by simp; omega, ?_, ?_⟩, ?_, ?_⟩
          · intro x hx
            rcases (by simpa using hx : x = r ∨ x ∈ l) with hx | hx
            · rw [hx]; exact h1'
            · exact c2 x hx
          · simp only [if_true]
            exact List.nodup_cons.2 ⟨hm, c3⟩
          · intro x hx
            rcases (by simpa using hx : x = r ∨ x ∈ l) with hx | hx
            · rw [hx]; exact hr
            · exact h.ins x hx
          · have := h.len; simp; omega
theorem LstOk.mono {l : List Rul} {n m : Nat} (h : LstOk l n) (hm : n ≤ m) : LstOk l m := ⟨h.chk, h.ins, Nat.le_trans h.len hm⟩
def allR : Rul := ⟨3, 1, 4294967295, [], 0, ⟨#[]⟩, 0, ⟨#[]⟩⟩
theorem allR_in : RulIn allR := by unfold RulIn allR; simp; decide
theorem allR_ok : rchkL allR = 0 := by decide
section
set_option maxRecDepth 10000
set_option maxHeartbeats 2000000
theorem Grule (l : List Int) (a : Nat) (ha : a ≤ 10000000000) : GenF Tryz.prog 33 l a [] 200 (fun r => ∃ x : Rul, RulIn x ∧ r = .agg (rulA x)) := by
  refine enter Tryz.func33 rfl rfl rfl rfl rfl 1 rfl ?_
  refine aw_seq (fun K hK => ?_)
  refine aw_region ?_
  refine al_p rfl (s_alloc (by repeat constructor) ?_)
  refine al_nil ?_
  refine x_then ?_
  refine hK _ ?_
  clear hK K
  refine aw_seq (fun K hK => ?_)
  refine aw_region ?_
  refine al_p rfl (st_move rfl ?_)
  refine al_p rfl (st_slit (by repeat (first | exact DenseA.nil _ | (apply DenseA.cons; (focus exact rfl); (focus exact rfl); (focus exact rfl); (focus exact rfl)) | (apply DenseA.consE; (focus exact rfl); (focus exact rfl); (focus exact rfl)))) rfl rfl rfl rfl ?_)
  refine al_p rfl (s_gen 0 (hc := Gpick l _ _ (fun _ => true) (by omega) (by rfl) (by rfl) (by rfl)) (hR := ?_))
  rintro r a1 ha1 ⟨k1, rfl, p1⟩
  refine ⟨rfl, _, (by repeat constructor), ?_⟩
  refine al_p rfl (st_move rfl ?_)
  refine al_p rfl (st_slit (by repeat (first | exact DenseA.nil _ | (apply DenseA.cons; (focus exact rfl); (focus exact rfl); (focus exact rfl); (focus exact rfl)) | (apply DenseA.consE; (focus exact rfl); (focus exact rfl); (focus exact rfl)))) rfl rfl rfl rfl ?_)
  refine al_p rfl (s_gen 0 (hc := Gpick l _ _ (fun _ => true) (by omega) (by rfl) (by rfl) (by rfl)) (hR := ?_))
  rintro r a2 ha2 ⟨k2, rfl, p2⟩
  refine ⟨rfl, _, (by repeat constructor), ?_⟩
  refine al_p rfl (st_move rfl ?_)
  refine al_p rfl (st_slit (by repeat (first | exact DenseA.nil _ | (apply DenseA.cons; (focus exact rfl); (focus exact rfl); (focus exact rfl); (focus exact rfl)) | (apply DenseA.consE; (focus exact rfl); (focus exact rfl); (focus exact rfl)))) rfl rfl rfl rfl ?_)
  refine al_p rfl (s_gen 0 (hc := Gword l _ _ (fun _ => true) (by omega) (by rfl) (by rfl) (by rfl)) (hR := ?_))
  rintro r a3 ha3 ⟨k3, rfl, p3⟩
  refine ⟨rfl, _, (by repeat constructor), ?_⟩
  refine al_p rfl (st_build (by repeat (first | exact FillA.nil _ | (apply FillA.cons; (focus exact rfl); (focus exact rfl); (focus exact rfl); (focus exact rfl); (focus exact rfl); (focus (repeat constructor))))) ?_)
  refine al_p rfl (s_alloc (by repeat constructor) ?_)
  refine al_p0 (s_store rfl rfl rfl rfl rfl rfl (by repeat constructor) (by repeat constructor) ?_)
  refine al_nil ?_
  refine x_then ?_
  refine hK _ ?_
  clear hK K
  refine aw_midI (fun s => ∃ (b : Nat) (li ac ca : Int) (key : ByteArray), b ≤ a + 50 ∧ 0 ≤ ca ∧ ca < 18446744073709551616 ∧ s = ⟨look [(0, .bp 0 0), (2, .bp 1 0), (3, .bp 2 0)], ⟨[srcA l b, [.v (.int .i64 0), .v (.int .i64 0), .v (.int .u64 0), .v (.slice none 0 0), .v (.int .i64 0), .v (.string ⟨#[]⟩), .v (.int .i64 0), .v (.string ⟨#[]⟩)], [.v (.int .i64 li), .v (.int .i64 ac), .v (.int .u64 ca), .v (.slice none 0 0), .v (.int .i64 0), .v (.string ⟨#[]⟩), .v (.int .i64 0), .v (.string key)]], []⟩⟩) ?_ ?_
  · skip
    refine aw_seq (fun K hK => ?_)
    refine aw_region ?_
    refine al_p rfl (st_fieldB rfl ?_)
    refine al_p rfl (st_loadB1 rfl rfl rfl ?_)
    first | refine al_p rfl (st_eql rfl rfl ?_) | refine al_p rfl (st_eqlS rfl rfl ?_) | refine al_p rfl (st_eqlB (by kernel_rfl) rfl rfl ?_)
    refine al_p rfl (st_move rfl ?_)
    refine al_gs false rfl rfl (fun hb1 => ?_) (fun hb1 => ?_)
    · have hc1 := bp hb1
      refine g_n ?_
      refine g_n ?_
      refine g_n ?_
      refine al_p rfl (p_t ?_)
      refine al_nil ?_
      refine x_then ?_
      refine hK _ ?_
      clear hK K
      refine aw_cy rfl (by first | rfl | assumption | simp [*]) ?_
      refine aw_seq (fun K hK => ?_)
      refine aw_region ?_
      refine al_p rfl (st_move rfl ?_)
      refine al_p rfl (s_gen 0 (hc := Gmask l _ (by omega)) (hR := ?_))
      rintro r a4 ha4 ⟨k4, rfl, p4, q4⟩
      refine ⟨rfl, _, (by repeat constructor), ?_⟩
      refine al_p rfl (st_fieldB rfl ?_)
      refine al_p0 (s_store rfl rfl rfl rfl rfl rfl (by repeat constructor) (by repeat constructor) ?_)
      refine al_nil ?_
      refine x_then ?_
      refine hK _ ?_
      clear hK K
      refine aw_seq (fun K hK => ?_)
      refine aw_seq (fun K hK => ?_)
      refine aw_region ?_
      refine al_p rfl (st_move rfl ?_)
      refine al_p rfl (s_gen 0 (hc := Gn l _ (3) (by omega) (by omega)) (hR := ?_))
      rintro r a5 ha5 ⟨k5, rfl, p5, q5, o5⟩
      refine ⟨rfl, _, (by repeat constructor), ?_⟩
      refine al_p rfl (st_gtr rfl rfl ?_)
      refine al_nil ?_
      refine x_then ?_
      refine hK _ ?_
      clear hK K
      refine aw_cond rfl (fun hb2 => ?_) (fun hb2 => ?_)
      · have hc2 := bp hb2
        refine aw_region ?_
        refine al_p rfl (st_fieldB rfl ?_)
        refine al_p0 (s_store rfl rfl rfl rfl rfl rfl (by repeat constructor) (by repeat constructor) ?_)
        refine al_nil ?_
        refine x_then ?_
        refine hK _ ?_
        clear hK K
        refine aw_seq (fun K hK => ?_)
        refine aw_region ?_
        refine al_p rfl (st_fieldB rfl ?_)
        refine al_p rfl (st_loadB1 rfl rfl rfl ?_)
        first | refine al_p rfl (st_eql rfl rfl ?_) | refine al_p rfl (st_eqlS rfl rfl ?_) | refine al_p rfl (st_eqlB (by kernel_rfl) rfl rfl ?_)
        refine al_nil ?_
        refine x_then ?_
        refine hK _ ?_
        clear hK K
        refine aw_cond rfl (fun hb3 => ?_) (fun hb3 => ?_)
        · have hc3 := bp hb3
          refine aw_region ?_
          refine al_p rfl (st_fieldB rfl ?_)
          refine al_p0 (s_store rfl rfl rfl rfl rfl rfl (by repeat constructor) (by repeat constructor) ?_)
          refine al_nil ?_
          refine x_then ?_
          refine ⟨_, ⟨_, _, _, _, _, ?_, ?_, ?_, rfl⟩, (wk 3 0)⟩ <;> omega
        · have hc3 := bp hb3
          refine aw_skip ?_
          refine x_then ?_
          refine ⟨_, ⟨_, _, _, _, _, ?_, ?_, ?_, rfl⟩, (wk 3 0)⟩ <;> omega
      · have hc2 := bp hb2
        refine aw_skip ?_
        refine x_then ?_
        refine hK _ ?_
        clear hK K
        refine aw_seq (fun K hK => ?_)
        refine aw_region ?_
        refine al_p rfl (st_fieldB rfl ?_)
        refine al_p rfl (st_loadB1 rfl rfl rfl ?_)
        first | refine al_p rfl (st_eql rfl rfl ?_) | refine al_p rfl (st_eqlS rfl rfl ?_) | refine al_p rfl (st_eqlB (by kernel_rfl) rfl rfl ?_)
        refine al_nil ?_
        refine x_then ?_
        refine hK _ ?_
        clear hK K
        refine aw_cond rfl (fun hb4 => ?_) (fun hb4 => ?_)
        · have hc4 := bp hb4
          refine aw_region ?_
          refine al_p rfl (st_fieldB rfl ?_)
          refine al_p0 (s_store rfl rfl rfl rfl rfl rfl (by repeat constructor) (by repeat constructor) ?_)
          refine al_nil ?_
          refine x_then ?_
          refine ⟨_, ⟨_, _, _, _, _, ?_, ?_, ?_, rfl⟩, (wk 3 0)⟩ <;> omega
        · have hc4 := bp hb4
          refine aw_skip ?_
          refine x_then ?_
          refine ⟨_, ⟨_, _, _, _, _, ?_, ?_, ?_, rfl⟩, (wk 3 0)⟩ <;> omega
    · have hc1 := bp hb1
      refine g_y (st_fieldB rfl ?_)
      refine g_y (st_loadB1 rfl rfl rfl ?_)
      first | refine g_y (st_eql rfl rfl ?_) | refine g_y (st_eqlS rfl rfl ?_) | refine g_y (st_eqlB (by kernel_rfl) rfl rfl ?_)
      refine al_p rfl (p_f ?_)
      refine al_nil ?_
      refine x_then ?_
      refine hK _ ?_
      clear hK K
      refine aw_cond rfl (fun hb5 => ?_) (fun hb5 => ?_)
      · have hc5 := bp hb5
        refine aw_seq (fun K hK => ?_)
        refine aw_region ?_
        refine al_p rfl (st_move rfl ?_)
        refine al_p rfl (s_gen 0 (hc := Gmask l _ (by omega)) (hR := ?_))
        rintro r a6 ha6 ⟨k6, rfl, p6, q6⟩
        refine ⟨rfl, _, (by repeat constructor), ?_⟩
        refine al_p rfl (st_fieldB rfl ?_)
        refine al_p0 (s_store rfl rfl rfl rfl rfl rfl (by repeat constructor) (by repeat constructor) ?_)
        refine al_nil ?_
        refine x_then ?_
        refine hK _ ?_
        clear hK K
        refine aw_seq (fun K hK => ?_)
        refine aw_seq (fun K hK => ?_)
        refine aw_region ?_
        refine al_p rfl (st_move rfl ?_)
        refine al_p rfl (s_gen 0 (hc := Gn l _ (3) (by omega) (by omega)) (hR := ?_))
        rintro r a7 ha7 ⟨k7, rfl, p7, q7, o7⟩
        refine ⟨rfl, _, (by repeat constructor), ?_⟩
        refine al_p rfl (st_gtr rfl rfl ?_)
        refine al_nil ?_
        refine x_then ?_
        refine hK _ ?_
        clear hK K
        refine aw_cond rfl (fun hb6 => ?_) (fun hb6 => ?_)
        · have hc6 := bp hb6
          refine aw_region ?_
          refine al_p rfl (st_fieldB rfl ?_)
          refine al_p0 (s_store rfl rfl rfl rfl rfl rfl (by repeat constructor) (by repeat constructor) ?_)
          refine al_nil ?_
          refine x_then ?_
          refine hK _ ?_
          clear hK K
          refine aw_seq (fun K hK => ?_)
          refine aw_region ?_
          refine al_p rfl (st_fieldB rfl ?_)
          refine al_p rfl (st_loadB1 rfl rfl rfl ?_)
          first | refine al_p rfl (st_eql rfl rfl ?_) | refine al_p rfl (st_eqlS rfl rfl ?_) | refine al_p rfl (st_eqlB (by kernel_rfl) rfl rfl ?_)
          refine al_nil ?_
          refine x_then ?_
          refine hK _ ?_
          clear hK K
          refine aw_cond rfl (fun hb7 => ?_) (fun hb7 => ?_)
          · have hc7 := bp hb7
            refine aw_region ?_
            refine al_p rfl (st_fieldB rfl ?_)
            refine al_p0 (s_store rfl rfl rfl rfl rfl rfl (by repeat constructor) (by repeat constructor) ?_)
            refine al_nil ?_
            refine x_then ?_
            refine ⟨_, ⟨_, _, _, _, _, ?_, ?_, ?_, rfl⟩, (wk 3 0)⟩ <;> omega
          · have hc7 := bp hb7
            refine aw_skip ?_
            refine x_then ?_
            refine ⟨_, ⟨_, _, _, _, _, ?_, ?_, ?_, rfl⟩, (wk 3 0)⟩ <;> omega
        · have hc6 := bp hb6
          refine aw_skip ?_
          refine x_then ?_
          refine hK _ ?_
          clear hK K
          refine aw_seq (fun K hK => ?_)
          refine aw_region ?_
          refine al_p rfl (st_fieldB rfl ?_)
          refine al_p rfl (st_loadB1 rfl rfl rfl ?_)
          first | refine al_p rfl (st_eql rfl rfl ?_) | refine al_p rfl (st_eqlS rfl rfl ?_) | refine al_p rfl (st_eqlB (by kernel_rfl) rfl rfl ?_)
          refine al_nil ?_
          refine x_then ?_
          refine hK _ ?_
          clear hK K
          refine aw_cond rfl (fun hb8 => ?_) (fun hb8 => ?_)
          · have hc8 := bp hb8
            refine aw_region ?_
            refine al_p rfl (st_fieldB rfl ?_)
            refine al_p0 (s_store rfl rfl rfl rfl rfl rfl (by repeat constructor) (by repeat constructor) ?_)
            refine al_nil ?_
            refine x_then ?_
            refine ⟨_, ⟨_, _, _, _, _, ?_, ?_, ?_, rfl⟩, (wk 3 0)⟩ <;> omega
          · have hc8 := bp hb8
            refine aw_skip ?_
            refine x_then ?_
            refine ⟨_, ⟨_, _, _, _, _, ?_, ?_, ?_, rfl⟩, (wk 3 0)⟩ <;> omega
      · have hc5 := bp hb5
        refine aw_skip ?_
        refine x_then ?_
        refine ⟨_, ⟨_, _, _, _, _, ?_, ?_, ?_, rfl⟩, (wk 3 0)⟩ <;> omega
  · rintro s ⟨b, li, ac, ca, key, hb, hca1, hca2, rfl⟩
    refine aw_seq (fun K hK => ?_)
    refine aw_seq (fun K hK => ?_)
    refine aw_region ?_
    refine al_p rfl (st_move rfl ?_)
    refine al_p rfl (st_slit (by repeat (first | exact DenseA.nil _ | (apply DenseA.cons; (focus exact rfl); (focus exact rfl); (focus exact rfl); (focus exact rfl)) | (apply DenseA.consE; (focus exact rfl); (focus exact rfl); (focus exact rfl)))) rfl rfl rfl rfl ?_)
    refine al_p rfl (s_gen 0 (hc := Gpick l _ _ (fun z => decide (0 ≤ z ∧ z ≤ 3)) (by omega) (by rfl) (by rfl) (by rfl)) (hR := ?_))
    rintro r a8 ha8 ⟨k8, rfl, p8⟩
    refine ⟨rfl, _, (by repeat constructor), ?_⟩
    obtain ⟨hz1, hz2⟩ := of_decide_eq_true p8
    obtain ⟨m, rfl⟩ := Int.eq_ofNat_of_zero_le (show 0 ≤ k8 by omega)
    refine al_p rfl (st_assign rfl ?_)
    refine al_nil ?_
    refine x_then ?_
    refine hK _ ?_
    clear hK K
    refine aw_block ?_
    refine aw_nilTokB 2 3 68 5 rfl rfl (by repeat constructor) (by repeat constructor) (by repeat constructor) ?_
    refine aw_loopW (fun n s => ∃ (j b1 : Nat) (ts : List Tst), j ≤ m ∧ n = j ∧ b1 ≤ b + 1 + 20 * (m - j) ∧ ts.length = m - j ∧ s = ⟨look [(0, .bp 0 0), (2, .bp 1 0), (3, .bp 2 0), (4, .v (.int .i64 (j : Int)))], ⟨[srcA l b1, [.v (.int .i64 0), .v (.int .i64 0), .v (.int .u64 0), .v (.slice none 0 0), .v (.int .i64 0), .v (.string ⟨#[]⟩), .v (.int .i64 0), .v (.string ⟨#[]⟩)], [.v (.int .i64 li), .v (.int .i64 ac), .v (.int .u64 ca), .sl 5 (ts.map tstA) (some 0), .v (.int .i64 0), .v (.string ⟨#[]⟩), .v (.int .i64 0), .v (.string key)]], [(68, 5, ts.map tstA)]⟩⟩) (m) ((wk 3 1)) (⟨m, _, [], by omega, rfl, by omega, by simp, rfl⟩) ?_
    rintro n s ⟨j, b1, ts, hj, hn, hb1, hts, rfl⟩
    subst n
    refine aw_seq (fun K hK => ?_)
    refine aw_seq (fun K hK => ?_)
    refine aw_region ?_
    refine al_p rfl (st_move rfl ?_)
    refine al_p rfl (st_gtr rfl rfl ?_)
    refine al_nil ?_
    refine x_then ?_
    refine hK _ ?_
    clear hK K
    refine aw_cond rfl (fun hb9 => ?_) (fun hb9 => ?_)
    · have hc9 := bp hb9
      refine aw_skip ?_
      refine x_then ?_
      refine hK _ ?_
      clear hK K
      refine aw_seq (fun K hK => ?_)
      refine aw_block ?_
      refine aw_draw (fun h => ∃ b, h.bx = [srcA l b, [.v (.int .i64 0), .v (.int .i64 0), .v (.int .u64 0), .v (.slice none 0 0), .v (.int .i64 0), .v (.string ⟨#[]⟩), .v (.int .i64 0), .v (.string ⟨#[]⟩)], [.v (.int .i64 li), .v (.int .i64 ac), .v (.int .u64 ca), .sl 5 (ts.map tstA) (some 0), .v (.int .i64 0), .v (.string ⟨#[]⟩), .v (.int .i64 0), .v (.string key)]]) 9 (by kernel_rfl) ?_
      refine aa_t (i := 0) rfl rfl (by kernel_rfl) (by first | rfl | exact wan_y rfl rfl (beq_tt ‹_›) | exact wan_y rfl rfl (beq_ff ‹_›) | exact wan_y rfl rfl (by simp [*])) (fun h0 hS => st_fieldB rfl ⟨rfl, rfl⟩) ⟨_, rfl⟩ ?_
      first | refine aa_t (i := 1) rfl rfl (by kernel_rfl) (by first | rfl | exact wan_y rfl rfl (beq_tt ‹_›) | exact wan_y rfl rfl (beq_ff ‹_›) | exact wan_y rfl rfl (by simp [*])) (fun h0 hS => st_loadB1 (row := [.v (.int .i64 li), .v (.int .i64 ac), .v (.int .u64 ca), .sl 5 (ts.map tstA) (some 0), .v (.int .i64 0), .v (.string ⟨#[]⟩), .v (.int .i64 0), .v (.string key)]) rfl (by obtain ⟨_, e⟩ := hS; rw [e]; rfl) rfl ⟨rfl, rfl⟩) ⟨_, rfl⟩ ?_ | refine aa_t (i := 1) rfl rfl (by kernel_rfl) (by first | rfl | exact wan_y rfl rfl (beq_tt ‹_›) | exact wan_y rfl rfl (beq_ff ‹_›) | exact wan_y rfl rfl (by simp [*])) (fun h0 hS => st_loadB1 rfl rfl rfl ⟨rfl, rfl⟩) ⟨_, rfl⟩ ?_
      refine aa_t (i := 2) rfl rfl (by kernel_rfl) (by first | rfl | exact wan_y rfl rfl (beq_tt ‹_›) | exact wan_y rfl rfl (beq_ff ‹_›) | exact wan_y rfl rfl (by simp [*])) (fun h0 hS => st_move rfl ⟨rfl, rfl⟩) ⟨_, rfl⟩ ?_
      refine aa_t (i := 3) rfl rfl (by kernel_rfl) (by first | rfl | exact wan_y rfl rfl (beq_tt ‹_›) | exact wan_y rfl rfl (beq_ff ‹_›) | exact wan_y rfl rfl (by simp [*])) (fun h0 hS => st_fieldB rfl ⟨rfl, rfl⟩) ⟨_, rfl⟩ ?_
      first | refine aa_t (i := 4) rfl rfl (by kernel_rfl) (by first | rfl | exact wan_y rfl rfl (beq_tt ‹_›) | exact wan_y rfl rfl (beq_ff ‹_›) | exact wan_y rfl rfl (by simp [*])) (fun h0 hS => st_loadB1 (row := [.v (.int .i64 li), .v (.int .i64 ac), .v (.int .u64 ca), .sl 5 (ts.map tstA) (some 0), .v (.int .i64 0), .v (.string ⟨#[]⟩), .v (.int .i64 0), .v (.string key)]) rfl (by obtain ⟨_, e⟩ := hS; rw [e]; rfl) rfl ⟨rfl, rfl⟩) ⟨_, rfl⟩ ?_ | refine aa_t (i := 4) rfl rfl (by kernel_rfl) (by first | rfl | exact wan_y rfl rfl (beq_tt ‹_›) | exact wan_y rfl rfl (beq_ff ‹_›) | exact wan_y rfl rfl (by simp [*])) (fun h0 hS => st_loadB1 rfl rfl rfl ⟨rfl, rfl⟩) ⟨_, rfl⟩ ?_
      refine aa_c (i := 5) rfl rfl (by kernel_rfl) (by first | rfl | exact wan_y rfl rfl (beq_tt ‹_›) | exact wan_y rfl rfl (beq_ff ‹_›) | exact wan_y rfl rfl (by simp [*])) (s_gen 0 (hc := Gtest l _ _ (by omega)) (hR := ?_))
      rintro r a9 ha9 ⟨T9, rfl⟩
      refine ⟨rfl, _, (by repeat constructor), ?_⟩
      refine ⟨.inr ⟨_, rfl⟩, ?_⟩
      refine aa_t (i := 6) rfl rfl (by kernel_rfl) (by first | rfl | exact wan_y rfl rfl (beq_tt ‹_›) | exact wan_y rfl rfl (beq_ff ‹_›) | exact wan_y rfl rfl (by simp [*])) (fun h0 hS => st_slit (by repeat (first | exact DenseA.nil _ | (apply DenseA.cons; (focus exact rfl); (focus exact rfl); (focus exact rfl); (focus exact rfl)) | (apply DenseA.consE; (focus exact rfl); (focus exact rfl); (focus exact rfl)))) rfl rfl rfl rfl ⟨rfl, rfl⟩) ⟨_, rfl⟩ ?_
      first | refine aa_c (i := 7) rfl rfl (by kernel_rfl) (by first | rfl | exact wan_y rfl rfl (beq_tt ‹_›) | exact wan_y rfl rfl (beq_ff ‹_›) | exact wan_y rfl rfl (by simp [*])) (s_append rfl rfl rfl (by simp <;> omega) (by repeat constructor) ?_) | refine aa_c (i := 7) rfl rfl (by kernel_rfl) (by first | rfl | exact wan_y rfl rfl (beq_tt ‹_›) | exact wan_y rfl rfl (beq_ff ‹_›) | exact wan_y rfl rfl (by simp [*])) (s_append0 rfl rfl (by simp <;> omega) (by repeat constructor) ?_)
      refine ⟨.inr ⟨_, rfl⟩, ?_⟩
      refine aa_t (i := 8) rfl rfl (by kernel_rfl) (by first | rfl | exact wan_y rfl rfl (beq_tt ‹_›) | exact wan_y rfl rfl (beq_ff ‹_›) | exact wan_y rfl rfl (by simp [*])) (fun h0 hS => st_fieldB rfl ⟨rfl, rfl⟩) ⟨_, rfl⟩ ?_
      refine aa_c0 (i := 9) rfl (by kernel_rfl) (by first | rfl | exact wan_y rfl rfl (beq_tt ‹_›) | exact wan_y rfl rfl (beq_ff ‹_›) | exact wan_y rfl rfl (by simp [*])) (s_store rfl rfl rfl rfl rfl rfl (by repeat constructor) (by repeat constructor) ?_)
      refine ⟨.inl rfl, ?_⟩
      refine aa_done (by kernel_rfl) ?_ _
      refine x_blockN ?_
      refine x_then ?_
      refine hK _ ?_
      clear hK K
      refine aw_region ?_
      refine al_p rfl (st_move rfl ?_)
      first | refine al_p rfl (st_sub64 rfl rfl (by omega) ?_) | refine al_p rfl (st_sub rfl rfl ?_)
      refine al_p rfl (st_assign rfl ?_)
      refine al_nil ?_
      refine x_then ?_
      obtain ⟨j, rfl⟩ : ∃ i, j = i + 1 := ⟨j - 1, by omega⟩
      refine ⟨_, _, ?_, ⟨j, _, ts ++ [T9], by omega, rfl, ?_, ?_, rfl⟩, (by rw [List.map_append]; exact weak_of 3 1 rfl rfl rfl rfl (by repeat (first | exact Sub.nil | refine Sub.cons _ _ _ rfl rfl ?_ | (apply Sub.of; (focus exact rfl); (focus exact LeA.of_eq (vi (by omega))); (focus exact rfl)))))⟩
      · omega
      · omega
      · simp; omega
    · have hc9 := bp hb9
      refine aw_exit ?_
      refine x_thenE ?_
      clear hK K
      refine x_thenE ?_
      refine ABlock_out ?_
      refine x_then ?_
      refine hK _ ?_
      clear hK K
      refine aw_midI (fun s => ∃ (b2 : Nat) (wa pe : Int) (pa : ByteArray), b2 ≤ a + 140 ∧ pa.size ≤ 60 ∧ s = ⟨look [(0, .bp 0 0), (2, .bp 1 0), (3, .bp 2 0)], ⟨[srcA l b2, [.v (.int .i64 0), .v (.int .i64 0), .v (.int .u64 0), .v (.slice none 0 0), .v (.int .i64 0), .v (.string ⟨#[]⟩), .v (.int .i64 0), .v (.string ⟨#[]⟩)], [.v (.int .i64 li), .v (.int .i64 ac), .v (.int .u64 ca), .sl 5 (ts.map tstA) (some 0), .v (.int .i64 wa), .v (.string pa), .v (.int .i64 pe), .v (.string key)]], [(68, 5, ts.map tstA)]⟩⟩) ?_ ?_
      · skip
        refine aw_seq (fun K hK => ?_)
        refine aw_region ?_
        refine al_p rfl (st_fieldB rfl ?_)
        refine al_p rfl (st_loadB1 rfl rfl rfl ?_)
        first | refine al_p rfl (st_eql rfl rfl ?_) | refine al_p rfl (st_eqlS rfl rfl ?_) | refine al_p rfl (st_eqlB (by kernel_rfl) rfl rfl ?_)
        refine al_p rfl (st_move rfl ?_)
        refine al_gs true rfl rfl (fun hb10 => ?_) (fun hb10 => ?_)
        · have hc10 := bp hb10
          refine g_y (st_move rfl ?_)
          refine g_y (s_gen 0 (hc := Gn l _ (3) (by omega) (by omega)) (hR := ?_))
          rintro r a10 ha10 ⟨k10, rfl, p10, q10, o10⟩
          refine ⟨rfl, _, (by repeat constructor), ?_⟩
          first | refine g_y (st_eql rfl rfl ?_) | refine g_y (st_eqlS rfl rfl ?_) | refine g_y (st_eqlB (by kernel_rfl) rfl rfl ?_)
          refine al_p rfl (p_t ?_)
          refine al_nil ?_
          refine x_then ?_
          refine hK _ ?_
          clear hK K
          refine aw_cond rfl (fun hb11 => ?_) (fun hb11 => ?_)
          · have hc11 := bp hb11
            refine aw_seq (fun K hK => ?_)
            refine aw_region ?_
            refine al_p rfl (st_move rfl ?_)
            refine al_p rfl (s_gen 0 (hc := Grange l _ (1) (2) (by omega) (by omega) (by omega) (by omega)) (hR := ?_))
            rintro r a11 ha11 ⟨k11, rfl, p11, q11⟩
            refine ⟨rfl, _, (by repeat constructor), ?_⟩
            refine al_p rfl (st_move rfl ?_)
            refine al_p rfl (s_gen 0 (hc := Gclean l _ (by omega)) (hR := ?_))
            rintro r a12 ha12 ⟨k12, rfl, p12⟩
            refine ⟨rfl, _, (by repeat constructor), ?_⟩
            refine al_p rfl (st_move rfl ?_)
            refine al_p rfl (s_gen 0 (hc := Grange l _ (1) (15) (by omega) (by omega) (by omega) (by omega)) (hR := ?_))
            rintro r a13 ha13 ⟨k13, rfl, p13, q13⟩
            refine ⟨rfl, _, (by repeat constructor), ?_⟩
            refine al_p rfl (st_fieldB rfl ?_)
            refine al_p0 (s_store rfl rfl rfl rfl rfl rfl (by repeat constructor) (by repeat constructor) ?_)
            refine al_p rfl (st_fieldB rfl ?_)
            refine al_p0 (s_store rfl rfl rfl rfl rfl rfl (by repeat constructor) (by repeat constructor) ?_)
            refine al_p rfl (st_fieldB rfl ?_)
            refine al_p0 (s_store rfl rfl rfl rfl rfl rfl (by repeat constructor) (by repeat constructor) ?_)
            refine al_nil ?_
            refine x_then ?_
            refine hK _ ?_
            clear hK K
            refine aw_seq (fun K hK => ?_)
            refine aw_region ?_
            refine al_p rfl (st_move rfl ?_)
            refine al_p rfl (s_gen 0 (hc := Gn l _ (8) (by omega) (by omega)) (hR := ?_))
            rintro r a14 ha14 ⟨k14, rfl, p14, q14, o14⟩
            refine ⟨rfl, _, (by repeat constructor), ?_⟩
            first | refine al_p rfl (st_eql rfl rfl ?_) | refine al_p rfl (st_eqlS rfl rfl ?_) | refine al_p rfl (st_eqlB (by kernel_rfl) rfl rfl ?_)
            refine al_nil ?_
            refine x_then ?_
            refine hK _ ?_
            clear hK K
            refine aw_cond rfl (fun hb12 => ?_) (fun hb12 => ?_)
            · have hc12 := bp hb12
              refine aw_region ?_
              refine al_p rfl (st_fieldB rfl ?_)
              refine al_p0 (s_store rfl rfl rfl rfl rfl rfl (by repeat constructor) (by repeat constructor) ?_)
              refine al_nil ?_
              refine x_then ?_
              refine ⟨_, ⟨_, _, _, _, ?_, ?_, rfl⟩, (wk 3 1)⟩ <;> first | omega | exact Nat.le_of_ble_eq_true rfl
            · have hc12 := bp hb12
              refine aw_skip ?_
              refine x_then ?_
              refine ⟨_, ⟨_, _, _, _, ?_, ?_, rfl⟩, (wk 3 1)⟩ <;> first | omega | exact Nat.le_of_ble_eq_true rfl
          · have hc11 := bp hb11
            refine aw_skip ?_
            refine x_then ?_
            refine ⟨_, ⟨_, _, _, _, ?_, ?_, rfl⟩, (wk 3 1)⟩ <;> first | omega | exact Nat.le_of_ble_eq_true rfl
        · have hc10 := bp hb10
          refine g_n ?_
          refine g_n ?_
          refine g_n ?_
          refine al_p rfl (p_f ?_)
          refine al_nil ?_
          refine x_then ?_
          refine hK _ ?_
          clear hK K
          refine aw_cn rfl (by first | rfl | assumption | simp [*]) ?_
          refine aw_skip ?_
          refine x_then ?_
          refine ⟨_, ⟨_, _, _, _, ?_, ?_, rfl⟩, (wk 3 1)⟩ <;> first | omega | exact Nat.le_of_ble_eq_true rfl
      · rintro s ⟨b2, wa, pe, pa, hb2, hpa, rfl⟩
        refine aw_seq (fun K hK => ?_)
        refine aw_seq (fun K hK => ?_)
        refine aw_region ?_
        refine al_p rfl (st_move rfl ?_)
        refine al_p rfl (s_gen 0 (hc := Gn l _ (24) (by omega) (by omega)) (hR := ?_))
        rintro r a15 ha15 ⟨k15, rfl, p15, q15, o15⟩
        refine ⟨rfl, _, (by repeat constructor), ?_⟩
        first | refine al_p rfl (st_eql rfl rfl ?_) | refine al_p rfl (st_eqlS rfl rfl ?_) | refine al_p rfl (st_eqlB (by kernel_rfl) rfl rfl ?_)
        refine al_nil ?_
        refine x_then ?_
        refine hK _ ?_
        clear hK K
        refine aw_cond rfl (fun hb13 => ?_) (fun hb13 => ?_)
        · have hc13 := bp hb13
          refine aw_region ?_
          refine al_p rfl (st_move rfl ?_)
          refine al_p rfl (s_gen 0 (hc := Grange l _ (-1) (16) (by omega) (by omega) (by omega) (by omega)) (hR := ?_))
          rintro r a16 ha16 ⟨k16, rfl, p16, q16⟩
          refine ⟨rfl, _, (by repeat constructor), ?_⟩
          refine al_p rfl (st_move rfl ?_)
          refine al_p rfl (s_gen 0 (hc := Grange l _ (0) (6) (by omega) (by omega) (by omega) (by omega)) (hR := ?_))
          rintro r a17 ha17 ⟨k17, rfl, p17, q17⟩
          refine ⟨rfl, _, (by repeat constructor), ?_⟩
          refine al_p rfl (st_move rfl ?_)
          refine al_p rfl (s_gen 0 (hc := Grange l _ (0) (3) (by omega) (by omega) (by omega) (by omega)) (hR := ?_))
          rintro r a18 ha18 ⟨k18, rfl, p18, q18⟩
          refine ⟨rfl, _, (by repeat constructor), ?_⟩
          refine al_p rfl (st_fieldB rfl ?_)
          refine al_p0 (s_store rfl rfl rfl rfl rfl rfl (by repeat constructor) (by repeat constructor) ?_)
          refine al_p rfl (st_fieldB rfl ?_)
          refine al_p0 (s_store rfl rfl rfl rfl rfl rfl (by repeat constructor) (by repeat constructor) ?_)
          refine al_p rfl (st_fieldB rfl ?_)
          refine al_p0 (s_store rfl rfl rfl rfl rfl rfl (by repeat constructor) (by repeat constructor) ?_)
          refine al_nil ?_
          refine x_then ?_
          refine hK _ ?_
          clear hK K
          refine aw_seq (fun K hK => ?_)
          refine aw_region ?_
          refine al_p rfl (st_loadBW rfl rfl rfl ?_)
          refine al_p0 (s_store rfl rfl rfl rfl rfl rfl (by repeat constructor) (by repeat constructor) ?_)
          refine al_nil ?_
          refine x_then ?_
          refine hK _ ?_
          clear hK K
          refine aw_ret ?_
          refine abody_ret none (by repeat (first | exact ResA.nil | (apply ResA.tmp; (focus exact rfl)) | (apply ResA.cellN; (focus exact inferInstance); (focus exact rfl); (focus exact rfl); (focus exact rfl)) | (apply ResA.cell1; (focus exact inferInstance); (focus exact rfl); (focus exact rfl); (focus exact rfl)))) rfl rfl rfl (LeA.refl _) ⟨_, rfl, rfl, _, ?_, rfl, ⟨_, _, _, ts, _, pa, _, _⟩, ⟨hca1, hca2, Nat.le_trans hpa (by decide), by show ts.length ≤ 1000; omega⟩, rfl⟩ <;> omega
        · have hc13 := bp hb13
          refine aw_skip ?_
          refine x_then ?_
          refine hK _ ?_
          clear hK K
          refine aw_seq (fun K hK => ?_)
          refine aw_region ?_
          refine al_p rfl (st_loadBW rfl rfl rfl ?_)
          refine al_p0 (s_store rfl rfl rfl rfl rfl rfl (by repeat constructor) (by repeat constructor) ?_)
          refine al_nil ?_
          refine x_then ?_
          refine hK _ ?_
          clear hK K
          refine aw_ret ?_
          refine abody_ret none (by repeat (first | exact ResA.nil | (apply ResA.tmp; (focus exact rfl)) | (apply ResA.cellN; (focus exact inferInstance); (focus exact rfl); (focus exact rfl); (focus exact rfl)) | (apply ResA.cell1; (focus exact inferInstance); (focus exact rfl); (focus exact rfl); (focus exact rfl)))) rfl rfl rfl (LeA.refl _) ⟨_, rfl, rfl, _, ?_, rfl, ⟨_, _, _, ts, _, pa, _, _⟩, ⟨hca1, hca2, Nat.le_trans hpa (by decide), by show ts.length ≤ 1000; omega⟩, rfl⟩ <;> omega

end
end Go.Proofs.YtokaaebbmcldaaaGreatDoor
namespace Go.Proofs.YtokaaebbmcldaaaGreatDoor
open Go.RowKit

theorem back1 {l : List Rul} {r : Rul} {f : Bool} (h : LstOk l 20) (hr : rchkL r = 0) (he : ¬ (addL l r f).2 = 0) : (addL l r f).2 = 141 := by
  have hl := h.len
  unfold addL at he ⊢
  rw [if_neg (by rw [h.chk]; simp), if_neg (by rw [hr]; simp)] at he ⊢
  split
  · rfl
  · rename_i h1
    rw [if_neg h1, if_neg (by omega)] at he
    exact absurd rfl he
theorem firstI_app {α : Type} {p : Nat → α → Bool} {x : α} : ∀ {l : List α} {i : Nat}, (∀ k y, l[k]? = some y → p (i + k) y = false) → p (i + l.length) x = true → firstI p (l ++ [x]) i = ((i + l.length : Nat) : Int)
  | [], i, _, h => by simp only [List.nil_append, firstI]; simp only [List.length_nil, Nat.add_zero] at h ⊢; rw [if_pos h]
  | y :: ys, i, h1, h2 => by
    simp only [List.cons_append, firstI]
    rw [if_neg (by simpa using h1 0 y rfl), firstI_app (fun k z hz => by
      have := h1 (k + 1) z (by simpa using hz)
      rwa [show i + 1 + k = i + (k + 1) by omega]) (by simpa [Nat.add_assoc, Nat.add_comm 1] using h2)]
    simp only [List.length_cons]
    congr 1
    omega
theorem back2 {l : List Rul} {r : Rul} {f : Bool} (h : LstOk l 20) (hr : RulIn r) (he : (addL l r f).2 = 0) : remL (addL l r f).1 r = (l, 0) ∧ findL (addL l r f).1 r = (if f = true then 0 else (l.length : Int)) ∧ rsChk (addL l r f).1 = 0 := by
  have h2 := h.add hr he
  have hm : r ∉ l ∧ (addL l r f).1 = if f = true then r :: l else l ++ [r] := by
    unfold addL at he ⊢
    rw [if_neg (by rw [h.chk]; simp)] at he ⊢
    split at he
    · rename_i h1; exact absurd he h1
    · rename_i h1
      rw [if_neg h1]
      split at he
      · cases he
      · rename_i h3
        rw [if_neg h3]
        split at he
        · cases he
        · rename_i h4
          rw [if_neg h4]
          exact ⟨find_neg.1 (by omega), rfl⟩
  obtain ⟨hm, e⟩ := hm
  have hf : findL (addL l r f).1 r = if f = true then 0 else (l.length : Int) := by
    rw [e]
    cases f
    · simp only [Bool.false_eq_true, if_false]
      have := firstI_app (p := fun _ x => decide (x = r)) (x := r) (l := l) (i := 0) (fun k y hy => by
        simp only [decide_eq_false_iff_not]
        rintro rfl
        exact hm (List.mem_of_getElem? hy)) (by simp)
      simpa [findL] using this
    · simp [findL, firstI]
  refine ⟨?_, hf, h2.chk⟩
  unfold remL
  rw [if_neg (by rw [h2.chk]; simp), hf]
  cases f
  · rw [if_neg (by simp), e]
    simp only [Bool.false_eq_true, if_false, Int.toNat_natCast]
    rw [List.eraseIdx_append_of_length_le (Nat.le_refl _)]
    simp
  · rw [if_neg (by simp), e]
    simp
theorem add_len (l : List Rul) (r : Rul) (f : Bool) : (addL l r f).1.length ≤ l.length + 1 := by
  unfold addL
  (repeat' split) <;> simp
theorem add_in {l : List Rul} {r : Rul} {f : Bool} (hl : ∀ x ∈ l, RulIn x) (hr : RulIn r) : ∀ x ∈ (addL l r f).1, RulIn x := by
  intro x hx
  have : x ∈ l ∨ x = r := by
    unfold addL at hx
    (repeat' split at hx) <;> simp at hx <;> first | exact hx | exact hx.symm
  rcases this with h | rfl
  · exact hl x h
  · exact hr
theorem rem_len (l : List Rul) (r : Rul) : (remL l r).1.length ≤ l.length := by
  unfold remL
  (repeat' split) <;> simp
  exact List.length_eraseIdx_le _ _
theorem rem_in {l : List Rul} {r : Rul} (hl : ∀ x ∈ l, RulIn x) : ∀ x ∈ (remL l r).1, RulIn x := by
  intro x hx
  unfold remL at hx
  (repeat' split at hx) <;> simp at hx
  exact hl x (List.mem_of_mem_eraseIdx hx)
theorem snoc_in {l : List Rul} {r : Rul} (hl : ∀ x ∈ l, RulIn x) (hr : RulIn r) : ∀ x ∈ l ++ [r], RulIn x := by
  intro x hx
  rcases List.mem_append.1 hx with h | h
  · exact hl x h
  · rw [List.mem_singleton.1 h]; exact hr
theorem le_tok {sz g : Nat} {rows rows' : List (List AV)} (h : rows = rows') : LeA (.sl sz rows (some g)) (.sl sz rows' none) := by
  subst h
  intro G w v hv
  simp only [rep] at hv ⊢
  exact hv.1
section
set_option maxRecDepth 10000
set_option maxHeartbeats 2000000
theorem Ggood (l : List Int) (a : Nat) (ha : a ≤ 1000000000) : GenF Tryz.prog 15 l a [] 1600 (fun r => ∃ x : Rul, RulIn x ∧ rchkL x = 0 ∧ r = .agg (rulA x)) := by
  refine enter Tryz.func15 rfl rfl rfl rfl rfl 1 rfl ?_
  refine aw_seq (fun K hK => ?_)
  refine aw_region ?_
  refine al_p rfl (s_alloc (by repeat constructor) ?_)
  refine al_nil ?_
  refine x_then ?_
  refine hK _ ?_
  clear hK K
  refine aw_seq (fun K hK => ?_)
  refine aw_seq (fun K hK => ?_)
  refine aw_region ?_
  refine al_p rfl (st_assign rfl ?_)
  refine al_nil ?_
  refine x_then ?_
  refine hK _ ?_
  clear hK K
  refine aw_block ?_
  refine aw_loopW (fun n s => ∃ (j b : Nat), j ≤ 8 ∧ n = 8 - j ∧ b ≤ a + 200 * j ∧ s = ⟨look [(0, .bp 0 0), (2, .bp 1 0), (3, .v (.int .i64 (j : Int)))], ⟨[srcA l b, [.v (.int .i64 0), .v (.int .i64 0), .v (.int .u64 0), .v (.slice none 0 0), .v (.int .i64 0), .v (.string ⟨#[]⟩), .v (.int .i64 0), .v (.string ⟨#[]⟩)]], []⟩⟩) (8) ((wk 2 0)) (⟨0, a, by omega, rfl, by omega, rfl⟩) ?_
  rintro n s ⟨j, b, hj, rfl, hb, rfl⟩
  refine aw_seq (fun K hK => ?_)
  refine aw_seq (fun K hK => ?_)
  refine aw_region ?_
  refine al_p rfl (st_move rfl ?_)
  first | refine al_p rfl (st_lss rfl rfl ?_) | refine al_p rfl (st_lssS rfl rfl ?_)
  refine al_nil ?_
  refine x_then ?_
  refine hK _ ?_
  clear hK K
  refine aw_cond rfl (fun hb1 => ?_) (fun hb1 => ?_)
  · have hc1 := bp hb1
    refine aw_skip ?_
    refine x_then ?_
    refine hK _ ?_
    clear hK K
    refine aw_seq (fun K hK => ?_)
    refine aw_block ?_
    refine aw_seq (fun K hK => ?_)
    refine aw_region ?_
    refine al_p rfl (st_move rfl ?_)
    refine al_p rfl (s_gen 0 (hc := Grule l _ (by omega)) (hR := ?_))
    rintro r a1 ha1 ⟨x, hx, rfl⟩
    refine ⟨rfl, _, (by repeat constructor), ?_⟩
    refine al_p rfl (s_alloc (by repeat constructor) ?_)
    refine al_p0 (s_store rfl rfl rfl rfl rfl rfl (by repeat constructor) (by repeat constructor) ?_)
    refine al_nil ?_
    refine x_then ?_
    refine hK _ ?_
    clear hK K
    refine aw_seq (fun K hK => ?_)
    refine aw_region ?_
    refine al_p rfl (st_loadBW rfl rfl rfl ?_)
    refine al_p rfl (q_call (Rrcheck x hx) ?_)
    rintro r rfl
    first | refine al_p rfl (st_eql rfl rfl ?_) | refine al_p rfl (st_eqlS rfl rfl ?_) | refine al_p rfl (st_eqlB (by kernel_rfl) rfl rfl ?_)
    refine al_nil ?_
    refine x_then ?_
    refine hK _ ?_
    clear hK K
    refine aw_cond rfl (fun hb2 => ?_) (fun hb2 => ?_)
    · have hc2 := bp hb2
      refine aw_seq (fun K hK => ?_)
      refine aw_region ?_
      refine al_p rfl (st_loadBW rfl rfl rfl ?_)
      refine al_p0 (s_store rfl rfl rfl rfl rfl rfl (by repeat constructor) (by repeat constructor) ?_)
      refine al_nil ?_
      refine x_then ?_
      refine hK _ ?_
      clear hK K
      refine aw_ret ?_
      refine x_blockR ?_
      refine x_thenR ?_
      clear hK K
      refine x_thenR ?_
      refine x_blockR ?_
      refine x_thenR ?_
      clear hK K
      refine abody_ret none (by repeat (first | exact ResA.nil | (apply ResA.tmp; (focus exact rfl)) | (apply ResA.cellN; (focus exact inferInstance); (focus exact rfl); (focus exact rfl); (focus exact rfl)) | (apply ResA.cell1; (focus exact inferInstance); (focus exact rfl); (focus exact rfl); (focus exact rfl)))) rfl rfl rfl (LeA.refl _) ⟨_, rfl, rfl, _, ?_, rfl, x, hx, hc2, rfl⟩ <;> omega
    · have hc2 := bp hb2
      refine aw_skip ?_
      refine x_blockN ?_
      refine x_then ?_
      refine hK _ ?_
      clear hK K
      refine aw_region ?_
      refine al_p rfl (st_move rfl ?_)
      first | refine al_p rfl (st_add64 rfl rfl (by omega) ?_) | refine al_p rfl (st_addS rfl rfl (by omega) ?_) | refine al_p rfl (st_add rfl rfl ?_)
      refine al_p rfl (st_assign rfl ?_)
      refine al_nil ?_
      refine x_then ?_
      refine ⟨_, _, ?_, ⟨j + 1, _, by omega, rfl, ?_, rfl⟩, (wk 2 0)⟩ <;> omega
  · have hc1 := bp hb1
    refine aw_exit ?_
    refine x_thenE ?_
    clear hK K
    refine x_thenE ?_
    refine ABlock_out ?_
    refine x_then ?_
    refine hK _ ?_
    clear hK K
    refine aw_seq (fun K hK => ?_)
    refine aw_region ?_
    refine al_p rfl (st_build (by repeat (first | exact FillA.nil _ | (apply FillA.cons; (focus exact rfl); (focus exact rfl); (focus exact rfl); (focus exact rfl); (focus exact rfl); (focus (repeat constructor))))) ?_)
    refine al_p0 (s_store rfl rfl rfl rfl rfl rfl (by repeat constructor) (by repeat constructor) ?_)
    refine al_nil ?_
    refine x_then ?_
    refine hK _ ?_
    clear hK K
    refine aw_ret ?_
    refine abody_ret (r := .agg (rulA allR)) none (by repeat (first | exact ResA.nil | (apply ResA.tmp; (focus exact rfl)) | (apply ResA.cellN; (focus exact inferInstance); (focus exact rfl); (focus exact rfl); (focus exact rfl)) | (apply ResA.cell1; (focus exact inferInstance); (focus exact rfl); (focus exact rfl); (focus exact rfl)))) rfl rfl rfl (by repeat (first | exact LeA.refl _ | exact LeA.nil _ | exact LeL.refl _ | refine LeA.agg ?_ | refine LeA.tup ?_ | exact LeL.nil | refine LeL.cons ?_ ?_ | exact LeA.any _)) ⟨_, rfl, rfl, b, by omega, rfl, allR, allR_in, allR_ok, rfl⟩

theorem Grules (l : List Int) (a m : Nat) (ha : a ≤ 100000000) (hm : m ≤ 20) : GenF Tryz.prog 5 l a [.v (.int .i64 (m : Int))] 100000 (fun r => ∃ L : List Rul, LstOk L 20 ∧ r = .sl 8 (L.map rulA) none) := by
  refine enter Tryz.func5 rfl rfl rfl rfl rfl 1 rfl ?_
  refine aw_seq (fun K hK => ?_)
  refine aw_region ?_
  refine al_p rfl (st_assign rfl ?_)
  refine al_nil ?_
  refine x_then ?_
  refine hK _ ?_
  clear hK K
  refine aw_seq (fun K hK => ?_)
  refine aw_region ?_
  refine al_p rfl (st_assign rfl ?_)
  refine al_nil ?_
  refine x_then ?_
  refine hK _ ?_
  clear hK K
  refine aw_seq (fun K hK => ?_)
  refine aw_seq (fun K hK => ?_)
  refine aw_region ?_
  refine al_p rfl (st_move rfl ?_)
  refine al_p rfl (st_move rfl ?_)
  first | refine al_p rfl (st_add64 rfl rfl (by omega) ?_) | refine al_p rfl (st_addS rfl rfl (by omega) ?_) | refine al_p rfl (st_add rfl rfl ?_)
  refine al_p rfl (s_gen 0 (hc := Gn l _ ((m : Int) + 1) (by omega) (by omega)) (hR := ?_))
  rintro r a1 ha1 ⟨k1, rfl, p1, q1, o1⟩
  refine ⟨rfl, _, (by repeat constructor), ?_⟩
  obtain ⟨m0, rfl⟩ := Int.eq_ofNat_of_zero_le p1
  have hm0 : m0 ≤ 20 := by omega
  refine al_p rfl (st_assign rfl ?_)
  refine al_nil ?_
  refine x_then ?_
  refine hK _ ?_
  clear hK K
  refine aw_block ?_
  refine aw_loopW (fun n s => ∃ (j b : Nat) (L : List Rul), j ≤ m0 ∧ n = j ∧ b ≤ a + 1 + 1700 * (m0 - j) ∧ LstOk L (m0 - j) ∧ s = ⟨look [(0, .bp 0 0), (5, .sl 8 (L.map rulA) none), (6, .v (.int .i64 (j : Int)))], ⟨[srcA l b], []⟩⟩) (m0) ((wk 1 0)) (⟨m0, _, [], by omega, rfl, by omega, LstOk.nil _, rfl⟩) ?_
  rintro n s ⟨j, b, L, hj, hn, hb, hL, rfl⟩
  subst n
  refine aw_seq (fun K hK => ?_)
  refine aw_seq (fun K hK => ?_)
  refine aw_region ?_
  refine al_p rfl (st_move rfl ?_)
  refine al_p rfl (st_gtr rfl rfl ?_)
  refine al_nil ?_
  refine x_then ?_
  refine hK _ ?_
  clear hK K
  refine aw_cond rfl (fun hb1 => ?_) (fun hb1 => ?_)
  · have hc1 := bp hb1
    refine aw_skip ?_
    refine x_then ?_
    refine hK _ ?_
    clear hK K
    refine aw_seq (fun K hK => ?_)
    refine aw_block ?_
    refine aw_seq (fun K hK => ?_)
    refine aw_region ?_
    refine al_p rfl (st_move rfl ?_)
    refine al_p rfl (st_move rfl ?_)
    refine al_p rfl (s_gen 0 (hc := Ggood l _ (by omega)) (hR := ?_))
    rintro r a2 ha2 ⟨x, hx, hg, rfl⟩
    refine ⟨rfl, _, (by repeat constructor), ?_⟩
    refine al_p rfl (st_move rfl ?_)
    refine al_p rfl (s_gen 0 (hc := Gn l _ (4) (by omega) (by omega)) (hR := ?_))
    rintro r a3 ha3 ⟨k3, rfl, p3, q3, o3⟩
    refine ⟨rfl, _, (by repeat constructor), ?_⟩
    first | refine al_p rfl (st_eql rfl rfl ?_) | refine al_p rfl (st_eqlS rfl rfl ?_) | refine al_p rfl (st_eqlB (by kernel_rfl) rfl rfl ?_)
    refine al_p rfl (q_call (Radd L x _ (by have := hL.len; omega) hL.ins hx) ?_)
    rintro r rfl
    refine al_p rfl (st_move rfl ?_)
    refine al_p rfl (st_extract rfl rfl ?_)
    refine al_p rfl (st_extract rfl rfl ?_)
    refine al_p rfl (st_assign rfl ?_)
    refine al_p rfl (st_assign rfl ?_)
    refine al_nil ?_
    refine x_then ?_
    refine hK _ ?_
    clear hK K
    refine aw_seq (fun K hK => ?_)
    refine aw_region ?_
    refine al_p rfl (st_move rfl ?_)
    first | refine al_p rfl (st_eql rfl rfl ?_) | refine al_p rfl (st_eqlS rfl rfl ?_) | refine al_p rfl (st_eqlB (by kernel_rfl) rfl rfl ?_)
    refine al_nil ?_
    refine x_then ?_
    refine hK _ ?_
    clear hK K
    refine aw_cond rfl (fun hb2 => ?_) (fun hb2 => ?_)
    · have hc2 := bp hb2
      have hL2 := hL.add hx hc2
      refine aw_region ?_
      refine al_p rfl (st_move rfl ?_)
      refine al_p rfl (st_assign rfl ?_)
      refine al_nil ?_
      refine x_blockN ?_
      refine x_then ?_
      refine hK _ ?_
      clear hK K
      refine aw_region ?_
      refine al_p rfl (st_move rfl ?_)
      first | refine al_p rfl (st_sub64 rfl rfl (by omega) ?_) | refine al_p rfl (st_sub rfl rfl ?_)
      refine al_p rfl (st_assign rfl ?_)
      refine al_nil ?_
      refine x_then ?_
      obtain ⟨j, rfl⟩ : ∃ i, j = i + 1 := ⟨j - 1, by omega⟩
      refine ⟨_, _, ?_, ⟨j, _, _, by omega, rfl, ?_, hL2.mono (by omega), rfl⟩, weak_of 1 0 rfl rfl rfl rfl (by repeat (first | exact Sub.nil | refine Sub.cons _ _ _ rfl rfl ?_ | (apply Sub.of; (focus exact rfl); (focus exact LeA.of_eq (vi (by omega))); (focus exact rfl))))⟩ <;> omega
    · have hc2 := bp hb2
      have hL2 := hL.mono (Nat.le_succ _)
      refine aw_skip ?_
      refine x_blockN ?_
      refine x_then ?_
      refine hK _ ?_
      clear hK K
      refine aw_region ?_
      refine al_p rfl (st_move rfl ?_)
      first | refine al_p rfl (st_sub64 rfl rfl (by omega) ?_) | refine al_p rfl (st_sub rfl rfl ?_)
      refine al_p rfl (st_assign rfl ?_)
      refine al_nil ?_
      refine x_then ?_
      obtain ⟨j, rfl⟩ : ∃ i, j = i + 1 := ⟨j - 1, by omega⟩
      refine ⟨_, _, ?_, ⟨j, _, _, by omega, rfl, ?_, hL2.mono (by omega), rfl⟩, weak_of 1 0 rfl rfl rfl rfl (by repeat (first | exact Sub.nil | refine Sub.cons _ _ _ rfl rfl ?_ | (apply Sub.of; (focus exact rfl); (focus exact LeA.of_eq (vi (by omega))); (focus exact rfl))))⟩ <;> omega
  · have hc1 := bp hb1
    refine aw_exit ?_
    refine x_thenE ?_
    clear hK K
    refine x_thenE ?_
    refine ABlock_out ?_
    refine x_then ?_
    refine hK _ ?_
    clear hK K
    refine aw_seq (fun K hK => ?_)
    refine aw_region ?_
    refine al_p rfl (st_move rfl ?_)
    refine al_p rfl (st_assign rfl ?_)
    refine al_nil ?_
    refine x_then ?_
    refine hK _ ?_
    clear hK K
    refine aw_ret ?_
    refine abody_ret none (by repeat (first | exact ResA.nil | (apply ResA.tmp; (focus exact rfl)) | (apply ResA.cellN; (focus exact inferInstance); (focus exact rfl); (focus exact rfl); (focus exact rfl)) | (apply ResA.cell1; (focus exact inferInstance); (focus exact rfl); (focus exact rfl); (focus exact rfl)))) rfl rfl rfl (LeA.refl _) ⟨_, rfl, rfl, b, by omega, rfl, L, hL.mono (by omega), rfl⟩

end
end Go.Proofs.YtokaaebbmcldaaaGreatDoor
