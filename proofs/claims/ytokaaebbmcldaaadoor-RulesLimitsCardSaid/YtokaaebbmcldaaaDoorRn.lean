/-
  The law RulesLimits.
-/
import Derived.Test.YtokaaebbmcldaaaDoorRm
namespace Go.Proofs.YtokaaebbmcldaaaDoor
open Go.RowKit

def limR (i : Nat) : Rul := ⟨4, 1, 0, [], 0, ⟨#[]⟩, 0, Utf8.encode (IntKind.i32.wrap (97 + (i : Int)))⟩
def limL (n : Nat) : List Rul := (List.range n).map limR
theorem lim_in (i : Nat) : RulIn (limR i) := by unfold RulIn limR; simp; decide
theorem limL_in (n : Nat) : ∀ r ∈ limL n, RulIn r := by
  intro r hr
  obtain ⟨i, _, rfl⟩ := List.mem_map.1 hr
  exact lim_in i
theorem limL_succ (n : Nat) : (limL (n + 1)).map rulA = (limL n).map rulA ++ [rulA (limR n)] := by
  simp [limL, List.range_succ]
def limX : List Rul := [⟨1, 2, 0, [], 0, ⟨#[]⟩, 0, ⟨#[]⟩⟩, ⟨0, 0, 0, [], 0, ⟨#[]⟩, 0, ⟨#[]⟩⟩, ⟨4, 1, 0, [], 0, ⟨#[]⟩, 0, ⟨#[97]⟩⟩]
theorem limX_in : ∀ r ∈ limX, RulIn r := by
  intro r hr
  simp [limX] at hr
  rcases hr with rfl | rfl | rfl <;> (unfold RulIn; simp; decide)
theorem limL_len (n : Nat) : (limL n).length = n := by simp [limL]
theorem add_len (l : List Rul) (r : Rul) (f : Bool) : (addL l r f).1.length ≤ l.length + 1 := by
  unfold addL
  (repeat' split) <;> simp
theorem add_in {l : List Rul} {r : Rul} {f : Bool} (hl : ∀ x ∈ l, RulIn x) (hr : RulIn r) : ∀ x ∈ (addL l r f).1, RulIn x := by
  intro x hx
  have : x ∈ l ∨ x = r := by
    unfold addL at hx
    (repeat' split at hx) <;> simp at hx <;> first | exact hx | exact hx.symm
  rcases this with h | rfl
  · exact hl x h
  · exact hr
theorem rem_len (l : List Rul) (r : Rul) : (remL l r).1.length ≤ l.length := by
  unfold remL
  (repeat' split) <;> simp
  exact List.length_eraseIdx_le _ _
theorem rem_in {l : List Rul} {r : Rul} (hl : ∀ x ∈ l, RulIn x) : ∀ x ∈ (remL l r).1, RulIn x := by
  intro x hx
  unfold remL at hx
  (repeat' split at hx) <;> simp at hx
  exact hl x (List.mem_of_mem_eraseIdx hx)
theorem tmod_nat {a : Int} {b : Nat} (h : 0 ≤ a) (hb : 0 < b) : ∃ k : Nat, a.tmod b = (k : Int) ∧ k < b := by
  rw [Int.tmod_eq_emod_of_nonneg h]
  have h1 := Int.emod_nonneg a (b := b) (by omega)
  have h2 := Int.emod_lt_of_pos a (b := b) (by omega)
  exact ⟨(a % b).toNat, by omega, by omega⟩
section
set_option maxRecDepth 10000
set_option maxHeartbeats 1000000
theorem Llimits (n kind : Int) (hn : 0 ≤ n ∧ n < 256) (hk : 0 ≤ kind ∧ kind < 256) : AFn Tryd.prog 6 [.v (.int .u8 n), .v (.int .u8 kind)] (fun x => x = .v (.bool true)) := by
  obtain ⟨m5, hm5, hm5'⟩ := tmod_nat (b := 5) hn.1 (by omega)
  obtain ⟨k, hk3, hk3'⟩ := tmod_nat (b := 3) hk.1 (by omega)
  have hbd : IntKind.i64.wrap (22 + IntKind.i64.wrap (n.tmod 5)) ≤ 26 := by
    rw [show n.tmod 5 = (m5 : Int) from hm5, IntWalk.i64_in (m5 : Int) (by omega), IntWalk.i64_in _ (by omega)]
    omega
  obtain ⟨x, hx1, hx2⟩ : ∃ x, limX[k]? = some x ∧ (limX.map rulA)[k]? = some (rulA x) := ⟨limX[k]'hk3', by rw [List.getElem?_eq_getElem hk3'], by rw [List.getElem?_map, List.getElem?_eq_getElem hk3']; rfl⟩
  have hx := limX_in x (List.mem_of_getElem? hx1)
  refine enter Tryd.func6 rfl rfl rfl rfl rfl 0 rfl ?_
  refine aw_seq (fun K hK => ?_)
  refine aw_region ?_
  refine al_p rfl (st_assign rfl ?_)
  refine al_nil ?_
  refine x_then ?_
  refine hK _ ?_
  clear hK K
  refine aw_seq (fun K hK => ?_)
  refine aw_region ?_
  refine al_p rfl (st_assign rfl ?_)
  refine al_nil ?_
  refine x_then ?_
  refine hK _ ?_
  clear hK K
  refine aw_seq (fun K hK => ?_)
  refine aw_seq (fun K hK => ?_)
  refine aw_region ?_
  refine al_p rfl (st_assign rfl ?_)
  refine al_nil ?_
  refine x_then ?_
  refine hK _ ?_
  clear hK K
  refine aw_block ?_
  refine aw_nilTok 5 41 8 rfl (by repeat constructor) ?_
  refine aw_loopW (fun m s => ∃ j : Nat, j ≤ 30 ∧ m = 30 - j ∧ s = ⟨look [(0, .v (.int .u8 n)), (1, .v (.int .u8 kind)), (5, .sl 8 ((limL j).map rulA) (some 0)), (6, .v (.int .i64 (j : Int)))], ⟨[], [(41, 8, (limL j).map rulA)]⟩⟩) (30) ((wk 0 1)) (⟨0, Nat.zero_le _, rfl, rfl⟩) ?_
  rintro n s ⟨j, hj, rfl, rfl⟩
  refine aw_seq (fun K hK => ?_)
  refine aw_seq (fun K hK => ?_)
  refine aw_region ?_
  refine al_p rfl (st_move rfl ?_)
  refine al_p rfl (st_move rfl ?_)
  refine al_p rfl (st_rem rfl rfl (by omega) ?_)
  refine al_p rfl (st_conv rfl Tryd.underlying5 Tryd.underlying3 ?_)
  first | refine al_p rfl (st_add64 rfl rfl (by omega) ?_) | refine al_p rfl (st_addS rfl rfl (by omega) ?_) | refine al_p rfl (st_add rfl rfl ?_)
  first | refine al_p rfl (st_lss rfl rfl ?_) | refine al_p rfl (st_lssS rfl rfl ?_)
  refine al_nil ?_
  refine x_then ?_
  refine hK _ ?_
  clear hK K
  refine aw_cond rfl (fun hb1 => ?_) (fun hb1 => ?_)
  · have hc1 := bp hb1
    refine aw_skip ?_
    refine x_then ?_
    refine hK _ ?_
    clear hK K
    refine aw_seq (fun K hK => ?_)
    refine aw_block ?_
    refine aw_region ?_
    refine al_p rfl (st_move rfl ?_)
    refine al_p rfl (st_move rfl ?_)
    first | refine al_p rfl (st_add64 rfl rfl (by omega) ?_) | refine al_p rfl (st_addS rfl rfl (by omega) ?_) | refine al_p rfl (st_add rfl rfl ?_)
    refine al_p rfl (st_conv rfl Tryd.underlying3 Tryd.underlying21 ?_)
    refine al_p rfl (st_convRS rfl Tryd.underlying21 Tryd.underlying9 ?_)
    refine al_p rfl (st_le (y := .agg (rulA (limR j))) (st_build (by repeat (first | exact FillA.nil _ | (apply FillA.cons; (focus exact rfl); (focus exact rfl); (focus exact rfl); (focus exact rfl); (focus exact rfl); (focus (repeat constructor))))) ⟨rfl, rfl⟩) (by repeat (first | exact LeA.refl _ | exact LeA.nil _ | exact LeL.refl _ | refine LeA.agg ?_ | refine LeA.tup ?_ | exact LeL.nil | refine LeL.cons ?_ ?_ | exact LeA.any _)) ?_)
    refine al_p rfl (st_slit (by repeat (first | exact DenseA.nil _ | (apply DenseA.cons; (focus exact rfl); (focus exact rfl); (focus exact rfl); (focus exact rfl)) | (apply DenseA.consE; (focus exact rfl); (focus exact rfl); (focus exact rfl)))) rfl rfl rfl rfl ?_)
    first | refine al_p rfl (s_append rfl rfl rfl (by simp [limL_len] <;> omega) (by repeat constructor) ?_) | refine al_p rfl (s_append0 rfl rfl (by simp [limL_len] <;> omega) (by repeat constructor) ?_)
    refine al_p rfl (st_assign rfl ?_)
    refine al_nil ?_
    refine x_blockN ?_
    refine x_then ?_
    refine hK _ ?_
    clear hK K
    refine aw_region ?_
    refine al_p rfl (st_move rfl ?_)
    first | refine al_p rfl (st_add64 rfl rfl (by omega) ?_) | refine al_p rfl (st_addS rfl rfl (by omega) ?_) | refine al_p rfl (st_add rfl rfl ?_)
    refine al_p rfl (st_assign rfl ?_)
    refine al_nil ?_
    refine x_then ?_
    refine ⟨_, _, ?_, ⟨j + 1, by omega, rfl, rfl⟩, ?_⟩
    · omega
    · rw [limL_succ]; exact (wk 0 1)
  · have hc1 := bp hb1
    have hl : (limL j).length ≤ 1000 := by rw [limL_len]; omega
    have hl9 : (limL j).length ≤ 30 := by rw [limL_len]; omega
    refine aw_exit ?_
    refine x_thenE ?_
    clear hK K
    refine x_thenE ?_
    refine ABlock_out ?_
    refine x_then ?_
    refine hK _ ?_
    clear hK K
    refine aw_seq (fun K hK => ?_)
    refine aw_region ?_
    refine al_p rfl (st_le (y := .agg (rulA limX[0])) (st_build (by repeat (first | exact FillA.nil _ | (apply FillA.cons; (focus exact rfl); (focus exact rfl); (focus exact rfl); (focus exact rfl); (focus exact rfl); (focus (repeat constructor))))) ⟨rfl, rfl⟩) (by repeat (first | exact LeA.refl _ | exact LeA.nil _ | exact LeL.refl _ | refine LeA.agg ?_ | refine LeA.tup ?_ | exact LeL.nil | refine LeL.cons ?_ ?_ | exact LeA.any _)) ?_)
    refine al_p rfl (st_le (y := .agg (rulA limX[1])) (st_build (by repeat (first | exact FillA.nil _ | (apply FillA.cons; (focus exact rfl); (focus exact rfl); (focus exact rfl); (focus exact rfl); (focus exact rfl); (focus (repeat constructor))))) ⟨rfl, rfl⟩) (by repeat (first | exact LeA.refl _ | exact LeA.nil _ | exact LeL.refl _ | refine LeA.agg ?_ | refine LeA.tup ?_ | exact LeL.nil | refine LeL.cons ?_ ?_ | exact LeA.any _)) ?_)
    refine al_p rfl (st_le (y := .agg (rulA limX[2])) (st_build (by repeat (first | exact FillA.nil _ | (apply FillA.cons; (focus exact rfl); (focus exact rfl); (focus exact rfl); (focus exact rfl); (focus exact rfl); (focus (repeat constructor))))) ⟨rfl, rfl⟩) (by repeat (first | exact LeA.refl _ | exact LeA.nil _ | exact LeL.refl _ | refine LeA.agg ?_ | refine LeA.tup ?_ | exact LeL.nil | refine LeL.cons ?_ ?_ | exact LeA.any _)) ?_)
    refine al_p rfl (st_slit (by repeat (first | exact DenseA.nil _ | (apply DenseA.cons; (focus exact rfl); (focus exact rfl); (focus exact rfl); (focus exact rfl)) | (apply DenseA.consE; (focus exact rfl); (focus exact rfl); (focus exact rfl)))) rfl rfl rfl rfl ?_)
    refine al_p rfl (st_move rfl ?_)
    refine al_p rfl (st_rem rfl rfl (by omega) ?_)
    refine al_p rfl (st_index (n := k) rfl rfl hk3 hx2 ?_)
    refine al_p rfl (st_loadFW rfl rfl ?_)
    refine al_p rfl (s_alloc (by repeat constructor) ?_)
    refine al_p0 (s_store rfl rfl rfl rfl rfl rfl (by repeat constructor) (by repeat constructor) ?_)
    refine al_nil ?_
    refine x_then ?_
    refine hK _ ?_
    clear hK K
    refine aw_seq (fun K hK => ?_)
    refine aw_region ?_
    refine al_p rfl (st_move rfl ?_)
    refine al_p rfl (st_loadBW rfl rfl rfl ?_)
    refine al_p rfl (st_move rfl ?_)
    refine al_p rfl (st_rem rfl rfl (by omega) ?_)
    first | refine al_p rfl (st_eql rfl rfl ?_) | refine al_p rfl (st_eqlS rfl rfl ?_) | refine al_p rfl (st_eqlB (by kernel_rfl) rfl rfl ?_)
    refine al_p rfl (q_call (Padd (limL j) x _ hl (limL_in j) hx) ?_)
    rintro r rfl
    refine al_p rfl (st_move rfl ?_)
    refine al_p rfl (st_extract rfl rfl ?_)
    refine al_p rfl (st_extract rfl rfl ?_)
    refine al_p rfl (st_assign rfl ?_)
    refine al_p rfl (st_assign rfl ?_)
    refine al_nil ?_
    refine x_then ?_
    refine hK _ ?_
    clear hK K
    refine aw_seq (fun K hK => ?_)
    refine aw_region ?_
    refine al_p rfl (st_move rfl ?_)
    refine al_p rfl (st_loadBW rfl rfl rfl ?_)
    refine al_p rfl (st_move rfl ?_)
    refine al_p rfl (st_rem rfl rfl (by omega) ?_)
    first | refine al_p rfl (st_eql rfl rfl ?_) | refine al_p rfl (st_eqlS rfl rfl ?_) | refine al_p rfl (st_eqlB (by kernel_rfl) rfl rfl ?_)
    refine al_p rfl (q_call (Radd (limL j) x _ hl (limL_in j) hx) ?_)
    rintro r rfl
    refine al_p rfl (st_move rfl ?_)
    refine al_p rfl (st_extract rfl rfl ?_)
    refine al_p rfl (st_extract rfl rfl ?_)
    refine al_p rfl (st_assign rfl ?_)
    refine al_p rfl (st_assign rfl ?_)
    refine al_nil ?_
    refine x_then ?_
    refine hK _ ?_
    clear hK K
    refine aw_seq (fun K hK => ?_)
    refine aw_region ?_
    refine al_p rfl (st_move rfl ?_)
    refine al_p rfl (st_loadBW rfl rfl rfl ?_)
    refine al_p rfl (q_call (Premove (limL j) x hl (limL_in j)) ?_)
    rintro r rfl
    refine al_p rfl (st_move rfl ?_)
    refine al_p rfl (st_extract rfl rfl ?_)
    refine al_p rfl (st_extract rfl rfl ?_)
    refine al_p rfl (st_assign rfl ?_)
    refine al_p rfl (st_assign rfl ?_)
    refine al_nil ?_
    refine x_then ?_
    refine hK _ ?_
    clear hK K
    refine aw_seq (fun K hK => ?_)
    refine aw_region ?_
    refine al_p rfl (st_move rfl ?_)
    refine al_p rfl (st_loadBW rfl rfl rfl ?_)
    refine al_p rfl (q_call (Rremove (limL j) x hl (limL_in j)) ?_)
    rintro r rfl
    refine al_p rfl (st_move rfl ?_)
    refine al_p rfl (st_extract rfl rfl ?_)
    refine al_p rfl (st_extract rfl rfl ?_)
    refine al_p rfl (st_assign rfl ?_)
    refine al_p rfl (st_assign rfl ?_)
    refine al_nil ?_
    refine x_then ?_
    refine hK _ ?_
    clear hK K
    refine aw_seq (fun K hK => ?_)
    refine aw_region ?_
    refine al_p rfl (st_move rfl ?_)
    refine al_p rfl (st_move rfl ?_)
    first | refine al_p rfl (st_eql rfl rfl ?_) | refine al_p rfl (st_eqlS rfl rfl ?_) | refine al_p rfl (st_eqlB (by kernel_rfl) rfl rfl ?_)
    refine al_p rfl (st_move rfl ?_)
    refine al_gs true rfl rfl (fun hb2 => ?_) (fun hb2 => ?_)
    · have hc2 := bp hb2
      refine g_y (st_move rfl ?_)
      refine g_y (st_move rfl ?_)
      first | refine g_y (st_eql rfl rfl ?_) | refine g_y (st_eqlS rfl rfl ?_) | refine g_y (st_eqlB (by kernel_rfl) rfl rfl ?_)
      refine al_p rfl (p_t ?_)
      refine al_p rfl (st_move rfl ?_)
      refine al_gs true rfl rfl (fun hb3 => ?_) (fun hb3 => ?_)
      · have hc3 := bp hb3
        refine g_y (st_move rfl ?_)
        refine g_y (st_move rfl ?_)
        refine g_y (q_call (Rsame _ _ (Nat.le_trans (add_len _ _ _) (by omega)) fun y hy => (add_in (limL_in j) hx y hy).2.2.2) ?_)
        rintro r rfl
        refine al_p rfl (p_t ?_)
        refine al_p rfl (st_move rfl ?_)
        refine al_gs true rfl rfl (fun hb4 => ?_) (fun hb4 => ?_)
        · have hc4 := bp hb4
          refine g_y (st_move rfl ?_)
          refine g_y (st_move rfl ?_)
          refine g_y (q_call (Rsame _ _ (Nat.le_trans (rem_len _ _) hl) fun y hy => (rem_in (limL_in j) y hy).2.2.2) ?_)
          rintro r rfl
          refine al_p rfl (p_t ?_)
          refine al_p rfl (st_move rfl ?_)
          refine al_gs true rfl rfl (fun hb5 => ?_) (fun hb5 => ?_)
          · have hc5 := bp hb5
            refine g_y (st_move rfl ?_)
            refine g_y (q_call (Pcheckl (limL j) hl (limL_in j)) ?_)
            rintro r rfl
            refine g_y (st_move rfl ?_)
            refine g_y (q_call (Rcheckl (limL j) hl (limL_in j)) ?_)
            rintro r rfl
            first | refine g_y (st_eql rfl rfl ?_) | refine g_y (st_eqlS rfl rfl ?_) | refine g_y (st_eqlB (by kernel_rfl) rfl rfl ?_)
            refine al_p rfl (p_t ?_)
            refine al_p rfl (st_move rfl ?_)
            refine al_gs true rfl rfl (fun hb6 => ?_) (fun hb6 => ?_)
            · have hc6 := bp hb6
              refine g_y (q_call (Lawake) ?_)
              rintro r rfl
              refine al_p rfl (p_t ?_)
              refine al_p rfl (st_assign rfl ?_)
              refine al_nil ?_
              refine x_then ?_
              refine hK _ ?_
              clear hK K
              refine aw_ret ?_
              refine e_ret ?_
              first | (exfalso; first | contradiction | omega) | (exact vb (by rfl))
            · have hc6 := bp hb6
              refine g_n ?_
              refine al_p rfl (p_f ?_)
              refine al_p rfl (st_assign rfl ?_)
              refine al_nil ?_
              refine x_then ?_
              refine hK _ ?_
              clear hK K
              refine aw_ret ?_
              refine e_ret ?_
              first | (exfalso; first | contradiction | omega) | (exact vb (by rfl))
          · have hc5 := bp hb5
            refine g_n ?_
            refine g_n ?_
            refine g_n ?_
            refine g_n ?_
            refine g_n ?_
            refine al_p rfl (p_f ?_)
            refine al_p rfl (st_move rfl ?_)
            refine g_n ?_
            refine al_p rfl (p_f ?_)
            refine al_p rfl (st_assign rfl ?_)
            refine al_nil ?_
            refine x_then ?_
            refine hK _ ?_
            clear hK K
            refine aw_ret ?_
            refine e_ret ?_
            first | (exfalso; first | contradiction | omega) | (exact vb (by rfl))
        · have hc4 := bp hb4
          refine g_n ?_
          refine g_n ?_
          refine g_n ?_
          refine al_p rfl (p_f ?_)
          refine al_p rfl (st_move rfl ?_)
          refine g_n ?_
          refine g_n ?_
          refine g_n ?_
          refine g_n ?_
          refine g_n ?_
          refine al_p rfl (p_f ?_)
          refine al_p rfl (st_move rfl ?_)
          refine g_n ?_
          refine al_p rfl (p_f ?_)
          refine al_p rfl (st_assign rfl ?_)
          refine al_nil ?_
          refine x_then ?_
          refine hK _ ?_
          clear hK K
          refine aw_ret ?_
          refine e_ret ?_
          first | (exfalso; first | contradiction | omega) | (exact vb (by rfl))
      · have hc3 := bp hb3
        refine g_n ?_
        refine g_n ?_
        refine g_n ?_
        refine al_p rfl (p_f ?_)
        refine al_p rfl (st_move rfl ?_)
        refine g_n ?_
        refine g_n ?_
        refine g_n ?_
        refine al_p rfl (p_f ?_)
        refine al_p rfl (st_move rfl ?_)
        refine g_n ?_
        refine g_n ?_
        refine g_n ?_
        refine g_n ?_
        refine g_n ?_
        refine al_p rfl (p_f ?_)
        refine al_p rfl (st_move rfl ?_)
        refine g_n ?_
        refine al_p rfl (p_f ?_)
        refine al_p rfl (st_assign rfl ?_)
        refine al_nil ?_
        refine x_then ?_
        refine hK _ ?_
        clear hK K
        refine aw_ret ?_
        refine e_ret ?_
        first | (exfalso; first | contradiction | omega) | (exact vb (by rfl))
    · have hc2 := bp hb2
      refine g_n ?_
      refine g_n ?_
      refine g_n ?_
      refine al_p rfl (p_f ?_)
      refine al_p rfl (st_move rfl ?_)
      refine g_n ?_
      refine g_n ?_
      refine g_n ?_
      refine al_p rfl (p_f ?_)
      refine al_p rfl (st_move rfl ?_)
      refine g_n ?_
      refine g_n ?_
      refine g_n ?_
      refine al_p rfl (p_f ?_)
      refine al_p rfl (st_move rfl ?_)
      refine g_n ?_
      refine g_n ?_
      refine g_n ?_
      refine g_n ?_
      refine g_n ?_
      refine al_p rfl (p_f ?_)
      refine al_p rfl (st_move rfl ?_)
      refine g_n ?_
      refine al_p rfl (p_f ?_)
      refine al_p rfl (st_assign rfl ?_)
      refine al_nil ?_
      refine x_then ?_
      refine hK _ ?_
      clear hK K
      refine aw_ret ?_
      refine e_ret ?_
      first | (exfalso; first | contradiction | omega) | (exact vb (by rfl))

end
end Go.Proofs.YtokaaebbmcldaaaDoor
