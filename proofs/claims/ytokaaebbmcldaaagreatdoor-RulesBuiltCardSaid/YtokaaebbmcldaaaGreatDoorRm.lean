/-
  The sanity check of the laws.
-/
import Derived.Test.YtokaaebbmcldaaaGreatDoorRl
namespace Go.Proofs.YtokaaebbmcldaaaGreatDoor
open Go.RowKit

def e0 : Str := ⟨#[]⟩
def neverR : Rul := ⟨3, 2, 1, [⟨3, 1, 0, ⟨#[]⟩, 0⟩], 0, ⟨#[]⟩, 0, ⟨#[]⟩⟩
def alwaysR : Rul := ⟨3, 1, 1, [], 0, ⟨#[]⟩, 0, ⟨#[]⟩⟩
def ctxU (u : Int) : Ctx := ⟨2, 0, 0, u, 0, 0, 0, 0, 0, (0, 0), ⟨#[]⟩, ⟨#[]⟩, false, 0, 0, 0, 0, 0, 0, [], 0⟩
def cxs0 : Cxs := ⟨[], [], []⟩
theorem in_never : RulIn neverR := by unfold RulIn neverR; simp; decide
theorem in_always : RulIn alwaysR := by unfold RulIn alwaysR; simp; decide
theorem awakeAdd : addL [alwaysR] neverR true = ([neverR, alwaysR], 0) := by decide
theorem awakeA : firstI (ownL 3 [] (ctxU 0)) [neverR, alwaysR] 0 = 0 := by decide
theorem awakeB : firstI (ownL 3 [] (ctxU 5)) [neverR, alwaysR] 0 = 1 := by decide
section
set_option maxRecDepth 10000
set_option maxHeartbeats 1000000
theorem Lawake : AFn Tryz.prog 13 [] (fun x => x = .v (.bool true)) := by
  have hw : ∀ r ∈ [alwaysR], RulIn r := by intro r hr; rw [List.mem_singleton.1 hr]; exact in_always
  have ht : ∀ r ∈ [neverR, alwaysR], r.tests.length ≤ 1000 := by intro r hr; simp at hr; rcases hr with rfl | rfl <;> decide
  refine enter Tryz.func13 rfl rfl rfl rfl rfl 0 rfl ?_
  refine aw_seq (fun K hK => ?_)
  refine aw_region ?_
  refine al_p rfl (st_assign rfl ?_)
  refine al_nil ?_
  refine x_then ?_
  refine hK _ ?_
  clear hK K
  refine aw_seq (fun K hK => ?_)
  refine aw_region ?_
  refine al_p rfl (st_build (by repeat (first | exact FillA.nil _ | (apply FillA.cons; (focus exact rfl); (focus exact rfl); (focus exact rfl); (focus exact rfl); (focus exact rfl); (focus (repeat constructor))))) ?_)
  refine al_p rfl (st_slit (by repeat (first | exact DenseA.nil _ | (apply DenseA.cons; (focus exact rfl); (focus exact rfl); (focus exact rfl); (focus exact rfl)) | (apply DenseA.consE; (focus exact rfl); (focus exact rfl); (focus exact rfl)))) rfl rfl rfl rfl ?_)
  refine al_p rfl (st_build (by repeat (first | exact FillA.nil _ | (apply FillA.cons; (focus exact rfl); (focus exact rfl); (focus exact rfl); (focus exact rfl); (focus exact rfl); (focus (repeat constructor))))) ?_)
  refine al_p rfl (s_alloc (by repeat constructor) ?_)
  refine al_p0 (s_store rfl rfl rfl rfl rfl rfl (by repeat constructor) (by repeat constructor) ?_)
  refine al_nil ?_
  refine x_then ?_
  refine hK _ ?_
  clear hK K
  refine aw_seq (fun K hK => ?_)
  refine aw_region ?_
  refine al_p rfl (st_le (y := .agg (rulA alwaysR)) (st_build (by repeat (first | exact FillA.nil _ | (apply FillA.cons; (focus exact rfl); (focus exact rfl); (focus exact rfl); (focus exact rfl); (focus exact rfl); (focus (repeat constructor))))) ⟨rfl, rfl⟩) (by repeat (first | exact LeA.refl _ | exact LeA.nil _ | exact LeL.refl _ | refine LeA.agg ?_ | refine LeA.tup ?_ | exact LeL.nil | refine LeL.cons ?_ ?_ | exact LeA.any _)) ?_)
  refine al_p rfl (s_alloc (by repeat constructor) ?_)
  refine al_p0 (s_store rfl rfl rfl rfl rfl rfl (by repeat constructor) (by repeat constructor) ?_)
  refine al_nil ?_
  refine x_then ?_
  refine hK _ ?_
  clear hK K
  refine aw_seq (fun K hK => ?_)
  refine aw_region ?_
  refine al_p rfl (st_loadBW rfl rfl rfl ?_)
  refine al_p rfl (st_slit (by repeat (first | exact DenseA.nil _ | (apply DenseA.cons; (focus exact rfl); (focus exact rfl); (focus exact rfl); (focus exact rfl)) | (apply DenseA.consE; (focus exact rfl); (focus exact rfl); (focus exact rfl)))) rfl rfl rfl rfl ?_)
  refine al_p rfl (st_loadBW rfl rfl rfl ?_)
  refine al_p rfl (q_call (Padd [alwaysR] neverR true (by decide) hw in_never) ?_)
  rintro r rfl
  rw [awakeAdd]
  refine al_p rfl (st_move rfl ?_)
  refine al_p rfl (st_extract rfl rfl ?_)
  refine al_p rfl (st_extract rfl rfl ?_)
  refine al_p rfl (st_assign rfl ?_)
  refine al_p rfl (st_assign rfl ?_)
  refine al_nil ?_
  refine x_then ?_
  refine hK _ ?_
  clear hK K
  refine aw_seq (fun K hK => ?_)
  refine aw_region ?_
  refine al_p rfl (st_le (y := .agg (ctxA (ctxU 0) cxs0)) (st_build (by repeat (first | exact FillA.nil _ | (apply FillA.cons; (focus exact rfl); (focus exact rfl); (focus exact rfl); (focus exact rfl); (focus exact rfl); (focus (repeat constructor))))) ⟨rfl, rfl⟩) (by repeat (first | exact LeA.refl _ | exact LeA.nil _ | exact LeL.refl _ | refine LeA.agg ?_ | refine LeA.tup ?_ | exact LeL.nil | refine LeL.cons ?_ ?_ | exact LeA.any _)) ?_)
  refine al_p rfl (s_alloc (by repeat constructor) ?_)
  refine al_p0 (s_store rfl rfl rfl rfl rfl rfl (by repeat constructor) (by repeat constructor) ?_)
  refine al_nil ?_
  refine x_then ?_
  refine hK _ ?_
  clear hK K
  refine aw_seq (fun K hK => ?_)
  refine aw_region ?_
  refine al_p rfl (st_build (by repeat (first | exact FillA.nil _ | (apply FillA.cons; (focus exact rfl); (focus exact rfl); (focus exact rfl); (focus exact rfl); (focus exact rfl); (focus (repeat constructor))))) ?_)
  refine al_p rfl (st_le (y := .agg (ctxA (ctxU 5) cxs0)) (st_build (by repeat (first | exact FillA.nil _ | (apply FillA.cons; (focus exact rfl); (focus exact rfl); (focus exact rfl); (focus exact rfl); (focus exact rfl); (focus (repeat constructor))))) ⟨rfl, rfl⟩) (by repeat (first | exact LeA.refl _ | exact LeA.nil _ | exact LeL.refl _ | refine LeA.agg ?_ | refine LeA.tup ?_ | exact LeL.nil | refine LeL.cons ?_ ?_ | exact LeA.any _)) ?_)
  refine al_p rfl (s_alloc (by repeat constructor) ?_)
  refine al_p0 (s_store rfl rfl rfl rfl rfl rfl (by repeat constructor) (by repeat constructor) ?_)
  refine al_nil ?_
  refine x_then ?_
  refine hK _ ?_
  clear hK K
  refine aw_seq (fun K hK => ?_)
  refine aw_region ?_
  refine al_p rfl (st_move rfl ?_)
  first | refine al_p rfl (st_eql rfl rfl ?_) | refine al_p rfl (st_eqlS rfl rfl ?_) | refine al_p rfl (st_eqlB (by kernel_rfl) rfl rfl ?_)
  refine al_p rfl (st_move rfl ?_)
  refine al_gs true rfl rfl (fun hb1 => ?_) (fun hb1 => ?_)
  · have hc1 := bp hb1
    refine g_y (st_move rfl ?_)
    refine g_y (st_loadBW rfl rfl rfl ?_)
    refine g_y (q_call (Pfirsts [neverR, alwaysR] 3 [] (ctxU 0) cxs0 (by decide) (by decide) ht) ?_)
    rintro r rfl
    rw [awakeA]
    first | refine g_y (st_eql rfl rfl ?_) | refine g_y (st_eqlS rfl rfl ?_) | refine g_y (st_eqlB (by kernel_rfl) rfl rfl ?_)
    refine al_p rfl (p_t ?_)
    refine al_p rfl (st_move rfl ?_)
    refine al_gs true rfl rfl (fun hb2 => ?_) (fun hb2 => ?_)
    · have hc2 := bp hb2
      refine g_y (st_move rfl ?_)
      refine g_y (st_loadBW rfl rfl rfl ?_)
      refine g_y (q_call (Pfirsts [neverR, alwaysR] 3 [] (ctxU 5) cxs0 (by decide) (by decide) ht) ?_)
      rintro r rfl
      rw [awakeB]
      first | refine g_y (st_eql rfl rfl ?_) | refine g_y (st_eqlS rfl rfl ?_) | refine g_y (st_eqlB (by kernel_rfl) rfl rfl ?_)
      refine al_p rfl (p_t ?_)
      refine al_p rfl (st_assign rfl ?_)
      refine al_nil ?_
      refine x_then ?_
      refine hK _ ?_
      clear hK K
      refine aw_ret ?_
      refine e_ret ?_
      rfl
    · have hc2 := bp hb2
      refine g_n ?_
      refine g_n ?_
      refine g_n ?_
      refine g_n ?_
      refine al_p rfl (p_f ?_)
      refine al_p rfl (st_assign rfl ?_)
      refine al_nil ?_
      refine x_then ?_
      refine hK _ ?_
      clear hK K
      refine aw_ret ?_
      refine e_ret ?_
      exact absurd hb2 (by decide)
  · have hc1 := bp hb1
    refine g_n ?_
    refine g_n ?_
    refine g_n ?_
    refine g_n ?_
    refine al_p rfl (p_f ?_)
    refine al_p rfl (st_move rfl ?_)
    refine g_n ?_
    refine g_n ?_
    refine g_n ?_
    refine g_n ?_
    refine al_p rfl (p_f ?_)
    refine al_p rfl (st_assign rfl ?_)
    refine al_nil ?_
    refine x_then ?_
    refine hK _ ?_
    clear hK K
    refine aw_ret ?_
    refine e_ret ?_
    exact absurd hb1 (by decide)

end
end Go.Proofs.YtokaaebbmcldaaaGreatDoor
