/-
  Part 16 of the proof of MountsWithinP: what the statement's proof uses of the texts in wip/tpl.
-/
import Derived.Lib.SliceRun
import Derived.OpenShut
import Derived.ChangeArms
import Derived.ChangeOld
import Derived.DataReads
import Derived.DataElems
import Derived.Test.YtgliiknfmlmddaaMw15
namespace Go.Proofs.Ytgliiknfmlmddaa
open Go.RowKit

theorem SpcV.b {s : Spc} (h : SpcV s) (hm : s.mounts.length ≤ 1000) : SpcB s := ⟨h.files.b, hm⟩
section
set_option maxRecDepth 10000
set_option maxHeartbeats 1000000
theorem Gspace (l : List Int) (a : Nat) (ha : a ≤ 10000000) : GenF Try.prog 12 l a [] 1100 (fun r => ∃ s, r = .agg (spcA s) ∧ SpcV s ∧ s.mounts.length ≤ 3) := by
  refine enter Try.func12 rfl rfl rfl rfl rfl 1 rfl ?_
  refine p_sr (fun K hK => ?_)
  refine al_p rfl (s_alloc (by repeat constructor) ?_)
  refine al_nil (x_then (hK _ ?_))
  clear hK K
  refine p_sr (fun K hK => ?_)
  refine p_mv ?_
  refine al_p rfl (s_gen 0 (hc := Gfiles l _ (by omega)) (hR := ?_))
  rintro r a1 ha1 ⟨f1, rfl, hv1, hp1⟩
  refine ⟨rfl, _, (by repeat constructor), ?_⟩
  refine al_p rfl (st_le (y := .agg (spcA ⟨f1, []⟩)) (st_build (by repeat (first | exact FillA.nil _ | (apply FillA.cons; (focus exact rfl); (focus exact rfl); (focus exact rfl); (focus exact rfl); (focus exact rfl); (focus (repeat constructor))))) ⟨rfl, rfl⟩) (by repeat (first | exact LeA.refl _ | exact LeA.nil _ | exact LeL.refl _ | refine LeA.agg ?_ | refine LeA.tup ?_ | exact LeL.nil | refine LeL.cons ?_ ?_ | exact LeA.any _)) ?_)
  refine al_p rfl (s_alloc (by repeat constructor) ?_)
  refine p_st ?_
  refine al_nil (x_then (hK _ ?_))
  clear hK K
  refine aw_seq (fun K hK => ?_)
  refine p_sr (fun K hK => ?_)
  refine p_mv ?_
  refine al_p rfl (s_gen 0 (hc := Gn l _ (4) (by omega) (by omega)) (hR := ?_))
  rintro r a2 ha2 ⟨k2, rfl, p2, q2, o2⟩
  refine ⟨rfl, _, (by repeat constructor), ?_⟩
  refine p_as ?_
  refine al_nil (x_then (hK _ ?_))
  clear hK K
  refine aw_block ?_
  obtain ⟨M, rfl⟩ := Int.eq_ofNat_of_zero_le p2
  have hM : M ≤ 3 := by omega
  refine aw_loopW (fun n t => ∃ (j b : Nat) (s : Spc), j ≤ M ∧ n = j ∧ b + 10 * j ≤ a + 1001 + 10 * M ∧ SpcV s ∧ s.mounts.length + j ≤ M ∧ t = ⟨look [(0, .bp 0 0), (2, .bp 1 0), (3, .bp 2 0), (4, .v (.int .i64 (j : Int)))], ⟨[srcA l b, [.v (.slice none 0 0), .v (.slice none 0 0)], spcA s], []⟩⟩) (M) ((wk 3 0)) (⟨M, _, ⟨f1, []⟩, Nat.le_refl _, rfl, by omega, ⟨hv1, hp1, fun i m hi => by simp at hi⟩, by simp, rfl⟩) ?_
  rintro n t ⟨j, b, s, hj, rfl, hb, hv, hm, rfl⟩
  have hsb := hv.b (by omega)
  refine aw_seq (fun K hK => ?_)
  refine p_sr (fun K hK => ?_)
  refine p_mv ?_
  refine al_p rfl (st_gtr rfl rfl ?_)
  refine al_nil (x_then (hK _ ?_))
  clear hK K
  refine aw_cond rfl (fun hb1 => ?_) (fun hb1 => ?_)
  · have hc1 := bp hb1
    refine aw_skip ?_
    refine x_then ?_
    refine hK _ ?_
    clear hK K
    refine aw_seq (fun K hK => ?_)
    refine aw_block ?_
    refine aw_midI (fun t => ∃ (dev : Int) (x : Fil) (b2 : Nat), b2 ≤ b + 10 ∧ t = ⟨look [(0, .bp 0 0), (2, .bp 1 0), (3, .bp 2 0), (4, .v (.int .i64 (n : Int))), (5, .bp 3 0), (6, .v (.int .i64 (addL s dev x).2))], ⟨[srcA l b2, [.v (.slice none 0 0), .v (.slice none 0 0)], spcA s, spcA (addL s dev x).1], []⟩⟩) ?_ ?_
    · skip
      refine aw_draw (fun h => ∃ x y z, h.bx = [x, y, spcA s] ++ z) 14 (by kernel_rfl) ?_
      first | refine aa_t (i := 0) rfl rfl (by kernel_rfl) (by first | rfl | exact wan_y rfl rfl (beq_tt ‹_›) | exact wan_y rfl rfl (beq_ff ‹_›) | exact wan_y rfl rfl (by simp [*])) (fun h0 hS => st_loadBW (row := spcA s) rfl (by obtain ⟨_, _, _, e⟩ := hS; rw [e]; rfl) rfl ⟨rfl, rfl⟩) ⟨_, _, _, rfl⟩ ?_ | refine aa_t (i := 0) rfl rfl (by kernel_rfl) (by first | rfl | exact wan_y rfl rfl (beq_tt ‹_›) | exact wan_y rfl rfl (beq_ff ‹_›) | exact wan_y rfl rfl (by simp [*])) (fun h0 hS => st_loadBE (row := spcA s) rfl (by obtain ⟨_, _, _, e⟩ := hS; rw [e]; rfl) (Nat.le_of_ble_eq_true rfl) rfl ⟨rfl, rfl⟩) ⟨_, _, _, rfl⟩ ?_ | refine aa_t (i := 0) rfl rfl (by kernel_rfl) (by first | rfl | exact wan_y rfl rfl (beq_tt ‹_›) | exact wan_y rfl rfl (beq_ff ‹_›) | exact wan_y rfl rfl (by simp [*])) (fun h0 hS => st_loadBW rfl rfl rfl ⟨rfl, rfl⟩) ⟨_, _, _, rfl⟩ ?_
      refine aa_t (i := 1) rfl rfl (by kernel_rfl) (by first | rfl | exact wan_y rfl rfl (beq_tt ‹_›) | exact wan_y rfl rfl (beq_ff ‹_›) | exact wan_y rfl rfl (by simp [*])) (fun h0 hS => st_move rfl ⟨rfl, rfl⟩) ⟨_, _, _, rfl⟩ ?_
      refine aa_t (i := 3) rfl rfl (by kernel_rfl) (by first | rfl | exact wan_y rfl rfl (beq_tt ‹_›) | exact wan_y rfl rfl (beq_ff ‹_›) | exact wan_y rfl rfl (by simp [*])) (fun h0 hS => st_move rfl ⟨rfl, rfl⟩) ⟨_, _, _, rfl⟩ ?_
      refine aa_t (i := 4) rfl rfl (by kernel_rfl) (by first | rfl | exact wan_y rfl rfl (beq_tt ‹_›) | exact wan_y rfl rfl (beq_ff ‹_›) | exact wan_y rfl rfl (by simp [*])) (fun h0 hS => st_fieldB rfl ⟨rfl, rfl⟩) ⟨_, _, _, rfl⟩ ?_
      first | refine aa_t (i := 5) rfl rfl (by kernel_rfl) (by first | rfl | exact wan_y rfl rfl (beq_tt ‹_›) | exact wan_y rfl rfl (beq_ff ‹_›) | exact wan_y rfl rfl (by simp [*])) (fun h0 hS => st_loadBW (row := spcA s) rfl (by obtain ⟨_, _, _, e⟩ := hS; rw [e]; rfl) rfl ⟨rfl, rfl⟩) ⟨_, _, _, rfl⟩ ?_ | refine aa_t (i := 5) rfl rfl (by kernel_rfl) (by first | rfl | exact wan_y rfl rfl (beq_tt ‹_›) | exact wan_y rfl rfl (beq_ff ‹_›) | exact wan_y rfl rfl (by simp [*])) (fun h0 hS => st_loadBE (row := spcA s) rfl (by obtain ⟨_, _, _, e⟩ := hS; rw [e]; rfl) (Nat.le_of_ble_eq_true rfl) rfl ⟨rfl, rfl⟩) ⟨_, _, _, rfl⟩ ?_ | refine aa_t (i := 5) rfl rfl (by kernel_rfl) (by first | rfl | exact wan_y rfl rfl (beq_tt ‹_›) | exact wan_y rfl rfl (beq_ff ‹_›) | exact wan_y rfl rfl (by simp [*])) (fun h0 hS => st_loadBN rfl rfl rfl ⟨rfl, rfl⟩) ⟨_, _, _, rfl⟩ ?_
      refine aa_two (i := 2) (j := 11) (by kernel_rfl) rfl rfl (by first | rfl | exact wan_y rfl rfl (beq_tt ‹_›) | exact wan_y rfl rfl (beq_ff ‹_›) | exact wan_y rfl rfl (by simp [*])) rfl rfl (by first | rfl | exact wan_y rfl rfl (beq_tt ‹_›) | exact wan_y rfl rfl (beq_ff ‹_›) | exact wan_y rfl rfl (by simp [*])) ?_ ?_
      · refine s_gen 0 (hc := Grange l _ (1) (2) (by omega) (by omega) (by omega) (by omega)) (hR := ?_)
        rintro r a3 ha3 ⟨k3, rfl, p3, q3⟩
        refine ⟨rfl, _, (by repeat constructor), ?_⟩
        refine ⟨.inr ⟨_, _, _, rfl⟩, ?_⟩
        refine aa_two (i := 6) (j := 11) (by kernel_rfl) rfl rfl (by first | rfl | exact wan_y rfl rfl (beq_tt ‹_›) | exact wan_y rfl rfl (beq_ff ‹_›) | exact wan_y rfl rfl (by simp [*])) rfl rfl (by first | rfl | exact wan_y rfl rfl (beq_tt ‹_›) | exact wan_y rfl rfl (beq_ff ‹_›) | exact wan_y rfl rfl (by simp [*])) ?_ ?_
        · refine s_gen 0 (hc := Gfile l _ s.files (by omega) hv.files.b hv.files.ne) (hR := ?_)
          rintro r a4 ha4 ⟨x4, rfl⟩
          refine ⟨rfl, _, (by repeat constructor), ?_⟩
          refine ⟨.inr ⟨_, _, _, rfl⟩, ?_⟩
          refine aa_two (i := 7) (j := 11) (by kernel_rfl) rfl rfl (by first | rfl | exact wan_y rfl rfl (beq_tt ‹_›) | exact wan_y rfl rfl (beq_ff ‹_›) | exact wan_y rfl rfl (by simp [*])) rfl rfl (by first | rfl | exact wan_y rfl rfl (beq_tt ‹_›) | exact wan_y rfl rfl (beq_ff ‹_›) | exact wan_y rfl rfl (by simp [*])) ?_ ?_
          · refine q_call (Radd s _ _ hsb) ?_
            rintro r rfl
            refine ⟨.inr ⟨_, _, _, rfl⟩, ?_⟩
            refine aa_t (i := 8) rfl rfl (by kernel_rfl) (by first | rfl | exact wan_y rfl rfl (beq_tt ‹_›) | exact wan_y rfl rfl (beq_ff ‹_›) | exact wan_y rfl rfl (by simp [*])) (fun h0 hS => st_move rfl ⟨rfl, rfl⟩) ⟨_, _, _, rfl⟩ ?_
            refine aa_t (i := 9) rfl rfl (by kernel_rfl) (by first | rfl | exact wan_y rfl rfl (beq_tt ‹_›) | exact wan_y rfl rfl (beq_ff ‹_›) | exact wan_y rfl rfl (by simp [*])) (fun h0 hS => st_extract rfl rfl ⟨rfl, rfl⟩) ⟨_, _, _, rfl⟩ ?_
            refine aa_t (i := 10) rfl rfl (by kernel_rfl) (by first | rfl | exact wan_y rfl rfl (beq_tt ‹_›) | exact wan_y rfl rfl (beq_ff ‹_›) | exact wan_y rfl rfl (by simp [*])) (fun h0 hS => st_extract rfl rfl ⟨rfl, rfl⟩) ⟨_, _, _, rfl⟩ ?_
            refine aa_c (i := 11) rfl rfl (by kernel_rfl) (by first | rfl | exact wan_y rfl rfl (beq_tt ‹_›) | exact wan_y rfl rfl (beq_ff ‹_›) | exact wan_y rfl rfl (by simp [*])) (s_alloc (by repeat constructor) ?_)
            refine ⟨.inr ⟨_, _, _, rfl⟩, ?_⟩
            refine aa_c0 (i := 12) rfl (by kernel_rfl) (by first | rfl | exact wan_y rfl rfl (beq_tt ‹_›) | exact wan_y rfl rfl (beq_ff ‹_›) | exact wan_y rfl rfl (by simp [*])) (s_store rfl rfl rfl rfl rfl rfl (by repeat constructor) (by repeat constructor) ?_)
            refine ⟨.inr ⟨_, _, _, rfl⟩, ?_⟩
            refine aa_t (i := 13) rfl rfl (by kernel_rfl) (by first | rfl | exact wan_y rfl rfl (beq_tt ‹_›) | exact wan_y rfl rfl (beq_ff ‹_›) | exact wan_y rfl rfl (by simp [*])) (fun h0 hS => st_assign rfl ⟨rfl, rfl⟩) ⟨_, _, _, rfl⟩ ?_
            refine aa_done (by kernel_rfl) ?_ _
            refine x_then ?_
            refine ⟨_, ⟨_, _, _, ?_, rfl⟩, (wk 4 0)⟩
            omega
          · refine s_alloc (by repeat constructor) ?_
            refine ⟨.inr ⟨_, _, _, rfl⟩, ?_⟩
            refine aa_c (i := 7) rfl rfl (by kernel_rfl) (by first | rfl | exact wan_y rfl rfl (beq_tt ‹_›) | exact wan_y rfl rfl (beq_ff ‹_›) | exact wan_y rfl rfl (by simp [*])) (q_call (Radd s _ _ hsb) ?_)
            rintro r rfl
            refine ⟨.inr ⟨_, _, _, rfl⟩, ?_⟩
            refine aa_t (i := 8) rfl rfl (by kernel_rfl) (by first | rfl | exact wan_y rfl rfl (beq_tt ‹_›) | exact wan_y rfl rfl (beq_ff ‹_›) | exact wan_y rfl rfl (by simp [*])) (fun h0 hS => st_move rfl ⟨rfl, rfl⟩) ⟨_, _, _, rfl⟩ ?_
            refine aa_t (i := 9) rfl rfl (by kernel_rfl) (by first | rfl | exact wan_y rfl rfl (beq_tt ‹_›) | exact wan_y rfl rfl (beq_ff ‹_›) | exact wan_y rfl rfl (by simp [*])) (fun h0 hS => st_extract rfl rfl ⟨rfl, rfl⟩) ⟨_, _, _, rfl⟩ ?_
            refine aa_t (i := 10) rfl rfl (by kernel_rfl) (by first | rfl | exact wan_y rfl rfl (beq_tt ‹_›) | exact wan_y rfl rfl (beq_ff ‹_›) | exact wan_y rfl rfl (by simp [*])) (fun h0 hS => st_extract rfl rfl ⟨rfl, rfl⟩) ⟨_, _, _, rfl⟩ ?_
            refine aa_c0 (i := 12) rfl (by kernel_rfl) (by first | rfl | exact wan_y rfl rfl (beq_tt ‹_›) | exact wan_y rfl rfl (beq_ff ‹_›) | exact wan_y rfl rfl (by simp [*])) (s_store rfl rfl rfl rfl rfl rfl (by repeat constructor) (by repeat constructor) ?_)
            refine ⟨.inr ⟨_, _, _, rfl⟩, ?_⟩
            refine aa_t (i := 13) rfl rfl (by kernel_rfl) (by first | rfl | exact wan_y rfl rfl (beq_tt ‹_›) | exact wan_y rfl rfl (beq_ff ‹_›) | exact wan_y rfl rfl (by simp [*])) (fun h0 hS => st_assign rfl ⟨rfl, rfl⟩) ⟨_, _, _, rfl⟩ ?_
            refine aa_done (by kernel_rfl) ?_ _
            refine x_then ?_
            refine ⟨_, ⟨_, _, _, ?_, rfl⟩, (wk 4 0)⟩
            omega
        · refine s_alloc (by repeat constructor) ?_
          refine ⟨.inr ⟨_, _, _, rfl⟩, ?_⟩
          refine aa_c (i := 6) rfl rfl (by kernel_rfl) (by first | rfl | exact wan_y rfl rfl (beq_tt ‹_›) | exact wan_y rfl rfl (beq_ff ‹_›) | exact wan_y rfl rfl (by simp [*])) (s_gen 0 (hc := Gfile l _ s.files (by omega) hv.files.b hv.files.ne) (hR := ?_))
          rintro r a5 ha5 ⟨x5, rfl⟩
          refine ⟨rfl, _, (by repeat constructor), ?_⟩
          refine ⟨.inr ⟨_, _, _, rfl⟩, ?_⟩
          refine aa_c (i := 7) rfl rfl (by kernel_rfl) (by first | rfl | exact wan_y rfl rfl (beq_tt ‹_›) | exact wan_y rfl rfl (beq_ff ‹_›) | exact wan_y rfl rfl (by simp [*])) (q_call (Radd s _ _ hsb) ?_)
          rintro r rfl
          refine ⟨.inr ⟨_, _, _, rfl⟩, ?_⟩
          refine aa_t (i := 8) rfl rfl (by kernel_rfl) (by first | rfl | exact wan_y rfl rfl (beq_tt ‹_›) | exact wan_y rfl rfl (beq_ff ‹_›) | exact wan_y rfl rfl (by simp [*])) (fun h0 hS => st_move rfl ⟨rfl, rfl⟩) ⟨_, _, _, rfl⟩ ?_
          refine aa_t (i := 9) rfl rfl (by kernel_rfl) (by first | rfl | exact wan_y rfl rfl (beq_tt ‹_›) | exact wan_y rfl rfl (beq_ff ‹_›) | exact wan_y rfl rfl (by simp [*])) (fun h0 hS => st_extract rfl rfl ⟨rfl, rfl⟩) ⟨_, _, _, rfl⟩ ?_
          refine aa_t (i := 10) rfl rfl (by kernel_rfl) (by first | rfl | exact wan_y rfl rfl (beq_tt ‹_›) | exact wan_y rfl rfl (beq_ff ‹_›) | exact wan_y rfl rfl (by simp [*])) (fun h0 hS => st_extract rfl rfl ⟨rfl, rfl⟩) ⟨_, _, _, rfl⟩ ?_
          refine aa_c0 (i := 12) rfl (by kernel_rfl) (by first | rfl | exact wan_y rfl rfl (beq_tt ‹_›) | exact wan_y rfl rfl (beq_ff ‹_›) | exact wan_y rfl rfl (by simp [*])) (s_store rfl rfl rfl rfl rfl rfl (by repeat constructor) (by repeat constructor) ?_)
          refine ⟨.inr ⟨_, _, _, rfl⟩, ?_⟩
          refine aa_t (i := 13) rfl rfl (by kernel_rfl) (by first | rfl | exact wan_y rfl rfl (beq_tt ‹_›) | exact wan_y rfl rfl (beq_ff ‹_›) | exact wan_y rfl rfl (by simp [*])) (fun h0 hS => st_assign rfl ⟨rfl, rfl⟩) ⟨_, _, _, rfl⟩ ?_
          refine aa_done (by kernel_rfl) ?_ _
          refine x_then ?_
          refine ⟨_, ⟨_, _, _, ?_, rfl⟩, (wk 4 0)⟩
          omega
      · refine s_alloc (by repeat constructor) ?_
        refine ⟨.inr ⟨_, _, _, rfl⟩, ?_⟩
        refine aa_c (i := 2) rfl rfl (by kernel_rfl) (by first | rfl | exact wan_y rfl rfl (beq_tt ‹_›) | exact wan_y rfl rfl (beq_ff ‹_›) | exact wan_y rfl rfl (by simp [*])) (s_gen 0 (hc := Grange l _ (1) (2) (by omega) (by omega) (by omega) (by omega)) (hR := ?_))
        rintro r a6 ha6 ⟨k6, rfl, p6, q6⟩
        refine ⟨rfl, _, (by repeat constructor), ?_⟩
        refine ⟨.inr ⟨_, _, _, rfl⟩, ?_⟩
        refine aa_c (i := 6) rfl rfl (by kernel_rfl) (by first | rfl | exact wan_y rfl rfl (beq_tt ‹_›) | exact wan_y rfl rfl (beq_ff ‹_›) | exact wan_y rfl rfl (by simp [*])) (s_gen 0 (hc := Gfile l _ s.files (by omega) hv.files.b hv.files.ne) (hR := ?_))
        rintro r a7 ha7 ⟨x7, rfl⟩
        refine ⟨rfl, _, (by repeat constructor), ?_⟩
        refine ⟨.inr ⟨_, _, _, rfl⟩, ?_⟩
        refine aa_c (i := 7) rfl rfl (by kernel_rfl) (by first | rfl | exact wan_y rfl rfl (beq_tt ‹_›) | exact wan_y rfl rfl (beq_ff ‹_›) | exact wan_y rfl rfl (by simp [*])) (q_call (Radd s _ _ hsb) ?_)
        rintro r rfl
        refine ⟨.inr ⟨_, _, _, rfl⟩, ?_⟩
        refine aa_t (i := 8) rfl rfl (by kernel_rfl) (by first | rfl | exact wan_y rfl rfl (beq_tt ‹_›) | exact wan_y rfl rfl (beq_ff ‹_›) | exact wan_y rfl rfl (by simp [*])) (fun h0 hS => st_move rfl ⟨rfl, rfl⟩) ⟨_, _, _, rfl⟩ ?_
        refine aa_t (i := 9) rfl rfl (by kernel_rfl) (by first | rfl | exact wan_y rfl rfl (beq_tt ‹_›) | exact wan_y rfl rfl (beq_ff ‹_›) | exact wan_y rfl rfl (by simp [*])) (fun h0 hS => st_extract rfl rfl ⟨rfl, rfl⟩) ⟨_, _, _, rfl⟩ ?_
        refine aa_t (i := 10) rfl rfl (by kernel_rfl) (by first | rfl | exact wan_y rfl rfl (beq_tt ‹_›) | exact wan_y rfl rfl (beq_ff ‹_›) | exact wan_y rfl rfl (by simp [*])) (fun h0 hS => st_extract rfl rfl ⟨rfl, rfl⟩) ⟨_, _, _, rfl⟩ ?_
        refine aa_c0 (i := 12) rfl (by kernel_rfl) (by first | rfl | exact wan_y rfl rfl (beq_tt ‹_›) | exact wan_y rfl rfl (beq_ff ‹_›) | exact wan_y rfl rfl (by simp [*])) (s_store rfl rfl rfl rfl rfl rfl (by repeat constructor) (by repeat constructor) ?_)
        refine ⟨.inr ⟨_, _, _, rfl⟩, ?_⟩
        refine aa_t (i := 13) rfl rfl (by kernel_rfl) (by first | rfl | exact wan_y rfl rfl (beq_tt ‹_›) | exact wan_y rfl rfl (beq_ff ‹_›) | exact wan_y rfl rfl (by simp [*])) (fun h0 hS => st_assign rfl ⟨rfl, rfl⟩) ⟨_, _, _, rfl⟩ ?_
        refine aa_done (by kernel_rfl) ?_ _
        refine x_then ?_
        refine ⟨_, ⟨_, _, _, ?_, rfl⟩, (wk 4 0)⟩
        omega
    · rintro t ⟨dev, x, b2, hb2, rfl⟩
      refine p_sr (fun K hK => ?_)
      refine p_mv ?_
      first | refine al_p rfl (st_eql rfl rfl ?_) | refine al_p rfl (st_eqlS rfl rfl ?_) | refine al_p rfl (st_eqlB (by kernel_rfl) rfl rfl ?_)
      refine al_nil (x_then (hK _ ?_))
      clear hK K
      refine aw_cond rfl (fun hb2 => ?_) (fun hb2 => ?_)
      · have hc2 := bp hb2
        obtain ⟨hv2, he2⟩ := add_valid hv dev x (by omega)
        have hm2 : (addL s dev x).1.mounts.length = s.mounts.length + 1 := by rw [he2]; simp
        refine aw_region ?_
        refine al_p rfl (st_loadBW rfl rfl rfl ?_)
        refine p_st ?_
        refine al_nil ?_
        refine x_blockN ?_
        refine x_then ?_
        refine hK _ ?_
        clear hK K
        refine aw_region ?_
        refine p_mv ?_
        refine al_p rfl (st_sub64 rfl rfl (by omega) ?_)
        refine p_as ?_
        refine al_nil ?_
        refine x_then ?_
        first | refine ⟨n - 1, _, by omega, ⟨n - 1, _, (addL s dev x).1, by omega, rfl, ?_, hv2, ?_, rfl⟩, (by rw [show ((n - 1 : Nat) : Int) = (n : Int) - 1 by omega]; exact weak_of 3 0 rfl rfl rfl rfl ((by repeat (first | exact Sub.nil | refine Sub.cons _ _ _ rfl rfl ?_ | refine Sub.any _ _ ?_ | refine Sub.sl _ _ _ _ _ rfl ?_ | refine Sub.slnil _ _ _ rfl ?_))))⟩ | refine ⟨n - 1, _, by omega, ⟨n - 1, _, s, by omega, rfl, ?_, hv, ?_, rfl⟩, (by rw [show ((n - 1 : Nat) : Int) = (n : Int) - 1 by omega]; exact weak_of 3 0 rfl rfl rfl rfl ((by repeat (first | exact Sub.nil | refine Sub.cons _ _ _ rfl rfl ?_ | refine Sub.any _ _ ?_ | refine Sub.sl _ _ _ _ _ rfl ?_ | refine Sub.slnil _ _ _ rfl ?_))))⟩
        · omega
        · omega
      · have hc2 := bp hb2
        refine aw_skip ?_
        refine x_blockN ?_
        refine x_then ?_
        refine hK _ ?_
        clear hK K
        refine aw_region ?_
        refine p_mv ?_
        refine al_p rfl (st_sub64 rfl rfl (by omega) ?_)
        refine p_as ?_
        refine al_nil ?_
        refine x_then ?_
        first | refine ⟨n - 1, _, by omega, ⟨n - 1, _, (addL s dev x).1, by omega, rfl, ?_, hv2, ?_, rfl⟩, (by rw [show ((n - 1 : Nat) : Int) = (n : Int) - 1 by omega]; exact weak_of 3 0 rfl rfl rfl rfl ((by repeat (first | exact Sub.nil | refine Sub.cons _ _ _ rfl rfl ?_ | refine Sub.any _ _ ?_ | refine Sub.sl _ _ _ _ _ rfl ?_ | refine Sub.slnil _ _ _ rfl ?_))))⟩ | refine ⟨n - 1, _, by omega, ⟨n - 1, _, s, by omega, rfl, ?_, hv, ?_, rfl⟩, (by rw [show ((n - 1 : Nat) : Int) = (n : Int) - 1 by omega]; exact weak_of 3 0 rfl rfl rfl rfl ((by repeat (first | exact Sub.nil | refine Sub.cons _ _ _ rfl rfl ?_ | refine Sub.any _ _ ?_ | refine Sub.sl _ _ _ _ _ rfl ?_ | refine Sub.slnil _ _ _ rfl ?_))))⟩
        · omega
        · omega
  · have hc1 := bp hb1
    refine aw_exit ?_
    refine x_thenE ?_
    clear hK K
    refine x_thenE ?_
    refine ABlock_out ?_
    refine x_then ?_
    refine hK _ ?_
    clear hK K
    refine p_sr (fun K hK => ?_)
    refine al_p rfl (st_loadBW rfl rfl rfl ?_)
    refine p_st ?_
    refine al_nil (x_then (hK _ ?_))
    clear hK K
    refine aw_ret ?_
    refine abody_ret none (by repeat (first | exact ResA.nil | (apply ResA.tmp; (focus exact rfl)) | (apply ResA.cellN; (focus exact inferInstance); (focus exact rfl); (focus exact rfl); (focus exact rfl)) | (apply ResA.cell1; (focus exact inferInstance); (focus exact rfl); (focus exact rfl); (focus exact rfl)))) rfl rfl rfl (LeA.refl _) ⟨_, rfl, rfl, b, by omega, rfl, s, rfl, hv, by omega⟩

end
end Go.Proofs.Ytgliiknfmlmddaa
namespace Go.Proofs.Ytgliiknfmlmddaa
open Go.RowKit

section
variable {P : Program} {ev : Operand → Option AV} {h : AH} {R : AV → AH → Prop} {d : Option Tmp} {ty : TypeId} {pos : String} {af : Array Edge} {gd : Option (Nat × Bool)}
theorem st_slit0B {T : TypeId} {E sz bytes k : Nat} {bx' : List (List AV)} [hE : Elm P T E sz bytes] (hs : SnocAt h.bx [] k bx') (hR : R (.bs k 0 sz 0 0) ⟨bx', h.tk⟩) : AStep P ⟨d, .buildSlice T 0 #[], ty, pos, af, gd⟩ ev h R := by
  intro E' G w ec hr he
  obtain ⟨hu, inf, z, hinf, hz, hzs, hsz, hby, hp⟩ := elm_spec hE.eq
  have c2 : (Instr.buildSlice T 0 #[]).run P w = .ok (.slice (some ⟨w.heap.size, 0, none⟩) 0 0) (w.alloc (.cells ([] : List Value).toArray E)) := by
    simp [Instr.buildSlice, run_underlying hu, sizeOf, typeInfo, hinf, Instr.fill, newRow]
    rw [show Array.map (fun _ => (default : Value)) (Array.range 0) = #[] from Array.eq_empty_of_size_eq_zero (by simp)]
  obtain ⟨G', q1, q2, q3⟩ := new_box (T := E) hr (us := []) (row := []) (by simp only [repL]) (by simp) hs
  simp only [rep] at q3
  obtain ⟨b, q4, q5⟩ := q3
  injection q5 with q5
  injection q5 with q5
  injection q5 with q5
  subst q5
  have c3 : (Instr.buildSlice T 0 ((#[] : Array (Nat × Operand)).map fun p => (p.1, ec p.2))).run P w = .ok (.slice (some ⟨w.heap.size, 0, none⟩) 0 0) (w.alloc (.cells ([] : List Value).toArray E)) := by simpa using c2
  simp only [execOp, Sem.run_bind, c3, Result.andThen_ok, Sem.run_pure]
  exact ⟨_, _, G', hR, q1, q2, by simp only [rep]; exact ⟨_, q4, rfl, Nat.le_refl _, Nat.zero_le _⟩⟩
end
end Go.Proofs.Ytgliiknfmlmddaa
namespace Go.Proofs.Ytgliiknfmlmddaa
open Go.RowKit

theorem clone_row {sz cap : Nat} {rows : List (List AV)} : (([] : List AV).drop 0).take (0 * sz) ++ rows.flatten ++ List.replicate ((cap - (0 + rows.length)) * sz) .any = rowsB sz cap rows := by
  unfold rowsB
  simp
theorem mnt_plain (l : List Mnt) : ∀ r ∈ l.map mntA, ∀ x ∈ r, ∃ v, x = .v v := by
  intro r hr x hx
  obtain ⟨c, _, rfl⟩ := List.mem_map.1 hr
  simp [mntA] at hx
  rcases hx with h | h | h <;> exact ⟨_, h⟩
theorem bp_plain {n m sz cap : Nat} {rows : List (List AV)} (h : ∀ r ∈ rows, ∀ x ∈ r, ∃ v, x = .v v) : bpLtL n m (rowsB sz cap rows) = true :=
  bpLt_rowsB fun r hr => bpLtL_all.2 fun x hx => by obtain ⟨v, rfl⟩ := h r hr x hx; rfl
theorem NB_same {ns : List Nod} {cap j : Nat} {n : Nod} (h : ns[j]? = some n) : SetAt (NB ns cap) (0 + j * 8 + 7) [.sl 2 (n.entries.map entA) none] (NB ns cap) := by
  have key := NB_set (cap1 := cap) (n' := n) (k := 7) (cs := [.sl 2 (n.entries.map entA) none]) h (by repeat constructor) (by simp)
  have e : ns.set j n = ns := by
    obtain ⟨h1, h2⟩ := List.getElem?_eq_some_iff.1 h
    rw [← h2, List.set_getElem_self]
  rwa [e] at key
theorem back_newR {bx : List (List AV)} (r1 r2 : List AV) (h1 : renL (backS [] bx.length) r1 = r1) (h2 : renL (backS [] bx.length) r2 = r2) : Back bx [] [r1, r2] (bx ++ [r1, r2]) := by
  refine ⟨by simp, fun i row _ h => ?_, fun k i row h => by simp at h, fun k row h => ?_⟩
  · rw [List.getElem?_append_left (List.getElem?_eq_some_iff.1 h).1]; exact h
  · rw [List.getElem?_append_right (by omega), show bx.length + k - bx.length = k by omega]
    simp only [List.length_nil, Nat.zero_add] at h
    match k, h with
    | 0, h => injection h with h; subst h; rw [h1]; rfl
    | 1, h => injection h with h; subst h; rw [h2]; rfl
    | k + 2, h => simp at h
section
set_option maxRecDepth 10000
set_option maxHeartbeats 1000000
theorem PcloneN (ns : List Nod) (h1 : ns.length ≤ 1000) (h0 : 0 < ns.length) : ACall Try.prog 75 [.sl 8 (ns.map nodA) none] [] (fun r b t => t = [] ∧ ∃ cap, ns.length ≤ cap ∧ r = .bs 1 0 8 ns.length cap ∧ b = [[], NB ns cap]) := by
  have hml : (ns.map nodA).length = ns.length := by simp
  refine enter Try.func75 rfl rfl rfl rfl rfl 2 rfl ?_
  refine p_sr (fun K hK => ?_)
  refine p_as ?_
  refine al_nil (x_then (hK _ ?_))
  clear hK K
  refine aw_seq (fun K hK => ?_)
  refine p_sr (fun K hK => ?_)
  refine p_mv ?_
  refine al_p rfl (st_eqNil rfl rfl ?_)
  intro b hb
  refine al_nil (x_then (hK _ ?_))
  clear hK K
  refine aw_cond rfl (fun hb1 => ?_) (fun hb1 => ?_)
  · have hc1 := bp hb1
    exfalso
    have := hb hb1
    rw [this] at hml
    simp at hml
    omega
  · have hc1 := bp hb1
    refine aw_skip ?_
    refine x_then ?_
    refine hK _ ?_
    clear hK K
    refine p_sr (fun K hK => ?_)
    refine al_p rfl (st_slit0B (k := 0) (by repeat constructor) ?_)
    refine p_mv ?_
    refine al_p rfl (st_appendB rfl rfl rfl (Nat.le_of_ble_eq_true rfl) (SrcA.sl _ _) (by omega) (by omega) (fun h => absurd h (by omega)) ?_)
    rintro hg cap k bx2 hcp hs
    rw [clone_row] at hs
    obtain ⟨rfl, rfl⟩ : k = 1 ∧ bx2 = [_, NB ns cap] := hs.eq
    refine p_as ?_
    refine al_nil (x_then (hK _ ?_))
    clear hK K
    refine aw_ret ?_
    refine abody_ret (r := .bs 1 0 8 ns.length cap) none (by repeat (first | exact ResA.nil | (apply ResA.tmp; (focus exact rfl)) | (apply ResA.cellN; (focus exact inferInstance); (focus exact rfl); (focus exact rfl); (focus exact rfl)) | (apply ResA.cell1; (focus exact inferInstance); (focus exact rfl); (focus exact rfl); (focus exact rfl)))) rfl rfl (by simp [bpLtB, bpLtL, bp_NB]) (LeA.of_eq (by rw [show reT none (tupA [AV.bs 1 0 8 (0 + (ns.map nodA).length) cap]) = AV.bs 1 0 8 (0 + (ns.map nodA).length) cap from rfl, hml, Nat.zero_add])) ⟨rfl, cap, by omega, rfl, rfl⟩

theorem PcloneE (es : List Ent) (h1 : es.length ≤ 1000) : AFn Try.prog 76 [.sl 2 (es.map entA) none] (fun x => x = .sl 2 (es.map entA) none) := by
  refine enter Try.func76 rfl rfl rfl rfl rfl 0 rfl ?_
  refine p_sr (fun K hK => ?_)
  refine p_as ?_
  refine al_nil (x_then (hK _ ?_))
  clear hK K
  refine aw_seq (fun K hK => ?_)
  refine p_sr (fun K hK => ?_)
  refine p_mv ?_
  refine al_p rfl (st_eqNil rfl rfl ?_)
  intro b hb
  refine al_nil (x_then (hK _ ?_))
  clear hK K
  refine aw_cond rfl (fun hb1 => ?_) (fun hb1 => ?_)
  · have hc1 := bp hb1
    refine p_sr (fun K hK => ?_)
    refine p_as ?_
    refine al_nil (x_then (hK _ ?_))
    clear hK K
    refine aw_ret ?_
    refine x_thenR ?_
    clear hK K
    refine abody_ret (xs := [.v (.slice none 0 0)]) (r := .sl 2 [] none) none (by repeat (first | exact ResA.nil | (apply ResA.tmp; (focus exact rfl)) | (apply ResA.cellN; (focus exact inferInstance); (focus exact rfl); (focus exact rfl); (focus exact rfl)) | (apply ResA.cell1; (focus exact inferInstance); (focus exact rfl); (focus exact rfl); (focus exact rfl)))) rfl rfl rfl (LeA.nil _) ⟨rfl, rfl, ?_⟩
    rw [hb hc1]
  · have hc1 := bp hb1
    refine aw_skip ?_
    refine x_then ?_
    refine hK _ ?_
    clear hK K
    refine p_sr (fun K hK => ?_)
    refine al_p rfl (s_slit0 (by repeat constructor) ?_)
    refine p_mv ?_
    first | refine al_p rfl (s_append rfl rfl rfl (by simp <;> omega) (by repeat constructor) ?_) | refine al_p rfl (s_append0 rfl rfl (by simp <;> omega) (by repeat constructor) ?_)
    refine p_as ?_
    refine al_nil (x_then (hK _ ?_))
    clear hK K
    refine aw_ret ?_
    refine e_ret ?_
    rfl

theorem PcloneMT (ms : List Mnt) (h1 : ms.length ≤ 1000) : AFnT Try.prog 74 [.sl 3 (ms.map mntA) none] (fun g => .sl 3 (ms.map mntA) g) (60, 3, ms.map mntA) := by
  refine enter Try.func74 rfl rfl rfl rfl rfl 0 rfl ?_
  refine p_sr (fun K hK => ?_)
  refine p_as ?_
  refine al_nil (x_then (hK _ ?_))
  clear hK K
  refine aw_seq (fun K hK => ?_)
  refine p_sr (fun K hK => ?_)
  refine p_mv ?_
  refine al_p rfl (st_eqNil rfl rfl ?_)
  intro b hb
  refine al_nil (x_then (hK _ ?_))
  clear hK K
  refine aw_cond rfl (fun hb1 => ?_) (fun hb1 => ?_)
  · have hc1 := bp hb1
    refine aw_midI (fun t => t = ⟨look [(2, .v (.slice none 0 0))], ⟨[], []⟩⟩) ?_ ?_
    · skip
      refine aw_region ?_
      refine p_as ?_
      refine al_nil ?_
      refine x_then ?_
      exact ⟨_, rfl, (wk 0 0)⟩
    · rintro t rfl
      refine aw_nilTok 2 60 3 rfl (by repeat constructor) ?_
      rw [hb hb1]
      refine aw_ret ?_
      refine x_thenR ?_
      clear hK K
      refine abody_ret (some 0) (by repeat (first | exact ResA.nil | (apply ResA.tmp; (focus exact rfl)) | (apply ResA.cellN; (focus exact inferInstance); (focus exact rfl); (focus exact rfl); (focus exact rfl)) | (apply ResA.cell1; (focus exact inferInstance); (focus exact rfl); (focus exact rfl); (focus exact rfl)))) rfl rfl rfl (LeA.refl _) ⟨rfl, rfl, rfl⟩
  · have hc1 := bp hb1
    refine aw_skip ?_
    refine x_then ?_
    refine hK _ ?_
    clear hK K
    refine p_sr (fun K hK => ?_)
    refine al_p rfl (s_slit0 (by repeat constructor) ?_)
    refine p_mv ?_
    first | refine al_p rfl (s_append rfl rfl rfl (by simp <;> omega) (by repeat constructor) ?_) | refine al_p rfl (s_append0 rfl rfl (by simp <;> omega) (by repeat constructor) ?_)
    refine p_as ?_
    refine al_nil (x_then (hK _ ?_))
    clear hK K
    refine aw_ret ?_
    refine abody_ret (some 0) (by repeat (first | exact ResA.nil | (apply ResA.tmp; (focus exact rfl)) | (apply ResA.cellN; (focus exact inferInstance); (focus exact rfl); (focus exact rfl); (focus exact rfl)) | (apply ResA.cell1; (focus exact inferInstance); (focus exact rfl); (focus exact rfl); (focus exact rfl)))) rfl rfl rfl (LeA.refl _) ⟨rfl, rfl, rfl⟩

theorem PspcT (s : Spc) (hs : SpcB s) (hne : ∀ d ∈ s.files, 0 < d.nodes.length) : AFnT Try.prog 46 [.agg (spcA s)] (fun g => .agg [.sl 2 (s.files.map dvcA) none, .sl 3 (s.mounts.map mntA) g]) (60, 3, s.mounts.map mntA) := by
  have hm := hs.few
  have hfew := hs.files.few
  refine enter Try.func46 rfl rfl rfl rfl rfl 0 rfl ?_
  refine p_sr (fun K hK => ?_)
  first | refine al_p rfl (s_boxA rfl rfl (by repeat constructor) ?_) | refine al_p rfl (s_box rfl rfl (by repeat constructor) ?_)
  refine al_p rfl (s_alloc (by repeat constructor) ?_)
  refine al_nil (x_then (hK _ ?_))
  clear hK K
  refine p_sr (fun K hK => ?_)
  refine al_p rfl (st_fieldB rfl ?_)
  refine al_p rfl (st_loadB1 rfl rfl rfl ?_)
  refine al_p rfl (s_callT rfl (by repeat (first | exact Args.nil | refine Args.cons _ _ _ _ _ rfl (argOk_clean rfl) ?_ | refine Args.cons _ _ _ _ _ rfl (argOk_nil _) ?_ | refine Args.cons _ _ _ _ _ rfl (argOk_era _) ?_ | refine Args.cons _ _ _ _ _ rfl (argOk_le rfl (by repeat (first | exact LeA.refl _ | exact LeA.nil _ | exact LeL.refl _ | refine LeA.agg ?_ | refine LeA.tup ?_ | exact LeL.nil | refine LeL.cons ?_ ?_ | exact LeA.any _))) ?_)) (PcloneMT s.mounts hm) (fun _ => rfl) (by repeat constructor) ?_)
  refine p_bd ?_
  refine al_p rfl (s_alloc (by repeat constructor) ?_)
  refine p_st ?_
  refine al_nil (x_then (hK _ ?_))
  clear hK K
  refine aw_seq (fun K hK => ?_)
  refine p_sr (fun K hK => ?_)
  refine al_p rfl (st_fieldB rfl ?_)
  refine al_p rfl (st_fieldB rfl ?_)
  refine al_p rfl (st_loadB1 rfl rfl rfl ?_)
  first | refine al_p rfl (st_len rfl ?_) | refine al_p rfl (st_lenS (by kernel_rfl) rfl ?_) | refine al_p rfl (st_len0 rfl ?_)
  refine p_mv ?_
  refine al_nil (x_then (hK _ ?_))
  clear hK K
  refine aw_block ?_
  refine aw_nilTokB 2 0 68 2 rfl rfl (by repeat constructor) (by repeat constructor) (by repeat constructor) ?_
  refine aw_loopW (fun m t => ∃ j : Nat, j ≤ s.files.length ∧ m = s.files.length - j ∧ t = ⟨look [(2, .bp 1 0), (3, .bp 2 0), (14, .sl 2 (s.files.map dvcA) none), (15, .v (.int .i64 ((s.files.map dvcA).length : Int))), (16, .v (.int .i64 (j : Int)))], ⟨[spcA s, [.v (.slice none 0 0), .v (.slice none 0 0)], [.sl 2 ((s.files.take j).map dvcA) (some 1), .sl 3 (s.mounts.map mntA) (some 0)]], [(60, 3, s.mounts.map mntA), (68, 2, (s.files.take j).map dvcA)]⟩⟩) (s.files.length) ((wk 3 2)) (⟨0, Nat.zero_le _, rfl, rfl⟩) ?_
  rintro m t ⟨j, hj, rfl, rfl⟩
  refine p_sr (fun K hK => ?_)
  first | refine al_p rfl (st_lss rfl rfl ?_) | refine al_p rfl (st_lssS rfl rfl ?_)
  refine al_nil (x_then (hK _ ?_))
  clear hK K
  refine aw_seq (fun K hK => ?_)
  refine aw_cond rfl (fun hb1 => ?_) (fun hb1 => ?_)
  · have hc1 := bp hb1
    obtain ⟨hlt, d, hd, hrow, e⟩ := row_at dvcA hc1
    have hdn := hs.files.nodes d (List.mem_of_getElem? hd)
    have hdp := hne d (List.mem_of_getElem? hd)
    refine aw_skip ?_
    refine x_then ?_
    refine hK _ ?_
    clear hK K
    refine aw_seq (fun K hK => ?_)
    refine aw_block ?_
    refine p_sr (fun K hK => ?_)
    refine al_p rfl (st_index rfl rfl rfl (by first | assumption | rfl) ?_)
    refine al_p rfl (st_loadFW rfl rfl ?_)
    refine al_p rfl (s_alloc (by repeat constructor) ?_)
    refine p_st ?_
    refine al_nil (x_then (hK _ ?_))
    clear hK K
    refine p_sr (fun K hK => ?_)
    refine al_p rfl (st_fieldB rfl ?_)
    refine al_p rfl (st_loadB1 rfl rfl rfl ?_)
    refine al_p rfl (s_callM [] rfl (.cons _ _ _ _ _ rfl (LeA.refl _) .nil) (by decide) .nil (PcloneN d.nodes hdn hdp) ?_)
    rintro r bc tc ⟨rfl, cap, hcap, rfl, rfl⟩
    refine ⟨rfl, _, (back_newR [] (NB d.nodes cap) (by simp [renL]) (ren_NB _ _ _) : Back _ [] _ [_, _, _, _, _, _]), ?_⟩
    refine p_as ?_
    refine al_nil (x_then (hK _ ?_))
    clear hK K
    refine aw_midI (fun t => t = ⟨look [(2, .bp 1 0), (3, .bp 2 0), (14, .sl 2 (s.files.map dvcA) none), (15, .v (.int .i64 ((s.files.map dvcA).length : Int))), (16, .v (.int .i64 (j : Int))), (5, .bp 3 0), (6, .sl 8 (d.nodes.map nodA) none)], ⟨[spcA s, [.v (.slice none 0 0), .v (.slice none 0 0)], [.sl 2 ((s.files.take j).map dvcA) (some 1), .sl 3 (s.mounts.map mntA) (some 0)], dvcA d], [(60, 3, s.mounts.map mntA), (68, 2, (s.files.take j).map dvcA)]⟩⟩) ?_ ?_
    · skip
      refine p_sr (fun K hK => ?_)
      refine p_mv ?_
      refine al_p rfl (st_lenB rfl ?_)
      refine p_mv ?_
      refine al_nil (x_then (hK _ ?_))
      clear hK K
      refine aw_block ?_
      refine aw_loopW (fun m t => ∃ i : Nat, i ≤ d.nodes.length ∧ m = d.nodes.length - i ∧ t = ⟨look [(2, .bp 1 0), (3, .bp 2 0), (14, .sl 2 (s.files.map dvcA) none), (15, .v (.int .i64 ((s.files.map dvcA).length : Int))), (16, .v (.int .i64 (j : Int))), (5, .bp 3 0), (6, .bs 5 0 8 d.nodes.length cap), (24, .v (.int .i64 (d.nodes.length : Int))), (25, .v (.int .i64 (i : Int)))], ⟨[spcA s, [.v (.slice none 0 0), .v (.slice none 0 0)], [.sl 2 ((s.files.take j).map dvcA) (some 1), .sl 3 (s.mounts.map mntA) (some 0)], dvcA d, [], NB d.nodes cap], [(60, 3, s.mounts.map mntA), (68, 2, (s.files.take j).map dvcA)]⟩⟩) (d.nodes.length) (weak_of 6 2 rfl rfl rfl (by simp [bpLtB, bpLtL, bpLt, bp_NB, bp_plain (mnt_plain s.mounts), spcA, dvcA]) (by repeat (first | exact Sub.nil | refine Sub.cons _ _ _ rfl rfl ?_ | refine Sub.any _ _ ?_ | refine Sub.sl _ _ _ _ _ rfl ?_ | refine Sub.slnil _ _ _ rfl ?_))) (⟨0, Nat.zero_le _, rfl, rfl⟩) ?_
      rintro m t ⟨i, hi, rfl, rfl⟩
      refine p_sr (fun K hK => ?_)
      first | refine al_p rfl (st_lss rfl rfl ?_) | refine al_p rfl (st_lssS rfl rfl ?_)
      refine al_nil (x_then (hK _ ?_))
      clear hK K
      refine aw_seq (fun K hK => ?_)
      refine aw_cond rfl (fun hb2 => ?_) (fun hb2 => ?_)
      · have hc2 := bp hb2
        have hil : i < d.nodes.length := by omega
        obtain ⟨n, hy⟩ : ∃ n, d.nodes[i]? = some n := ⟨_, List.getElem?_eq_getElem hil⟩
        have hen := hs.files.ents d (List.mem_of_getElem? hd) n (List.mem_of_getElem? hy)
        refine aw_skip ?_
        refine x_then ?_
        refine hK _ ?_
        clear hK K
        refine aw_seq (fun K hK => ?_)
        refine aw_block ?_
        refine p_sr (fun K hK => ?_)
        refine p_mv ?_
        refine p_as ?_
        refine al_nil (x_then (hK _ ?_))
        clear hK K
        refine aw_region ?_
        refine p_mv ?_
        refine p_mv ?_
        refine p_mv ?_
        refine p_mv ?_
        refine al_p rfl (st_indexS (m := i) rfl rfl rfl hil ?_)
        refine al_p rfl (st_fieldB rfl ?_)
        refine al_p rfl (st_loadB1 rfl rfl (NB_get hy rfl) ?_)
        refine al_p rfl (q_call (PcloneE n.entries hen) ?_)
        rintro r rfl
        refine al_p rfl (st_indexS (m := i) rfl rfl rfl hil ?_)
        refine al_p rfl (st_fieldB rfl ?_)
        refine al_p0 (s_store rfl rfl rfl rfl rfl rfl (NB_same hy) (by repeat constructor) ?_)
        refine al_nil ?_
        refine x_blockN ?_
        refine x_then ?_
        refine hK _ ?_
        clear hK K
        refine aw_region ?_
        first | refine al_p rfl (st_add64 rfl rfl (by omega) ?_) | refine al_p rfl (st_addS rfl rfl (by omega) ?_) | refine al_p rfl (st_add rfl rfl ?_)
        refine p_mv ?_
        refine al_nil ?_
        refine x_then ?_
        refine ⟨_, _, ?_, ⟨i + 1, by omega, rfl, rfl⟩, weak_of 6 2 rfl rfl rfl (by simp [bpLtB, bpLtL, bpLt, bp_NB, bp_plain (mnt_plain s.mounts), spcA, dvcA]) ((by repeat (first | exact Sub.nil | refine Sub.cons _ _ _ rfl rfl ?_ | refine Sub.any _ _ ?_ | refine Sub.sl _ _ _ _ _ rfl ?_ | refine Sub.slnil _ _ _ rfl ?_)))⟩
        omega
      · have hc2 := bp hb2
        refine aw_exit ?_
        refine x_thenE ?_
        clear hK K
        refine x_thenE ?_
        refine ABlock_out ?_
        refine x_then ?_
        exact ⟨_, rfl, weak_fz 4 1 rfl rfl (.cons _ _ _ _ rfl (LeA.refl _) (.cons _ _ _ _ rfl (LeA.refl _) (.cons _ _ _ _ rfl (LeA.refl _) (.cons _ _ _ _ rfl (LeA.refl _) (.cons _ _ _ _ rfl (LeA.refl _) (.cons _ _ _ _ rfl (LeA.refl _) (.cons _ _ _ _ rfl (LeA.of_eq (liv_rows (rows := d.nodes.map nodA) (Nat.le_of_ble_eq_true rfl) (frz_NB (n := 4) (k := 0) (j := 5) (Nat.le_of_ble_eq_true rfl) rfl) (nods_eight _) (by simp) (by simpa using hcap))) .nil)))))))⟩
    · rintro t rfl
      refine aw_region ?_
      refine al_p rfl (st_fieldB rfl ?_)
      refine al_p rfl (st_fieldB rfl ?_)
      refine al_p rfl (st_loadB1 rfl rfl rfl ?_)
      refine al_p rfl (st_fieldB rfl ?_)
      refine al_p rfl (st_loadB1 rfl rfl rfl ?_)
      refine p_mv ?_
      refine p_bd ?_
      refine al_p rfl (st_slit (by repeat (first | exact DenseA.nil _ | (apply DenseA.cons; (focus exact rfl); (focus exact rfl); (focus exact rfl); (focus exact rfl)) | (apply DenseA.consE; (focus exact rfl); (focus exact rfl); (focus exact rfl)))) rfl rfl rfl rfl ?_)
      first | refine al_p rfl (s_append rfl rfl rfl (by simp; omega) (by repeat constructor) ?_) | refine al_p rfl (s_append0 rfl rfl (by simp; omega) (by repeat constructor) ?_)
      refine al_p rfl (st_fieldB rfl ?_)
      refine al_p rfl (st_fieldB rfl ?_)
      refine p_st ?_
      refine al_nil ?_
      refine x_blockN ?_
      refine x_then ?_
      refine hK _ ?_
      clear hK K
      refine aw_region ?_
      first | refine al_p rfl (st_add64 rfl rfl (by omega) ?_) | refine al_p rfl (st_addS rfl rfl (by omega) ?_) | refine al_p rfl (st_add rfl rfl ?_)
      refine p_mv ?_
      refine al_nil ?_
      refine x_then ?_
      refine ⟨_, _, ?_, ⟨j + 1, by omega, rfl, rfl⟩, (by rw [e]; exact weak_of 3 2 rfl rfl rfl rfl ((by repeat (first | exact Sub.nil | refine Sub.cons _ _ _ rfl rfl ?_ | refine Sub.any _ _ ?_ | refine Sub.sl _ _ _ _ _ rfl ?_ | refine Sub.slnil _ _ _ rfl ?_))))⟩
      omega
  · have hc1 := bp hb1
    have e := row_no dvcA hj hc1
    subst e
    rw [List.take_length]
    refine aw_exit ?_
    refine x_thenE ?_
    clear hK K
    refine x_thenE ?_
    refine ABlock_out ?_
    refine x_then ?_
    refine hK _ ?_
    clear hK K
    refine p_sr (fun K hK => ?_)
    refine al_p rfl (st_loadBW rfl rfl rfl ?_)
    refine p_st ?_
    refine al_nil (x_then (hK _ ?_))
    clear hK K
    refine aw_ret ?_
    refine abody_ret (some 0) (by repeat (first | exact ResA.nil | (apply ResA.tmp; (focus exact rfl)) | (apply ResA.cellN; (focus exact inferInstance); (focus exact rfl); (focus exact rfl); (focus exact rfl)) | (apply ResA.cell1; (focus exact inferInstance); (focus exact rfl); (focus exact rfl); (focus exact rfl)))) rfl rfl rfl (LeA.refl _) ⟨rfl, rfl, rfl⟩

end
end Go.Proofs.Ytgliiknfmlmddaa
namespace Go.Proofs.Ytgliiknfmlmddaa
open Go.RowKit

section
set_option maxRecDepth 10000
set_option maxHeartbeats 1000000
theorem Padd (s : Spc) (dev : Int) (a : Fil) (hs : SpcB s) (hne : ∀ d ∈ s.files, 0 < d.nodes.length) : AFn Try.prog 15 [.agg (spcA s), .v (.int .i64 dev), .agg (filA a)] (fun r => r = spcR (addL s dev a)) := by
  have hfew := hs.few
  refine enter Try.func15 rfl rfl rfl rfl rfl 0 rfl ?_
  refine p_sr (fun K hK => ?_)
  first | refine al_p rfl (s_boxA rfl rfl (by repeat constructor) ?_) | refine al_p rfl (s_box rfl rfl (by repeat constructor) ?_)
  first | refine al_p rfl (s_boxA rfl rfl (by repeat constructor) ?_) | refine al_p rfl (s_box rfl rfl (by repeat constructor) ?_)
  refine al_p rfl (s_alloc (by repeat constructor) ?_)
  refine p_as ?_
  refine al_nil (x_then (hK _ ?_))
  clear hK K
  refine aw_seq (fun K hK => ?_)
  refine p_sr (fun K hK => ?_)
  refine al_p rfl (st_loadBW rfl rfl rfl ?_)
  refine p_mv ?_
  refine al_p rfl (q_call (PdeviceM s dev hs) ?_)
  rintro r rfl
  refine al_p rfl (st_not rfl ?_)
  refine al_nil (x_then (hK _ ?_))
  clear hK K
  refine aw_cond rfl (fun hb1 => ?_) (fun hb1 => ?_)
  · have hc1 := bp hb1
    refine p_sr (fun K hK => ?_)
    refine p_bd ?_
    refine p_st ?_
    refine p_as ?_
    refine al_nil (x_then (hK _ ?_))
    clear hK K
    refine aw_ret ?_
    refine x_thenR ?_
    clear hK K
    refine abody_ret (r := spcR (addL s dev a)) none (by repeat (first | exact ResA.nil | (apply ResA.tmp; (focus exact rfl)) | (apply ResA.cellN; (focus exact inferInstance); (focus exact rfl); (focus exact rfl); (focus exact rfl)) | (apply ResA.cell1; (focus exact inferInstance); (focus exact rfl); (focus exact rfl); (focus exact rfl)))) rfl rfl rfl ?_ ⟨rfl, rfl, rfl⟩
    rw [addL, if_pos (by omega)]
    exact sperr_le _
  · have hc1 := bp hb1
    refine aw_skip ?_
    refine x_then ?_
    refine hK _ ?_
    clear hK K
    refine p_sr (fun K hK => ?_)
    refine al_p rfl (st_fieldB rfl ?_)
    refine al_p rfl (st_loadBN rfl rfl rfl ?_)
    refine al_p rfl (st_loadBW rfl rfl rfl ?_)
    refine al_p rfl (q_call (Pnode s.files a hs.files) ?_)
    rintro r rfl
    refine p_mv ?_
    refine al_p rfl (st_extract rfl rfl ?_)
    refine al_p rfl (st_extract rfl rfl ?_)
    refine al_p rfl (s_alloc (by repeat constructor) ?_)
    refine p_st ?_
    refine p_as ?_
    refine al_nil (x_then (hK _ ?_))
    clear hK K
    refine aw_seq (fun K hK => ?_)
    refine aw_block ?_
    refine p_sr (fun K hK => ?_)
    refine p_mv ?_
    refine al_p rfl (st_not rfl ?_)
    refine p_as ?_
    refine al_nil (x_then (hK _ ?_))
    clear hK K
    refine aw_cond rfl (fun hb2 => ?_) (fun hb2 => ?_)
    · have hc2 := bp hb2
      refine p_sr (fun K hK => ?_)
      refine p_bd ?_
      refine p_st ?_
      refine p_as ?_
      refine al_nil (x_then (hK _ ?_))
      clear hK K
      refine aw_ret ?_
      refine x_blockR ?_
      refine x_thenR ?_
      clear hK K
      refine abody_ret (r := spcR (addL s dev a)) none (by repeat (first | exact ResA.nil | (apply ResA.tmp; (focus exact rfl)) | (apply ResA.cellN; (focus exact inferInstance); (focus exact rfl); (focus exact rfl); (focus exact rfl)) | (apply ResA.cell1; (focus exact inferInstance); (focus exact rfl); (focus exact rfl); (focus exact rfl)))) rfl rfl rfl ?_ ⟨rfl, rfl, rfl⟩
      rw [addL, if_neg (by omega), if_pos hc2]
      exact sperr_le _
    · have hc2 := bp hb2
      refine p_sr (fun K hK => ?_)
      refine al_p rfl (st_fieldB rfl ?_)
      refine al_p rfl (st_loadB1 rfl rfl rfl ?_)
      first | refine al_p rfl (st_neq rfl rfl ?_) | refine al_p rfl (st_neqS rfl rfl ?_) | refine al_p rfl (st_neqB (by kernel_rfl) rfl rfl ?_)
      refine p_as ?_
      refine al_nil (x_then (hK _ ?_))
      clear hK K
      refine aw_cond rfl (fun hb3 => ?_) (fun hb3 => ?_)
      · have hc3 := bp hb3
        refine p_sr (fun K hK => ?_)
        refine p_bd ?_
        refine p_st ?_
        refine p_as ?_
        refine al_nil (x_then (hK _ ?_))
        clear hK K
        refine aw_ret ?_
        refine x_blockR ?_
        refine x_thenR ?_
        clear hK K
        refine abody_ret (r := spcR (addL s dev a)) none (by repeat (first | exact ResA.nil | (apply ResA.tmp; (focus exact rfl)) | (apply ResA.cellN; (focus exact inferInstance); (focus exact rfl); (focus exact rfl); (focus exact rfl)) | (apply ResA.cell1; (focus exact inferInstance); (focus exact rfl); (focus exact rfl); (focus exact rfl)))) rfl rfl rfl ?_ ⟨rfl, rfl, rfl⟩
        rw [addL, if_neg (by omega), if_neg (by simp [hc2]), if_pos hc3]
        exact sperr_le _
      · have hc3 := bp hb3
        refine p_sr (fun K hK => ?_)
        refine al_p rfl (st_loadBW rfl rfl rfl ?_)
        refine al_p rfl (st_fieldB rfl ?_)
        refine al_p rfl (st_loadB1 rfl rfl rfl ?_)
        refine al_p rfl (q_call (Pmounted s a.1 hs) ?_)
        rintro r rfl
        refine al_p rfl (st_not rfl ?_)
        refine p_mv ?_
        refine al_gs false rfl rfl (fun hb4 => ?_) (fun hb4 => ?_)
        · have hc4 := bp hb4
          refine g_n ?_
          refine g_n ?_
          refine g_n ?_
          refine g_n ?_
          refine al_p rfl (p_t ?_)
          refine p_as ?_
          refine al_nil (x_then (hK _ ?_))
          clear hK K
          refine aw_cy rfl (by first | rfl | assumption | simp [*]) ?_
          refine p_sr (fun K hK => ?_)
          refine p_bd ?_
          refine p_st ?_
          refine p_as ?_
          refine al_nil (x_then (hK _ ?_))
          clear hK K
          refine aw_ret ?_
          refine x_blockR ?_
          refine x_thenR ?_
          clear hK K
          refine abody_ret (r := spcR (addL s dev a)) none (by repeat (first | exact ResA.nil | (apply ResA.tmp; (focus exact rfl)) | (apply ResA.cellN; (focus exact inferInstance); (focus exact rfl); (focus exact rfl); (focus exact rfl)) | (apply ResA.cell1; (focus exact inferInstance); (focus exact rfl); (focus exact rfl); (focus exact rfl)))) rfl rfl rfl ?_ ⟨rfl, rfl, rfl⟩
          rw [addL, if_neg (by omega), if_neg (by simp [hc2]), if_neg (by simp [hc3]), if_pos (.inl hc4)]
          exact sperr_le _
        · have hc4 := bp hb4
          refine g_y (st_fieldB rfl ?_)
          refine g_y (st_loadB1 rfl rfl rfl ?_)
          refine g_y (st_move rfl ?_)
          first | refine g_y (st_eql rfl rfl ?_) | refine g_y (st_eqlS rfl rfl ?_) | refine g_y (st_eqlB (by kernel_rfl) rfl rfl ?_)
          refine al_p rfl (p_f ?_)
          refine p_as ?_
          refine al_nil (x_then (hK _ ?_))
          clear hK K
          refine aw_cond rfl (fun hb5 => ?_) (fun hb5 => ?_)
          · have hc5 := bp hb5
            refine p_sr (fun K hK => ?_)
            refine p_bd ?_
            refine p_st ?_
            refine p_as ?_
            refine al_nil (x_then (hK _ ?_))
            clear hK K
            refine aw_ret ?_
            refine x_blockR ?_
            refine x_thenR ?_
            clear hK K
            refine abody_ret (r := spcR (addL s dev a)) none (by repeat (first | exact ResA.nil | (apply ResA.tmp; (focus exact rfl)) | (apply ResA.cellN; (focus exact inferInstance); (focus exact rfl); (focus exact rfl); (focus exact rfl)) | (apply ResA.cell1; (focus exact inferInstance); (focus exact rfl); (focus exact rfl); (focus exact rfl)))) rfl rfl rfl ?_ ⟨rfl, rfl, rfl⟩
            rw [addL, if_neg (by omega), if_neg (by simp [hc2]), if_neg (by simp [hc3]), if_pos (.inr hc5)]
            exact sperr_le _
          · have hc5 := bp hb5
            refine p_sr (fun K hK => ?_)
            refine al_p rfl (st_loadBW rfl rfl rfl ?_)
            refine p_mv ?_
            refine al_p rfl (q_call (Pmounted s dev hs) ?_)
            rintro r rfl
            refine p_mv ?_
            refine al_gs false rfl rfl (fun hb6 => ?_) (fun hb6 => ?_)
            · have hc6 := bp hb6
              refine g_n ?_
              refine g_n ?_
              refine g_n ?_
              refine al_p rfl (p_t ?_)
              refine p_as ?_
              refine al_nil (x_then (hK _ ?_))
              clear hK K
              refine aw_cy rfl (by first | rfl | assumption | simp [*]) ?_
              refine p_sr (fun K hK => ?_)
              refine p_bd ?_
              refine p_st ?_
              refine p_as ?_
              refine al_nil (x_then (hK _ ?_))
              clear hK K
              refine aw_ret ?_
              refine x_blockR ?_
              refine x_thenR ?_
              clear hK K
              refine abody_ret (r := spcR (addL s dev a)) none (by repeat (first | exact ResA.nil | (apply ResA.tmp; (focus exact rfl)) | (apply ResA.cellN; (focus exact inferInstance); (focus exact rfl); (focus exact rfl); (focus exact rfl)) | (apply ResA.cell1; (focus exact inferInstance); (focus exact rfl); (focus exact rfl); (focus exact rfl)))) rfl rfl rfl ?_ ⟨rfl, rfl, rfl⟩
              rw [addL, if_neg (by omega), if_neg (by simp [hc2]), if_neg (by simp [hc3]), if_neg (by simp [hc4, hc5]), if_pos (.inl hc6)]
              exact sperr_le _
            · have hc6 := bp hb6
              refine g_y (st_loadBW rfl rfl rfl ?_)
              refine g_y (st_loadBW rfl rfl rfl ?_)
              refine g_y (q_call (Pcovered s a hs) ?_)
              rintro r rfl
              refine al_p rfl (p_f ?_)
              refine p_as ?_
              refine al_nil (x_then (hK _ ?_))
              clear hK K
              refine aw_cond rfl (fun hb7 => ?_) (fun hb7 => ?_)
              · have hc7 := bp hb7
                refine p_sr (fun K hK => ?_)
                refine p_bd ?_
                refine p_st ?_
                refine p_as ?_
                refine al_nil (x_then (hK _ ?_))
                clear hK K
                refine aw_ret ?_
                refine x_blockR ?_
                refine x_thenR ?_
                clear hK K
                refine abody_ret (r := spcR (addL s dev a)) none (by repeat (first | exact ResA.nil | (apply ResA.tmp; (focus exact rfl)) | (apply ResA.cellN; (focus exact inferInstance); (focus exact rfl); (focus exact rfl); (focus exact rfl)) | (apply ResA.cell1; (focus exact inferInstance); (focus exact rfl); (focus exact rfl); (focus exact rfl)))) rfl rfl rfl ?_ ⟨rfl, rfl, rfl⟩
                rw [addL, if_neg (by omega), if_neg (by simp [hc2]), if_neg (by simp [hc3]), if_neg (by simp [hc4, hc5]), if_pos (.inr hc7)]
                exact sperr_le _
              · have hc7 := bp hb7
                refine aw_skip ?_
                refine x_blockN ?_
                refine x_then ?_
                refine hK _ ?_
                clear hK K
                refine p_sr (fun K hK => ?_)
                refine al_p rfl (st_loadBW rfl rfl rfl ?_)
                refine al_p rfl (s_callT rfl (by repeat (first | exact Args.nil | refine Args.cons _ _ _ _ _ rfl (argOk_clean rfl) ?_ | refine Args.cons _ _ _ _ _ rfl (argOk_nil _) ?_ | refine Args.cons _ _ _ _ _ rfl (argOk_era _) ?_ | refine Args.cons _ _ _ _ _ rfl (argOk_le rfl (by repeat (first | exact LeA.refl _ | exact LeA.nil _ | exact LeL.refl _ | refine LeA.agg ?_ | refine LeA.tup ?_ | exact LeL.nil | refine LeL.cons ?_ ?_ | exact LeA.any _))) ?_)) (PspcT s hs hne) (fun _ => rfl) (by repeat constructor) ?_)
                refine p_st ?_
                refine al_nil (x_then (hK _ ?_))
                clear hK K
                refine p_sr (fun K hK => ?_)
                refine al_p rfl (st_fieldB rfl ?_)
                refine al_p rfl (st_loadB1 rfl rfl rfl ?_)
                refine p_mv ?_
                refine al_p rfl (st_loadBW rfl rfl rfl ?_)
                refine p_bd ?_
                refine al_p rfl (st_slit (by repeat (first | exact DenseA.nil _ | (apply DenseA.cons; (focus exact rfl); (focus exact rfl); (focus exact rfl); (focus exact rfl)) | (apply DenseA.consE; (focus exact rfl); (focus exact rfl); (focus exact rfl)))) rfl rfl rfl rfl ?_)
                first | refine al_p rfl (s_append rfl rfl rfl (by simp; omega) (by repeat constructor) ?_) | refine al_p rfl (s_append0 rfl rfl (by simp; omega) (by repeat constructor) ?_)
                refine al_p rfl (st_fieldB rfl ?_)
                refine p_st ?_
                refine al_nil (x_then (hK _ ?_))
                clear hK K
                refine p_sr (fun K hK => ?_)
                refine al_p rfl (st_loadBW rfl rfl rfl ?_)
                refine p_st ?_
                refine p_as ?_
                refine al_nil (x_then (hK _ ?_))
                clear hK K
                refine aw_ret ?_
                refine e_ret ?_
                rw [addL, if_neg (by omega), if_neg (by simp [hc2]), if_neg (by simp [hc3]), if_neg (by simp [hc4, hc5]), if_neg (by simp [hc6, hc7])]
                simp only [spcR, spcA, List.map_append]
                rfl

end
end Go.Proofs.Ytgliiknfmlmddaa
namespace Go.Proofs.Ytgliiknfmlmddaa
open Go.RowKit

theorem afn_spc {P : Program} {f : FuncId} {s : Spc} {xs : List AV} {us : List Value} {z : Value} {R : AV} (hx : ∀ (G : Gh) (w : World) (vs : List Value), repL G w xs vs → vs = us) (hR : ∀ (G : Gh) (w : World), rep G w R z)
    (h : ∀ (w : World) (ds ms : Value), SpcIn s w.heap.size w ds ms → Calls P f (.agg #[ds, ms] :: us).toArray w fun e w' => e = .returned z ∧ Below w.heap.size w w') : AFn P f (.agg (spcA s) :: xs) (fun r => r = R) := by
  intro w St bl vs hr hv
  simp only [repL] at hv
  obtain ⟨z0, zs, rfl, h1, h2⟩ := hv
  obtain rfl := hx _ _ _ h2
  simp only [rep, spcA, repL] at h1
  obtain ⟨ys, rfl, ds, _, rfl, h3, ms, _, rfl, h4, rfl⟩ := h1
  have hs : SpcIn s w.heap.size w ds ms := by
    refine ⟨Nat.le_refl _, ?_⟩
    refine froL_mono (St := St) (fun b o hb => ⟨hr.stlt b o hb, rfl⟩) _ _ ?_
    simp only [spcA, froL]
    exact ⟨_, _, rfl, h3, _, _, rfl, h4, rfl⟩
  refine (h w ds ms hs).mono ?_
  rintro e w' ⟨rfl, hb⟩
  obtain ⟨k1, k2⟩ := hr.below hb
  exact ⟨_, _, _, _, ⟨rfl, rfl, rfl⟩, k1, k2, hR _ _⟩
theorem repL_fil {G : Gh} {w : World} {a : Fil} {vs : List Value} (h : repL G w [.agg (filA a)] vs) : vs = [FilV a] := by
  simp only [repL, rep, filA] at h
  obtain ⟨_, _, rfl, ⟨_, rfl, _, _, rfl, rfl, _, _, rfl, rfl, rfl⟩, rfl⟩ := h
  rfl
structure SpcN (s : Spc) : Prop where
  b : SpcB s
  nm : ∀ x, (nmoL s x).size ≤ 100
  most : mostL s.files ≤ 5000
section
variable {s : Spc} (hs : SpcN s)
include hs
theorem Pwhere (a : Fil) : AFn Try.prog 23 [.agg (spcA s), .agg (filA a)] (fun r => r = .tup [.v (.string (whereP s a).1), .v (.bool (whereP s a).2)]) :=
  afn_spc (us := [FilV a]) (z := .tuple #[.string (whereP s a).1, .bool (whereP s a).2]) (fun _ _ _ h => repL_fil h) (fun G w => by simp only [rep, repL]; exact ⟨[_, _], rfl, _, _, rfl, rfl, _, _, rfl, rfl, rfl⟩)
    fun w ds ms h => callsIn_wide.1 (where_o 4 (Lib.hid (Nat.le_refl _)) s hs.b hs.nm hs.most a ds ms w h)
theorem Pvisible (a : Fil) : AFn Try.prog 32 [.agg (spcA s), .agg (filA a)] (fun r => r = .v (.bool (visP s a))) :=
  afn_spc (us := [FilV a]) (z := .bool (visP s a)) (fun _ _ _ h => repL_fil h) (fun G w => by simp only [rep])
    fun w ds ms h => callsIn_wide.1 (visible_o 4 (Lib.hid (Nat.le_refl _)) s hs.b hs.nm hs.most a ds ms w h)
end
theorem Pwithin (s : Spc) (hs : SpcB s) (a b : Fil) : AFn Try.prog 20 [.agg (spcA s), .agg (filA a), .agg (filA b)] (fun r => r = .v (.bool (decide (a ∈ chainP s (mostL s.files) b)))) :=
  afn_spc (us := [FilV a, FilV b]) (z := .bool (decide (a ∈ chainP s (mostL s.files) b))) (fun G w vs h => by
    simp only [repL, rep, filA] at h
    obtain ⟨_, _, rfl, ⟨_, rfl, _, _, rfl, rfl, _, _, rfl, rfl, rfl⟩, _, _, rfl, ⟨_, rfl, _, _, rfl, rfl, _, _, rfl, rfl, rfl⟩, rfl⟩ := h
    rfl) (fun G w => by simp only [rep])
    fun w ds ms h => callsIn_wide.1 (within_o 4 (Lib.hid (by omega)) s hs a b ds ms w h)
theorem mem_nodG {f : Fls} {a : Fil} (h : hasG f a = true) : ∃ d ∈ f, nodG f a ∈ d.nodes := by
  obtain ⟨q, i, d, m, _, h2, h3, _, _, h6⟩ := at_ok h
  exact ⟨d, List.mem_of_getElem? h2, by rw [h6]; exact List.mem_of_getElem? h3⟩
theorem nameL_size {x : Str} (h : nameL x = true) : x.size ≤ 12 := by
  rw [name_eq] at h
  by_cases hc : x.size < 1 ∨ 12 < x.size
  · rw [if_pos hc] at h; cases h
  · omega
theorem nmo_size {s : Spc} (h : FlsV s.files) (x : Fil) : (nmoL s x).size ≤ 12 := by
  unfold nmoL
  cases hf : (abvL s x).entries.find? fun e : Ent => decide (e.2 = x.2) with
  | none => exact Nat.zero_le _
  | some e =>
    have hm := List.mem_of_find?_eq_some hf
    unfold abvL at hm
    by_cases hh : hasG s.files (x.1, (nodG s.files x).parent) = true
    · obtain ⟨d, hd, hn⟩ := mem_nodG hh
      exact nameL_size ((h.vd d hd).ent _ hn e hm).1
    · have : nodG s.files (x.1, (nodG s.files x).parent) = Nod.zero := by
        unfold hasG at hh
        cases hq : nodeL s.files (x.1, (nodG s.files x).parent) with
        | none => show (nodeL s.files (x.1, (nodG s.files x).parent)).getD Nod.zero = Nod.zero; rw [hq]; rfl
        | some m => rw [hq] at hh; exact absurd rfl hh
      rw [this] at hm
      cases hm
theorem most_le {f : Fls} (h : FlsV f) : mostL f ≤ 48 := by
  have : ∀ (l : Fls), (∀ d ∈ l, d.nodes.length ≤ 16) → mostL l ≤ l.length * 16 := by
    intro l
    induction l with
    | nil => intro _; simp [mostL]
    | cons d l ih =>
      intro h
      have h1 := ih fun d hd => h d (List.mem_cons_of_mem _ hd)
      have h2 := h d (List.mem_cons_self ..)
      simp only [mostL, List.map_cons, List.sum_cons, List.length_cons] at h1 ⊢
      omega
  have h1 := this f fun d hd => (h.vd d hd).len
  have h2 := h.few
  omega
def awNod : Nod := ⟨0, 2, 493, 0, 0, 0, ⟨#[]⟩, []⟩
def awF : Fls := (mkL (newL 2).1 (0, 1) ⟨#[97]⟩ awNod).1
def awS : Spc := ⟨awF, [(1, (0, 2))]⟩
theorem aw_make : mkL (newL 2).1 (0, 1) ⟨#[97]⟩ awNod = (awF, [((0, 1), ⟨#[97]⟩, (0, 0), (0, 2))], 0) := by kernel_rfl
theorem aw_add : addL ⟨awF, []⟩ 1 (0, 2) = (awS, 0) := by kernel_rfl
theorem aw_where : whereP awS (1, 1) = (⟨#[47, 97]⟩, true) := by kernel_rfl
theorem aw_cov : (covL awS (0, 2)).isSome = true := by kernel_rfl
theorem aw_vis : visP awS (0, 2) = false := by kernel_rfl
end Go.Proofs.Ytgliiknfmlmddaa
namespace Go.Proofs.Ytgliiknfmlmddaa
open Go.RowKit

section
set_option maxRecDepth 10000
set_option maxHeartbeats 1000000
theorem aw_fv : FlsV awF := by
  have h := (make_okay (new_valid (k := 2) (by omega) (by omega)).1 (0, 1) ⟨#[97]⟩ awNod)
  unfold Okay at h
  rw [aw_make] at h
  exact (h rfl).1
theorem aw_n : SpcN awS := ⟨⟨aw_fv.b, by decide⟩, fun x => by have := nmo_size (s := awS) aw_fv x; omega, by have := most_le aw_fv; exact Nat.le_trans this (by decide)⟩
theorem aw_le : LeA (.agg [.sl 2 (awF.map dvcA) none, .v (.slice none 0 0)]) (.agg (spcA ⟨awF, []⟩)) := LeA.agg (LeL.cons (LeA.refl _) (LeL.cons (LeA.nil _) LeL.nil))
theorem Lawake : AFn Try.prog 19 [] (fun r => r = .v (.bool true)) := by
  have hnew : AFn Try.prog 50 [.v (.int .i64 2)] (fun r => r = .tup [.agg (flsA (newL 2).1), .v (.int .i64 0)]) := Rnew 2
  have hmk : AFn Try.prog 51 [.agg (flsA (newL 2).1), .agg [.v (.int .i64 0), .v (.int .i64 1)], .v (.string ⟨#[97]⟩), .agg (nodA awNod)] (fun r => r = .tup [.agg (flsA awF), .sl 7 [chgA ((0, 1), ⟨#[97]⟩, (0, 0), (0, 2))] none, .v (.int .i64 0)]) :=
    (Rmake (newL 2).1 (0, 1) ⟨#[97]⟩ awNod (new_valid (k := 2) (by omega) (by omega)).1 (by decide) (by decide)).mono fun r hr => by rw [hr, aw_make]; rfl
  have had : AFn Try.prog 15 [.agg (spcA ⟨awF, []⟩), .v (.int .i64 1), .agg (filA (0, 2))] (fun r => r = .tup [.agg (spcA awS), .v (.int .i64 0)]) :=
    (Padd ⟨awF, []⟩ 1 (0, 2) ⟨aw_fv.b, by decide⟩ aw_fv.ne).mono fun r hr => by rw [hr, aw_add]; rfl
  have hwh : AFn Try.prog 23 [.agg (spcA awS), .agg (filA (1, 1))] (fun r => r = .tup [.v (.string ⟨#[47, 97]⟩), .v (.bool true)]) :=
    (Pwhere aw_n (1, 1)).mono fun r hr => by rw [hr, aw_where]
  have hcv : AFn Try.prog 26 [.agg (spcA awS), .agg (filA (0, 2))] (fun r => r = .v (.bool true)) :=
    (Pcovered awS (0, 2) aw_n.b).mono fun r hr => by rw [hr, aw_cov]
  have hvs : AFn Try.prog 32 [.agg (spcA awS), .agg (filA (0, 2))] (fun r => r = .v (.bool false)) :=
    (Pvisible aw_n (0, 2)).mono fun r hr => by rw [hr, aw_vis]
  refine enter Try.func19 rfl rfl rfl rfl rfl 0 rfl ?_
  refine p_sr (fun K hK => ?_)
  refine p_as ?_
  refine al_nil (x_then (hK _ ?_))
  clear hK K
  refine p_sr (fun K hK => ?_)
  refine al_p rfl (q_call (hnew) ?_)
  rintro r rfl
  refine p_mv ?_
  refine al_p rfl (st_extract rfl rfl ?_)
  refine al_p rfl (st_extract rfl rfl ?_)
  refine al_p rfl (s_alloc (by repeat constructor) ?_)
  refine p_st ?_
  refine p_as ?_
  refine al_nil (x_then (hK _ ?_))
  clear hK K
  refine p_sr (fun K hK => ?_)
  refine al_p rfl (st_loadBW rfl rfl rfl ?_)
  refine p_bd ?_
  refine al_p rfl (st_le (y := .agg (nodA awNod)) (st_build (by repeat (first | exact FillA.nil _ | (apply FillA.cons; (focus exact rfl); (focus exact rfl); (focus exact rfl); (focus exact rfl); (focus exact rfl); (focus (repeat constructor))))) ⟨rfl, rfl⟩) (by repeat (first | exact LeA.refl _ | exact LeA.nil _ | exact LeL.refl _ | refine LeA.agg ?_ | refine LeA.tup ?_ | exact LeL.nil | refine LeL.cons ?_ ?_ | exact LeA.any _)) ?_)
  refine al_p rfl (q_call (hmk) ?_)
  rintro r rfl
  refine p_mv ?_
  refine al_p rfl (st_extract rfl rfl ?_)
  refine al_p rfl (st_extract rfl rfl ?_)
  refine al_p rfl (st_extract rfl rfl ?_)
  refine p_st ?_
  refine p_as ?_
  refine p_as ?_
  refine al_nil (x_then (hK _ ?_))
  clear hK K
  refine aw_seq (fun K hK => ?_)
  refine aw_draw (fun h => ∃ z, h.bx = [flsA awF] ++ z) 13 (by kernel_rfl) ?_
  first | refine aa_t (i := 0) rfl rfl (by kernel_rfl) (by first | rfl | exact wan_y rfl rfl (beq_tt ‹_›) | exact wan_y rfl rfl (beq_ff ‹_›) | exact wan_y rfl rfl (by simp [*])) (fun h0 hS => st_loadBW (row := flsA awF) rfl (by obtain ⟨_, e⟩ := hS; rw [e]; rfl) rfl ⟨rfl, rfl⟩) ⟨_, rfl⟩ ?_ | refine aa_t (i := 0) rfl rfl (by kernel_rfl) (by first | rfl | exact wan_y rfl rfl (beq_tt ‹_›) | exact wan_y rfl rfl (beq_ff ‹_›) | exact wan_y rfl rfl (by simp [*])) (fun h0 hS => st_loadF rfl rfl ⟨rfl, rfl⟩) ⟨_, rfl⟩ ?_ | refine aa_t (i := 0) rfl rfl (by kernel_rfl) (by first | rfl | exact wan_y rfl rfl (beq_tt ‹_›) | exact wan_y rfl rfl (beq_ff ‹_›) | exact wan_y rfl rfl (by simp [*])) (fun h0 hS => st_loadBW rfl rfl rfl ⟨rfl, rfl⟩) ⟨_, rfl⟩ ?_
  refine aa_t (i := 1) rfl rfl (by kernel_rfl) (by first | rfl | exact wan_y rfl rfl (beq_tt ‹_›) | exact wan_y rfl rfl (beq_ff ‹_›) | exact wan_y rfl rfl (by simp [*])) (fun h0 hS => st_le (y := .agg (spcA ⟨awF, []⟩)) (st_build (by repeat (first | exact FillA.nil _ | (apply FillA.cons; (focus exact rfl); (focus exact rfl); (focus exact rfl); (focus exact rfl); (focus exact rfl); (focus (repeat constructor))))) ⟨rfl, rfl⟩) aw_le ⟨rfl, rfl⟩) ⟨_, rfl⟩ ?_
  refine aa_t (i := 2) rfl rfl (by kernel_rfl) (by first | rfl | exact wan_y rfl rfl (beq_tt ‹_›) | exact wan_y rfl rfl (beq_ff ‹_›) | exact wan_y rfl rfl (by simp [*])) (fun h0 hS => st_move rfl ⟨rfl, rfl⟩) ⟨_, rfl⟩ ?_
  refine aa_t (i := 3) rfl rfl (by kernel_rfl) (by first | rfl | exact wan_y rfl rfl (beq_tt ‹_›) | exact wan_y rfl rfl (beq_ff ‹_›) | exact wan_y rfl rfl (by simp [*])) (fun h0 hS => st_index rfl rfl rfl (by first | assumption | rfl) ⟨rfl, rfl⟩) ⟨_, rfl⟩ ?_
  refine aa_t (i := 4) rfl rfl (by kernel_rfl) (by first | rfl | exact wan_y rfl rfl (beq_tt ‹_›) | exact wan_y rfl rfl (beq_ff ‹_›) | exact wan_y rfl rfl (by simp [*])) (fun h0 hS => st_fieldF rfl ⟨rfl, rfl⟩) ⟨_, rfl⟩ ?_
  first | refine aa_t (i := 5) rfl rfl (by kernel_rfl) (by first | rfl | exact wan_y rfl rfl (beq_tt ‹_›) | exact wan_y rfl rfl (beq_ff ‹_›) | exact wan_y rfl rfl (by simp [*])) (fun h0 hS => st_loadBW (row := flsA awF) rfl (by obtain ⟨_, e⟩ := hS; rw [e]; rfl) rfl ⟨rfl, rfl⟩) ⟨_, rfl⟩ ?_ | refine aa_t (i := 5) rfl rfl (by kernel_rfl) (by first | rfl | exact wan_y rfl rfl (beq_tt ‹_›) | exact wan_y rfl rfl (beq_ff ‹_›) | exact wan_y rfl rfl (by simp [*])) (fun h0 hS => st_loadF rfl rfl ⟨rfl, rfl⟩) ⟨_, rfl⟩ ?_ | refine aa_t (i := 5) rfl rfl (by kernel_rfl) (by first | rfl | exact wan_y rfl rfl (beq_tt ‹_›) | exact wan_y rfl rfl (beq_ff ‹_›) | exact wan_y rfl rfl (by simp [*])) (fun h0 hS => st_loadFN rfl rfl ⟨rfl, rfl⟩) ⟨_, rfl⟩ ?_
  refine aa_two (i := 6) (j := 10) (by kernel_rfl) rfl rfl (by first | rfl | exact wan_y rfl rfl (beq_tt ‹_›) | exact wan_y rfl rfl (beq_ff ‹_›) | exact wan_y rfl rfl (by simp [*])) rfl rfl (by first | rfl | exact wan_y rfl rfl (beq_tt ‹_›) | exact wan_y rfl rfl (beq_ff ‹_›) | exact wan_y rfl rfl (by simp [*])) ?_ ?_
  · refine q_call (had) ?_
    rintro r rfl
    refine ⟨.inr ⟨_, rfl⟩, ?_⟩
    refine aa_t (i := 7) rfl rfl (by kernel_rfl) (by first | rfl | exact wan_y rfl rfl (beq_tt ‹_›) | exact wan_y rfl rfl (beq_ff ‹_›) | exact wan_y rfl rfl (by simp [*])) (fun h0 hS => st_move rfl ⟨rfl, rfl⟩) ⟨_, rfl⟩ ?_
    refine aa_t (i := 8) rfl rfl (by kernel_rfl) (by first | rfl | exact wan_y rfl rfl (beq_tt ‹_›) | exact wan_y rfl rfl (beq_ff ‹_›) | exact wan_y rfl rfl (by simp [*])) (fun h0 hS => st_extract rfl rfl ⟨rfl, rfl⟩) ⟨_, rfl⟩ ?_
    refine aa_t (i := 9) rfl rfl (by kernel_rfl) (by first | rfl | exact wan_y rfl rfl (beq_tt ‹_›) | exact wan_y rfl rfl (beq_ff ‹_›) | exact wan_y rfl rfl (by simp [*])) (fun h0 hS => st_extract rfl rfl ⟨rfl, rfl⟩) ⟨_, rfl⟩ ?_
    refine aa_c (i := 10) rfl rfl (by kernel_rfl) (by first | rfl | exact wan_y rfl rfl (beq_tt ‹_›) | exact wan_y rfl rfl (beq_ff ‹_›) | exact wan_y rfl rfl (by simp [*])) (s_alloc (by repeat constructor) ?_)
    refine ⟨.inr ⟨_, rfl⟩, ?_⟩
    refine aa_c0 (i := 11) rfl (by kernel_rfl) (by first | rfl | exact wan_y rfl rfl (beq_tt ‹_›) | exact wan_y rfl rfl (beq_ff ‹_›) | exact wan_y rfl rfl (by simp [*])) (s_store rfl rfl rfl rfl rfl rfl (by repeat constructor) (by repeat constructor) ?_)
    refine ⟨.inr ⟨_, rfl⟩, ?_⟩
    refine aa_t (i := 12) rfl rfl (by kernel_rfl) (by first | rfl | exact wan_y rfl rfl (beq_tt ‹_›) | exact wan_y rfl rfl (beq_ff ‹_›) | exact wan_y rfl rfl (by simp [*])) (fun h0 hS => st_assign rfl ⟨rfl, rfl⟩) ⟨_, rfl⟩ ?_
    refine aa_done (by kernel_rfl) ?_ _
    refine x_then ?_
    refine hK _ ?_
    clear hK K
    refine p_sr (fun K hK => ?_)
    refine al_p rfl (st_loadBW rfl rfl rfl ?_)
    refine p_bd ?_
    refine al_p rfl (q_call (hwh) ?_)
    rintro r rfl
    refine p_mv ?_
    refine al_p rfl (st_extract rfl rfl ?_)
    refine al_p rfl (st_extract rfl rfl ?_)
    refine p_as ?_
    refine p_as ?_
    refine al_nil (x_then (hK _ ?_))
    clear hK K
    refine aw_seq (fun K hK => ?_)
    refine aw_drawR 27 (by kernel_rfl) ?_
    refine r_y (i := 0) rfl (st_move rfl ⟨rfl, rfl⟩) ?_
    first | refine r_y (i := 1) rfl (st_eql rfl rfl ⟨rfl, rfl⟩) ?_ | refine r_y (i := 1) rfl (st_eqlS rfl rfl ⟨rfl, rfl⟩) ?_ | refine r_y (i := 1) rfl (st_eqlB (by kernel_rfl) rfl rfl ⟨rfl, rfl⟩) ?_
    refine r_y (i := 2) rfl (st_move rfl ⟨rfl, rfl⟩) ?_
    refine aa_both (j := 2) rfl (fun hb1 => ?_) (fun hb1 => ?_)
    · have hc1 := bp hb1
      refine r_y (i := 3) rfl (st_move rfl ⟨rfl, rfl⟩) ?_
      refine r_y (i := 4) rfl (st_pick_t rfl (by first | rfl | assumption | simp [*]) rfl ⟨rfl, rfl⟩) ?_
      refine r_y (i := 5) rfl (st_move rfl ⟨rfl, rfl⟩) ?_
      refine aa_both (j := 5) rfl (fun hb2 => ?_) (fun hb2 => ?_)
      · have hc2 := bp hb2
        refine r_y (i := 6) rfl (st_move rfl ⟨rfl, rfl⟩) ?_
        first | refine r_y (i := 7) rfl (st_eql rfl rfl ⟨rfl, rfl⟩) ?_ | refine r_y (i := 7) rfl (st_eqlS rfl rfl ⟨rfl, rfl⟩) ?_ | refine r_y (i := 7) rfl (st_eqlB (by kernel_rfl) rfl rfl ⟨rfl, rfl⟩) ?_
        refine r_y (i := 8) rfl (st_pick_t rfl (by first | rfl | assumption | simp [*]) rfl ⟨rfl, rfl⟩) ?_
        refine r_y (i := 9) rfl (st_move rfl ⟨rfl, rfl⟩) ?_
        refine aa_both (j := 9) rfl (fun hb3 => ?_) (fun hb3 => ?_)
        · have hc3 := bp hb3
          refine r_y (i := 10) rfl (st_loadBW rfl rfl rfl ⟨rfl, rfl⟩) ?_
          refine r_y (i := 11) rfl (st_move rfl ⟨rfl, rfl⟩) ?_
          refine r_y (i := 12) rfl (st_index rfl rfl rfl (by first | assumption | rfl) ⟨rfl, rfl⟩) ?_
          refine r_y (i := 13) rfl (st_fieldF rfl ⟨rfl, rfl⟩) ?_
          refine r_y (i := 14) rfl (st_loadFN rfl rfl ⟨rfl, rfl⟩) ?_
          refine aa_c (i := 15) rfl rfl (by kernel_rfl) (by first | rfl | exact wan_y rfl rfl (beq_tt ‹_›) | exact wan_y rfl rfl (beq_ff ‹_›) | exact wan_y rfl rfl (by simp [*])) (q_call (hcv) ?_)
          rintro r rfl
          refine ⟨.inr rfl, ?_⟩
          refine r_y (i := 16) rfl (st_pick_t rfl (by first | rfl | assumption | simp [*]) rfl ⟨rfl, rfl⟩) ?_
          refine r_y (i := 17) rfl (st_move rfl ⟨rfl, rfl⟩) ?_
          refine aa_both (j := 17) rfl (fun hb4 => ?_) (fun hb4 => ?_)
          · have hc4 := bp hb4
            refine r_y (i := 18) rfl (st_loadBW rfl rfl rfl ⟨rfl, rfl⟩) ?_
            refine r_y (i := 19) rfl (st_move rfl ⟨rfl, rfl⟩) ?_
            refine r_y (i := 20) rfl (st_index rfl rfl rfl (by first | assumption | rfl) ⟨rfl, rfl⟩) ?_
            refine r_y (i := 21) rfl (st_fieldF rfl ⟨rfl, rfl⟩) ?_
            refine r_y (i := 22) rfl (st_loadFN rfl rfl ⟨rfl, rfl⟩) ?_
            refine aa_c (i := 23) rfl rfl (by kernel_rfl) (by first | rfl | exact wan_y rfl rfl (beq_tt ‹_›) | exact wan_y rfl rfl (beq_ff ‹_›) | exact wan_y rfl rfl (by simp [*])) (q_call (hvs) ?_)
            rintro r rfl
            refine ⟨.inr rfl, ?_⟩
            refine r_y (i := 24) rfl (st_not rfl ⟨rfl, rfl⟩) ?_
            refine r_y (i := 25) rfl (st_pick_t rfl (by first | rfl | assumption | simp [*]) rfl ⟨rfl, rfl⟩) ?_
            refine r_y (i := 26) rfl (st_assign rfl ⟨rfl, rfl⟩) ?_
            refine aa_done (by kernel_rfl) ?_ _
            refine x_then ?_
            refine hK _ ?_
            clear hK K
            refine aw_ret ?_
            refine e_ret ?_
            first | rfl | (exfalso; simp_all)
          · have hc4 := bp hb4
            refine r_n (i := 18) rfl rfl ?_
            refine r_n (i := 19) rfl rfl ?_
            refine r_n (i := 20) rfl rfl ?_
            refine r_n (i := 21) rfl rfl ?_
            refine r_n (i := 22) rfl rfl ?_
            refine r_n (i := 23) rfl rfl ?_
            refine r_n (i := 24) rfl rfl ?_
            refine r_y (i := 25) rfl (st_pick_f rfl (by first | rfl | assumption | simp [*]) rfl ⟨rfl, rfl⟩) ?_
            refine r_y (i := 26) rfl (st_assign rfl ⟨rfl, rfl⟩) ?_
            refine aa_done (by kernel_rfl) ?_ _
            refine x_then ?_
            refine hK _ ?_
            clear hK K
            refine aw_ret ?_
            refine e_ret ?_
            first | rfl | (exfalso; simp_all)
        · have hc3 := bp hb3
          refine r_n (i := 10) rfl rfl ?_
          refine r_n (i := 11) rfl rfl ?_
          refine r_n (i := 12) rfl rfl ?_
          refine r_n (i := 13) rfl rfl ?_
          refine r_n (i := 14) rfl rfl ?_
          refine r_n (i := 15) rfl rfl ?_
          refine r_y (i := 16) rfl (st_pick_f rfl (by first | rfl | assumption | simp [*]) rfl ⟨rfl, rfl⟩) ?_
          refine r_y (i := 17) rfl (st_move rfl ⟨rfl, rfl⟩) ?_
          refine r_n (i := 18) rfl rfl ?_
          refine r_n (i := 19) rfl rfl ?_
          refine r_n (i := 20) rfl rfl ?_
          refine r_n (i := 21) rfl rfl ?_
          refine r_n (i := 22) rfl rfl ?_
          refine r_n (i := 23) rfl rfl ?_
          refine r_n (i := 24) rfl rfl ?_
          refine r_y (i := 25) rfl (st_pick_f rfl (by first | rfl | assumption | simp [*]) rfl ⟨rfl, rfl⟩) ?_
          refine r_y (i := 26) rfl (st_assign rfl ⟨rfl, rfl⟩) ?_
          refine aa_done (by kernel_rfl) ?_ _
          refine x_then ?_
          refine hK _ ?_
          clear hK K
          refine aw_ret ?_
          refine e_ret ?_
          first | rfl | (exfalso; simp_all)
      · have hc2 := bp hb2
        refine r_n (i := 6) rfl rfl ?_
        refine r_n (i := 7) rfl rfl ?_
        refine r_y (i := 8) rfl (st_pick_f rfl (by first | rfl | assumption | simp [*]) rfl ⟨rfl, rfl⟩) ?_
        refine r_y (i := 9) rfl (st_move rfl ⟨rfl, rfl⟩) ?_
        refine r_n (i := 10) rfl rfl ?_
        refine r_n (i := 11) rfl rfl ?_
        refine r_n (i := 12) rfl rfl ?_
        refine r_n (i := 13) rfl rfl ?_
        refine r_n (i := 14) rfl rfl ?_
        refine r_n (i := 15) rfl rfl ?_
        refine r_y (i := 16) rfl (st_pick_f rfl (by first | rfl | assumption | simp [*]) rfl ⟨rfl, rfl⟩) ?_
        refine r_y (i := 17) rfl (st_move rfl ⟨rfl, rfl⟩) ?_
        refine r_n (i := 18) rfl rfl ?_
        refine r_n (i := 19) rfl rfl ?_
        refine r_n (i := 20) rfl rfl ?_
        refine r_n (i := 21) rfl rfl ?_
        refine r_n (i := 22) rfl rfl ?_
        refine r_n (i := 23) rfl rfl ?_
        refine r_n (i := 24) rfl rfl ?_
        refine r_y (i := 25) rfl (st_pick_f rfl (by first | rfl | assumption | simp [*]) rfl ⟨rfl, rfl⟩) ?_
        refine r_y (i := 26) rfl (st_assign rfl ⟨rfl, rfl⟩) ?_
        refine aa_done (by kernel_rfl) ?_ _
        refine x_then ?_
        refine hK _ ?_
        clear hK K
        refine aw_ret ?_
        refine e_ret ?_
        first | rfl | (exfalso; simp_all)
    · have hc1 := bp hb1
      refine r_n (i := 3) rfl rfl ?_
      refine r_y (i := 4) rfl (st_pick_f rfl (by first | rfl | assumption | simp [*]) rfl ⟨rfl, rfl⟩) ?_
      refine r_y (i := 5) rfl (st_move rfl ⟨rfl, rfl⟩) ?_
      refine r_n (i := 6) rfl rfl ?_
      refine r_n (i := 7) rfl rfl ?_
      refine r_y (i := 8) rfl (st_pick_f rfl (by first | rfl | assumption | simp [*]) rfl ⟨rfl, rfl⟩) ?_
      refine r_y (i := 9) rfl (st_move rfl ⟨rfl, rfl⟩) ?_
      refine r_n (i := 10) rfl rfl ?_
      refine r_n (i := 11) rfl rfl ?_
      refine r_n (i := 12) rfl rfl ?_
      refine r_n (i := 13) rfl rfl ?_
      refine r_n (i := 14) rfl rfl ?_
      refine r_n (i := 15) rfl rfl ?_
      refine r_y (i := 16) rfl (st_pick_f rfl (by first | rfl | assumption | simp [*]) rfl ⟨rfl, rfl⟩) ?_
      refine r_y (i := 17) rfl (st_move rfl ⟨rfl, rfl⟩) ?_
      refine r_n (i := 18) rfl rfl ?_
      refine r_n (i := 19) rfl rfl ?_
      refine r_n (i := 20) rfl rfl ?_
      refine r_n (i := 21) rfl rfl ?_
      refine r_n (i := 22) rfl rfl ?_
      refine r_n (i := 23) rfl rfl ?_
      refine r_n (i := 24) rfl rfl ?_
      refine r_y (i := 25) rfl (st_pick_f rfl (by first | rfl | assumption | simp [*]) rfl ⟨rfl, rfl⟩) ?_
      refine r_y (i := 26) rfl (st_assign rfl ⟨rfl, rfl⟩) ?_
      refine aa_done (by kernel_rfl) ?_ _
      refine x_then ?_
      refine hK _ ?_
      clear hK K
      refine aw_ret ?_
      refine e_ret ?_
      first | rfl | (exfalso; simp_all)
  · refine s_alloc (by repeat constructor) ?_
    refine ⟨.inr ⟨_, rfl⟩, ?_⟩
    refine aa_c (i := 6) rfl rfl (by kernel_rfl) (by first | rfl | exact wan_y rfl rfl (beq_tt ‹_›) | exact wan_y rfl rfl (beq_ff ‹_›) | exact wan_y rfl rfl (by simp [*])) (q_call (had) ?_)
    rintro r rfl
    refine ⟨.inr ⟨_, rfl⟩, ?_⟩
    refine aa_t (i := 7) rfl rfl (by kernel_rfl) (by first | rfl | exact wan_y rfl rfl (beq_tt ‹_›) | exact wan_y rfl rfl (beq_ff ‹_›) | exact wan_y rfl rfl (by simp [*])) (fun h0 hS => st_move rfl ⟨rfl, rfl⟩) ⟨_, rfl⟩ ?_
    refine aa_t (i := 8) rfl rfl (by kernel_rfl) (by first | rfl | exact wan_y rfl rfl (beq_tt ‹_›) | exact wan_y rfl rfl (beq_ff ‹_›) | exact wan_y rfl rfl (by simp [*])) (fun h0 hS => st_extract rfl rfl ⟨rfl, rfl⟩) ⟨_, rfl⟩ ?_
    refine aa_t (i := 9) rfl rfl (by kernel_rfl) (by first | rfl | exact wan_y rfl rfl (beq_tt ‹_›) | exact wan_y rfl rfl (beq_ff ‹_›) | exact wan_y rfl rfl (by simp [*])) (fun h0 hS => st_extract rfl rfl ⟨rfl, rfl⟩) ⟨_, rfl⟩ ?_
    refine aa_c0 (i := 11) rfl (by kernel_rfl) (by first | rfl | exact wan_y rfl rfl (beq_tt ‹_›) | exact wan_y rfl rfl (beq_ff ‹_›) | exact wan_y rfl rfl (by simp [*])) (s_store rfl rfl rfl rfl rfl rfl (by repeat constructor) (by repeat constructor) ?_)
    refine ⟨.inr ⟨_, rfl⟩, ?_⟩
    refine aa_t (i := 12) rfl rfl (by kernel_rfl) (by first | rfl | exact wan_y rfl rfl (beq_tt ‹_›) | exact wan_y rfl rfl (beq_ff ‹_›) | exact wan_y rfl rfl (by simp [*])) (fun h0 hS => st_assign rfl ⟨rfl, rfl⟩) ⟨_, rfl⟩ ?_
    refine aa_done (by kernel_rfl) ?_ _
    refine x_then ?_
    refine hK _ ?_
    clear hK K
    refine p_sr (fun K hK => ?_)
    refine al_p rfl (st_loadBW rfl rfl rfl ?_)
    refine p_bd ?_
    refine al_p rfl (q_call (hwh) ?_)
    rintro r rfl
    refine p_mv ?_
    refine al_p rfl (st_extract rfl rfl ?_)
    refine al_p rfl (st_extract rfl rfl ?_)
    refine p_as ?_
    refine p_as ?_
    refine al_nil (x_then (hK _ ?_))
    clear hK K
    refine aw_seq (fun K hK => ?_)
    refine aw_drawR 27 (by kernel_rfl) ?_
    refine r_y (i := 0) rfl (st_move rfl ⟨rfl, rfl⟩) ?_
    first | refine r_y (i := 1) rfl (st_eql rfl rfl ⟨rfl, rfl⟩) ?_ | refine r_y (i := 1) rfl (st_eqlS rfl rfl ⟨rfl, rfl⟩) ?_ | refine r_y (i := 1) rfl (st_eqlB (by kernel_rfl) rfl rfl ⟨rfl, rfl⟩) ?_
    refine r_y (i := 2) rfl (st_move rfl ⟨rfl, rfl⟩) ?_
    refine aa_both (j := 2) rfl (fun hb5 => ?_) (fun hb5 => ?_)
    · have hc5 := bp hb5
      refine r_y (i := 3) rfl (st_move rfl ⟨rfl, rfl⟩) ?_
      refine r_y (i := 4) rfl (st_pick_t rfl (by first | rfl | assumption | simp [*]) rfl ⟨rfl, rfl⟩) ?_
      refine r_y (i := 5) rfl (st_move rfl ⟨rfl, rfl⟩) ?_
      refine aa_both (j := 5) rfl (fun hb6 => ?_) (fun hb6 => ?_)
      · have hc6 := bp hb6
        refine r_y (i := 6) rfl (st_move rfl ⟨rfl, rfl⟩) ?_
        first | refine r_y (i := 7) rfl (st_eql rfl rfl ⟨rfl, rfl⟩) ?_ | refine r_y (i := 7) rfl (st_eqlS rfl rfl ⟨rfl, rfl⟩) ?_ | refine r_y (i := 7) rfl (st_eqlB (by kernel_rfl) rfl rfl ⟨rfl, rfl⟩) ?_
        refine r_y (i := 8) rfl (st_pick_t rfl (by first | rfl | assumption | simp [*]) rfl ⟨rfl, rfl⟩) ?_
        refine r_y (i := 9) rfl (st_move rfl ⟨rfl, rfl⟩) ?_
        refine aa_both (j := 9) rfl (fun hb7 => ?_) (fun hb7 => ?_)
        · have hc7 := bp hb7
          refine r_y (i := 10) rfl (st_loadBW rfl rfl rfl ⟨rfl, rfl⟩) ?_
          refine r_y (i := 11) rfl (st_move rfl ⟨rfl, rfl⟩) ?_
          refine r_y (i := 12) rfl (st_index rfl rfl rfl (by first | assumption | rfl) ⟨rfl, rfl⟩) ?_
          refine r_y (i := 13) rfl (st_fieldF rfl ⟨rfl, rfl⟩) ?_
          refine r_y (i := 14) rfl (st_loadFN rfl rfl ⟨rfl, rfl⟩) ?_
          refine aa_c (i := 15) rfl rfl (by kernel_rfl) (by first | rfl | exact wan_y rfl rfl (beq_tt ‹_›) | exact wan_y rfl rfl (beq_ff ‹_›) | exact wan_y rfl rfl (by simp [*])) (q_call (hcv) ?_)
          rintro r rfl
          refine ⟨.inr rfl, ?_⟩
          refine r_y (i := 16) rfl (st_pick_t rfl (by first | rfl | assumption | simp [*]) rfl ⟨rfl, rfl⟩) ?_
          refine r_y (i := 17) rfl (st_move rfl ⟨rfl, rfl⟩) ?_
          refine aa_both (j := 17) rfl (fun hb8 => ?_) (fun hb8 => ?_)
          · have hc8 := bp hb8
            refine r_y (i := 18) rfl (st_loadBW rfl rfl rfl ⟨rfl, rfl⟩) ?_
            refine r_y (i := 19) rfl (st_move rfl ⟨rfl, rfl⟩) ?_
            refine r_y (i := 20) rfl (st_index rfl rfl rfl (by first | assumption | rfl) ⟨rfl, rfl⟩) ?_
            refine r_y (i := 21) rfl (st_fieldF rfl ⟨rfl, rfl⟩) ?_
            refine r_y (i := 22) rfl (st_loadFN rfl rfl ⟨rfl, rfl⟩) ?_
            refine aa_c (i := 23) rfl rfl (by kernel_rfl) (by first | rfl | exact wan_y rfl rfl (beq_tt ‹_›) | exact wan_y rfl rfl (beq_ff ‹_›) | exact wan_y rfl rfl (by simp [*])) (q_call (hvs) ?_)
            rintro r rfl
            refine ⟨.inr rfl, ?_⟩
            refine r_y (i := 24) rfl (st_not rfl ⟨rfl, rfl⟩) ?_
            refine r_y (i := 25) rfl (st_pick_t rfl (by first | rfl | assumption | simp [*]) rfl ⟨rfl, rfl⟩) ?_
            refine r_y (i := 26) rfl (st_assign rfl ⟨rfl, rfl⟩) ?_
            refine aa_done (by kernel_rfl) ?_ _
            refine x_then ?_
            refine hK _ ?_
            clear hK K
            refine aw_ret ?_
            refine e_ret ?_
            first | rfl | (exfalso; simp_all)
          · have hc8 := bp hb8
            refine r_n (i := 18) rfl rfl ?_
            refine r_n (i := 19) rfl rfl ?_
            refine r_n (i := 20) rfl rfl ?_
            refine r_n (i := 21) rfl rfl ?_
            refine r_n (i := 22) rfl rfl ?_
            refine r_n (i := 23) rfl rfl ?_
            refine r_n (i := 24) rfl rfl ?_
            refine r_y (i := 25) rfl (st_pick_f rfl (by first | rfl | assumption | simp [*]) rfl ⟨rfl, rfl⟩) ?_
            refine r_y (i := 26) rfl (st_assign rfl ⟨rfl, rfl⟩) ?_
            refine aa_done (by kernel_rfl) ?_ _
            refine x_then ?_
            refine hK _ ?_
            clear hK K
            refine aw_ret ?_
            refine e_ret ?_
            first | rfl | (exfalso; simp_all)
        · have hc7 := bp hb7
          refine r_n (i := 10) rfl rfl ?_
          refine r_n (i := 11) rfl rfl ?_
          refine r_n (i := 12) rfl rfl ?_
          refine r_n (i := 13) rfl rfl ?_
          refine r_n (i := 14) rfl rfl ?_
          refine r_n (i := 15) rfl rfl ?_
          refine r_y (i := 16) rfl (st_pick_f rfl (by first | rfl | assumption | simp [*]) rfl ⟨rfl, rfl⟩) ?_
          refine r_y (i := 17) rfl (st_move rfl ⟨rfl, rfl⟩) ?_
          refine r_n (i := 18) rfl rfl ?_
          refine r_n (i := 19) rfl rfl ?_
          refine r_n (i := 20) rfl rfl ?_
          refine r_n (i := 21) rfl rfl ?_
          refine r_n (i := 22) rfl rfl ?_
          refine r_n (i := 23) rfl rfl ?_
          refine r_n (i := 24) rfl rfl ?_
          refine r_y (i := 25) rfl (st_pick_f rfl (by first | rfl | assumption | simp [*]) rfl ⟨rfl, rfl⟩) ?_
          refine r_y (i := 26) rfl (st_assign rfl ⟨rfl, rfl⟩) ?_
          refine aa_done (by kernel_rfl) ?_ _
          refine x_then ?_
          refine hK _ ?_
          clear hK K
          refine aw_ret ?_
          refine e_ret ?_
          first | rfl | (exfalso; simp_all)
      · have hc6 := bp hb6
        refine r_n (i := 6) rfl rfl ?_
        refine r_n (i := 7) rfl rfl ?_
        refine r_y (i := 8) rfl (st_pick_f rfl (by first | rfl | assumption | simp [*]) rfl ⟨rfl, rfl⟩) ?_
        refine r_y (i := 9) rfl (st_move rfl ⟨rfl, rfl⟩) ?_
        refine r_n (i := 10) rfl rfl ?_
        refine r_n (i := 11) rfl rfl ?_
        refine r_n (i := 12) rfl rfl ?_
        refine r_n (i := 13) rfl rfl ?_
        refine r_n (i := 14) rfl rfl ?_
        refine r_n (i := 15) rfl rfl ?_
        refine r_y (i := 16) rfl (st_pick_f rfl (by first | rfl | assumption | simp [*]) rfl ⟨rfl, rfl⟩) ?_
        refine r_y (i := 17) rfl (st_move rfl ⟨rfl, rfl⟩) ?_
        refine r_n (i := 18) rfl rfl ?_
        refine r_n (i := 19) rfl rfl ?_
        refine r_n (i := 20) rfl rfl ?_
        refine r_n (i := 21) rfl rfl ?_
        refine r_n (i := 22) rfl rfl ?_
        refine r_n (i := 23) rfl rfl ?_
        refine r_n (i := 24) rfl rfl ?_
        refine r_y (i := 25) rfl (st_pick_f rfl (by first | rfl | assumption | simp [*]) rfl ⟨rfl, rfl⟩) ?_
        refine r_y (i := 26) rfl (st_assign rfl ⟨rfl, rfl⟩) ?_
        refine aa_done (by kernel_rfl) ?_ _
        refine x_then ?_
        refine hK _ ?_
        clear hK K
        refine aw_ret ?_
        refine e_ret ?_
        first | rfl | (exfalso; simp_all)
    · have hc5 := bp hb5
      refine r_n (i := 3) rfl rfl ?_
      refine r_y (i := 4) rfl (st_pick_f rfl (by first | rfl | assumption | simp [*]) rfl ⟨rfl, rfl⟩) ?_
      refine r_y (i := 5) rfl (st_move rfl ⟨rfl, rfl⟩) ?_
      refine r_n (i := 6) rfl rfl ?_
      refine r_n (i := 7) rfl rfl ?_
      refine r_y (i := 8) rfl (st_pick_f rfl (by first | rfl | assumption | simp [*]) rfl ⟨rfl, rfl⟩) ?_
      refine r_y (i := 9) rfl (st_move rfl ⟨rfl, rfl⟩) ?_
      refine r_n (i := 10) rfl rfl ?_
      refine r_n (i := 11) rfl rfl ?_
      refine r_n (i := 12) rfl rfl ?_
      refine r_n (i := 13) rfl rfl ?_
      refine r_n (i := 14) rfl rfl ?_
      refine r_n (i := 15) rfl rfl ?_
      refine r_y (i := 16) rfl (st_pick_f rfl (by first | rfl | assumption | simp [*]) rfl ⟨rfl, rfl⟩) ?_
      refine r_y (i := 17) rfl (st_move rfl ⟨rfl, rfl⟩) ?_
      refine r_n (i := 18) rfl rfl ?_
      refine r_n (i := 19) rfl rfl ?_
      refine r_n (i := 20) rfl rfl ?_
      refine r_n (i := 21) rfl rfl ?_
      refine r_n (i := 22) rfl rfl ?_
      refine r_n (i := 23) rfl rfl ?_
      refine r_n (i := 24) rfl rfl ?_
      refine r_y (i := 25) rfl (st_pick_f rfl (by first | rfl | assumption | simp [*]) rfl ⟨rfl, rfl⟩) ?_
      refine r_y (i := 26) rfl (st_assign rfl ⟨rfl, rfl⟩) ?_
      refine aa_done (by kernel_rfl) ?_ _
      refine x_then ?_
      refine hK _ ?_
      clear hK K
      refine aw_ret ?_
      refine e_ret ?_
      first | rfl | (exfalso; simp_all)

end
end Go.Proofs.Ytgliiknfmlmddaa
namespace Go.Proofs.Ytgliiknfmlmddaa
open Go.RowKit

def StAll (w : World) : Nat → Nat → Prop := fun b _ => b < w.heap.size
def Opens (P : Program) (t : TypeId) (R : List AV → Prop) : Prop :=
  ∀ (H : Type) (enc : TypeId × Value → H) (w : World) (base : Nat) (spare : Nat → Bool) (held : Bool) (fuel : Nat) (cs : List Value) (x : DataW H × List MemPlace), DataW.trod enc P w base spare held fuel t cs = some x →
    ∃ row, R row ∧ froL (StAll w) w row cs ∧ ∀ u ∈ cs, u.oneCell' = true
section
variable {P : Program} {t : TypeId}
theorem Opens.mono {R R' : List AV → Prop} (h : Opens P t R) (hR : ∀ r, R r → R' r) : Opens P t R' := by
  intro H enc w base spare held fuel cs x hx
  obtain ⟨row, h1, h2⟩ := h H enc w base spare held fuel cs x hx
  exact ⟨row, hR _ h1, h2⟩
theorem opens_int {k : IntKind} (ht : P.underlying t = some (.int k)) : Opens P t fun r => ∃ n, r = [.v (.int k n)] ∧ (Lit.int k n).wf = true := by
  intro H enc w base spare held fuel cs x hx
  obtain ⟨b, rfl, _, hw⟩ := DataW.trod_int ht hx
  exact ⟨_, ⟨b, rfl, hw⟩, ⟨_, _, rfl, by simp only [fro], by simp only [froL]⟩, by simp [Value.oneCell']⟩
theorem cell_lt' {w : World} {b o : Nat} {v : Value} (h : w.cell? ⟨b, o, none⟩ = some v) : b < w.heap.size := by
  rcases Nat.lt_or_ge b w.heap.size with hlt | hge
  · exact hlt
  · simp [World.cell?, Array.getElem?_eq_none hge] at h
theorem froL_length' {St : Nat → Nat → Prop} {w : World} {xs : List AV} {ys : List Value} (h : froL St w xs ys) : ys.length = xs.length := repL_length (G := ⟨St, [], []⟩) (repL_fro (G := ⟨St, [], []⟩) _ _ h)
theorem opens_slice {e : TypeId} {n : Nat} {R : List AV → Prop} (ht : P.underlying t = some (.slice e)) (hc : P.cellsOf e = n) (hn : 0 < n) (h : Opens P e R) : Opens P t fun r => ∃ rows, r = [.sl n rows none] ∧ rows.length ≤ maxLen ∧ ∀ x ∈ rows, R x := by
  intro H enc w base spare held fuel cs x hx
  rcases DataW.trod_slice ht hx with ⟨rfl, _⟩ | ⟨⟨b, off, spot⟩, len, cap, elems, rest, m, rfl, rfl, _, hb, hl, hm, hlen, hel, _, _⟩
  · exact ⟨_, ⟨[], rfl, Nat.zero_le _, by simp⟩, ⟨_, _, rfl, by simp only [fro]; exact ⟨trivial, none, 0, rfl, Nat.le_refl _, Nat.zero_le _, .inl trivial⟩, by simp only [froL]⟩, by simp [Value.oneCell']⟩
  · have each : ∀ i, i < len → ∃ row cs', R row ∧ row.length = n ∧ froL (StAll w) w row cs' ∧ (∀ u ∈ cs', u.oneCell' = true) ∧ cs'.length = n ∧ ∀ j, j < n → w.cell? (Addr.add ⟨b, off, spot⟩ (i * n + j)) = cs'[j]? := by
      intro i hi
      have h1 := hel i hi
      rw [hc, List.getElem?_eq_getElem (by omega), Option.bind_eq_some_iff] at h1
      obtain ⟨cs', h2, h3⟩ := h1
      obtain ⟨row, r1, r2, r3⟩ := h _ _ _ _ _ _ _ _ _ h3
      obtain ⟨_, c1, c2⟩ := World.cells?_some h2
      refine ⟨row, cs', r1, by rw [← froL_length' r2, c1], r2, r3, c1, fun j hj => ?_⟩
      have := c2 j hj
      rwa [Addr.add_add] at this
    have hrows : ∃ rows : List (List AV), rows.length = len ∧ (∀ i, i < len → ∃ row cs', rows[i]? = some row ∧ R row ∧ row.length = n ∧ froL (StAll w) w row cs' ∧ (∀ u ∈ cs', u.oneCell' = true) ∧ cs'.length = n ∧ ∀ j, j < n → w.cell? (Addr.add ⟨b, off, spot⟩ (i * n + j)) = cs'[j]?) := by
      clear hel
      have : ∀ k, k ≤ len → ∃ rows : List (List AV), rows.length = k ∧ (∀ i, i < k → ∃ row cs', rows[i]? = some row ∧ R row ∧ row.length = n ∧ froL (StAll w) w row cs' ∧ (∀ u ∈ cs', u.oneCell' = true) ∧ cs'.length = n ∧ ∀ j, j < n → w.cell? (Addr.add ⟨b, off, spot⟩ (i * n + j)) = cs'[j]?) := by
        intro k
        induction k with
        | zero => intro _; exact ⟨[], rfl, fun i hi => by omega⟩
        | succ k ih =>
          intro hk
          obtain ⟨rows, e1, e2⟩ := ih (by omega)
          obtain ⟨row, cs', q⟩ := each k (by omega)
          refine ⟨rows ++ [row], by simp [e1], fun i hi => ?_⟩
          rcases Nat.lt_or_ge i k with hlt | hge
          · obtain ⟨row', cs'', q1, q2⟩ := e2 i hlt
            exact ⟨row', cs'', by rw [List.getElem?_append_left (by omega)]; exact q1, q2⟩
          · obtain rfl : i = k := by omega
            exact ⟨row, cs', by rw [List.getElem?_append_right (by omega), e1]; simp, q⟩
      exact this len (Nat.le_refl _)
    obtain ⟨rows, e1, e2⟩ := hrows
    refine ⟨_, ⟨rows, rfl, by omega, fun x hx => ?_⟩, ⟨_, _, rfl, ?_, by simp only [froL]⟩, by simp [Value.oneCell']⟩
    · obtain ⟨i, hi⟩ := List.getElem?_of_mem hx
      obtain ⟨row, _, q1, q2, _⟩ := e2 i (by rw [← e1]; exact (List.getElem?_eq_some_iff.1 hi).1)
      rw [hi] at q1
      injection q1 with q1
      subst q1
      exact q2
    · simp only [fro]
      refine ⟨trivial, some ⟨b, off, spot⟩, cap, by rw [e1], by omega, hm, ?_⟩
      rcases Nat.eq_zero_or_pos len with h0 | h0
      · left; exact List.eq_nil_of_length_eq_zero (by omega)
      · right
        have hspot : spot = none := by
          obtain ⟨_, cs', _, _, _, _, _, c3, c4⟩ := e2 0 h0
          have := c4 0 hn
          rw [List.getElem?_eq_getElem (by omega)] at this
          simpa [Addr.add] using World.cell?_spot this
        subst hspot
        refine ⟨b, off, rfl, ?_⟩
        have : ∀ (rs : List (List AV)) (k : Nat), (∀ i r, rs[i]? = some r → rows[k + i]? = some r) → froR (StAll w) w b n rs (off + k * n) := by
          intro rs
          induction rs with
          | nil => intro k _; simp only [froR]
          | cons r rs ih =>
            intro k hk
            simp only [froR]
            have h1 := hk 0 r rfl
            rw [Nat.add_zero] at h1
            obtain ⟨row, cs', q1, _, q3, q4, q5, q6, q7⟩ := e2 k (by rw [← e1]; exact (List.getElem?_eq_some_iff.1 h1).1)
            rw [h1] at q1
            injection q1 with q1
            subst q1
            refine ⟨⟨q3, froC_of fun i x hi => ?_⟩, ?_⟩
            · obtain ⟨u, u1, u2⟩ := froL_get q4 hi
              have hin : i < n := by rw [← q3]; exact (List.getElem?_eq_some_iff.1 hi).1
              have hc := q7 i hin
              rw [u1] at hc
              have hc' : w.cell? ⟨b, off + k * n + i, none⟩ = some u := by rw [Addr.add_mid] at hc; rwa [Nat.add_assoc]
              exact ⟨cell_lt' hc', u, hc', q5 u (List.mem_of_getElem? u1), u2⟩
            · have := ih (k + 1) (fun i r' hi => by
                have := hk (i + 1) r' (by simpa using hi)
                rwa [show k + 1 + i = k + (i + 1) by omega])
              rwa [show off + (k + 1) * n = off + k * n + n by rw [Nat.add_mul]; omega] at this
        simpa using this rows 0 (fun i r hi => by simpa using hi)
theorem rows_map {α : Type} {enc : α → List AV} {Q : α → Prop} : ∀ {rows : List (List AV)}, (∀ x ∈ rows, ∃ a, x = enc a ∧ Q a) → ∃ l : List α, rows = l.map enc ∧ ∀ a ∈ l, Q a
  | [], _ => ⟨[], rfl, by simp⟩
  | r :: rs, h => by
    obtain ⟨a, rfl, ha⟩ := h r (by simp)
    obtain ⟨l, rfl, hl⟩ := rows_map (rows := rs) fun x hx => h x (by simp [hx])
    exact ⟨a :: l, rfl, by simpa using ⟨ha, hl⟩⟩
theorem Opens.one {R : List AV → Prop} (h : Opens P t R) {H : Type} {enc : TypeId × Value → H} {w : World} {base : Nat} {spare : Nat → Bool} {held : Bool} {v : Value} {d : DataW H} {ps : List MemPlace} (hv : v.cells = #[v]) (hd : DataW.Trod enc P w base spare held t v d ps) :
    ∃ row, R row ∧ froL (StAll w) w row [v] := by
  obtain ⟨fuel, hf⟩ := hd
  rw [hv] at hf
  obtain ⟨row, h1, h2, _⟩ := h _ _ _ _ _ _ _ _ _ hf
  exact ⟨row, h1, h2⟩
end
end Go.Proofs.Ytgliiknfmlmddaa
namespace Go.Proofs.Ytgliiknfmlmddaa
open Go.RowKit

theorem opInts : Opens Try.prog 22 (fun r => ∃ l : List Int, r = [.sl 1 (l.map intA) none]) :=
  (opens_slice (n := 1) Try.underlying22 (by kernel_rfl) (by omega) (opens_int Try.underlying3)).mono (by
    rintro r ⟨rows, rfl, _, hr⟩
    obtain ⟨l, rfl, _⟩ := rows_map (enc := intA) (Q := fun _ => True) (fun x hx => by obtain ⟨t, rfl, _⟩ := hr x hx; exact ⟨t, rfl, trivial⟩)
    exact ⟨l, rfl⟩)
theorem ints_one {H : Type} {enc : TypeId × Value → H} {sp : Nat → Bool} {held : Bool} {base : Nat} {w : World} {a : Option Addr} {n c : Nat} {d : DataW H} {p : List MemPlace} (h : DataW.Trod enc Try.prog w base sp held 22 (.slice a n c) d p) :
    ∃ l : List Int, rep ⟨StAll w, [], []⟩ w (.sl 1 (l.map intA) none) (.slice a n c) := by
  obtain ⟨r0, ⟨l, rfl⟩, k0⟩ := opInts.one rfl h
  simp only [froL] at k0
  obtain ⟨_, _, e0, k0, rfl⟩ := k0
  injection e0 with e0
  subst e0
  exact ⟨l, rep_fro (G := ⟨StAll w, [], []⟩) _ _ k0⟩
theorem walk_ints {f : FuncId} (hf : ∀ l : List Int, AFn Try.prog f [.sl 1 (l.map intA) none] (fun x => x = .v (.bool true))) {H : Type} {enc : TypeId × Value → H} {sp : Nat → Bool} {held : Bool} {base : Nat} (a : Option Addr) (n c : Nat) (w : World) {d : DataW H} {p : List MemPlace}
    (h : DataW.Trod enc Try.prog w base sp held 22 (.slice a n c) d p) : Calls Try.prog f #[.slice a n c] w fun e w' => e = .returned (.bool true) ∧ Below w.heap.size w w' := by
  obtain ⟨l, k⟩ := ints_one h
  refine calls_of (vs := [.slice a n c]) (hf l) (StAll w) (fun b o h => h) ?_
  simp only [repL]
  exact ⟨_, _, rfl, k, rfl⟩
end Go.Proofs.Ytgliiknfmlmddaa
