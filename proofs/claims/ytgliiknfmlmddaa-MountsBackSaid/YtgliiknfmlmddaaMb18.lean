/-
  Part 18 of the proof of MountsBackP: what the statement's proof uses of the texts in wip/tpl.
-/
import Derived.OpenShut
import Derived.ChangeArms
import Derived.ChangeOld
import Derived.DataReads
import Derived.DataElems
import Derived.Test.YtgliiknfmlmddaaMb17
namespace Go.Proofs.Ytgliiknfmlmddaa
open Go.RowKit

section
set_option maxRecDepth 10000
set_option maxHeartbeats 1000000
theorem aw_fv : FlsV awF := by
  have h := (make_okay (new_valid (k := 2) (by omega) (by omega)).1 (0, 1) ⟨#[97]⟩ awNod)
  unfold Okay at h
  rw [aw_make] at h
  exact (h rfl).1
theorem aw_n : SpcN awS := ⟨⟨aw_fv.b, by decide⟩, fun x => by have := nmo_size (s := awS) aw_fv x; omega, by have := most_le aw_fv; exact Nat.le_trans this (by decide)⟩
theorem aw_le : LeA (.agg [.sl 2 (awF.map dvcA) none, .v (.slice none 0 0)]) (.agg (spcA ⟨awF, []⟩)) := LeA.agg (LeL.cons (LeA.refl _) (LeL.cons (LeA.nil _) LeL.nil))
theorem Lawake : AFn Try.prog 19 [] (fun r => r = .v (.bool true)) := by
  have hnew : AFn Try.prog 50 [.v (.int .i64 2)] (fun r => r = .tup [.agg (flsA (newL 2).1), .v (.int .i64 0)]) := Rnew 2
  have hmk : AFn Try.prog 51 [.agg (flsA (newL 2).1), .agg [.v (.int .i64 0), .v (.int .i64 1)], .v (.string ⟨#[97]⟩), .agg (nodA awNod)] (fun r => r = .tup [.agg (flsA awF), .sl 7 [chgA ((0, 1), ⟨#[97]⟩, (0, 0), (0, 2))] none, .v (.int .i64 0)]) :=
    (Rmake (newL 2).1 (0, 1) ⟨#[97]⟩ awNod (new_valid (k := 2) (by omega) (by omega)).1 (by decide) (by decide)).mono fun r hr => by rw [hr, aw_make]; rfl
  have had : AFn Try.prog 15 [.agg (spcA ⟨awF, []⟩), .v (.int .i64 1), .agg (filA (0, 2))] (fun r => r = .tup [.agg (spcA awS), .v (.int .i64 0)]) :=
    (Padd ⟨awF, []⟩ 1 (0, 2) ⟨aw_fv.b, by decide⟩ aw_fv.ne).mono fun r hr => by rw [hr, aw_add]; rfl
  have hwh : AFn Try.prog 23 [.agg (spcA awS), .agg (filA (1, 1))] (fun r => r = .tup [.v (.string ⟨#[47, 97]⟩), .v (.bool true)]) :=
    (Pwhere aw_n (1, 1)).mono fun r hr => by rw [hr, aw_where]
  have hcv : AFn Try.prog 26 [.agg (spcA awS), .agg (filA (0, 2))] (fun r => r = .v (.bool true)) :=
    (Pcovered awS (0, 2) aw_n.b).mono fun r hr => by rw [hr, aw_cov]
  have hvs : AFn Try.prog 32 [.agg (spcA awS), .agg (filA (0, 2))] (fun r => r = .v (.bool false)) :=
    (Pvisible aw_n (0, 2)).mono fun r hr => by rw [hr, aw_vis]
  refine enter Try.func19 rfl rfl rfl rfl rfl 0 rfl ?_
  refine p_sr (fun K hK => ?_)
  refine p_as ?_
  refine al_nil (x_then (hK _ ?_))
  clear hK K
  refine p_sr (fun K hK => ?_)
  refine al_p rfl (q_call (hnew) ?_)
  rintro r rfl
  refine p_mv ?_
  refine al_p rfl (st_extract rfl rfl ?_)
  refine al_p rfl (st_extract rfl rfl ?_)
  refine al_p rfl (s_alloc (by repeat constructor) ?_)
  refine p_st ?_
  refine p_as ?_
  refine al_nil (x_then (hK _ ?_))
  clear hK K
  refine p_sr (fun K hK => ?_)
  refine al_p rfl (st_loadBW rfl rfl rfl ?_)
  refine p_bd ?_
  refine al_p rfl (st_le (y := .agg (nodA awNod)) (st_build (by repeat (first | exact FillA.nil _ | (apply FillA.cons; (focus exact rfl); (focus exact rfl); (focus exact rfl); (focus exact rfl); (focus exact rfl); (focus (repeat constructor))))) ⟨rfl, rfl⟩) (by repeat (first | exact LeA.refl _ | exact LeA.nil _ | exact LeL.refl _ | refine LeA.agg ?_ | refine LeA.tup ?_ | exact LeL.nil | refine LeL.cons ?_ ?_ | exact LeA.any _)) ?_)
  refine al_p rfl (q_call (hmk) ?_)
  rintro r rfl
  refine p_mv ?_
  refine al_p rfl (st_extract rfl rfl ?_)
  refine al_p rfl (st_extract rfl rfl ?_)
  refine al_p rfl (st_extract rfl rfl ?_)
  refine p_st ?_
  refine p_as ?_
  refine p_as ?_
  refine al_nil (x_then (hK _ ?_))
  clear hK K
  refine aw_seq (fun K hK => ?_)
  refine aw_draw (fun h => ∃ z, h.bx = [flsA awF] ++ z) 13 (by kernel_rfl) ?_
  first | refine aa_t (i := 0) rfl rfl (by kernel_rfl) (by first | rfl | exact wan_y rfl rfl (beq_tt ‹_›) | exact wan_y rfl rfl (beq_ff ‹_›) | exact wan_y rfl rfl (by simp [*])) (fun h0 hS => st_loadBW (row := flsA awF) rfl (by obtain ⟨_, e⟩ := hS; rw [e]; rfl) rfl ⟨rfl, rfl⟩) ⟨_, rfl⟩ ?_ | refine aa_t (i := 0) rfl rfl (by kernel_rfl) (by first | rfl | exact wan_y rfl rfl (beq_tt ‹_›) | exact wan_y rfl rfl (beq_ff ‹_›) | exact wan_y rfl rfl (by simp [*])) (fun h0 hS => st_loadF rfl rfl ⟨rfl, rfl⟩) ⟨_, rfl⟩ ?_ | refine aa_t (i := 0) rfl rfl (by kernel_rfl) (by first | rfl | exact wan_y rfl rfl (beq_tt ‹_›) | exact wan_y rfl rfl (beq_ff ‹_›) | exact wan_y rfl rfl (by simp [*])) (fun h0 hS => st_loadBW rfl rfl rfl ⟨rfl, rfl⟩) ⟨_, rfl⟩ ?_
  refine aa_t (i := 1) rfl rfl (by kernel_rfl) (by first | rfl | exact wan_y rfl rfl (beq_tt ‹_›) | exact wan_y rfl rfl (beq_ff ‹_›) | exact wan_y rfl rfl (by simp [*])) (fun h0 hS => st_le (y := .agg (spcA ⟨awF, []⟩)) (st_build (by repeat (first | exact FillA.nil _ | (apply FillA.cons; (focus exact rfl); (focus exact rfl); (focus exact rfl); (focus exact rfl); (focus exact rfl); (focus (repeat constructor))))) ⟨rfl, rfl⟩) aw_le ⟨rfl, rfl⟩) ⟨_, rfl⟩ ?_
  refine aa_t (i := 2) rfl rfl (by kernel_rfl) (by first | rfl | exact wan_y rfl rfl (beq_tt ‹_›) | exact wan_y rfl rfl (beq_ff ‹_›) | exact wan_y rfl rfl (by simp [*])) (fun h0 hS => st_move rfl ⟨rfl, rfl⟩) ⟨_, rfl⟩ ?_
  refine aa_t (i := 3) rfl rfl (by kernel_rfl) (by first | rfl | exact wan_y rfl rfl (beq_tt ‹_›) | exact wan_y rfl rfl (beq_ff ‹_›) | exact wan_y rfl rfl (by simp [*])) (fun h0 hS => st_index rfl rfl rfl (by first | assumption | rfl) ⟨rfl, rfl⟩) ⟨_, rfl⟩ ?_
  refine aa_t (i := 4) rfl rfl (by kernel_rfl) (by first | rfl | exact wan_y rfl rfl (beq_tt ‹_›) | exact wan_y rfl rfl (beq_ff ‹_›) | exact wan_y rfl rfl (by simp [*])) (fun h0 hS => st_fieldF rfl ⟨rfl, rfl⟩) ⟨_, rfl⟩ ?_
  first | refine aa_t (i := 5) rfl rfl (by kernel_rfl) (by first | rfl | exact wan_y rfl rfl (beq_tt ‹_›) | exact wan_y rfl rfl (beq_ff ‹_›) | exact wan_y rfl rfl (by simp [*])) (fun h0 hS => st_loadBW (row := flsA awF) rfl (by obtain ⟨_, e⟩ := hS; rw [e]; rfl) rfl ⟨rfl, rfl⟩) ⟨_, rfl⟩ ?_ | refine aa_t (i := 5) rfl rfl (by kernel_rfl) (by first | rfl | exact wan_y rfl rfl (beq_tt ‹_›) | exact wan_y rfl rfl (beq_ff ‹_›) | exact wan_y rfl rfl (by simp [*])) (fun h0 hS => st_loadF rfl rfl ⟨rfl, rfl⟩) ⟨_, rfl⟩ ?_ | refine aa_t (i := 5) rfl rfl (by kernel_rfl) (by first | rfl | exact wan_y rfl rfl (beq_tt ‹_›) | exact wan_y rfl rfl (beq_ff ‹_›) | exact wan_y rfl rfl (by simp [*])) (fun h0 hS => st_loadFN rfl rfl ⟨rfl, rfl⟩) ⟨_, rfl⟩ ?_
  refine aa_two (i := 6) (j := 10) (by kernel_rfl) rfl rfl (by first | rfl | exact wan_y rfl rfl (beq_tt ‹_›) | exact wan_y rfl rfl (beq_ff ‹_›) | exact wan_y rfl rfl (by simp [*])) rfl rfl (by first | rfl | exact wan_y rfl rfl (beq_tt ‹_›) | exact wan_y rfl rfl (beq_ff ‹_›) | exact wan_y rfl rfl (by simp [*])) ?_ ?_
  · refine q_call (had) ?_
    rintro r rfl
    refine ⟨.inr ⟨_, rfl⟩, ?_⟩
    refine aa_t (i := 7) rfl rfl (by kernel_rfl) (by first | rfl | exact wan_y rfl rfl (beq_tt ‹_›) | exact wan_y rfl rfl (beq_ff ‹_›) | exact wan_y rfl rfl (by simp [*])) (fun h0 hS => st_move rfl ⟨rfl, rfl⟩) ⟨_, rfl⟩ ?_
    refine aa_t (i := 8) rfl rfl (by kernel_rfl) (by first | rfl | exact wan_y rfl rfl (beq_tt ‹_›) | exact wan_y rfl rfl (beq_ff ‹_›) | exact wan_y rfl rfl (by simp [*])) (fun h0 hS => st_extract rfl rfl ⟨rfl, rfl⟩) ⟨_, rfl⟩ ?_
    refine aa_t (i := 9) rfl rfl (by kernel_rfl) (by first | rfl | exact wan_y rfl rfl (beq_tt ‹_›) | exact wan_y rfl rfl (beq_ff ‹_›) | exact wan_y rfl rfl (by simp [*])) (fun h0 hS => st_extract rfl rfl ⟨rfl, rfl⟩) ⟨_, rfl⟩ ?_
    refine aa_c (i := 10) rfl rfl (by kernel_rfl) (by first | rfl | exact wan_y rfl rfl (beq_tt ‹_›) | exact wan_y rfl rfl (beq_ff ‹_›) | exact wan_y rfl rfl (by simp [*])) (s_alloc (by repeat constructor) ?_)
    refine ⟨.inr ⟨_, rfl⟩, ?_⟩
    refine aa_c0 (i := 11) rfl (by kernel_rfl) (by first | rfl | exact wan_y rfl rfl (beq_tt ‹_›) | exact wan_y rfl rfl (beq_ff ‹_›) | exact wan_y rfl rfl (by simp [*])) (s_store rfl rfl rfl rfl rfl rfl (by repeat constructor) (by repeat constructor) ?_)
    refine ⟨.inr ⟨_, rfl⟩, ?_⟩
    refine aa_t (i := 12) rfl rfl (by kernel_rfl) (by first | rfl | exact wan_y rfl rfl (beq_tt ‹_›) | exact wan_y rfl rfl (beq_ff ‹_›) | exact wan_y rfl rfl (by simp [*])) (fun h0 hS => st_assign rfl ⟨rfl, rfl⟩) ⟨_, rfl⟩ ?_
    refine aa_done (by kernel_rfl) ?_ _
    refine x_then ?_
    refine hK _ ?_
    clear hK K
    refine p_sr (fun K hK => ?_)
    refine al_p rfl (st_loadBW rfl rfl rfl ?_)
    refine p_bd ?_
    refine al_p rfl (q_call (hwh) ?_)
    rintro r rfl
    refine p_mv ?_
    refine al_p rfl (st_extract rfl rfl ?_)
    refine al_p rfl (st_extract rfl rfl ?_)
    refine p_as ?_
    refine p_as ?_
    refine al_nil (x_then (hK _ ?_))
    clear hK K
    refine aw_seq (fun K hK => ?_)
    refine aw_drawR 27 (by kernel_rfl) ?_
    refine r_y (i := 0) rfl (st_move rfl ⟨rfl, rfl⟩) ?_
    first | refine r_y (i := 1) rfl (st_eql rfl rfl ⟨rfl, rfl⟩) ?_ | refine r_y (i := 1) rfl (st_eqlS rfl rfl ⟨rfl, rfl⟩) ?_ | refine r_y (i := 1) rfl (st_eqlB (by kernel_rfl) rfl rfl ⟨rfl, rfl⟩) ?_
    refine r_y (i := 2) rfl (st_move rfl ⟨rfl, rfl⟩) ?_
    refine aa_both (j := 2) rfl (fun hb1 => ?_) (fun hb1 => ?_)
    · have hc1 := bp hb1
      refine r_y (i := 3) rfl (st_move rfl ⟨rfl, rfl⟩) ?_
      refine r_y (i := 4) rfl (st_pick_t rfl (by first | rfl | assumption | simp [*]) rfl ⟨rfl, rfl⟩) ?_
      refine r_y (i := 5) rfl (st_move rfl ⟨rfl, rfl⟩) ?_
      refine aa_both (j := 5) rfl (fun hb2 => ?_) (fun hb2 => ?_)
      · have hc2 := bp hb2
        refine r_y (i := 6) rfl (st_move rfl ⟨rfl, rfl⟩) ?_
        first | refine r_y (i := 7) rfl (st_eql rfl rfl ⟨rfl, rfl⟩) ?_ | refine r_y (i := 7) rfl (st_eqlS rfl rfl ⟨rfl, rfl⟩) ?_ | refine r_y (i := 7) rfl (st_eqlB (by kernel_rfl) rfl rfl ⟨rfl, rfl⟩) ?_
        refine r_y (i := 8) rfl (st_pick_t rfl (by first | rfl | assumption | simp [*]) rfl ⟨rfl, rfl⟩) ?_
        refine r_y (i := 9) rfl (st_move rfl ⟨rfl, rfl⟩) ?_
        refine aa_both (j := 9) rfl (fun hb3 => ?_) (fun hb3 => ?_)
        · have hc3 := bp hb3
          refine r_y (i := 10) rfl (st_loadBW rfl rfl rfl ⟨rfl, rfl⟩) ?_
          refine r_y (i := 11) rfl (st_move rfl ⟨rfl, rfl⟩) ?_
          refine r_y (i := 12) rfl (st_index rfl rfl rfl (by first | assumption | rfl) ⟨rfl, rfl⟩) ?_
          refine r_y (i := 13) rfl (st_fieldF rfl ⟨rfl, rfl⟩) ?_
          refine r_y (i := 14) rfl (st_loadFN rfl rfl ⟨rfl, rfl⟩) ?_
          refine aa_c (i := 15) rfl rfl (by kernel_rfl) (by first | rfl | exact wan_y rfl rfl (beq_tt ‹_›) | exact wan_y rfl rfl (beq_ff ‹_›) | exact wan_y rfl rfl (by simp [*])) (q_call (hcv) ?_)
          rintro r rfl
          refine ⟨.inr rfl, ?_⟩
          refine r_y (i := 16) rfl (st_pick_t rfl (by first | rfl | assumption | simp [*]) rfl ⟨rfl, rfl⟩) ?_
          refine r_y (i := 17) rfl (st_move rfl ⟨rfl, rfl⟩) ?_
          refine aa_both (j := 17) rfl (fun hb4 => ?_) (fun hb4 => ?_)
          · have hc4 := bp hb4
            refine r_y (i := 18) rfl (st_loadBW rfl rfl rfl ⟨rfl, rfl⟩) ?_
            refine r_y (i := 19) rfl (st_move rfl ⟨rfl, rfl⟩) ?_
            refine r_y (i := 20) rfl (st_index rfl rfl rfl (by first | assumption | rfl) ⟨rfl, rfl⟩) ?_
            refine r_y (i := 21) rfl (st_fieldF rfl ⟨rfl, rfl⟩) ?_
            refine r_y (i := 22) rfl (st_loadFN rfl rfl ⟨rfl, rfl⟩) ?_
            refine aa_c (i := 23) rfl rfl (by kernel_rfl) (by first | rfl | exact wan_y rfl rfl (beq_tt ‹_›) | exact wan_y rfl rfl (beq_ff ‹_›) | exact wan_y rfl rfl (by simp [*])) (q_call (hvs) ?_)
            rintro r rfl
            refine ⟨.inr rfl, ?_⟩
            refine r_y (i := 24) rfl (st_not rfl ⟨rfl, rfl⟩) ?_
            refine r_y (i := 25) rfl (st_pick_t rfl (by first | rfl | assumption | simp [*]) rfl ⟨rfl, rfl⟩) ?_
            refine r_y (i := 26) rfl (st_assign rfl ⟨rfl, rfl⟩) ?_
            refine aa_done (by kernel_rfl) ?_ _
            refine x_then ?_
            refine hK _ ?_
            clear hK K
            refine aw_ret ?_
            refine e_ret ?_
            first | rfl | (exfalso; simp_all)
          · have hc4 := bp hb4
            refine r_n (i := 18) rfl rfl ?_
            refine r_n (i := 19) rfl rfl ?_
            refine r_n (i := 20) rfl rfl ?_
            refine r_n (i := 21) rfl rfl ?_
            refine r_n (i := 22) rfl rfl ?_
            refine r_n (i := 23) rfl rfl ?_
            refine r_n (i := 24) rfl rfl ?_
            refine r_y (i := 25) rfl (st_pick_f rfl (by first | rfl | assumption | simp [*]) rfl ⟨rfl, rfl⟩) ?_
            refine r_y (i := 26) rfl (st_assign rfl ⟨rfl, rfl⟩) ?_
            refine aa_done (by kernel_rfl) ?_ _
            refine x_then ?_
            refine hK _ ?_
            clear hK K
            refine aw_ret ?_
            refine e_ret ?_
            first | rfl | (exfalso; simp_all)
        · have hc3 := bp hb3
          refine r_n (i := 10) rfl rfl ?_
          refine r_n (i := 11) rfl rfl ?_
          refine r_n (i := 12) rfl rfl ?_
          refine r_n (i := 13) rfl rfl ?_
          refine r_n (i := 14) rfl rfl ?_
          refine r_n (i := 15) rfl rfl ?_
          refine r_y (i := 16) rfl (st_pick_f rfl (by first | rfl | assumption | simp [*]) rfl ⟨rfl, rfl⟩) ?_
          refine r_y (i := 17) rfl (st_move rfl ⟨rfl, rfl⟩) ?_
          refine r_n (i := 18) rfl rfl ?_
          refine r_n (i := 19) rfl rfl ?_
          refine r_n (i := 20) rfl rfl ?_
          refine r_n (i := 21) rfl rfl ?_
          refine r_n (i := 22) rfl rfl ?_
          refine r_n (i := 23) rfl rfl ?_
          refine r_n (i := 24) rfl rfl ?_
          refine r_y (i := 25) rfl (st_pick_f rfl (by first | rfl | assumption | simp [*]) rfl ⟨rfl, rfl⟩) ?_
          refine r_y (i := 26) rfl (st_assign rfl ⟨rfl, rfl⟩) ?_
          refine aa_done (by kernel_rfl) ?_ _
          refine x_then ?_
          refine hK _ ?_
          clear hK K
          refine aw_ret ?_
          refine e_ret ?_
          first | rfl | (exfalso; simp_all)
      · have hc2 := bp hb2
        refine r_n (i := 6) rfl rfl ?_
        refine r_n (i := 7) rfl rfl ?_
        refine r_y (i := 8) rfl (st_pick_f rfl (by first | rfl | assumption | simp [*]) rfl ⟨rfl, rfl⟩) ?_
        refine r_y (i := 9) rfl (st_move rfl ⟨rfl, rfl⟩) ?_
        refine r_n (i := 10) rfl rfl ?_
        refine r_n (i := 11) rfl rfl ?_
        refine r_n (i := 12) rfl rfl ?_
        refine r_n (i := 13) rfl rfl ?_
        refine r_n (i := 14) rfl rfl ?_
        refine r_n (i := 15) rfl rfl ?_
        refine r_y (i := 16) rfl (st_pick_f rfl (by first | rfl | assumption | simp [*]) rfl ⟨rfl, rfl⟩) ?_
        refine r_y (i := 17) rfl (st_move rfl ⟨rfl, rfl⟩) ?_
        refine r_n (i := 18) rfl rfl ?_
        refine r_n (i := 19) rfl rfl ?_
        refine r_n (i := 20) rfl rfl ?_
        refine r_n (i := 21) rfl rfl ?_
        refine r_n (i := 22) rfl rfl ?_
        refine r_n (i := 23) rfl rfl ?_
        refine r_n (i := 24) rfl rfl ?_
        refine r_y (i := 25) rfl (st_pick_f rfl (by first | rfl | assumption | simp [*]) rfl ⟨rfl, rfl⟩) ?_
        refine r_y (i := 26) rfl (st_assign rfl ⟨rfl, rfl⟩) ?_
        refine aa_done (by kernel_rfl) ?_ _
        refine x_then ?_
        refine hK _ ?_
        clear hK K
        refine aw_ret ?_
        refine e_ret ?_
        first | rfl | (exfalso; simp_all)
    · have hc1 := bp hb1
      refine r_n (i := 3) rfl rfl ?_
      refine r_y (i := 4) rfl (st_pick_f rfl (by first | rfl | assumption | simp [*]) rfl ⟨rfl, rfl⟩) ?_
      refine r_y (i := 5) rfl (st_move rfl ⟨rfl, rfl⟩) ?_
      refine r_n (i := 6) rfl rfl ?_
      refine r_n (i := 7) rfl rfl ?_
      refine r_y (i := 8) rfl (st_pick_f rfl (by first | rfl | assumption | simp [*]) rfl ⟨rfl, rfl⟩) ?_
      refine r_y (i := 9) rfl (st_move rfl ⟨rfl, rfl⟩) ?_
      refine r_n (i := 10) rfl rfl ?_
      refine r_n (i := 11) rfl rfl ?_
      refine r_n (i := 12) rfl rfl ?_
      refine r_n (i := 13) rfl rfl ?_
      refine r_n (i := 14) rfl rfl ?_
      refine r_n (i := 15) rfl rfl ?_
      refine r_y (i := 16) rfl (st_pick_f rfl (by first | rfl | assumption | simp [*]) rfl ⟨rfl, rfl⟩) ?_
      refine r_y (i := 17) rfl (st_move rfl ⟨rfl, rfl⟩) ?_
      refine r_n (i := 18) rfl rfl ?_
      refine r_n (i := 19) rfl rfl ?_
      refine r_n (i := 20) rfl rfl ?_
      refine r_n (i := 21) rfl rfl ?_
      refine r_n (i := 22) rfl rfl ?_
      refine r_n (i := 23) rfl rfl ?_
      refine r_n (i := 24) rfl rfl ?_
      refine r_y (i := 25) rfl (st_pick_f rfl (by first | rfl | assumption | simp [*]) rfl ⟨rfl, rfl⟩) ?_
      refine r_y (i := 26) rfl (st_assign rfl ⟨rfl, rfl⟩) ?_
      refine aa_done (by kernel_rfl) ?_ _
      refine x_then ?_
      refine hK _ ?_
      clear hK K
      refine aw_ret ?_
      refine e_ret ?_
      first | rfl | (exfalso; simp_all)
  · refine s_alloc (by repeat constructor) ?_
    refine ⟨.inr ⟨_, rfl⟩, ?_⟩
    refine aa_c (i := 6) rfl rfl (by kernel_rfl) (by first | rfl | exact wan_y rfl rfl (beq_tt ‹_›) | exact wan_y rfl rfl (beq_ff ‹_›) | exact wan_y rfl rfl (by simp [*])) (q_call (had) ?_)
    rintro r rfl
    refine ⟨.inr ⟨_, rfl⟩, ?_⟩
    refine aa_t (i := 7) rfl rfl (by kernel_rfl) (by first | rfl | exact wan_y rfl rfl (beq_tt ‹_›) | exact wan_y rfl rfl (beq_ff ‹_›) | exact wan_y rfl rfl (by simp [*])) (fun h0 hS => st_move rfl ⟨rfl, rfl⟩) ⟨_, rfl⟩ ?_
    refine aa_t (i := 8) rfl rfl (by kernel_rfl) (by first | rfl | exact wan_y rfl rfl (beq_tt ‹_›) | exact wan_y rfl rfl (beq_ff ‹_›) | exact wan_y rfl rfl (by simp [*])) (fun h0 hS => st_extract rfl rfl ⟨rfl, rfl⟩) ⟨_, rfl⟩ ?_
    refine aa_t (i := 9) rfl rfl (by kernel_rfl) (by first | rfl | exact wan_y rfl rfl (beq_tt ‹_›) | exact wan_y rfl rfl (beq_ff ‹_›) | exact wan_y rfl rfl (by simp [*])) (fun h0 hS => st_extract rfl rfl ⟨rfl, rfl⟩) ⟨_, rfl⟩ ?_
    refine aa_c0 (i := 11) rfl (by kernel_rfl) (by first | rfl | exact wan_y rfl rfl (beq_tt ‹_›) | exact wan_y rfl rfl (beq_ff ‹_›) | exact wan_y rfl rfl (by simp [*])) (s_store rfl rfl rfl rfl rfl rfl (by repeat constructor) (by repeat constructor) ?_)
    refine ⟨.inr ⟨_, rfl⟩, ?_⟩
    refine aa_t (i := 12) rfl rfl (by kernel_rfl) (by first | rfl | exact wan_y rfl rfl (beq_tt ‹_›) | exact wan_y rfl rfl (beq_ff ‹_›) | exact wan_y rfl rfl (by simp [*])) (fun h0 hS => st_assign rfl ⟨rfl, rfl⟩) ⟨_, rfl⟩ ?_
    refine aa_done (by kernel_rfl) ?_ _
    refine x_then ?_
    refine hK _ ?_
    clear hK K
    refine p_sr (fun K hK => ?_)
    refine al_p rfl (st_loadBW rfl rfl rfl ?_)
    refine p_bd ?_
    refine al_p rfl (q_call (hwh) ?_)
    rintro r rfl
    refine p_mv ?_
    refine al_p rfl (st_extract rfl rfl ?_)
    refine al_p rfl (st_extract rfl rfl ?_)
    refine p_as ?_
    refine p_as ?_
    refine al_nil (x_then (hK _ ?_))
    clear hK K
    refine aw_seq (fun K hK => ?_)
    refine aw_drawR 27 (by kernel_rfl) ?_
    refine r_y (i := 0) rfl (st_move rfl ⟨rfl, rfl⟩) ?_
    first | refine r_y (i := 1) rfl (st_eql rfl rfl ⟨rfl, rfl⟩) ?_ | refine r_y (i := 1) rfl (st_eqlS rfl rfl ⟨rfl, rfl⟩) ?_ | refine r_y (i := 1) rfl (st_eqlB (by kernel_rfl) rfl rfl ⟨rfl, rfl⟩) ?_
    refine r_y (i := 2) rfl (st_move rfl ⟨rfl, rfl⟩) ?_
    refine aa_both (j := 2) rfl (fun hb5 => ?_) (fun hb5 => ?_)
    · have hc5 := bp hb5
      refine r_y (i := 3) rfl (st_move rfl ⟨rfl, rfl⟩) ?_
      refine r_y (i := 4) rfl (st_pick_t rfl (by first | rfl | assumption | simp [*]) rfl ⟨rfl, rfl⟩) ?_
      refine r_y (i := 5) rfl (st_move rfl ⟨rfl, rfl⟩) ?_
      refine aa_both (j := 5) rfl (fun hb6 => ?_) (fun hb6 => ?_)
      · have hc6 := bp hb6
        refine r_y (i := 6) rfl (st_move rfl ⟨rfl, rfl⟩) ?_
        first | refine r_y (i := 7) rfl (st_eql rfl rfl ⟨rfl, rfl⟩) ?_ | refine r_y (i := 7) rfl (st_eqlS rfl rfl ⟨rfl, rfl⟩) ?_ | refine r_y (i := 7) rfl (st_eqlB (by kernel_rfl) rfl rfl ⟨rfl, rfl⟩) ?_
        refine r_y (i := 8) rfl (st_pick_t rfl (by first | rfl | assumption | simp [*]) rfl ⟨rfl, rfl⟩) ?_
        refine r_y (i := 9) rfl (st_move rfl ⟨rfl, rfl⟩) ?_
        refine aa_both (j := 9) rfl (fun hb7 => ?_) (fun hb7 => ?_)
        · have hc7 := bp hb7
          refine r_y (i := 10) rfl (st_loadBW rfl rfl rfl ⟨rfl, rfl⟩) ?_
          refine r_y (i := 11) rfl (st_move rfl ⟨rfl, rfl⟩) ?_
          refine r_y (i := 12) rfl (st_index rfl rfl rfl (by first | assumption | rfl) ⟨rfl, rfl⟩) ?_
          refine r_y (i := 13) rfl (st_fieldF rfl ⟨rfl, rfl⟩) ?_
          refine r_y (i := 14) rfl (st_loadFN rfl rfl ⟨rfl, rfl⟩) ?_
          refine aa_c (i := 15) rfl rfl (by kernel_rfl) (by first | rfl | exact wan_y rfl rfl (beq_tt ‹_›) | exact wan_y rfl rfl (beq_ff ‹_›) | exact wan_y rfl rfl (by simp [*])) (q_call (hcv) ?_)
          rintro r rfl
          refine ⟨.inr rfl, ?_⟩
          refine r_y (i := 16) rfl (st_pick_t rfl (by first | rfl | assumption | simp [*]) rfl ⟨rfl, rfl⟩) ?_
          refine r_y (i := 17) rfl (st_move rfl ⟨rfl, rfl⟩) ?_
          refine aa_both (j := 17) rfl (fun hb8 => ?_) (fun hb8 => ?_)
          · have hc8 := bp hb8
            refine r_y (i := 18) rfl (st_loadBW rfl rfl rfl ⟨rfl, rfl⟩) ?_
            refine r_y (i := 19) rfl (st_move rfl ⟨rfl, rfl⟩) ?_
            refine r_y (i := 20) rfl (st_index rfl rfl rfl (by first | assumption | rfl) ⟨rfl, rfl⟩) ?_
            refine r_y (i := 21) rfl (st_fieldF rfl ⟨rfl, rfl⟩) ?_
            refine r_y (i := 22) rfl (st_loadFN rfl rfl ⟨rfl, rfl⟩) ?_
            refine aa_c (i := 23) rfl rfl (by kernel_rfl) (by first | rfl | exact wan_y rfl rfl (beq_tt ‹_›) | exact wan_y rfl rfl (beq_ff ‹_›) | exact wan_y rfl rfl (by simp [*])) (q_call (hvs) ?_)
            rintro r rfl
            refine ⟨.inr rfl, ?_⟩
            refine r_y (i := 24) rfl (st_not rfl ⟨rfl, rfl⟩) ?_
            refine r_y (i := 25) rfl (st_pick_t rfl (by first | rfl | assumption | simp [*]) rfl ⟨rfl, rfl⟩) ?_
            refine r_y (i := 26) rfl (st_assign rfl ⟨rfl, rfl⟩) ?_
            refine aa_done (by kernel_rfl) ?_ _
            refine x_then ?_
            refine hK _ ?_
            clear hK K
            refine aw_ret ?_
            refine e_ret ?_
            first | rfl | (exfalso; simp_all)
          · have hc8 := bp hb8
            refine r_n (i := 18) rfl rfl ?_
            refine r_n (i := 19) rfl rfl ?_
            refine r_n (i := 20) rfl rfl ?_
            refine r_n (i := 21) rfl rfl ?_
            refine r_n (i := 22) rfl rfl ?_
            refine r_n (i := 23) rfl rfl ?_
            refine r_n (i := 24) rfl rfl ?_
            refine r_y (i := 25) rfl (st_pick_f rfl (by first | rfl | assumption | simp [*]) rfl ⟨rfl, rfl⟩) ?_
            refine r_y (i := 26) rfl (st_assign rfl ⟨rfl, rfl⟩) ?_
            refine aa_done (by kernel_rfl) ?_ _
            refine x_then ?_
            refine hK _ ?_
            clear hK K
            refine aw_ret ?_
            refine e_ret ?_
            first | rfl | (exfalso; simp_all)
        · have hc7 := bp hb7
          refine r_n (i := 10) rfl rfl ?_
          refine r_n (i := 11) rfl rfl ?_
          refine r_n (i := 12) rfl rfl ?_
          refine r_n (i := 13) rfl rfl ?_
          refine r_n (i := 14) rfl rfl ?_
          refine r_n (i := 15) rfl rfl ?_
          refine r_y (i := 16) rfl (st_pick_f rfl (by first | rfl | assumption | simp [*]) rfl ⟨rfl, rfl⟩) ?_
          refine r_y (i := 17) rfl (st_move rfl ⟨rfl, rfl⟩) ?_
          refine r_n (i := 18) rfl rfl ?_
          refine r_n (i := 19) rfl rfl ?_
          refine r_n (i := 20) rfl rfl ?_
          refine r_n (i := 21) rfl rfl ?_
          refine r_n (i := 22) rfl rfl ?_
          refine r_n (i := 23) rfl rfl ?_
          refine r_n (i := 24) rfl rfl ?_
          refine r_y (i := 25) rfl (st_pick_f rfl (by first | rfl | assumption | simp [*]) rfl ⟨rfl, rfl⟩) ?_
          refine r_y (i := 26) rfl (st_assign rfl ⟨rfl, rfl⟩) ?_
          refine aa_done (by kernel_rfl) ?_ _
          refine x_then ?_
          refine hK _ ?_
          clear hK K
          refine aw_ret ?_
          refine e_ret ?_
          first | rfl | (exfalso; simp_all)
      · have hc6 := bp hb6
        refine r_n (i := 6) rfl rfl ?_
        refine r_n (i := 7) rfl rfl ?_
        refine r_y (i := 8) rfl (st_pick_f rfl (by first | rfl | assumption | simp [*]) rfl ⟨rfl, rfl⟩) ?_
        refine r_y (i := 9) rfl (st_move rfl ⟨rfl, rfl⟩) ?_
        refine r_n (i := 10) rfl rfl ?_
        refine r_n (i := 11) rfl rfl ?_
        refine r_n (i := 12) rfl rfl ?_
        refine r_n (i := 13) rfl rfl ?_
        refine r_n (i := 14) rfl rfl ?_
        refine r_n (i := 15) rfl rfl ?_
        refine r_y (i := 16) rfl (st_pick_f rfl (by first | rfl | assumption | simp [*]) rfl ⟨rfl, rfl⟩) ?_
        refine r_y (i := 17) rfl (st_move rfl ⟨rfl, rfl⟩) ?_
        refine r_n (i := 18) rfl rfl ?_
        refine r_n (i := 19) rfl rfl ?_
        refine r_n (i := 20) rfl rfl ?_
        refine r_n (i := 21) rfl rfl ?_
        refine r_n (i := 22) rfl rfl ?_
        refine r_n (i := 23) rfl rfl ?_
        refine r_n (i := 24) rfl rfl ?_
        refine r_y (i := 25) rfl (st_pick_f rfl (by first | rfl | assumption | simp [*]) rfl ⟨rfl, rfl⟩) ?_
        refine r_y (i := 26) rfl (st_assign rfl ⟨rfl, rfl⟩) ?_
        refine aa_done (by kernel_rfl) ?_ _
        refine x_then ?_
        refine hK _ ?_
        clear hK K
        refine aw_ret ?_
        refine e_ret ?_
        first | rfl | (exfalso; simp_all)
    · have hc5 := bp hb5
      refine r_n (i := 3) rfl rfl ?_
      refine r_y (i := 4) rfl (st_pick_f rfl (by first | rfl | assumption | simp [*]) rfl ⟨rfl, rfl⟩) ?_
      refine r_y (i := 5) rfl (st_move rfl ⟨rfl, rfl⟩) ?_
      refine r_n (i := 6) rfl rfl ?_
      refine r_n (i := 7) rfl rfl ?_
      refine r_y (i := 8) rfl (st_pick_f rfl (by first | rfl | assumption | simp [*]) rfl ⟨rfl, rfl⟩) ?_
      refine r_y (i := 9) rfl (st_move rfl ⟨rfl, rfl⟩) ?_
      refine r_n (i := 10) rfl rfl ?_
      refine r_n (i := 11) rfl rfl ?_
      refine r_n (i := 12) rfl rfl ?_
      refine r_n (i := 13) rfl rfl ?_
      refine r_n (i := 14) rfl rfl ?_
      refine r_n (i := 15) rfl rfl ?_
      refine r_y (i := 16) rfl (st_pick_f rfl (by first | rfl | assumption | simp [*]) rfl ⟨rfl, rfl⟩) ?_
      refine r_y (i := 17) rfl (st_move rfl ⟨rfl, rfl⟩) ?_
      refine r_n (i := 18) rfl rfl ?_
      refine r_n (i := 19) rfl rfl ?_
      refine r_n (i := 20) rfl rfl ?_
      refine r_n (i := 21) rfl rfl ?_
      refine r_n (i := 22) rfl rfl ?_
      refine r_n (i := 23) rfl rfl ?_
      refine r_n (i := 24) rfl rfl ?_
      refine r_y (i := 25) rfl (st_pick_f rfl (by first | rfl | assumption | simp [*]) rfl ⟨rfl, rfl⟩) ?_
      refine r_y (i := 26) rfl (st_assign rfl ⟨rfl, rfl⟩) ?_
      refine aa_done (by kernel_rfl) ?_ _
      refine x_then ?_
      refine hK _ ?_
      clear hK K
      refine aw_ret ?_
      refine e_ret ?_
      first | rfl | (exfalso; simp_all)

end
end Go.Proofs.Ytgliiknfmlmddaa
namespace Go.Proofs.Ytgliiknfmlmddaa
open Go.RowKit

def StAll (w : World) : Nat → Nat → Prop := fun b _ => b < w.heap.size
def Opens (P : Program) (t : TypeId) (R : List AV → Prop) : Prop :=
  ∀ (H : Type) (enc : TypeId × Value → H) (w : World) (base : Nat) (spare : Nat → Bool) (held : Bool) (fuel : Nat) (cs : List Value) (x : DataW H × List MemPlace), DataW.trod enc P w base spare held fuel t cs = some x →
    ∃ row, R row ∧ froL (StAll w) w row cs ∧ ∀ u ∈ cs, u.oneCell' = true
section
variable {P : Program} {t : TypeId}
theorem Opens.mono {R R' : List AV → Prop} (h : Opens P t R) (hR : ∀ r, R r → R' r) : Opens P t R' := by
  intro H enc w base spare held fuel cs x hx
  obtain ⟨row, h1, h2⟩ := h H enc w base spare held fuel cs x hx
  exact ⟨row, hR _ h1, h2⟩
theorem opens_int {k : IntKind} (ht : P.underlying t = some (.int k)) : Opens P t fun r => ∃ n, r = [.v (.int k n)] ∧ (Lit.int k n).wf = true := by
  intro H enc w base spare held fuel cs x hx
  obtain ⟨b, rfl, _, hw⟩ := DataW.trod_int ht hx
  exact ⟨_, ⟨b, rfl, hw⟩, ⟨_, _, rfl, by simp only [fro], by simp only [froL]⟩, by simp [Value.oneCell']⟩
theorem cell_lt' {w : World} {b o : Nat} {v : Value} (h : w.cell? ⟨b, o, none⟩ = some v) : b < w.heap.size := by
  rcases Nat.lt_or_ge b w.heap.size with hlt | hge
  · exact hlt
  · simp [World.cell?, Array.getElem?_eq_none hge] at h
theorem froL_length' {St : Nat → Nat → Prop} {w : World} {xs : List AV} {ys : List Value} (h : froL St w xs ys) : ys.length = xs.length := repL_length (G := ⟨St, [], []⟩) (repL_fro (G := ⟨St, [], []⟩) _ _ h)
theorem opens_slice {e : TypeId} {n : Nat} {R : List AV → Prop} (ht : P.underlying t = some (.slice e)) (hc : P.cellsOf e = n) (hn : 0 < n) (h : Opens P e R) : Opens P t fun r => ∃ rows, r = [.sl n rows none] ∧ rows.length ≤ maxLen ∧ ∀ x ∈ rows, R x := by
  intro H enc w base spare held fuel cs x hx
  rcases DataW.trod_slice ht hx with ⟨rfl, _⟩ | ⟨⟨b, off, spot⟩, len, cap, elems, rest, m, rfl, rfl, _, hb, hl, hm, hlen, hel, _, _⟩
  · exact ⟨_, ⟨[], rfl, Nat.zero_le _, by simp⟩, ⟨_, _, rfl, by simp only [fro]; exact ⟨trivial, none, 0, rfl, Nat.le_refl _, Nat.zero_le _, .inl trivial⟩, by simp only [froL]⟩, by simp [Value.oneCell']⟩
  · have each : ∀ i, i < len → ∃ row cs', R row ∧ row.length = n ∧ froL (StAll w) w row cs' ∧ (∀ u ∈ cs', u.oneCell' = true) ∧ cs'.length = n ∧ ∀ j, j < n → w.cell? (Addr.add ⟨b, off, spot⟩ (i * n + j)) = cs'[j]? := by
      intro i hi
      have h1 := hel i hi
      rw [hc, List.getElem?_eq_getElem (by omega), Option.bind_eq_some_iff] at h1
      obtain ⟨cs', h2, h3⟩ := h1
      obtain ⟨row, r1, r2, r3⟩ := h _ _ _ _ _ _ _ _ _ h3
      obtain ⟨_, c1, c2⟩ := World.cells?_some h2
      refine ⟨row, cs', r1, by rw [← froL_length' r2, c1], r2, r3, c1, fun j hj => ?_⟩
      have := c2 j hj
      rwa [Addr.add_add] at this
    have hrows : ∃ rows : List (List AV), rows.length = len ∧ (∀ i, i < len → ∃ row cs', rows[i]? = some row ∧ R row ∧ row.length = n ∧ froL (StAll w) w row cs' ∧ (∀ u ∈ cs', u.oneCell' = true) ∧ cs'.length = n ∧ ∀ j, j < n → w.cell? (Addr.add ⟨b, off, spot⟩ (i * n + j)) = cs'[j]?) := by
      clear hel
      have : ∀ k, k ≤ len → ∃ rows : List (List AV), rows.length = k ∧ (∀ i, i < k → ∃ row cs', rows[i]? = some row ∧ R row ∧ row.length = n ∧ froL (StAll w) w row cs' ∧ (∀ u ∈ cs', u.oneCell' = true) ∧ cs'.length = n ∧ ∀ j, j < n → w.cell? (Addr.add ⟨b, off, spot⟩ (i * n + j)) = cs'[j]?) := by
        intro k
        induction k with
        | zero => intro _; exact ⟨[], rfl, fun i hi => by omega⟩
        | succ k ih =>
          intro hk
          obtain ⟨rows, e1, e2⟩ := ih (by omega)
          obtain ⟨row, cs', q⟩ := each k (by omega)
          refine ⟨rows ++ [row], by simp [e1], fun i hi => ?_⟩
          rcases Nat.lt_or_ge i k with hlt | hge
          · obtain ⟨row', cs'', q1, q2⟩ := e2 i hlt
            exact ⟨row', cs'', by rw [List.getElem?_append_left (by omega)]; exact q1, q2⟩
          · obtain rfl : i = k := by omega
            exact ⟨row, cs', by rw [List.getElem?_append_right (by omega), e1]; simp, q⟩
      exact this len (Nat.le_refl _)
    obtain ⟨rows, e1, e2⟩ := hrows
    refine ⟨_, ⟨rows, rfl, by omega, fun x hx => ?_⟩, ⟨_, _, rfl, ?_, by simp only [froL]⟩, by simp [Value.oneCell']⟩
    · obtain ⟨i, hi⟩ := List.getElem?_of_mem hx
      obtain ⟨row, _, q1, q2, _⟩ := e2 i (by rw [← e1]; exact (List.getElem?_eq_some_iff.1 hi).1)
      rw [hi] at q1
      injection q1 with q1
      subst q1
      exact q2
    · simp only [fro]
      refine ⟨trivial, some ⟨b, off, spot⟩, cap, by rw [e1], by omega, hm, ?_⟩
      rcases Nat.eq_zero_or_pos len with h0 | h0
      · left; exact List.eq_nil_of_length_eq_zero (by omega)
      · right
        have hspot : spot = none := by
          obtain ⟨_, cs', _, _, _, _, _, c3, c4⟩ := e2 0 h0
          have := c4 0 hn
          rw [List.getElem?_eq_getElem (by omega)] at this
          simpa [Addr.add] using World.cell?_spot this
        subst hspot
        refine ⟨b, off, rfl, ?_⟩
        have : ∀ (rs : List (List AV)) (k : Nat), (∀ i r, rs[i]? = some r → rows[k + i]? = some r) → froR (StAll w) w b n rs (off + k * n) := by
          intro rs
          induction rs with
          | nil => intro k _; simp only [froR]
          | cons r rs ih =>
            intro k hk
            simp only [froR]
            have h1 := hk 0 r rfl
            rw [Nat.add_zero] at h1
            obtain ⟨row, cs', q1, _, q3, q4, q5, q6, q7⟩ := e2 k (by rw [← e1]; exact (List.getElem?_eq_some_iff.1 h1).1)
            rw [h1] at q1
            injection q1 with q1
            subst q1
            refine ⟨⟨q3, froC_of fun i x hi => ?_⟩, ?_⟩
            · obtain ⟨u, u1, u2⟩ := froL_get q4 hi
              have hin : i < n := by rw [← q3]; exact (List.getElem?_eq_some_iff.1 hi).1
              have hc := q7 i hin
              rw [u1] at hc
              have hc' : w.cell? ⟨b, off + k * n + i, none⟩ = some u := by rw [Addr.add_mid] at hc; rwa [Nat.add_assoc]
              exact ⟨cell_lt' hc', u, hc', q5 u (List.mem_of_getElem? u1), u2⟩
            · have := ih (k + 1) (fun i r' hi => by
                have := hk (i + 1) r' (by simpa using hi)
                rwa [show k + 1 + i = k + (i + 1) by omega])
              rwa [show off + (k + 1) * n = off + k * n + n by rw [Nat.add_mul]; omega] at this
        simpa using this rows 0 (fun i r hi => by simpa using hi)
theorem rows_map {α : Type} {enc : α → List AV} {Q : α → Prop} : ∀ {rows : List (List AV)}, (∀ x ∈ rows, ∃ a, x = enc a ∧ Q a) → ∃ l : List α, rows = l.map enc ∧ ∀ a ∈ l, Q a
  | [], _ => ⟨[], rfl, by simp⟩
  | r :: rs, h => by
    obtain ⟨a, rfl, ha⟩ := h r (by simp)
    obtain ⟨l, rfl, hl⟩ := rows_map (rows := rs) fun x hx => h x (by simp [hx])
    exact ⟨a :: l, rfl, by simpa using ⟨ha, hl⟩⟩
theorem Opens.one {R : List AV → Prop} (h : Opens P t R) {H : Type} {enc : TypeId × Value → H} {w : World} {base : Nat} {spare : Nat → Bool} {held : Bool} {v : Value} {d : DataW H} {ps : List MemPlace} (hv : v.cells = #[v]) (hd : DataW.Trod enc P w base spare held t v d ps) :
    ∃ row, R row ∧ froL (StAll w) w row [v] := by
  obtain ⟨fuel, hf⟩ := hd
  rw [hv] at hf
  obtain ⟨row, h1, h2, _⟩ := h _ _ _ _ _ _ _ _ _ hf
  exact ⟨row, h1, h2⟩
end
end Go.Proofs.Ytgliiknfmlmddaa
namespace Go.Proofs.Ytgliiknfmlmddaa
open Go.RowKit

theorem opInts : Opens Try.prog 22 (fun r => ∃ l : List Int, r = [.sl 1 (l.map intA) none]) :=
  (opens_slice (n := 1) Try.underlying22 (by kernel_rfl) (by omega) (opens_int Try.underlying3)).mono (by
    rintro r ⟨rows, rfl, _, hr⟩
    obtain ⟨l, rfl, _⟩ := rows_map (enc := intA) (Q := fun _ => True) (fun x hx => by obtain ⟨t, rfl, _⟩ := hr x hx; exact ⟨t, rfl, trivial⟩)
    exact ⟨l, rfl⟩)
theorem ints_one {H : Type} {enc : TypeId × Value → H} {sp : Nat → Bool} {held : Bool} {base : Nat} {w : World} {a : Option Addr} {n c : Nat} {d : DataW H} {p : List MemPlace} (h : DataW.Trod enc Try.prog w base sp held 22 (.slice a n c) d p) :
    ∃ l : List Int, rep ⟨StAll w, [], []⟩ w (.sl 1 (l.map intA) none) (.slice a n c) := by
  obtain ⟨r0, ⟨l, rfl⟩, k0⟩ := opInts.one rfl h
  simp only [froL] at k0
  obtain ⟨_, _, e0, k0, rfl⟩ := k0
  injection e0 with e0
  subst e0
  exact ⟨l, rep_fro (G := ⟨StAll w, [], []⟩) _ _ k0⟩
theorem walk_ints {f : FuncId} (hf : ∀ l : List Int, AFn Try.prog f [.sl 1 (l.map intA) none] (fun x => x = .v (.bool true))) {H : Type} {enc : TypeId × Value → H} {sp : Nat → Bool} {held : Bool} {base : Nat} (a : Option Addr) (n c : Nat) (w : World) {d : DataW H} {p : List MemPlace}
    (h : DataW.Trod enc Try.prog w base sp held 22 (.slice a n c) d p) : Calls Try.prog f #[.slice a n c] w fun e w' => e = .returned (.bool true) ∧ Below w.heap.size w w' := by
  obtain ⟨l, k⟩ := ints_one h
  refine calls_of (vs := [.slice a n c]) (hf l) (StAll w) (fun b o h => h) ?_
  simp only [repL]
  exact ⟨_, _, rfl, k, rfl⟩
end Go.Proofs.Ytgliiknfmlmddaa
namespace Go.Proofs.Ytgliiknfmlmddaa
open Go.RowKit

theorem mtd_of {s : Spc} {dev : Int} (h : mtdL s dev = true) (h0 : dev ≠ 0) : ∃ m ∈ s.mounts, m.1 = dev := by
  unfold mtdL onL at h
  simp only [Bool.or_eq_true, decide_eq_true_eq, h0, or_false] at h
  cases hf : s.mounts.find? fun m : Mnt => decide (m.1 = dev) with
  | none => rw [hf] at h; cases h
  | some m => exact ⟨m, List.mem_of_find?_eq_some hf, by have := List.find?_some hf; simpa using this⟩
theorem mtd_mem {s : Spc} {m : Mnt} (h : m ∈ s.mounts) : mtdL s m.1 = true := by
  unfold mtdL onL
  rw [Bool.or_eq_true]
  refine .inl ?_
  rw [Option.isSome_map]
  cases hf : s.mounts.find? fun m' : Mnt => decide (m'.1 = m.1) with
  | none => have := List.find?_eq_none.1 hf m h; simp at this
  | some m => rfl
theorem mtd_mono {f : Fls} {ms ms' : List Mnt} {dev : Int} (h : mtdL ⟨f, ms⟩ dev = true) (hs : ∀ m ∈ ms, m ∈ ms') : mtdL ⟨f, ms'⟩ dev = true := by
  by_cases h0 : dev = 0
  · unfold mtdL; simp [h0]
  · obtain ⟨m, hm, rfl⟩ := mtd_of h h0
    exact mtd_mem (s := ⟨f, ms'⟩) (hs m hm)
theorem add_parts {s : Spc} {dev : Int} {a : Fil} (h : (addL s dev a).2 = 0) : 1 ≤ dev ∧ mtdL s dev = false ∧ a.1 ≠ dev := by
  unfold addL at h
  split at h
  · exact absurd h (by decide)
  · rename_i c1
    split at h
    · exact absurd h (by decide)
    · split at h
      · exact absurd h (by decide)
      · split at h
        · exact absurd h (by decide)
        · rename_i c4
          split at h
          · exact absurd h (by decide)
          · rename_i c5
            exact ⟨by omega, by simpa using fun h => c5 (.inl h), fun h => c4 (.inr h)⟩
theorem back_plain {s : Spc} (hv : SpcV s) {dev : Int} {a : Fil} (h : (addL s dev a).2 = 0) : remL (addL s dev a).1 dev = (s, 0) := by
  obtain ⟨h1, h2, h3⟩ := add_parts h
  rw [(add_valid hv dev a h).2]
  have hno : ∀ m ∈ s.mounts, m.1 ≠ dev := fun m hm e => by
    have := mtd_mem hm
    rw [e, h2] at this
    cases this
  have hon : ∀ m ∈ s.mounts, m.2.1 ≠ dev := fun m hm e => by
    obtain ⟨i, hi⟩ := List.getElem?_of_mem hm
    have := mtd_mono (hv.mnt i m hi).there (fun m' hm' => List.mem_of_mem_take hm')
    rw [e, h2] at this
    cases this
  unfold remL
  rw [if_neg (by
    rintro (h0 | h0)
    · omega
    · have := mtd_mem (s := ⟨s.files, s.mounts ++ [(dev, a)]⟩) (m := (dev, a)) (by simp)
      rw [h0] at this
      cases this), if_neg (by
    simp only [List.any_eq_true, decide_eq_true_eq]
    rintro ⟨m, hm, e⟩
    rcases List.mem_append.1 hm with hm | hm
    · exact hon m hm e
    · rw [List.mem_singleton.1 hm] at e; exact h3 e)]
  have : (s.mounts ++ [(dev, a)]).filter (fun m : Mnt => decide (m.1 ≠ dev)) = s.mounts := by
    rw [List.filter_append, List.filter_eq_self.2 (fun m hm => by simpa using hno m hm)]
    simp
  rw [this]
section
set_option maxRecDepth 10000
set_option maxHeartbeats 1000000
theorem rm_back {s : Spc} (hv : SpcV s) (hm : s.mounts.length ≤ 3) {dev : Int} {a : Fil} (h : (addL s dev a).2 = 0) : AFn Try.prog 36 [.agg (spcA (addL s dev a).1), .v (.int .i64 dev)] (fun r => r = .tup [.agg (spcA s), .v (.int .i64 0)]) := by
  obtain ⟨hv2, he2⟩ := add_valid hv dev a h
  exact (Premove (addL s dev a).1 dev (hv2.b (by rw [he2]; simp; omega)) hv2.files.ne hv2.apart).mono fun r hr => by rw [hr, back_plain hv h]; rfl
theorem Lback (l : List Int) : AFn Try.prog 9 [.sl 1 (l.map intA) none] (fun r => r = .v (.bool true)) := by
  refine enter Try.func9 rfl rfl rfl rfl rfl 0 rfl ?_
  refine p_sr (fun K hK => ?_)
  refine p_as ?_
  refine al_nil (x_then (hK _ ?_))
  clear hK K
  refine p_sr (fun K hK => ?_)
  refine p_mv ?_
  refine al_p rfl (s_callN rfl (by repeat (first | exact Args.nil | refine Args.cons _ _ _ _ _ rfl (argOk_clean rfl) ?_ | refine Args.cons _ _ _ _ _ rfl (argOk_nil _) ?_ | refine Args.cons _ _ _ _ _ rfl (argOk_era _) ?_ | refine Args.cons _ _ _ _ _ rfl (argOk_le rfl (by repeat (first | exact LeA.refl _ | exact LeA.nil _ | exact LeL.refl _ | refine LeA.agg ?_ | refine LeA.tup ?_ | exact LeL.nil | refine LeL.cons ?_ ?_ | exact LeA.any _))) ?_)) rfl (Gnew l) (by repeat constructor) ?_)
  skip
  refine p_as ?_
  refine al_nil (x_then (hK _ ?_))
  clear hK K
  refine p_sr (fun K hK => ?_)
  refine p_mv ?_
  refine al_p rfl (s_gen 0 (hc := Gspace l _ (by omega)) (hR := ?_))
  rintro r a1 ha1 ⟨s, rfl, hv, hm⟩
  refine ⟨rfl, _, (by repeat constructor), ?_⟩
  have hsb := hv.b (show s.mounts.length ≤ 1000 by omega)
  have hne := hv.files.ne
  refine al_p rfl (s_alloc (by repeat constructor) ?_)
  refine p_st ?_
  refine al_nil (x_then (hK _ ?_))
  clear hK K
  refine aw_seq (fun K hK => ?_)
  refine aw_draw (fun h => ∃ y z, h.bx = [y, spcA s] ++ z) 9 (by kernel_rfl) ?_
  refine aa_t (i := 0) rfl rfl (by kernel_rfl) (by first | rfl | exact wan_y rfl rfl (beq_tt ‹_›) | exact wan_y rfl rfl (beq_ff ‹_›) | exact wan_y rfl rfl (by simp [*])) (fun h0 hS => st_move rfl ⟨rfl, rfl⟩) ⟨_, _, rfl⟩ ?_
  refine aa_t (i := 2) rfl rfl (by kernel_rfl) (by first | rfl | exact wan_y rfl rfl (beq_tt ‹_›) | exact wan_y rfl rfl (beq_ff ‹_›) | exact wan_y rfl rfl (by simp [*])) (fun h0 hS => st_move rfl ⟨rfl, rfl⟩) ⟨_, _, rfl⟩ ?_
  refine aa_t (i := 3) rfl rfl (by kernel_rfl) (by first | rfl | exact wan_y rfl rfl (beq_tt ‹_›) | exact wan_y rfl rfl (beq_ff ‹_›) | exact wan_y rfl rfl (by simp [*])) (fun h0 hS => st_fieldB rfl ⟨rfl, rfl⟩) ⟨_, _, rfl⟩ ?_
  first | refine aa_t (i := 4) rfl rfl (by kernel_rfl) (by first | rfl | exact wan_y rfl rfl (beq_tt ‹_›) | exact wan_y rfl rfl (beq_ff ‹_›) | exact wan_y rfl rfl (by simp [*])) (fun h0 hS => st_loadBW (row := spcA s) rfl (by obtain ⟨_, _, e⟩ := hS; rw [e]; rfl) rfl ⟨rfl, rfl⟩) ⟨_, _, rfl⟩ ?_ | refine aa_t (i := 4) rfl rfl (by kernel_rfl) (by first | rfl | exact wan_y rfl rfl (beq_tt ‹_›) | exact wan_y rfl rfl (beq_ff ‹_›) | exact wan_y rfl rfl (by simp [*])) (fun h0 hS => st_loadBE (row := spcA s) rfl (by obtain ⟨_, _, e⟩ := hS; rw [e]; rfl) (Nat.le_of_ble_eq_true rfl) rfl ⟨rfl, rfl⟩) ⟨_, _, rfl⟩ ?_ | refine aa_t (i := 4) rfl rfl (by kernel_rfl) (by first | rfl | exact wan_y rfl rfl (beq_tt ‹_›) | exact wan_y rfl rfl (beq_ff ‹_›) | exact wan_y rfl rfl (by simp [*])) (fun h0 hS => st_loadBN rfl rfl rfl ⟨rfl, rfl⟩) ⟨_, _, rfl⟩ ?_
  refine aa_two (i := 1) (j := 6) (by kernel_rfl) rfl rfl (by first | rfl | exact wan_y rfl rfl (beq_tt ‹_›) | exact wan_y rfl rfl (beq_ff ‹_›) | exact wan_y rfl rfl (by simp [*])) rfl rfl (by first | rfl | exact wan_y rfl rfl (beq_tt ‹_›) | exact wan_y rfl rfl (beq_ff ‹_›) | exact wan_y rfl rfl (by simp [*])) ?_ ?_
  · refine s_gen 0 (hc := Grange l _ (1) (2) (by omega) (by omega) (by omega) (by omega)) (hR := ?_)
    rintro r a2 ha2 ⟨k2, rfl, p2, q2⟩
    refine ⟨rfl, _, (by repeat constructor), ?_⟩
    refine ⟨.inr ⟨_, _, rfl⟩, ?_⟩
    refine aa_two (i := 5) (j := 6) (by kernel_rfl) rfl rfl (by first | rfl | exact wan_y rfl rfl (beq_tt ‹_›) | exact wan_y rfl rfl (beq_ff ‹_›) | exact wan_y rfl rfl (by simp [*])) rfl rfl (by first | rfl | exact wan_y rfl rfl (beq_tt ‹_›) | exact wan_y rfl rfl (beq_ff ‹_›) | exact wan_y rfl rfl (by simp [*])) ?_ ?_
    · refine s_gen 0 (hc := Gfile l _ s.files (by omega) hv.files.b hv.files.ne) (hR := ?_)
      rintro r a3 ha3 ⟨x, rfl⟩
      refine ⟨rfl, _, (by repeat constructor), ?_⟩
      refine ⟨.inr ⟨_, _, rfl⟩, ?_⟩
      refine aa_c (i := 6) rfl rfl (by kernel_rfl) (by first | rfl | exact wan_y rfl rfl (beq_tt ‹_›) | exact wan_y rfl rfl (beq_ff ‹_›) | exact wan_y rfl rfl (by simp [*])) (s_alloc (by repeat constructor) ?_)
      refine ⟨.inr ⟨_, _, rfl⟩, ?_⟩
      refine aa_t (i := 7) rfl rfl (by kernel_rfl) (by first | rfl | exact wan_y rfl rfl (beq_tt ‹_›) | exact wan_y rfl rfl (beq_ff ‹_›) | exact wan_y rfl rfl (by simp [*])) (fun h0 hS => st_assign rfl ⟨rfl, rfl⟩) ⟨_, _, rfl⟩ ?_
      refine aa_c0 (i := 8) rfl (by kernel_rfl) (by first | rfl | exact wan_y rfl rfl (beq_tt ‹_›) | exact wan_y rfl rfl (beq_ff ‹_›) | exact wan_y rfl rfl (by simp [*])) (s_store rfl rfl rfl rfl rfl rfl (by repeat constructor) (by repeat constructor) ?_)
      refine ⟨.inr ⟨_, _, rfl⟩, ?_⟩
      refine aa_done (by kernel_rfl) ?_ _
      refine x_then ?_
      refine hK _ ?_
      clear hK K
      refine p_sr (fun K hK => ?_)
      refine al_p rfl (st_loadBW rfl rfl rfl ?_)
      refine p_mv ?_
      refine al_p rfl (st_loadBW rfl rfl rfl ?_)
      refine al_p rfl (q_call (Padd s _ _ hsb hne) ?_)
      rintro r rfl
      refine p_mv ?_
      refine al_p rfl (st_extract rfl rfl ?_)
      refine al_p rfl (st_extract rfl rfl ?_)
      refine al_p rfl (s_alloc (by repeat constructor) ?_)
      refine p_st ?_
      refine p_as ?_
      refine al_nil (x_then (hK _ ?_))
      clear hK K
      refine aw_seq (fun K hK => ?_)
      refine p_sr (fun K hK => ?_)
      refine p_mv ?_
      first | refine al_p rfl (st_neq rfl rfl ?_) | refine al_p rfl (st_neqS rfl rfl ?_) | refine al_p rfl (st_neqB (by kernel_rfl) rfl rfl ?_)
      refine al_nil (x_then (hK _ ?_))
      clear hK K
      refine aw_cond rfl (fun hb1 => ?_) (fun hb1 => ?_)
      · have hc1 := bp hb1
        refine p_sr (fun K hK => ?_)
        refine al_p rfl (q_call (Lawake) ?_)
        rintro r rfl
        refine p_as ?_
        refine al_nil (x_then (hK _ ?_))
        clear hK K
        refine aw_ret ?_
        refine x_thenR ?_
        clear hK K
        refine e_ret ?_
        first | rfl | (exfalso; simp_all)
      · have hc1 := bp hb1
        have hadd := hc1
        refine aw_skip ?_
        refine x_then ?_
        refine hK _ ?_
        clear hK K
        refine p_sr (fun K hK => ?_)
        refine al_p rfl (st_loadBW rfl rfl rfl ?_)
        refine p_mv ?_
        refine al_p rfl (q_call (rm_back hv hm hadd) ?_)
        rintro r rfl
        refine p_mv ?_
        refine al_p rfl (st_extract rfl rfl ?_)
        refine al_p rfl (st_extract rfl rfl ?_)
        refine al_p rfl (s_alloc (by repeat constructor) ?_)
        refine p_st ?_
        refine p_as ?_
        refine al_nil (x_then (hK _ ?_))
        clear hK K
        refine p_sr (fun K hK => ?_)
        refine p_mv ?_
        first | refine al_p rfl (st_eql rfl rfl ?_) | refine al_p rfl (st_eqlS rfl rfl ?_) | refine al_p rfl (st_eqlB (by kernel_rfl) rfl rfl ?_)
        refine p_mv ?_
        refine al_gs true rfl rfl (fun hb2 => ?_) (fun hb2 => ?_)
        · have hc2 := bp hb2
          refine g_y (st_loadBW rfl rfl rfl ?_)
          refine g_y (st_loadBW rfl rfl rfl ?_)
          refine g_y (q_call (RsameS s hsb) ?_)
          rintro r rfl
          refine al_p rfl (p_t ?_)
          refine p_mv ?_
          refine al_gs true rfl rfl (fun hb3 => ?_) (fun hb3 => ?_)
          · have hc3 := bp hb3
            refine g_y (q_call (Lawake) ?_)
            rintro r rfl
            refine al_p rfl (p_t ?_)
            refine p_as ?_
            refine al_nil (x_then (hK _ ?_))
            clear hK K
            refine aw_ret ?_
            refine e_ret ?_
            first | rfl | (exfalso; simp_all)
          · have hc3 := bp hb3
            refine g_n ?_
            refine al_p rfl (p_f ?_)
            refine p_as ?_
            refine al_nil (x_then (hK _ ?_))
            clear hK K
            refine aw_ret ?_
            refine e_ret ?_
            first | rfl | (exfalso; simp_all)
        · have hc2 := bp hb2
          refine g_n ?_
          refine g_n ?_
          refine g_n ?_
          refine al_p rfl (p_f ?_)
          refine p_mv ?_
          refine g_n ?_
          refine al_p rfl (p_f ?_)
          refine p_as ?_
          refine al_nil (x_then (hK _ ?_))
          clear hK K
          refine aw_ret ?_
          refine e_ret ?_
          first | rfl | (exfalso; simp_all)
    · refine s_alloc (by repeat constructor) ?_
      refine ⟨.inr ⟨_, _, rfl⟩, ?_⟩
      refine aa_c (i := 5) rfl rfl (by kernel_rfl) (by first | rfl | exact wan_y rfl rfl (beq_tt ‹_›) | exact wan_y rfl rfl (beq_ff ‹_›) | exact wan_y rfl rfl (by simp [*])) (s_gen 0 (hc := Gfile l _ s.files (by omega) hv.files.b hv.files.ne) (hR := ?_))
      rintro r a4 ha4 ⟨x, rfl⟩
      refine ⟨rfl, _, (by repeat constructor), ?_⟩
      refine ⟨.inr ⟨_, _, rfl⟩, ?_⟩
      refine aa_t (i := 7) rfl rfl (by kernel_rfl) (by first | rfl | exact wan_y rfl rfl (beq_tt ‹_›) | exact wan_y rfl rfl (beq_ff ‹_›) | exact wan_y rfl rfl (by simp [*])) (fun h0 hS => st_assign rfl ⟨rfl, rfl⟩) ⟨_, _, rfl⟩ ?_
      refine aa_c0 (i := 8) rfl (by kernel_rfl) (by first | rfl | exact wan_y rfl rfl (beq_tt ‹_›) | exact wan_y rfl rfl (beq_ff ‹_›) | exact wan_y rfl rfl (by simp [*])) (s_store rfl rfl rfl rfl rfl rfl (by repeat constructor) (by repeat constructor) ?_)
      refine ⟨.inr ⟨_, _, rfl⟩, ?_⟩
      refine aa_done (by kernel_rfl) ?_ _
      refine x_then ?_
      refine hK _ ?_
      clear hK K
      refine p_sr (fun K hK => ?_)
      refine al_p rfl (st_loadBW rfl rfl rfl ?_)
      refine p_mv ?_
      refine al_p rfl (st_loadBW rfl rfl rfl ?_)
      refine al_p rfl (q_call (Padd s _ _ hsb hne) ?_)
      rintro r rfl
      refine p_mv ?_
      refine al_p rfl (st_extract rfl rfl ?_)
      refine al_p rfl (st_extract rfl rfl ?_)
      refine al_p rfl (s_alloc (by repeat constructor) ?_)
      refine p_st ?_
      refine p_as ?_
      refine al_nil (x_then (hK _ ?_))
      clear hK K
      refine aw_seq (fun K hK => ?_)
      refine p_sr (fun K hK => ?_)
      refine p_mv ?_
      first | refine al_p rfl (st_neq rfl rfl ?_) | refine al_p rfl (st_neqS rfl rfl ?_) | refine al_p rfl (st_neqB (by kernel_rfl) rfl rfl ?_)
      refine al_nil (x_then (hK _ ?_))
      clear hK K
      refine aw_cond rfl (fun hb4 => ?_) (fun hb4 => ?_)
      · have hc4 := bp hb4
        refine p_sr (fun K hK => ?_)
        refine al_p rfl (q_call (Lawake) ?_)
        rintro r rfl
        refine p_as ?_
        refine al_nil (x_then (hK _ ?_))
        clear hK K
        refine aw_ret ?_
        refine x_thenR ?_
        clear hK K
        refine e_ret ?_
        first | rfl | (exfalso; simp_all)
      · have hc4 := bp hb4
        have hadd := hc4
        refine aw_skip ?_
        refine x_then ?_
        refine hK _ ?_
        clear hK K
        refine p_sr (fun K hK => ?_)
        refine al_p rfl (st_loadBW rfl rfl rfl ?_)
        refine p_mv ?_
        refine al_p rfl (q_call (rm_back hv hm hadd) ?_)
        rintro r rfl
        refine p_mv ?_
        refine al_p rfl (st_extract rfl rfl ?_)
        refine al_p rfl (st_extract rfl rfl ?_)
        refine al_p rfl (s_alloc (by repeat constructor) ?_)
        refine p_st ?_
        refine p_as ?_
        refine al_nil (x_then (hK _ ?_))
        clear hK K
        refine p_sr (fun K hK => ?_)
        refine p_mv ?_
        first | refine al_p rfl (st_eql rfl rfl ?_) | refine al_p rfl (st_eqlS rfl rfl ?_) | refine al_p rfl (st_eqlB (by kernel_rfl) rfl rfl ?_)
        refine p_mv ?_
        refine al_gs true rfl rfl (fun hb5 => ?_) (fun hb5 => ?_)
        · have hc5 := bp hb5
          refine g_y (st_loadBW rfl rfl rfl ?_)
          refine g_y (st_loadBW rfl rfl rfl ?_)
          refine g_y (q_call (RsameS s hsb) ?_)
          rintro r rfl
          refine al_p rfl (p_t ?_)
          refine p_mv ?_
          refine al_gs true rfl rfl (fun hb6 => ?_) (fun hb6 => ?_)
          · have hc6 := bp hb6
            refine g_y (q_call (Lawake) ?_)
            rintro r rfl
            refine al_p rfl (p_t ?_)
            refine p_as ?_
            refine al_nil (x_then (hK _ ?_))
            clear hK K
            refine aw_ret ?_
            refine e_ret ?_
            first | rfl | (exfalso; simp_all)
          · have hc6 := bp hb6
            refine g_n ?_
            refine al_p rfl (p_f ?_)
            refine p_as ?_
            refine al_nil (x_then (hK _ ?_))
            clear hK K
            refine aw_ret ?_
            refine e_ret ?_
            first | rfl | (exfalso; simp_all)
        · have hc5 := bp hb5
          refine g_n ?_
          refine g_n ?_
          refine g_n ?_
          refine al_p rfl (p_f ?_)
          refine p_mv ?_
          refine g_n ?_
          refine al_p rfl (p_f ?_)
          refine p_as ?_
          refine al_nil (x_then (hK _ ?_))
          clear hK K
          refine aw_ret ?_
          refine e_ret ?_
          first | rfl | (exfalso; simp_all)
  · refine s_alloc (by repeat constructor) ?_
    refine ⟨.inr ⟨_, _, rfl⟩, ?_⟩
    refine aa_c (i := 1) rfl rfl (by kernel_rfl) (by first | rfl | exact wan_y rfl rfl (beq_tt ‹_›) | exact wan_y rfl rfl (beq_ff ‹_›) | exact wan_y rfl rfl (by simp [*])) (s_gen 0 (hc := Grange l _ (1) (2) (by omega) (by omega) (by omega) (by omega)) (hR := ?_))
    rintro r a5 ha5 ⟨k5, rfl, p5, q5⟩
    refine ⟨rfl, _, (by repeat constructor), ?_⟩
    refine ⟨.inr ⟨_, _, rfl⟩, ?_⟩
    refine aa_c (i := 5) rfl rfl (by kernel_rfl) (by first | rfl | exact wan_y rfl rfl (beq_tt ‹_›) | exact wan_y rfl rfl (beq_ff ‹_›) | exact wan_y rfl rfl (by simp [*])) (s_gen 0 (hc := Gfile l _ s.files (by omega) hv.files.b hv.files.ne) (hR := ?_))
    rintro r a6 ha6 ⟨x, rfl⟩
    refine ⟨rfl, _, (by repeat constructor), ?_⟩
    refine ⟨.inr ⟨_, _, rfl⟩, ?_⟩
    refine aa_t (i := 7) rfl rfl (by kernel_rfl) (by first | rfl | exact wan_y rfl rfl (beq_tt ‹_›) | exact wan_y rfl rfl (beq_ff ‹_›) | exact wan_y rfl rfl (by simp [*])) (fun h0 hS => st_assign rfl ⟨rfl, rfl⟩) ⟨_, _, rfl⟩ ?_
    refine aa_c0 (i := 8) rfl (by kernel_rfl) (by first | rfl | exact wan_y rfl rfl (beq_tt ‹_›) | exact wan_y rfl rfl (beq_ff ‹_›) | exact wan_y rfl rfl (by simp [*])) (s_store rfl rfl rfl rfl rfl rfl (by repeat constructor) (by repeat constructor) ?_)
    refine ⟨.inr ⟨_, _, rfl⟩, ?_⟩
    refine aa_done (by kernel_rfl) ?_ _
    refine x_then ?_
    refine hK _ ?_
    clear hK K
    refine p_sr (fun K hK => ?_)
    refine al_p rfl (st_loadBW rfl rfl rfl ?_)
    refine p_mv ?_
    refine al_p rfl (st_loadBW rfl rfl rfl ?_)
    refine al_p rfl (q_call (Padd s _ _ hsb hne) ?_)
    rintro r rfl
    refine p_mv ?_
    refine al_p rfl (st_extract rfl rfl ?_)
    refine al_p rfl (st_extract rfl rfl ?_)
    refine al_p rfl (s_alloc (by repeat constructor) ?_)
    refine p_st ?_
    refine p_as ?_
    refine al_nil (x_then (hK _ ?_))
    clear hK K
    refine aw_seq (fun K hK => ?_)
    refine p_sr (fun K hK => ?_)
    refine p_mv ?_
    first | refine al_p rfl (st_neq rfl rfl ?_) | refine al_p rfl (st_neqS rfl rfl ?_) | refine al_p rfl (st_neqB (by kernel_rfl) rfl rfl ?_)
    refine al_nil (x_then (hK _ ?_))
    clear hK K
    refine aw_cond rfl (fun hb7 => ?_) (fun hb7 => ?_)
    · have hc7 := bp hb7
      refine p_sr (fun K hK => ?_)
      refine al_p rfl (q_call (Lawake) ?_)
      rintro r rfl
      refine p_as ?_
      refine al_nil (x_then (hK _ ?_))
      clear hK K
      refine aw_ret ?_
      refine x_thenR ?_
      clear hK K
      refine e_ret ?_
      first | rfl | (exfalso; simp_all)
    · have hc7 := bp hb7
      have hadd := hc7
      refine aw_skip ?_
      refine x_then ?_
      refine hK _ ?_
      clear hK K
      refine p_sr (fun K hK => ?_)
      refine al_p rfl (st_loadBW rfl rfl rfl ?_)
      refine p_mv ?_
      refine al_p rfl (q_call (rm_back hv hm hadd) ?_)
      rintro r rfl
      refine p_mv ?_
      refine al_p rfl (st_extract rfl rfl ?_)
      refine al_p rfl (st_extract rfl rfl ?_)
      refine al_p rfl (s_alloc (by repeat constructor) ?_)
      refine p_st ?_
      refine p_as ?_
      refine al_nil (x_then (hK _ ?_))
      clear hK K
      refine p_sr (fun K hK => ?_)
      refine p_mv ?_
      first | refine al_p rfl (st_eql rfl rfl ?_) | refine al_p rfl (st_eqlS rfl rfl ?_) | refine al_p rfl (st_eqlB (by kernel_rfl) rfl rfl ?_)
      refine p_mv ?_
      refine al_gs true rfl rfl (fun hb8 => ?_) (fun hb8 => ?_)
      · have hc8 := bp hb8
        refine g_y (st_loadBW rfl rfl rfl ?_)
        refine g_y (st_loadBW rfl rfl rfl ?_)
        refine g_y (q_call (RsameS s hsb) ?_)
        rintro r rfl
        refine al_p rfl (p_t ?_)
        refine p_mv ?_
        refine al_gs true rfl rfl (fun hb9 => ?_) (fun hb9 => ?_)
        · have hc9 := bp hb9
          refine g_y (q_call (Lawake) ?_)
          rintro r rfl
          refine al_p rfl (p_t ?_)
          refine p_as ?_
          refine al_nil (x_then (hK _ ?_))
          clear hK K
          refine aw_ret ?_
          refine e_ret ?_
          first | rfl | (exfalso; simp_all)
        · have hc9 := bp hb9
          refine g_n ?_
          refine al_p rfl (p_f ?_)
          refine p_as ?_
          refine al_nil (x_then (hK _ ?_))
          clear hK K
          refine aw_ret ?_
          refine e_ret ?_
          first | rfl | (exfalso; simp_all)
      · have hc8 := bp hb8
        refine g_n ?_
        refine g_n ?_
        refine g_n ?_
        refine al_p rfl (p_f ?_)
        refine p_mv ?_
        refine g_n ?_
        refine al_p rfl (p_f ?_)
        refine p_as ?_
        refine al_nil (x_then (hK _ ?_))
        clear hK K
        refine aw_ret ?_
        refine e_ret ?_
        first | rfl | (exfalso; simp_all)

end
end Go.Proofs.Ytgliiknfmlmddaa
namespace Go.Proofs.Ytgliiknfmlmddaa
open Go.RowKit
theorem MountsBack_walk {H : Type} {enc : TypeId × Value → H} {sp : Nat → Bool} {held : Bool} {base : Nat} (a : Option Addr) (n c : Nat) (w : World) {d : DataW H} {p : List MemPlace} (h : DataW.Trod enc Try.prog w base sp held 22 (.slice a n c) d p) :
    Calls Try.prog 9 #[.slice a n c] w fun e w' => e = .returned (.bool true) ∧ Below w.heap.size w w' := walk_ints Lback a n c w h
end Go.Proofs.Ytgliiknfmlmddaa
