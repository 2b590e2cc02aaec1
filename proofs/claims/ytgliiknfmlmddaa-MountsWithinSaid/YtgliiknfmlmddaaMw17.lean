/-
  Part 17 of the proof of MountsWithinP: what the statement's proof uses of the texts in wip/tpl.
-/
import Derived.Test.YtgliiknfmlmddaaMw16
namespace Go.Proofs.Ytgliiknfmlmddaa
open Go.RowKit

section
variable {P : Program} {N : Dim} {Q : Exit → AS → Prop} {S : AH → Prop} {tl fuel : Nat} {listed : Array Bool} {l : List Oper} {m : List (Nat × AV)} {h : AH}
theorem aa_three {i j k di dj dk : Nat} {op op' op'' : Op} {ty ty' ty'' : TypeId} {pos pos' pos'' : String} {af af' af'' : Array Edge} {gd gd' gd'' : Option (Nat × Bool)} (hr : Region.ready .any l.toArray listed = [i, j, k])
    (hi : l[i]? = some ⟨some di, op, ty, pos, af, gd⟩) (hdi : Nat.blt di N.n = true) (hwi : wantedA l.toArray (look m) ⟨some di, op, ty, pos, af, gd⟩ = some true)
    (hj : l[j]? = some ⟨some dj, op', ty', pos', af', gd'⟩) (hdj : Nat.blt dj N.n = true) (hwj : wantedA l.toArray (look m) ⟨some dj, op', ty', pos', af', gd'⟩ = some true)
    (hk : l[k]? = some ⟨some dk, op'', ty'', pos'', af'', gd''⟩) (hdk : Nat.blt dk N.n = true) (hwk : wantedA l.toArray (look m) ⟨some dk, op'', ty'', pos'', af'', gd''⟩ = some true)
    (H1 : AStep P ⟨some di, op, ty, pos, af, gd⟩ (evs (look m)) h (fun x h' => (i = tl ∨ S h') ∧ AAny P N l.toArray Q S tl fuel (listed.setIfInBounds i true) ⟨look ((di, x) :: m), h'⟩))
    (H2 : AStep P ⟨some dj, op', ty', pos', af', gd'⟩ (evs (look m)) h (fun x h' => (j = tl ∨ S h') ∧ AAny P N l.toArray Q S tl fuel (listed.setIfInBounds j true) ⟨look ((dj, x) :: m), h'⟩))
    (H3 : AStep P ⟨some dk, op'', ty'', pos'', af'', gd''⟩ (evs (look m)) h (fun x h' => (k = tl ∨ S h') ∧ AAny P N l.toArray Q S tl fuel (listed.setIfInBounds k true) ⟨look ((dk, x) :: m), h'⟩)) : AAny P N l.toArray Q S tl (fuel + 1) listed ⟨look m, h⟩ := by
  refine ⟨(fun h0 => by rw [hr] at h0; cases h0), fun q hq => ?_⟩
  rw [hr] at hq
  have hq' : q = i ∨ q = j ∨ q = k := by simpa using hq
  rcases hq' with rfl | rfl | rfl
  · unfold AOp
    simp only [get_arr hi]
    exact ⟨hdi, true, hwi, fun _ => H1, fun h => by cases h⟩
  · unfold AOp
    simp only [get_arr hj]
    exact ⟨hdj, true, hwj, fun _ => H2, fun h => by cases h⟩
  · unfold AOp
    simp only [get_arr hk]
    exact ⟨hdk, true, hwk, fun _ => H3, fun h => by cases h⟩
end
section
set_option maxRecDepth 10000
set_option maxHeartbeats 1000000
theorem Lwithin (l : List Int) : AFn Try.prog 4 [.sl 1 (l.map intA) none] (fun r => r = .v (.bool true)) := by
  refine enter Try.func4 rfl rfl rfl rfl rfl 0 rfl ?_
  refine p_sr (fun K hK => ?_)
  refine p_as ?_
  refine al_nil (x_then (hK _ ?_))
  clear hK K
  refine p_sr (fun K hK => ?_)
  refine p_mv ?_
  refine al_p rfl (s_callN rfl (by repeat (first | exact Args.nil | refine Args.cons _ _ _ _ _ rfl (argOk_clean rfl) ?_ | refine Args.cons _ _ _ _ _ rfl (argOk_nil _) ?_ | refine Args.cons _ _ _ _ _ rfl (argOk_era _) ?_ | refine Args.cons _ _ _ _ _ rfl (argOk_le rfl (by repeat (first | exact LeA.refl _ | exact LeA.nil _ | exact LeL.refl _ | refine LeA.agg ?_ | refine LeA.tup ?_ | exact LeL.nil | refine LeL.cons ?_ ?_ | exact LeA.any _))) ?_)) rfl (Gnew l) (by repeat constructor) ?_)
  skip
  refine p_as ?_
  refine al_nil (x_then (hK _ ?_))
  clear hK K
  refine p_sr (fun K hK => ?_)
  refine p_mv ?_
  refine al_p rfl (s_gen 0 (hc := Gspace l _ (by omega)) (hR := ?_))
  rintro r a1 ha1 ⟨s, rfl, hv, hm⟩
  refine ⟨rfl, _, (by repeat constructor), ?_⟩
  have hsb := hv.b (show s.mounts.length ≤ 1000 by omega)
  have hmo : mostL s.files ≤ 5000 := by have := most_le hv.files; omega
  refine al_p rfl (s_alloc (by repeat constructor) ?_)
  refine p_st ?_
  refine al_nil (x_then (hK _ ?_))
  clear hK K
  refine aw_seq (fun K hK => ?_)
  refine p_sr (fun K hK => ?_)
  refine p_as ?_
  refine al_nil (x_then (hK _ ?_))
  clear hK K
  refine aw_block ?_
  refine aw_loopW (fun n t => ∃ j b : Nat, j ≤ 20 ∧ n = 20 - j ∧ b ≤ 1100 + 10 * j ∧ t = ⟨look [(3, .bp 0 0), (4, .bp 1 0), (5, .v (.int .i64 (j : Int)))], ⟨[srcA l b, spcA s], []⟩⟩) (20) ((wk 2 0)) (⟨0, _, by omega, rfl, by omega, rfl⟩) ?_
  rintro n t ⟨j, b, hj, rfl, hb, rfl⟩
  refine aw_seq (fun K hK => ?_)
  refine p_sr (fun K hK => ?_)
  refine p_mv ?_
  first | refine al_p rfl (st_lss rfl rfl ?_) | refine al_p rfl (st_lssS rfl rfl ?_)
  refine al_nil (x_then (hK _ ?_))
  clear hK K
  refine aw_cond rfl (fun hb1 => ?_) (fun hb1 => ?_)
  · have hc1 := bp hb1
    refine aw_skip ?_
    refine x_then ?_
    refine hK _ ?_
    clear hK K
    refine aw_seq (fun K hK => ?_)
    refine aw_block ?_
    refine aw_seq (fun K hK => ?_)
    refine aw_draw (fun h => ∃ y z, h.bx = [y, spcA s] ++ z) 12 (by kernel_rfl) ?_
    refine aa_t (i := 0) rfl rfl (by kernel_rfl) (by first | rfl | exact wan_y rfl rfl (beq_tt ‹_›) | exact wan_y rfl rfl (beq_ff ‹_›) | exact wan_y rfl rfl (by simp [*])) (fun h0 hS => st_move rfl ⟨rfl, rfl⟩) ⟨_, _, rfl⟩ ?_
    refine aa_t (i := 1) rfl rfl (by kernel_rfl) (by first | rfl | exact wan_y rfl rfl (beq_tt ‹_›) | exact wan_y rfl rfl (beq_ff ‹_›) | exact wan_y rfl rfl (by simp [*])) (fun h0 hS => st_fieldB rfl ⟨rfl, rfl⟩) ⟨_, _, rfl⟩ ?_
    first | refine aa_t (i := 2) rfl rfl (by kernel_rfl) (by first | rfl | exact wan_y rfl rfl (beq_tt ‹_›) | exact wan_y rfl rfl (beq_ff ‹_›) | exact wan_y rfl rfl (by simp [*])) (fun h0 hS => st_loadBW (row := spcA s) rfl (by obtain ⟨_, _, e⟩ := hS; rw [e]; rfl) rfl ⟨rfl, rfl⟩) ⟨_, _, rfl⟩ ?_ | refine aa_t (i := 2) rfl rfl (by kernel_rfl) (by first | rfl | exact wan_y rfl rfl (beq_tt ‹_›) | exact wan_y rfl rfl (beq_ff ‹_›) | exact wan_y rfl rfl (by simp [*])) (fun h0 hS => st_loadBE (row := spcA s) rfl (by obtain ⟨_, _, e⟩ := hS; rw [e]; rfl) (Nat.le_of_ble_eq_true rfl) rfl ⟨rfl, rfl⟩) ⟨_, _, rfl⟩ ?_ | refine aa_t (i := 2) rfl rfl (by kernel_rfl) (by first | rfl | exact wan_y rfl rfl (beq_tt ‹_›) | exact wan_y rfl rfl (beq_ff ‹_›) | exact wan_y rfl rfl (by simp [*])) (fun h0 hS => st_loadBN rfl rfl rfl ⟨rfl, rfl⟩) ⟨_, _, rfl⟩ ?_
    refine aa_t (i := 4) rfl rfl (by kernel_rfl) (by first | rfl | exact wan_y rfl rfl (beq_tt ‹_›) | exact wan_y rfl rfl (beq_ff ‹_›) | exact wan_y rfl rfl (by simp [*])) (fun h0 hS => st_move rfl ⟨rfl, rfl⟩) ⟨_, _, rfl⟩ ?_
    refine aa_t (i := 5) rfl rfl (by kernel_rfl) (by first | rfl | exact wan_y rfl rfl (beq_tt ‹_›) | exact wan_y rfl rfl (beq_ff ‹_›) | exact wan_y rfl rfl (by simp [*])) (fun h0 hS => st_fieldB rfl ⟨rfl, rfl⟩) ⟨_, _, rfl⟩ ?_
    first | refine aa_t (i := 6) rfl rfl (by kernel_rfl) (by first | rfl | exact wan_y rfl rfl (beq_tt ‹_›) | exact wan_y rfl rfl (beq_ff ‹_›) | exact wan_y rfl rfl (by simp [*])) (fun h0 hS => st_loadBW (row := spcA s) rfl (by obtain ⟨_, _, e⟩ := hS; rw [e]; rfl) rfl ⟨rfl, rfl⟩) ⟨_, _, rfl⟩ ?_ | refine aa_t (i := 6) rfl rfl (by kernel_rfl) (by first | rfl | exact wan_y rfl rfl (beq_tt ‹_›) | exact wan_y rfl rfl (beq_ff ‹_›) | exact wan_y rfl rfl (by simp [*])) (fun h0 hS => st_loadBE (row := spcA s) rfl (by obtain ⟨_, _, e⟩ := hS; rw [e]; rfl) (Nat.le_of_ble_eq_true rfl) rfl ⟨rfl, rfl⟩) ⟨_, _, rfl⟩ ?_ | refine aa_t (i := 6) rfl rfl (by kernel_rfl) (by first | rfl | exact wan_y rfl rfl (beq_tt ‹_›) | exact wan_y rfl rfl (beq_ff ‹_›) | exact wan_y rfl rfl (by simp [*])) (fun h0 hS => st_loadBN rfl rfl rfl ⟨rfl, rfl⟩) ⟨_, _, rfl⟩ ?_
    refine aa_three (i := 3) (j := 8) (k := 9) (by kernel_rfl) rfl rfl (by first | rfl | exact wan_y rfl rfl (beq_tt ‹_›) | exact wan_y rfl rfl (beq_ff ‹_›) | exact wan_y rfl rfl (by simp [*])) rfl rfl (by first | rfl | exact wan_y rfl rfl (beq_tt ‹_›) | exact wan_y rfl rfl (beq_ff ‹_›) | exact wan_y rfl rfl (by simp [*])) rfl rfl (by first | rfl | exact wan_y rfl rfl (beq_tt ‹_›) | exact wan_y rfl rfl (beq_ff ‹_›) | exact wan_y rfl rfl (by simp [*])) ?_ ?_ ?_
    · refine s_gen 0 (hc := Gfile l _ s.files (by omega) hv.files.b hv.files.ne) (hR := ?_)
      rintro r a2 ha2 ⟨x2, rfl⟩
      refine ⟨rfl, _, (by repeat constructor), ?_⟩
      refine ⟨.inr ⟨_, _, rfl⟩, ?_⟩
      refine aa_three (i := 7) (j := 8) (k := 9) (by kernel_rfl) rfl rfl (by first | rfl | exact wan_y rfl rfl (beq_tt ‹_›) | exact wan_y rfl rfl (beq_ff ‹_›) | exact wan_y rfl rfl (by simp [*])) rfl rfl (by first | rfl | exact wan_y rfl rfl (beq_tt ‹_›) | exact wan_y rfl rfl (beq_ff ‹_›) | exact wan_y rfl rfl (by simp [*])) rfl rfl (by first | rfl | exact wan_y rfl rfl (beq_tt ‹_›) | exact wan_y rfl rfl (beq_ff ‹_›) | exact wan_y rfl rfl (by simp [*])) ?_ ?_ ?_
      · refine s_gen 0 (hc := Gfile l _ s.files (by omega) hv.files.b hv.files.ne) (hR := ?_)
        rintro r a3 ha3 ⟨x3, rfl⟩
        refine ⟨rfl, _, (by repeat constructor), ?_⟩
        refine ⟨.inr ⟨_, _, rfl⟩, ?_⟩
        refine aa_two (i := 8) (j := 9) (by kernel_rfl) rfl rfl (by first | rfl | exact wan_y rfl rfl (beq_tt ‹_›) | exact wan_y rfl rfl (beq_ff ‹_›) | exact wan_y rfl rfl (by simp [*])) rfl rfl (by first | rfl | exact wan_y rfl rfl (beq_tt ‹_›) | exact wan_y rfl rfl (beq_ff ‹_›) | exact wan_y rfl rfl (by simp [*])) ?_ ?_
        · refine s_alloc (by repeat constructor) ?_
          refine ⟨.inr ⟨_, _, rfl⟩, ?_⟩
          refine aa_c (i := 9) rfl rfl (by kernel_rfl) (by first | rfl | exact wan_y rfl rfl (beq_tt ‹_›) | exact wan_y rfl rfl (beq_ff ‹_›) | exact wan_y rfl rfl (by simp [*])) (s_alloc (by repeat constructor) ?_)
          refine ⟨.inr ⟨_, _, rfl⟩, ?_⟩
          refine aa_c0 (i := 10) rfl (by kernel_rfl) (by first | rfl | exact wan_y rfl rfl (beq_tt ‹_›) | exact wan_y rfl rfl (beq_ff ‹_›) | exact wan_y rfl rfl (by simp [*])) (s_store rfl rfl rfl rfl rfl rfl (by repeat constructor) (by repeat constructor) ?_)
          refine ⟨.inr ⟨_, _, rfl⟩, ?_⟩
          refine aa_c0 (i := 11) rfl (by kernel_rfl) (by first | rfl | exact wan_y rfl rfl (beq_tt ‹_›) | exact wan_y rfl rfl (beq_ff ‹_›) | exact wan_y rfl rfl (by simp [*])) (s_store rfl rfl rfl rfl rfl rfl (by repeat constructor) (by repeat constructor) ?_)
          refine ⟨.inr ⟨_, _, rfl⟩, ?_⟩
          refine aa_done (by kernel_rfl) ?_ _
          refine x_then ?_
          refine hK _ ?_
          clear hK K
          refine aw_seq (fun K hK => ?_)
          refine aw_drawR 9 (by kernel_rfl) ?_
          refine r_y (i := 0) rfl (st_loadBW rfl rfl rfl ⟨rfl, rfl⟩) ?_
          refine r_y (i := 1) rfl (st_loadBW rfl rfl rfl ⟨rfl, rfl⟩) ?_
          refine r_y (i := 2) rfl (st_loadBW rfl rfl rfl ⟨rfl, rfl⟩) ?_
          refine r_y (i := 4) rfl (st_loadBW rfl rfl rfl ⟨rfl, rfl⟩) ?_
          refine r_y (i := 5) rfl (st_loadBW rfl rfl rfl ⟨rfl, rfl⟩) ?_
          refine r_y (i := 6) rfl (st_loadBW rfl rfl rfl ⟨rfl, rfl⟩) ?_
          refine aa_c (i := 3) rfl rfl (by kernel_rfl) (by first | rfl | exact wan_y rfl rfl (beq_tt ‹_›) | exact wan_y rfl rfl (beq_ff ‹_›) | exact wan_y rfl rfl (by simp [*])) (q_call (Pwithin s hsb _ _) ?_)
          rintro r rfl
          refine ⟨.inr rfl, ?_⟩
          refine aa_c (i := 7) rfl rfl (by kernel_rfl) (by first | rfl | exact wan_y rfl rfl (beq_tt ‹_›) | exact wan_y rfl rfl (beq_ff ‹_›) | exact wan_y rfl rfl (by simp [*])) (q_call (RwithinS hsb hv hmo _ _) ?_)
          rintro r rfl
          refine ⟨.inr rfl, ?_⟩
          first | refine r_y (i := 8) rfl (st_neq rfl rfl ⟨rfl, rfl⟩) ?_ | refine r_y (i := 8) rfl (st_neqS rfl rfl ⟨rfl, rfl⟩) ?_ | refine r_y (i := 8) rfl (st_neqB (by kernel_rfl) rfl rfl ⟨rfl, rfl⟩) ?_
          refine aa_done (by kernel_rfl) ?_ _
          refine x_then ?_
          refine hK _ ?_
          clear hK K
          refine aw_cond rfl (fun hb2 => ?_) (fun hb2 => ?_)
          · have hc2 := bp hb2
            simp_all
          · have hc2 := bp hb2
            refine aw_skip ?_
            refine x_blockN ?_
            refine x_then ?_
            refine hK _ ?_
            clear hK K
            refine aw_region ?_
            refine p_mv ?_
            first | refine al_p rfl (st_add64 rfl rfl (by omega) ?_) | refine al_p rfl (st_addS rfl rfl (by omega) ?_) | refine al_p rfl (st_add rfl rfl ?_)
            refine p_as ?_
            refine al_nil ?_
            refine x_then ?_
            refine ⟨_, _, ?_, ⟨j + 1, _, by omega, rfl, ?_, rfl⟩, (wk 2 0)⟩
            · omega
            · omega
        · refine s_alloc (by repeat constructor) ?_
          refine ⟨.inr ⟨_, _, rfl⟩, ?_⟩
          refine aa_c (i := 8) rfl rfl (by kernel_rfl) (by first | rfl | exact wan_y rfl rfl (beq_tt ‹_›) | exact wan_y rfl rfl (beq_ff ‹_›) | exact wan_y rfl rfl (by simp [*])) (s_alloc (by repeat constructor) ?_)
          refine ⟨.inr ⟨_, _, rfl⟩, ?_⟩
          refine aa_c0 (i := 10) rfl (by kernel_rfl) (by first | rfl | exact wan_y rfl rfl (beq_tt ‹_›) | exact wan_y rfl rfl (beq_ff ‹_›) | exact wan_y rfl rfl (by simp [*])) (s_store rfl rfl rfl rfl rfl rfl (by repeat constructor) (by repeat constructor) ?_)
          refine ⟨.inr ⟨_, _, rfl⟩, ?_⟩
          refine aa_c0 (i := 11) rfl (by kernel_rfl) (by first | rfl | exact wan_y rfl rfl (beq_tt ‹_›) | exact wan_y rfl rfl (beq_ff ‹_›) | exact wan_y rfl rfl (by simp [*])) (s_store rfl rfl rfl rfl rfl rfl (by repeat constructor) (by repeat constructor) ?_)
          refine ⟨.inr ⟨_, _, rfl⟩, ?_⟩
          refine aa_done (by kernel_rfl) ?_ _
          refine x_then ?_
          refine hK _ ?_
          clear hK K
          refine aw_seq (fun K hK => ?_)
          refine aw_drawR 9 (by kernel_rfl) ?_
          refine r_y (i := 0) rfl (st_loadBW rfl rfl rfl ⟨rfl, rfl⟩) ?_
          refine r_y (i := 1) rfl (st_loadBW rfl rfl rfl ⟨rfl, rfl⟩) ?_
          refine r_y (i := 2) rfl (st_loadBW rfl rfl rfl ⟨rfl, rfl⟩) ?_
          refine r_y (i := 4) rfl (st_loadBW rfl rfl rfl ⟨rfl, rfl⟩) ?_
          refine r_y (i := 5) rfl (st_loadBW rfl rfl rfl ⟨rfl, rfl⟩) ?_
          refine r_y (i := 6) rfl (st_loadBW rfl rfl rfl ⟨rfl, rfl⟩) ?_
          refine aa_c (i := 3) rfl rfl (by kernel_rfl) (by first | rfl | exact wan_y rfl rfl (beq_tt ‹_›) | exact wan_y rfl rfl (beq_ff ‹_›) | exact wan_y rfl rfl (by simp [*])) (q_call (Pwithin s hsb _ _) ?_)
          rintro r rfl
          refine ⟨.inr rfl, ?_⟩
          refine aa_c (i := 7) rfl rfl (by kernel_rfl) (by first | rfl | exact wan_y rfl rfl (beq_tt ‹_›) | exact wan_y rfl rfl (beq_ff ‹_›) | exact wan_y rfl rfl (by simp [*])) (q_call (RwithinS hsb hv hmo _ _) ?_)
          rintro r rfl
          refine ⟨.inr rfl, ?_⟩
          first | refine r_y (i := 8) rfl (st_neq rfl rfl ⟨rfl, rfl⟩) ?_ | refine r_y (i := 8) rfl (st_neqS rfl rfl ⟨rfl, rfl⟩) ?_ | refine r_y (i := 8) rfl (st_neqB (by kernel_rfl) rfl rfl ⟨rfl, rfl⟩) ?_
          refine aa_done (by kernel_rfl) ?_ _
          refine x_then ?_
          refine hK _ ?_
          clear hK K
          refine aw_cond rfl (fun hb3 => ?_) (fun hb3 => ?_)
          · have hc3 := bp hb3
            simp_all
          · have hc3 := bp hb3
            refine aw_skip ?_
            refine x_blockN ?_
            refine x_then ?_
            refine hK _ ?_
            clear hK K
            refine aw_region ?_
            refine p_mv ?_
            first | refine al_p rfl (st_add64 rfl rfl (by omega) ?_) | refine al_p rfl (st_addS rfl rfl (by omega) ?_) | refine al_p rfl (st_add rfl rfl ?_)
            refine p_as ?_
            refine al_nil ?_
            refine x_then ?_
            refine ⟨_, _, ?_, ⟨j + 1, _, by omega, rfl, ?_, rfl⟩, (wk 2 0)⟩
            · omega
            · omega
      · refine s_alloc (by repeat constructor) ?_
        refine ⟨.inr ⟨_, _, rfl⟩, ?_⟩
        refine aa_two (i := 7) (j := 9) (by kernel_rfl) rfl rfl (by first | rfl | exact wan_y rfl rfl (beq_tt ‹_›) | exact wan_y rfl rfl (beq_ff ‹_›) | exact wan_y rfl rfl (by simp [*])) rfl rfl (by first | rfl | exact wan_y rfl rfl (beq_tt ‹_›) | exact wan_y rfl rfl (beq_ff ‹_›) | exact wan_y rfl rfl (by simp [*])) ?_ ?_
        · refine s_gen 0 (hc := Gfile l _ s.files (by omega) hv.files.b hv.files.ne) (hR := ?_)
          rintro r a4 ha4 ⟨x4, rfl⟩
          refine ⟨rfl, _, (by repeat constructor), ?_⟩
          refine ⟨.inr ⟨_, _, rfl⟩, ?_⟩
          refine aa_c (i := 9) rfl rfl (by kernel_rfl) (by first | rfl | exact wan_y rfl rfl (beq_tt ‹_›) | exact wan_y rfl rfl (beq_ff ‹_›) | exact wan_y rfl rfl (by simp [*])) (s_alloc (by repeat constructor) ?_)
          refine ⟨.inr ⟨_, _, rfl⟩, ?_⟩
          refine aa_c0 (i := 10) rfl (by kernel_rfl) (by first | rfl | exact wan_y rfl rfl (beq_tt ‹_›) | exact wan_y rfl rfl (beq_ff ‹_›) | exact wan_y rfl rfl (by simp [*])) (s_store rfl rfl rfl rfl rfl rfl (by repeat constructor) (by repeat constructor) ?_)
          refine ⟨.inr ⟨_, _, rfl⟩, ?_⟩
          refine aa_c0 (i := 11) rfl (by kernel_rfl) (by first | rfl | exact wan_y rfl rfl (beq_tt ‹_›) | exact wan_y rfl rfl (beq_ff ‹_›) | exact wan_y rfl rfl (by simp [*])) (s_store rfl rfl rfl rfl rfl rfl (by repeat constructor) (by repeat constructor) ?_)
          refine ⟨.inr ⟨_, _, rfl⟩, ?_⟩
          refine aa_done (by kernel_rfl) ?_ _
          refine x_then ?_
          refine hK _ ?_
          clear hK K
          refine aw_seq (fun K hK => ?_)
          refine aw_drawR 9 (by kernel_rfl) ?_
          refine r_y (i := 0) rfl (st_loadBW rfl rfl rfl ⟨rfl, rfl⟩) ?_
          refine r_y (i := 1) rfl (st_loadBW rfl rfl rfl ⟨rfl, rfl⟩) ?_
          refine r_y (i := 2) rfl (st_loadBW rfl rfl rfl ⟨rfl, rfl⟩) ?_
          refine r_y (i := 4) rfl (st_loadBW rfl rfl rfl ⟨rfl, rfl⟩) ?_
          refine r_y (i := 5) rfl (st_loadBW rfl rfl rfl ⟨rfl, rfl⟩) ?_
          refine r_y (i := 6) rfl (st_loadBW rfl rfl rfl ⟨rfl, rfl⟩) ?_
          refine aa_c (i := 3) rfl rfl (by kernel_rfl) (by first | rfl | exact wan_y rfl rfl (beq_tt ‹_›) | exact wan_y rfl rfl (beq_ff ‹_›) | exact wan_y rfl rfl (by simp [*])) (q_call (Pwithin s hsb _ _) ?_)
          rintro r rfl
          refine ⟨.inr rfl, ?_⟩
          refine aa_c (i := 7) rfl rfl (by kernel_rfl) (by first | rfl | exact wan_y rfl rfl (beq_tt ‹_›) | exact wan_y rfl rfl (beq_ff ‹_›) | exact wan_y rfl rfl (by simp [*])) (q_call (RwithinS hsb hv hmo _ _) ?_)
          rintro r rfl
          refine ⟨.inr rfl, ?_⟩
          first | refine r_y (i := 8) rfl (st_neq rfl rfl ⟨rfl, rfl⟩) ?_ | refine r_y (i := 8) rfl (st_neqS rfl rfl ⟨rfl, rfl⟩) ?_ | refine r_y (i := 8) rfl (st_neqB (by kernel_rfl) rfl rfl ⟨rfl, rfl⟩) ?_
          refine aa_done (by kernel_rfl) ?_ _
          refine x_then ?_
          refine hK _ ?_
          clear hK K
          refine aw_cond rfl (fun hb4 => ?_) (fun hb4 => ?_)
          · have hc4 := bp hb4
            simp_all
          · have hc4 := bp hb4
            refine aw_skip ?_
            refine x_blockN ?_
            refine x_then ?_
            refine hK _ ?_
            clear hK K
            refine aw_region ?_
            refine p_mv ?_
            first | refine al_p rfl (st_add64 rfl rfl (by omega) ?_) | refine al_p rfl (st_addS rfl rfl (by omega) ?_) | refine al_p rfl (st_add rfl rfl ?_)
            refine p_as ?_
            refine al_nil ?_
            refine x_then ?_
            refine ⟨_, _, ?_, ⟨j + 1, _, by omega, rfl, ?_, rfl⟩, (wk 2 0)⟩
            · omega
            · omega
        · refine s_alloc (by repeat constructor) ?_
          refine ⟨.inr ⟨_, _, rfl⟩, ?_⟩
          refine aa_c (i := 7) rfl rfl (by kernel_rfl) (by first | rfl | exact wan_y rfl rfl (beq_tt ‹_›) | exact wan_y rfl rfl (beq_ff ‹_›) | exact wan_y rfl rfl (by simp [*])) (s_gen 0 (hc := Gfile l _ s.files (by omega) hv.files.b hv.files.ne) (hR := ?_))
          rintro r a5 ha5 ⟨x5, rfl⟩
          refine ⟨rfl, _, (by repeat constructor), ?_⟩
          refine ⟨.inr ⟨_, _, rfl⟩, ?_⟩
          refine aa_c0 (i := 10) rfl (by kernel_rfl) (by first | rfl | exact wan_y rfl rfl (beq_tt ‹_›) | exact wan_y rfl rfl (beq_ff ‹_›) | exact wan_y rfl rfl (by simp [*])) (s_store rfl rfl rfl rfl rfl rfl (by repeat constructor) (by repeat constructor) ?_)
          refine ⟨.inr ⟨_, _, rfl⟩, ?_⟩
          refine aa_c0 (i := 11) rfl (by kernel_rfl) (by first | rfl | exact wan_y rfl rfl (beq_tt ‹_›) | exact wan_y rfl rfl (beq_ff ‹_›) | exact wan_y rfl rfl (by simp [*])) (s_store rfl rfl rfl rfl rfl rfl (by repeat constructor) (by repeat constructor) ?_)
          refine ⟨.inr ⟨_, _, rfl⟩, ?_⟩
          refine aa_done (by kernel_rfl) ?_ _
          refine x_then ?_
          refine hK _ ?_
          clear hK K
          refine aw_seq (fun K hK => ?_)
          refine aw_drawR 9 (by kernel_rfl) ?_
          refine r_y (i := 0) rfl (st_loadBW rfl rfl rfl ⟨rfl, rfl⟩) ?_
          refine r_y (i := 1) rfl (st_loadBW rfl rfl rfl ⟨rfl, rfl⟩) ?_
          refine r_y (i := 2) rfl (st_loadBW rfl rfl rfl ⟨rfl, rfl⟩) ?_
          refine r_y (i := 4) rfl (st_loadBW rfl rfl rfl ⟨rfl, rfl⟩) ?_
          refine r_y (i := 5) rfl (st_loadBW rfl rfl rfl ⟨rfl, rfl⟩) ?_
          refine r_y (i := 6) rfl (st_loadBW rfl rfl rfl ⟨rfl, rfl⟩) ?_
          refine aa_c (i := 3) rfl rfl (by kernel_rfl) (by first | rfl | exact wan_y rfl rfl (beq_tt ‹_›) | exact wan_y rfl rfl (beq_ff ‹_›) | exact wan_y rfl rfl (by simp [*])) (q_call (Pwithin s hsb _ _) ?_)
          rintro r rfl
          refine ⟨.inr rfl, ?_⟩
          refine aa_c (i := 7) rfl rfl (by kernel_rfl) (by first | rfl | exact wan_y rfl rfl (beq_tt ‹_›) | exact wan_y rfl rfl (beq_ff ‹_›) | exact wan_y rfl rfl (by simp [*])) (q_call (RwithinS hsb hv hmo _ _) ?_)
          rintro r rfl
          refine ⟨.inr rfl, ?_⟩
          first | refine r_y (i := 8) rfl (st_neq rfl rfl ⟨rfl, rfl⟩) ?_ | refine r_y (i := 8) rfl (st_neqS rfl rfl ⟨rfl, rfl⟩) ?_ | refine r_y (i := 8) rfl (st_neqB (by kernel_rfl) rfl rfl ⟨rfl, rfl⟩) ?_
          refine aa_done (by kernel_rfl) ?_ _
          refine x_then ?_
          refine hK _ ?_
          clear hK K
          refine aw_cond rfl (fun hb5 => ?_) (fun hb5 => ?_)
          · have hc5 := bp hb5
            simp_all
          · have hc5 := bp hb5
            refine aw_skip ?_
            refine x_blockN ?_
            refine x_then ?_
            refine hK _ ?_
            clear hK K
            refine aw_region ?_
            refine p_mv ?_
            first | refine al_p rfl (st_add64 rfl rfl (by omega) ?_) | refine al_p rfl (st_addS rfl rfl (by omega) ?_) | refine al_p rfl (st_add rfl rfl ?_)
            refine p_as ?_
            refine al_nil ?_
            refine x_then ?_
            refine ⟨_, _, ?_, ⟨j + 1, _, by omega, rfl, ?_, rfl⟩, (wk 2 0)⟩
            · omega
            · omega
      · refine s_alloc (by repeat constructor) ?_
        refine ⟨.inr ⟨_, _, rfl⟩, ?_⟩
        refine aa_two (i := 7) (j := 8) (by kernel_rfl) rfl rfl (by first | rfl | exact wan_y rfl rfl (beq_tt ‹_›) | exact wan_y rfl rfl (beq_ff ‹_›) | exact wan_y rfl rfl (by simp [*])) rfl rfl (by first | rfl | exact wan_y rfl rfl (beq_tt ‹_›) | exact wan_y rfl rfl (beq_ff ‹_›) | exact wan_y rfl rfl (by simp [*])) ?_ ?_
        · refine s_gen 0 (hc := Gfile l _ s.files (by omega) hv.files.b hv.files.ne) (hR := ?_)
          rintro r a6 ha6 ⟨x6, rfl⟩
          refine ⟨rfl, _, (by repeat constructor), ?_⟩
          refine ⟨.inr ⟨_, _, rfl⟩, ?_⟩
          refine aa_c (i := 8) rfl rfl (by kernel_rfl) (by first | rfl | exact wan_y rfl rfl (beq_tt ‹_›) | exact wan_y rfl rfl (beq_ff ‹_›) | exact wan_y rfl rfl (by simp [*])) (s_alloc (by repeat constructor) ?_)
          refine ⟨.inr ⟨_, _, rfl⟩, ?_⟩
          refine aa_c0 (i := 10) rfl (by kernel_rfl) (by first | rfl | exact wan_y rfl rfl (beq_tt ‹_›) | exact wan_y rfl rfl (beq_ff ‹_›) | exact wan_y rfl rfl (by simp [*])) (s_store rfl rfl rfl rfl rfl rfl (by repeat constructor) (by repeat constructor) ?_)
          refine ⟨.inr ⟨_, _, rfl⟩, ?_⟩
          refine aa_c0 (i := 11) rfl (by kernel_rfl) (by first | rfl | exact wan_y rfl rfl (beq_tt ‹_›) | exact wan_y rfl rfl (beq_ff ‹_›) | exact wan_y rfl rfl (by simp [*])) (s_store rfl rfl rfl rfl rfl rfl (by repeat constructor) (by repeat constructor) ?_)
          refine ⟨.inr ⟨_, _, rfl⟩, ?_⟩
          refine aa_done (by kernel_rfl) ?_ _
          refine x_then ?_
          refine hK _ ?_
          clear hK K
          refine aw_seq (fun K hK => ?_)
          refine aw_drawR 9 (by kernel_rfl) ?_
          refine r_y (i := 0) rfl (st_loadBW rfl rfl rfl ⟨rfl, rfl⟩) ?_
          refine r_y (i := 1) rfl (st_loadBW rfl rfl rfl ⟨rfl, rfl⟩) ?_
          refine r_y (i := 2) rfl (st_loadBW rfl rfl rfl ⟨rfl, rfl⟩) ?_
          refine r_y (i := 4) rfl (st_loadBW rfl rfl rfl ⟨rfl, rfl⟩) ?_
          refine r_y (i := 5) rfl (st_loadBW rfl rfl rfl ⟨rfl, rfl⟩) ?_
          refine r_y (i := 6) rfl (st_loadBW rfl rfl rfl ⟨rfl, rfl⟩) ?_
          refine aa_c (i := 3) rfl rfl (by kernel_rfl) (by first | rfl | exact wan_y rfl rfl (beq_tt ‹_›) | exact wan_y rfl rfl (beq_ff ‹_›) | exact wan_y rfl rfl (by simp [*])) (q_call (Pwithin s hsb _ _) ?_)
          rintro r rfl
          refine ⟨.inr rfl, ?_⟩
          refine aa_c (i := 7) rfl rfl (by kernel_rfl) (by first | rfl | exact wan_y rfl rfl (beq_tt ‹_›) | exact wan_y rfl rfl (beq_ff ‹_›) | exact wan_y rfl rfl (by simp [*])) (q_call (RwithinS hsb hv hmo _ _) ?_)
          rintro r rfl
          refine ⟨.inr rfl, ?_⟩
          first | refine r_y (i := 8) rfl (st_neq rfl rfl ⟨rfl, rfl⟩) ?_ | refine r_y (i := 8) rfl (st_neqS rfl rfl ⟨rfl, rfl⟩) ?_ | refine r_y (i := 8) rfl (st_neqB (by kernel_rfl) rfl rfl ⟨rfl, rfl⟩) ?_
          refine aa_done (by kernel_rfl) ?_ _
          refine x_then ?_
          refine hK _ ?_
          clear hK K
          refine aw_cond rfl (fun hb6 => ?_) (fun hb6 => ?_)
          · have hc6 := bp hb6
            simp_all
          · have hc6 := bp hb6
            refine aw_skip ?_
            refine x_blockN ?_
            refine x_then ?_
            refine hK _ ?_
            clear hK K
            refine aw_region ?_
            refine p_mv ?_
            first | refine al_p rfl (st_add64 rfl rfl (by omega) ?_) | refine al_p rfl (st_addS rfl rfl (by omega) ?_) | refine al_p rfl (st_add rfl rfl ?_)
            refine p_as ?_
            refine al_nil ?_
            refine x_then ?_
            refine ⟨_, _, ?_, ⟨j + 1, _, by omega, rfl, ?_, rfl⟩, (wk 2 0)⟩
            · omega
            · omega
        · refine s_alloc (by repeat constructor) ?_
          refine ⟨.inr ⟨_, _, rfl⟩, ?_⟩
          refine aa_c (i := 7) rfl rfl (by kernel_rfl) (by first | rfl | exact wan_y rfl rfl (beq_tt ‹_›) | exact wan_y rfl rfl (beq_ff ‹_›) | exact wan_y rfl rfl (by simp [*])) (s_gen 0 (hc := Gfile l _ s.files (by omega) hv.files.b hv.files.ne) (hR := ?_))
          rintro r a7 ha7 ⟨x7, rfl⟩
          refine ⟨rfl, _, (by repeat constructor), ?_⟩
          refine ⟨.inr ⟨_, _, rfl⟩, ?_⟩
          refine aa_c0 (i := 10) rfl (by kernel_rfl) (by first | rfl | exact wan_y rfl rfl (beq_tt ‹_›) | exact wan_y rfl rfl (beq_ff ‹_›) | exact wan_y rfl rfl (by simp [*])) (s_store rfl rfl rfl rfl rfl rfl (by repeat constructor) (by repeat constructor) ?_)
          refine ⟨.inr ⟨_, _, rfl⟩, ?_⟩
          refine aa_c0 (i := 11) rfl (by kernel_rfl) (by first | rfl | exact wan_y rfl rfl (beq_tt ‹_›) | exact wan_y rfl rfl (beq_ff ‹_›) | exact wan_y rfl rfl (by simp [*])) (s_store rfl rfl rfl rfl rfl rfl (by repeat constructor) (by repeat constructor) ?_)
          refine ⟨.inr ⟨_, _, rfl⟩, ?_⟩
          refine aa_done (by kernel_rfl) ?_ _
          refine x_then ?_
          refine hK _ ?_
          clear hK K
          refine aw_seq (fun K hK => ?_)
          refine aw_drawR 9 (by kernel_rfl) ?_
          refine r_y (i := 0) rfl (st_loadBW rfl rfl rfl ⟨rfl, rfl⟩) ?_
          refine r_y (i := 1) rfl (st_loadBW rfl rfl rfl ⟨rfl, rfl⟩) ?_
          refine r_y (i := 2) rfl (st_loadBW rfl rfl rfl ⟨rfl, rfl⟩) ?_
          refine r_y (i := 4) rfl (st_loadBW rfl rfl rfl ⟨rfl, rfl⟩) ?_
          refine r_y (i := 5) rfl (st_loadBW rfl rfl rfl ⟨rfl, rfl⟩) ?_
          refine r_y (i := 6) rfl (st_loadBW rfl rfl rfl ⟨rfl, rfl⟩) ?_
          refine aa_c (i := 3) rfl rfl (by kernel_rfl) (by first | rfl | exact wan_y rfl rfl (beq_tt ‹_›) | exact wan_y rfl rfl (beq_ff ‹_›) | exact wan_y rfl rfl (by simp [*])) (q_call (Pwithin s hsb _ _) ?_)
          rintro r rfl
          refine ⟨.inr rfl, ?_⟩
          refine aa_c (i := 7) rfl rfl (by kernel_rfl) (by first | rfl | exact wan_y rfl rfl (beq_tt ‹_›) | exact wan_y rfl rfl (beq_ff ‹_›) | exact wan_y rfl rfl (by simp [*])) (q_call (RwithinS hsb hv hmo _ _) ?_)
          rintro r rfl
          refine ⟨.inr rfl, ?_⟩
          first | refine r_y (i := 8) rfl (st_neq rfl rfl ⟨rfl, rfl⟩) ?_ | refine r_y (i := 8) rfl (st_neqS rfl rfl ⟨rfl, rfl⟩) ?_ | refine r_y (i := 8) rfl (st_neqB (by kernel_rfl) rfl rfl ⟨rfl, rfl⟩) ?_
          refine aa_done (by kernel_rfl) ?_ _
          refine x_then ?_
          refine hK _ ?_
          clear hK K
          refine aw_cond rfl (fun hb7 => ?_) (fun hb7 => ?_)
          · have hc7 := bp hb7
            simp_all
          · have hc7 := bp hb7
            refine aw_skip ?_
            refine x_blockN ?_
            refine x_then ?_
            refine hK _ ?_
            clear hK K
            refine aw_region ?_
            refine p_mv ?_
            first | refine al_p rfl (st_add64 rfl rfl (by omega) ?_) | refine al_p rfl (st_addS rfl rfl (by omega) ?_) | refine al_p rfl (st_add rfl rfl ?_)
            refine p_as ?_
            refine al_nil ?_
            refine x_then ?_
            refine ⟨_, _, ?_, ⟨j + 1, _, by omega, rfl, ?_, rfl⟩, (wk 2 0)⟩
            · omega
            · omega
    · refine s_alloc (by repeat constructor) ?_
      refine ⟨.inr ⟨_, _, rfl⟩, ?_⟩
      refine aa_two (i := 3) (j := 9) (by kernel_rfl) rfl rfl (by first | rfl | exact wan_y rfl rfl (beq_tt ‹_›) | exact wan_y rfl rfl (beq_ff ‹_›) | exact wan_y rfl rfl (by simp [*])) rfl rfl (by first | rfl | exact wan_y rfl rfl (beq_tt ‹_›) | exact wan_y rfl rfl (beq_ff ‹_›) | exact wan_y rfl rfl (by simp [*])) ?_ ?_
      · refine s_gen 0 (hc := Gfile l _ s.files (by omega) hv.files.b hv.files.ne) (hR := ?_)
        rintro r a8 ha8 ⟨x8, rfl⟩
        refine ⟨rfl, _, (by repeat constructor), ?_⟩
        refine ⟨.inr ⟨_, _, rfl⟩, ?_⟩
        refine aa_two (i := 7) (j := 9) (by kernel_rfl) rfl rfl (by first | rfl | exact wan_y rfl rfl (beq_tt ‹_›) | exact wan_y rfl rfl (beq_ff ‹_›) | exact wan_y rfl rfl (by simp [*])) rfl rfl (by first | rfl | exact wan_y rfl rfl (beq_tt ‹_›) | exact wan_y rfl rfl (beq_ff ‹_›) | exact wan_y rfl rfl (by simp [*])) ?_ ?_
        · refine s_gen 0 (hc := Gfile l _ s.files (by omega) hv.files.b hv.files.ne) (hR := ?_)
          rintro r a9 ha9 ⟨x9, rfl⟩
          refine ⟨rfl, _, (by repeat constructor), ?_⟩
          refine ⟨.inr ⟨_, _, rfl⟩, ?_⟩
          refine aa_c (i := 9) rfl rfl (by kernel_rfl) (by first | rfl | exact wan_y rfl rfl (beq_tt ‹_›) | exact wan_y rfl rfl (beq_ff ‹_›) | exact wan_y rfl rfl (by simp [*])) (s_alloc (by repeat constructor) ?_)
          refine ⟨.inr ⟨_, _, rfl⟩, ?_⟩
          refine aa_c0 (i := 10) rfl (by kernel_rfl) (by first | rfl | exact wan_y rfl rfl (beq_tt ‹_›) | exact wan_y rfl rfl (beq_ff ‹_›) | exact wan_y rfl rfl (by simp [*])) (s_store rfl rfl rfl rfl rfl rfl (by repeat constructor) (by repeat constructor) ?_)
          refine ⟨.inr ⟨_, _, rfl⟩, ?_⟩
          refine aa_c0 (i := 11) rfl (by kernel_rfl) (by first | rfl | exact wan_y rfl rfl (beq_tt ‹_›) | exact wan_y rfl rfl (beq_ff ‹_›) | exact wan_y rfl rfl (by simp [*])) (s_store rfl rfl rfl rfl rfl rfl (by repeat constructor) (by repeat constructor) ?_)
          refine ⟨.inr ⟨_, _, rfl⟩, ?_⟩
          refine aa_done (by kernel_rfl) ?_ _
          refine x_then ?_
          refine hK _ ?_
          clear hK K
          refine aw_seq (fun K hK => ?_)
          refine aw_drawR 9 (by kernel_rfl) ?_
          refine r_y (i := 0) rfl (st_loadBW rfl rfl rfl ⟨rfl, rfl⟩) ?_
          refine r_y (i := 1) rfl (st_loadBW rfl rfl rfl ⟨rfl, rfl⟩) ?_
          refine r_y (i := 2) rfl (st_loadBW rfl rfl rfl ⟨rfl, rfl⟩) ?_
          refine r_y (i := 4) rfl (st_loadBW rfl rfl rfl ⟨rfl, rfl⟩) ?_
          refine r_y (i := 5) rfl (st_loadBW rfl rfl rfl ⟨rfl, rfl⟩) ?_
          refine r_y (i := 6) rfl (st_loadBW rfl rfl rfl ⟨rfl, rfl⟩) ?_
          refine aa_c (i := 3) rfl rfl (by kernel_rfl) (by first | rfl | exact wan_y rfl rfl (beq_tt ‹_›) | exact wan_y rfl rfl (beq_ff ‹_›) | exact wan_y rfl rfl (by simp [*])) (q_call (Pwithin s hsb _ _) ?_)
          rintro r rfl
          refine ⟨.inr rfl, ?_⟩
          refine aa_c (i := 7) rfl rfl (by kernel_rfl) (by first | rfl | exact wan_y rfl rfl (beq_tt ‹_›) | exact wan_y rfl rfl (beq_ff ‹_›) | exact wan_y rfl rfl (by simp [*])) (q_call (RwithinS hsb hv hmo _ _) ?_)
          rintro r rfl
          refine ⟨.inr rfl, ?_⟩
          first | refine r_y (i := 8) rfl (st_neq rfl rfl ⟨rfl, rfl⟩) ?_ | refine r_y (i := 8) rfl (st_neqS rfl rfl ⟨rfl, rfl⟩) ?_ | refine r_y (i := 8) rfl (st_neqB (by kernel_rfl) rfl rfl ⟨rfl, rfl⟩) ?_
          refine aa_done (by kernel_rfl) ?_ _
          refine x_then ?_
          refine hK _ ?_
          clear hK K
          refine aw_cond rfl (fun hb8 => ?_) (fun hb8 => ?_)
          · have hc8 := bp hb8
            simp_all
          · have hc8 := bp hb8
            refine aw_skip ?_
            refine x_blockN ?_
            refine x_then ?_
            refine hK _ ?_
            clear hK K
            refine aw_region ?_
            refine p_mv ?_
            first | refine al_p rfl (st_add64 rfl rfl (by omega) ?_) | refine al_p rfl (st_addS rfl rfl (by omega) ?_) | refine al_p rfl (st_add rfl rfl ?_)
            refine p_as ?_
            refine al_nil ?_
            refine x_then ?_
            refine ⟨_, _, ?_, ⟨j + 1, _, by omega, rfl, ?_, rfl⟩, (wk 2 0)⟩
            · omega
            · omega
        · refine s_alloc (by repeat constructor) ?_
          refine ⟨.inr ⟨_, _, rfl⟩, ?_⟩
          refine aa_c (i := 7) rfl rfl (by kernel_rfl) (by first | rfl | exact wan_y rfl rfl (beq_tt ‹_›) | exact wan_y rfl rfl (beq_ff ‹_›) | exact wan_y rfl rfl (by simp [*])) (s_gen 0 (hc := Gfile l _ s.files (by omega) hv.files.b hv.files.ne) (hR := ?_))
          rintro r a10 ha10 ⟨x10, rfl⟩
          refine ⟨rfl, _, (by repeat constructor), ?_⟩
          refine ⟨.inr ⟨_, _, rfl⟩, ?_⟩
          refine aa_c0 (i := 10) rfl (by kernel_rfl) (by first | rfl | exact wan_y rfl rfl (beq_tt ‹_›) | exact wan_y rfl rfl (beq_ff ‹_›) | exact wan_y rfl rfl (by simp [*])) (s_store rfl rfl rfl rfl rfl rfl (by repeat constructor) (by repeat constructor) ?_)
          refine ⟨.inr ⟨_, _, rfl⟩, ?_⟩
          refine aa_c0 (i := 11) rfl (by kernel_rfl) (by first | rfl | exact wan_y rfl rfl (beq_tt ‹_›) | exact wan_y rfl rfl (beq_ff ‹_›) | exact wan_y rfl rfl (by simp [*])) (s_store rfl rfl rfl rfl rfl rfl (by repeat constructor) (by repeat constructor) ?_)
          refine ⟨.inr ⟨_, _, rfl⟩, ?_⟩
          refine aa_done (by kernel_rfl) ?_ _
          refine x_then ?_
          refine hK _ ?_
          clear hK K
          refine aw_seq (fun K hK => ?_)
          refine aw_drawR 9 (by kernel_rfl) ?_
          refine r_y (i := 0) rfl (st_loadBW rfl rfl rfl ⟨rfl, rfl⟩) ?_
          refine r_y (i := 1) rfl (st_loadBW rfl rfl rfl ⟨rfl, rfl⟩) ?_
          refine r_y (i := 2) rfl (st_loadBW rfl rfl rfl ⟨rfl, rfl⟩) ?_
          refine r_y (i := 4) rfl (st_loadBW rfl rfl rfl ⟨rfl, rfl⟩) ?_
          refine r_y (i := 5) rfl (st_loadBW rfl rfl rfl ⟨rfl, rfl⟩) ?_
          refine r_y (i := 6) rfl (st_loadBW rfl rfl rfl ⟨rfl, rfl⟩) ?_
          refine aa_c (i := 3) rfl rfl (by kernel_rfl) (by first | rfl | exact wan_y rfl rfl (beq_tt ‹_›) | exact wan_y rfl rfl (beq_ff ‹_›) | exact wan_y rfl rfl (by simp [*])) (q_call (Pwithin s hsb _ _) ?_)
          rintro r rfl
          refine ⟨.inr rfl, ?_⟩
          refine aa_c (i := 7) rfl rfl (by kernel_rfl) (by first | rfl | exact wan_y rfl rfl (beq_tt ‹_›) | exact wan_y rfl rfl (beq_ff ‹_›) | exact wan_y rfl rfl (by simp [*])) (q_call (RwithinS hsb hv hmo _ _) ?_)
          rintro r rfl
          refine ⟨.inr rfl, ?_⟩
          first | refine r_y (i := 8) rfl (st_neq rfl rfl ⟨rfl, rfl⟩) ?_ | refine r_y (i := 8) rfl (st_neqS rfl rfl ⟨rfl, rfl⟩) ?_ | refine r_y (i := 8) rfl (st_neqB (by kernel_rfl) rfl rfl ⟨rfl, rfl⟩) ?_
          refine aa_done (by kernel_rfl) ?_ _
          refine x_then ?_
          refine hK _ ?_
          clear hK K
          refine aw_cond rfl (fun hb9 => ?_) (fun hb9 => ?_)
          · have hc9 := bp hb9
            simp_all
          · have hc9 := bp hb9
            refine aw_skip ?_
            refine x_blockN ?_
            refine x_then ?_
            refine hK _ ?_
            clear hK K
            refine aw_region ?_
            refine p_mv ?_
            first | refine al_p rfl (st_add64 rfl rfl (by omega) ?_) | refine al_p rfl (st_addS rfl rfl (by omega) ?_) | refine al_p rfl (st_add rfl rfl ?_)
            refine p_as ?_
            refine al_nil ?_
            refine x_then ?_
            refine ⟨_, _, ?_, ⟨j + 1, _, by omega, rfl, ?_, rfl⟩, (wk 2 0)⟩
            · omega
            · omega
      · refine s_alloc (by repeat constructor) ?_
        refine ⟨.inr ⟨_, _, rfl⟩, ?_⟩
        refine aa_c (i := 3) rfl rfl (by kernel_rfl) (by first | rfl | exact wan_y rfl rfl (beq_tt ‹_›) | exact wan_y rfl rfl (beq_ff ‹_›) | exact wan_y rfl rfl (by simp [*])) (s_gen 0 (hc := Gfile l _ s.files (by omega) hv.files.b hv.files.ne) (hR := ?_))
        rintro r a11 ha11 ⟨x11, rfl⟩
        refine ⟨rfl, _, (by repeat constructor), ?_⟩
        refine ⟨.inr ⟨_, _, rfl⟩, ?_⟩
        refine aa_c (i := 7) rfl rfl (by kernel_rfl) (by first | rfl | exact wan_y rfl rfl (beq_tt ‹_›) | exact wan_y rfl rfl (beq_ff ‹_›) | exact wan_y rfl rfl (by simp [*])) (s_gen 0 (hc := Gfile l _ s.files (by omega) hv.files.b hv.files.ne) (hR := ?_))
        rintro r a12 ha12 ⟨x12, rfl⟩
        refine ⟨rfl, _, (by repeat constructor), ?_⟩
        refine ⟨.inr ⟨_, _, rfl⟩, ?_⟩
        refine aa_c0 (i := 10) rfl (by kernel_rfl) (by first | rfl | exact wan_y rfl rfl (beq_tt ‹_›) | exact wan_y rfl rfl (beq_ff ‹_›) | exact wan_y rfl rfl (by simp [*])) (s_store rfl rfl rfl rfl rfl rfl (by repeat constructor) (by repeat constructor) ?_)
        refine ⟨.inr ⟨_, _, rfl⟩, ?_⟩
        refine aa_c0 (i := 11) rfl (by kernel_rfl) (by first | rfl | exact wan_y rfl rfl (beq_tt ‹_›) | exact wan_y rfl rfl (beq_ff ‹_›) | exact wan_y rfl rfl (by simp [*])) (s_store rfl rfl rfl rfl rfl rfl (by repeat constructor) (by repeat constructor) ?_)
        refine ⟨.inr ⟨_, _, rfl⟩, ?_⟩
        refine aa_done (by kernel_rfl) ?_ _
        refine x_then ?_
        refine hK _ ?_
        clear hK K
        refine aw_seq (fun K hK => ?_)
        refine aw_drawR 9 (by kernel_rfl) ?_
        refine r_y (i := 0) rfl (st_loadBW rfl rfl rfl ⟨rfl, rfl⟩) ?_
        refine r_y (i := 1) rfl (st_loadBW rfl rfl rfl ⟨rfl, rfl⟩) ?_
        refine r_y (i := 2) rfl (st_loadBW rfl rfl rfl ⟨rfl, rfl⟩) ?_
        refine r_y (i := 4) rfl (st_loadBW rfl rfl rfl ⟨rfl, rfl⟩) ?_
        refine r_y (i := 5) rfl (st_loadBW rfl rfl rfl ⟨rfl, rfl⟩) ?_
        refine r_y (i := 6) rfl (st_loadBW rfl rfl rfl ⟨rfl, rfl⟩) ?_
        refine aa_c (i := 3) rfl rfl (by kernel_rfl) (by first | rfl | exact wan_y rfl rfl (beq_tt ‹_›) | exact wan_y rfl rfl (beq_ff ‹_›) | exact wan_y rfl rfl (by simp [*])) (q_call (Pwithin s hsb _ _) ?_)
        rintro r rfl
        refine ⟨.inr rfl, ?_⟩
        refine aa_c (i := 7) rfl rfl (by kernel_rfl) (by first | rfl | exact wan_y rfl rfl (beq_tt ‹_›) | exact wan_y rfl rfl (beq_ff ‹_›) | exact wan_y rfl rfl (by simp [*])) (q_call (RwithinS hsb hv hmo _ _) ?_)
        rintro r rfl
        refine ⟨.inr rfl, ?_⟩
        first | refine r_y (i := 8) rfl (st_neq rfl rfl ⟨rfl, rfl⟩) ?_ | refine r_y (i := 8) rfl (st_neqS rfl rfl ⟨rfl, rfl⟩) ?_ | refine r_y (i := 8) rfl (st_neqB (by kernel_rfl) rfl rfl ⟨rfl, rfl⟩) ?_
        refine aa_done (by kernel_rfl) ?_ _
        refine x_then ?_
        refine hK _ ?_
        clear hK K
        refine aw_cond rfl (fun hb10 => ?_) (fun hb10 => ?_)
        · have hc10 := bp hb10
          simp_all
        · have hc10 := bp hb10
          refine aw_skip ?_
          refine x_blockN ?_
          refine x_then ?_
          refine hK _ ?_
          clear hK K
          refine aw_region ?_
          refine p_mv ?_
          first | refine al_p rfl (st_add64 rfl rfl (by omega) ?_) | refine al_p rfl (st_addS rfl rfl (by omega) ?_) | refine al_p rfl (st_add rfl rfl ?_)
          refine p_as ?_
          refine al_nil ?_
          refine x_then ?_
          refine ⟨_, _, ?_, ⟨j + 1, _, by omega, rfl, ?_, rfl⟩, (wk 2 0)⟩
          · omega
          · omega
    · refine s_alloc (by repeat constructor) ?_
      refine ⟨.inr ⟨_, _, rfl⟩, ?_⟩
      refine aa_two (i := 3) (j := 8) (by kernel_rfl) rfl rfl (by first | rfl | exact wan_y rfl rfl (beq_tt ‹_›) | exact wan_y rfl rfl (beq_ff ‹_›) | exact wan_y rfl rfl (by simp [*])) rfl rfl (by first | rfl | exact wan_y rfl rfl (beq_tt ‹_›) | exact wan_y rfl rfl (beq_ff ‹_›) | exact wan_y rfl rfl (by simp [*])) ?_ ?_
      · refine s_gen 0 (hc := Gfile l _ s.files (by omega) hv.files.b hv.files.ne) (hR := ?_)
        rintro r a13 ha13 ⟨x13, rfl⟩
        refine ⟨rfl, _, (by repeat constructor), ?_⟩
        refine ⟨.inr ⟨_, _, rfl⟩, ?_⟩
        refine aa_two (i := 7) (j := 8) (by kernel_rfl) rfl rfl (by first | rfl | exact wan_y rfl rfl (beq_tt ‹_›) | exact wan_y rfl rfl (beq_ff ‹_›) | exact wan_y rfl rfl (by simp [*])) rfl rfl (by first | rfl | exact wan_y rfl rfl (beq_tt ‹_›) | exact wan_y rfl rfl (beq_ff ‹_›) | exact wan_y rfl rfl (by simp [*])) ?_ ?_
        · refine s_gen 0 (hc := Gfile l _ s.files (by omega) hv.files.b hv.files.ne) (hR := ?_)
          rintro r a14 ha14 ⟨x14, rfl⟩
          refine ⟨rfl, _, (by repeat constructor), ?_⟩
          refine ⟨.inr ⟨_, _, rfl⟩, ?_⟩
          refine aa_c (i := 8) rfl rfl (by kernel_rfl) (by first | rfl | exact wan_y rfl rfl (beq_tt ‹_›) | exact wan_y rfl rfl (beq_ff ‹_›) | exact wan_y rfl rfl (by simp [*])) (s_alloc (by repeat constructor) ?_)
          refine ⟨.inr ⟨_, _, rfl⟩, ?_⟩
          refine aa_c0 (i := 10) rfl (by kernel_rfl) (by first | rfl | exact wan_y rfl rfl (beq_tt ‹_›) | exact wan_y rfl rfl (beq_ff ‹_›) | exact wan_y rfl rfl (by simp [*])) (s_store rfl rfl rfl rfl rfl rfl (by repeat constructor) (by repeat constructor) ?_)
          refine ⟨.inr ⟨_, _, rfl⟩, ?_⟩
          refine aa_c0 (i := 11) rfl (by kernel_rfl) (by first | rfl | exact wan_y rfl rfl (beq_tt ‹_›) | exact wan_y rfl rfl (beq_ff ‹_›) | exact wan_y rfl rfl (by simp [*])) (s_store rfl rfl rfl rfl rfl rfl (by repeat constructor) (by repeat constructor) ?_)
          refine ⟨.inr ⟨_, _, rfl⟩, ?_⟩
          refine aa_done (by kernel_rfl) ?_ _
          refine x_then ?_
          refine hK _ ?_
          clear hK K
          refine aw_seq (fun K hK => ?_)
          refine aw_drawR 9 (by kernel_rfl) ?_
          refine r_y (i := 0) rfl (st_loadBW rfl rfl rfl ⟨rfl, rfl⟩) ?_
          refine r_y (i := 1) rfl (st_loadBW rfl rfl rfl ⟨rfl, rfl⟩) ?_
          refine r_y (i := 2) rfl (st_loadBW rfl rfl rfl ⟨rfl, rfl⟩) ?_
          refine r_y (i := 4) rfl (st_loadBW rfl rfl rfl ⟨rfl, rfl⟩) ?_
          refine r_y (i := 5) rfl (st_loadBW rfl rfl rfl ⟨rfl, rfl⟩) ?_
          refine r_y (i := 6) rfl (st_loadBW rfl rfl rfl ⟨rfl, rfl⟩) ?_
          refine aa_c (i := 3) rfl rfl (by kernel_rfl) (by first | rfl | exact wan_y rfl rfl (beq_tt ‹_›) | exact wan_y rfl rfl (beq_ff ‹_›) | exact wan_y rfl rfl (by simp [*])) (q_call (Pwithin s hsb _ _) ?_)
          rintro r rfl
          refine ⟨.inr rfl, ?_⟩
          refine aa_c (i := 7) rfl rfl (by kernel_rfl) (by first | rfl | exact wan_y rfl rfl (beq_tt ‹_›) | exact wan_y rfl rfl (beq_ff ‹_›) | exact wan_y rfl rfl (by simp [*])) (q_call (RwithinS hsb hv hmo _ _) ?_)
          rintro r rfl
          refine ⟨.inr rfl, ?_⟩
          first | refine r_y (i := 8) rfl (st_neq rfl rfl ⟨rfl, rfl⟩) ?_ | refine r_y (i := 8) rfl (st_neqS rfl rfl ⟨rfl, rfl⟩) ?_ | refine r_y (i := 8) rfl (st_neqB (by kernel_rfl) rfl rfl ⟨rfl, rfl⟩) ?_
          refine aa_done (by kernel_rfl) ?_ _
          refine x_then ?_
          refine hK _ ?_
          clear hK K
          refine aw_cond rfl (fun hb11 => ?_) (fun hb11 => ?_)
          · have hc11 := bp hb11
            simp_all
          · have hc11 := bp hb11
            refine aw_skip ?_
            refine x_blockN ?_
            refine x_then ?_
            refine hK _ ?_
            clear hK K
            refine aw_region ?_
            refine p_mv ?_
            first | refine al_p rfl (st_add64 rfl rfl (by omega) ?_) | refine al_p rfl (st_addS rfl rfl (by omega) ?_) | refine al_p rfl (st_add rfl rfl ?_)
            refine p_as ?_
            refine al_nil ?_
            refine x_then ?_
            refine ⟨_, _, ?_, ⟨j + 1, _, by omega, rfl, ?_, rfl⟩, (wk 2 0)⟩
            · omega
            · omega
        · refine s_alloc (by repeat constructor) ?_
          refine ⟨.inr ⟨_, _, rfl⟩, ?_⟩
          refine aa_c (i := 7) rfl rfl (by kernel_rfl) (by first | rfl | exact wan_y rfl rfl (beq_tt ‹_›) | exact wan_y rfl rfl (beq_ff ‹_›) | exact wan_y rfl rfl (by simp [*])) (s_gen 0 (hc := Gfile l _ s.files (by omega) hv.files.b hv.files.ne) (hR := ?_))
          rintro r a15 ha15 ⟨x15, rfl⟩
          refine ⟨rfl, _, (by repeat constructor), ?_⟩
          refine ⟨.inr ⟨_, _, rfl⟩, ?_⟩
          refine aa_c0 (i := 10) rfl (by kernel_rfl) (by first | rfl | exact wan_y rfl rfl (beq_tt ‹_›) | exact wan_y rfl rfl (beq_ff ‹_›) | exact wan_y rfl rfl (by simp [*])) (s_store rfl rfl rfl rfl rfl rfl (by repeat constructor) (by repeat constructor) ?_)
          refine ⟨.inr ⟨_, _, rfl⟩, ?_⟩
          refine aa_c0 (i := 11) rfl (by kernel_rfl) (by first | rfl | exact wan_y rfl rfl (beq_tt ‹_›) | exact wan_y rfl rfl (beq_ff ‹_›) | exact wan_y rfl rfl (by simp [*])) (s_store rfl rfl rfl rfl rfl rfl (by repeat constructor) (by repeat constructor) ?_)
          refine ⟨.inr ⟨_, _, rfl⟩, ?_⟩
          refine aa_done (by kernel_rfl) ?_ _
          refine x_then ?_
          refine hK _ ?_
          clear hK K
          refine aw_seq (fun K hK => ?_)
          refine aw_drawR 9 (by kernel_rfl) ?_
          refine r_y (i := 0) rfl (st_loadBW rfl rfl rfl ⟨rfl, rfl⟩) ?_
          refine r_y (i := 1) rfl (st_loadBW rfl rfl rfl ⟨rfl, rfl⟩) ?_
          refine r_y (i := 2) rfl (st_loadBW rfl rfl rfl ⟨rfl, rfl⟩) ?_
          refine r_y (i := 4) rfl (st_loadBW rfl rfl rfl ⟨rfl, rfl⟩) ?_
          refine r_y (i := 5) rfl (st_loadBW rfl rfl rfl ⟨rfl, rfl⟩) ?_
          refine r_y (i := 6) rfl (st_loadBW rfl rfl rfl ⟨rfl, rfl⟩) ?_
          refine aa_c (i := 3) rfl rfl (by kernel_rfl) (by first | rfl | exact wan_y rfl rfl (beq_tt ‹_›) | exact wan_y rfl rfl (beq_ff ‹_›) | exact wan_y rfl rfl (by simp [*])) (q_call (Pwithin s hsb _ _) ?_)
          rintro r rfl
          refine ⟨.inr rfl, ?_⟩
          refine aa_c (i := 7) rfl rfl (by kernel_rfl) (by first | rfl | exact wan_y rfl rfl (beq_tt ‹_›) | exact wan_y rfl rfl (beq_ff ‹_›) | exact wan_y rfl rfl (by simp [*])) (q_call (RwithinS hsb hv hmo _ _) ?_)
          rintro r rfl
          refine ⟨.inr rfl, ?_⟩
          first | refine r_y (i := 8) rfl (st_neq rfl rfl ⟨rfl, rfl⟩) ?_ | refine r_y (i := 8) rfl (st_neqS rfl rfl ⟨rfl, rfl⟩) ?_ | refine r_y (i := 8) rfl (st_neqB (by kernel_rfl) rfl rfl ⟨rfl, rfl⟩) ?_
          refine aa_done (by kernel_rfl) ?_ _
          refine x_then ?_
          refine hK _ ?_
          clear hK K
          refine aw_cond rfl (fun hb12 => ?_) (fun hb12 => ?_)
          · have hc12 := bp hb12
            simp_all
          · have hc12 := bp hb12
            refine aw_skip ?_
            refine x_blockN ?_
            refine x_then ?_
            refine hK _ ?_
            clear hK K
            refine aw_region ?_
            refine p_mv ?_
            first | refine al_p rfl (st_add64 rfl rfl (by omega) ?_) | refine al_p rfl (st_addS rfl rfl (by omega) ?_) | refine al_p rfl (st_add rfl rfl ?_)
            refine p_as ?_
            refine al_nil ?_
            refine x_then ?_
            refine ⟨_, _, ?_, ⟨j + 1, _, by omega, rfl, ?_, rfl⟩, (wk 2 0)⟩
            · omega
            · omega
      · refine s_alloc (by repeat constructor) ?_
        refine ⟨.inr ⟨_, _, rfl⟩, ?_⟩
        refine aa_c (i := 3) rfl rfl (by kernel_rfl) (by first | rfl | exact wan_y rfl rfl (beq_tt ‹_›) | exact wan_y rfl rfl (beq_ff ‹_›) | exact wan_y rfl rfl (by simp [*])) (s_gen 0 (hc := Gfile l _ s.files (by omega) hv.files.b hv.files.ne) (hR := ?_))
        rintro r a16 ha16 ⟨x16, rfl⟩
        refine ⟨rfl, _, (by repeat constructor), ?_⟩
        refine ⟨.inr ⟨_, _, rfl⟩, ?_⟩
        refine aa_c (i := 7) rfl rfl (by kernel_rfl) (by first | rfl | exact wan_y rfl rfl (beq_tt ‹_›) | exact wan_y rfl rfl (beq_ff ‹_›) | exact wan_y rfl rfl (by simp [*])) (s_gen 0 (hc := Gfile l _ s.files (by omega) hv.files.b hv.files.ne) (hR := ?_))
        rintro r a17 ha17 ⟨x17, rfl⟩
        refine ⟨rfl, _, (by repeat constructor), ?_⟩
        refine ⟨.inr ⟨_, _, rfl⟩, ?_⟩
        refine aa_c0 (i := 10) rfl (by kernel_rfl) (by first | rfl | exact wan_y rfl rfl (beq_tt ‹_›) | exact wan_y rfl rfl (beq_ff ‹_›) | exact wan_y rfl rfl (by simp [*])) (s_store rfl rfl rfl rfl rfl rfl (by repeat constructor) (by repeat constructor) ?_)
        refine ⟨.inr ⟨_, _, rfl⟩, ?_⟩
        refine aa_c0 (i := 11) rfl (by kernel_rfl) (by first | rfl | exact wan_y rfl rfl (beq_tt ‹_›) | exact wan_y rfl rfl (beq_ff ‹_›) | exact wan_y rfl rfl (by simp [*])) (s_store rfl rfl rfl rfl rfl rfl (by repeat constructor) (by repeat constructor) ?_)
        refine ⟨.inr ⟨_, _, rfl⟩, ?_⟩
        refine aa_done (by kernel_rfl) ?_ _
        refine x_then ?_
        refine hK _ ?_
        clear hK K
        refine aw_seq (fun K hK => ?_)
        refine aw_drawR 9 (by kernel_rfl) ?_
        refine r_y (i := 0) rfl (st_loadBW rfl rfl rfl ⟨rfl, rfl⟩) ?_
        refine r_y (i := 1) rfl (st_loadBW rfl rfl rfl ⟨rfl, rfl⟩) ?_
        refine r_y (i := 2) rfl (st_loadBW rfl rfl rfl ⟨rfl, rfl⟩) ?_
        refine r_y (i := 4) rfl (st_loadBW rfl rfl rfl ⟨rfl, rfl⟩) ?_
        refine r_y (i := 5) rfl (st_loadBW rfl rfl rfl ⟨rfl, rfl⟩) ?_
        refine r_y (i := 6) rfl (st_loadBW rfl rfl rfl ⟨rfl, rfl⟩) ?_
        refine aa_c (i := 3) rfl rfl (by kernel_rfl) (by first | rfl | exact wan_y rfl rfl (beq_tt ‹_›) | exact wan_y rfl rfl (beq_ff ‹_›) | exact wan_y rfl rfl (by simp [*])) (q_call (Pwithin s hsb _ _) ?_)
        rintro r rfl
        refine ⟨.inr rfl, ?_⟩
        refine aa_c (i := 7) rfl rfl (by kernel_rfl) (by first | rfl | exact wan_y rfl rfl (beq_tt ‹_›) | exact wan_y rfl rfl (beq_ff ‹_›) | exact wan_y rfl rfl (by simp [*])) (q_call (RwithinS hsb hv hmo _ _) ?_)
        rintro r rfl
        refine ⟨.inr rfl, ?_⟩
        first | refine r_y (i := 8) rfl (st_neq rfl rfl ⟨rfl, rfl⟩) ?_ | refine r_y (i := 8) rfl (st_neqS rfl rfl ⟨rfl, rfl⟩) ?_ | refine r_y (i := 8) rfl (st_neqB (by kernel_rfl) rfl rfl ⟨rfl, rfl⟩) ?_
        refine aa_done (by kernel_rfl) ?_ _
        refine x_then ?_
        refine hK _ ?_
        clear hK K
        refine aw_cond rfl (fun hb13 => ?_) (fun hb13 => ?_)
        · have hc13 := bp hb13
          simp_all
        · have hc13 := bp hb13
          refine aw_skip ?_
          refine x_blockN ?_
          refine x_then ?_
          refine hK _ ?_
          clear hK K
          refine aw_region ?_
          refine p_mv ?_
          first | refine al_p rfl (st_add64 rfl rfl (by omega) ?_) | refine al_p rfl (st_addS rfl rfl (by omega) ?_) | refine al_p rfl (st_add rfl rfl ?_)
          refine p_as ?_
          refine al_nil ?_
          refine x_then ?_
          refine ⟨_, _, ?_, ⟨j + 1, _, by omega, rfl, ?_, rfl⟩, (wk 2 0)⟩
          · omega
          · omega
  · have hc1 := bp hb1
    refine aw_exit ?_
    refine x_thenE ?_
    clear hK K
    refine x_thenE ?_
    refine ABlock_out ?_
    refine x_then ?_
    refine hK _ ?_
    clear hK K
    refine p_sr (fun K hK => ?_)
    refine al_p rfl (q_call (Lawake) ?_)
    rintro r rfl
    refine p_as ?_
    refine al_nil (x_then (hK _ ?_))
    clear hK K
    refine aw_ret ?_
    refine e_ret ?_
    first | rfl | (exfalso; simp_all)

end
end Go.Proofs.Ytgliiknfmlmddaa
namespace Go.Proofs.Ytgliiknfmlmddaa
open Go.RowKit
theorem MountsWithin_walk {H : Type} {enc : TypeId × Value → H} {sp : Nat → Bool} {held : Bool} {base : Nat} (a : Option Addr) (n c : Nat) (w : World) {d : DataW H} {p : List MemPlace} (h : DataW.Trod enc Try.prog w base sp held 22 (.slice a n c) d p) :
    Calls Try.prog 4 #[.slice a n c] w fun e w' => e = .returned (.bool true) ∧ Below w.heap.size w w' := walk_ints Lwithin a n c w h
end Go.Proofs.Ytgliiknfmlmddaa
