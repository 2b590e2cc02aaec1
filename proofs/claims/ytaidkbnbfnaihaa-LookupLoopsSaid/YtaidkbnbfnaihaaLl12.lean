/-
  Part 12 of the proof of LookupLoopsP: what the statement's proof uses of the texts in wip/tpl.
-/
import Derived.Test.YtaidkbnbfnaihaaLl11
namespace Go.Proofs.Ytaidkbnbfnaihaa
open Go.RowKit

theorem st_min {P : Program} {ev : Operand → Option AV} {h : AH} {R : AV → AH → Prop} {d : Option Tmp} {ty : TypeId} {pos : String} {af : Array Edge} {gd : Option (Nat × Bool)} {ats : Array TypeId} {x y : Operand} {k k' : IntKind} {a b : Int} (hx : ev x = some (.v (.int k a))) (hy : ev y = some (.v (.int k' b))) (hR : R (.v (.int k (if b < a then b else a))) h) : AStep P ⟨d, .call { callee := .builtin .min, args := #[x, y], argTypes := ats }, ty, pos, af, gd⟩ ev h R :=
  st_val (fun _ G w ec _ he => ⟨.int k (if b < a then b else a), by
    have h1 := he x (by simp [Op.operands, Call.operands]) _ hx
    have h2 := he y (by simp [Op.operands, Call.operands]) _ hy
    simp only [rep] at h1 h2
    simp [execOp, resolve, invoke, builtin, h1, h2, run_min_int2], by simp only [rep]⟩) hR
theorem lp_row {j : Nat} (h : j < 12) : (lpNames.map strA)[j]? = some (strA (lpLast (j + 1))) := by
  have hl : j < lpNames.length := h
  rw [List.getElem?_map, List.getElem?_eq_getElem hl]
  simp [lpLast, List.getD, hl]
theorem spc0_le (f : Fls) : LeA (.agg [.sl 2 (f.map dvcA) none, .v (.slice none 0 0)]) (.agg (spcA ⟨f, []⟩)) := LeA.agg (LeL.cons (LeA.refl _) (LeL.cons (LeA.nil _) LeL.nil))
theorem lpNod_le (t : Str) : LeA (.agg [.v (.int .i64 0), .v (.int .i64 3), .v (.int .i64 0), .v (.int .i64 0), .v (.int .i64 0), .v (.int .i64 0), .v (.string t), .v (.slice none 0 0)]) (.agg (nodA (lpNod t))) := LeA.agg (LeL.cons (LeA.refl _) (LeL.cons (LeA.refl _) (LeL.cons (LeA.refl _) (LeL.cons (LeA.refl _) (LeL.cons (LeA.refl _) (LeL.cons (LeA.refl _) (LeL.cons (LeA.refl _) (LeL.cons (LeA.nil _) LeL.nil))))))))
theorem lp_size : ∀ j, j ≤ 12 → (lpLast j).size ≤ 1 := by decide
set_option maxRecDepth 100000 in
theorem lp_len : ∀ i < 11, 0 < (lpF i).length := by decide +kernel
set_option maxRecDepth 100000 in
theorem lp_lenZ : ∀ i < 11, 0 < (lpZ i).length := by decide +kernel
section
set_option maxRecDepth 10000
set_option maxHeartbeats 2000000
theorem Lloops7 (n : Int) (hn : 0 ≤ n ∧ n < 256) : AFn Try.prog 7 [.v (.int .u8 n)] (fun r => r = .v (.bool true)) := by
  obtain ⟨k, hk, hk12⟩ : ∃ k : Nat, n.tmod 12 = k ∧ k < 12 := by
    have h1 := Int.emod_nonneg n (show (12 : Int) ≠ 0 by decide)
    have h2 := Int.emod_lt_of_pos n (show (0 : Int) < 12 by decide)
    exact ⟨(n % 12).toNat, by rw [Int.tmod_eq_emod_of_nonneg hn.1]; omega, by omega⟩
  have hnew : AFn Try.prog 21 [.v (.int .i64 1)] (fun r => r = .tup [.agg (flsA (newL 1).1), .v (.int .i64 0)]) := Rnew 1
  obtain ⟨c0, hmk0⟩ : ∃ c0, AFn Try.prog 19 [.agg (flsA (newL 1).1), .agg (filA (0, 1)), .v (.string ⟨#[102]⟩), .agg (nodA lpFile)] (fun r => r = .tup [.agg (flsA (lpF 0)), .sl 7 (List.map chgA c0) none, .v (.int .i64 0)]) :=
    ⟨_, (Rmake (newL 1).1 (0, 1) ⟨#[102]⟩ lpFile new_valid1 (by decide) (by decide)).mono fun r hr => by rw [hr]; unfold chgR; rw [lp_make0]; rfl⟩
  have hmk : ∀ j, j < 10 → AFn Try.prog 19 [.agg (flsA (lpF j)), .agg (filA (0, 1)), .v (.string (lpLast (j + 1))), .agg (nodA (lpNod (lpLast j)))] (fun r => r = .tup [.agg (flsA (lpF (j + 1))), .sl 7 (List.map chgA (mkL (lpF j) (0, 1) (lpLast (j + 1)) (lpNod (lpLast j))).2.1) none, .v (.int .i64 0)]) := fun j hj =>
    (Rmake (lpF j) (0, 1) (lpLast (j + 1)) (lpNod (lpLast j)) (lp_valid j (by omega)) (by have := lp_size (j + 1) (by omega); omega) (by have := lp_size j (by omega); show (lpLast j).size ≤ _; omega)).mono fun r hr => by rw [hr]; unfold chgR; rw [lp_make j hj]; rfl
  have hmz : ∀ j, j < 11 → AFn Try.prog 19 [.agg (flsA (lpF j)), .agg (filA (0, 1)), .v (.string ⟨#[122]⟩), .agg (nodA (lpNod ⟨#[47, 122]⟩))] (fun r => r = .tup [.agg (flsA (lpZ j)), .sl 7 (List.map chgA (mkL (lpF j) (0, 1) ⟨#[122]⟩ (lpNod ⟨#[47, 122]⟩)).2.1) none, .v (.int .i64 0)]) := fun j hj =>
    (Rmake (lpF j) (0, 1) ⟨#[122]⟩ (lpNod ⟨#[47, 122]⟩) (lp_valid j (by omega)) (by decide) (by decide)).mono fun r hr => by rw [hr]; unfold chgR; rw [lp_makeZ j hj]; rfl
  have hsp : ∀ f, FlsV f → 0 < f.length → SpcV ⟨f, []⟩ := fun f h h0 => flsV_spc h h0
  have hfd : ∀ j, j < 11 → ∃ (A : Fnd) (e : Int), ((e = 0 ∧ j ≤ 8 ∧ A.name = ⟨#[102]⟩) ∨ (e = 40 ∧ 8 < j)) ∧ AFn Try.prog 11 [.agg (spcA ⟨lpF j, []⟩), .agg (filA (0, 1)), .v (.string (lpLast j)), .v (.bool true)] (fun r => r = .tup [.agg (fndA A), .v (.int .i64 e)]) := by
    intro j hj
    have hv := hsp (lpF j) (lp_valid j (by omega)) (lp_len j (by omega))
    refine ⟨(findL ⟨lpF j, []⟩ (0, 1) (lpLast j) true).1, (findL ⟨lpF j, []⟩ (0, 1) (lpLast j) true).2, ?_, Pfind7 ⟨lpF j, []⟩ (0, 1) (lpLast j) true (hv.n (Nat.zero_le 1000)) hv (by have := lp_size j (by omega); omega)⟩
    rw [lp_find j hj]
    by_cases h8 : j ≤ 8
    · rw [if_pos h8]; exact .inl ⟨rfl, h8, lp_name j hj h8⟩
    · rw [if_neg h8]; exact .inr ⟨rfl, by omega⟩
  have hfz : ∀ j, j < 11 → ∀ (b : Bool), ∃ A : Fnd, AFn Try.prog 11 [.agg (spcA ⟨lpZ j, []⟩), .agg (filA (0, 1)), .v (.string ⟨#[122]⟩), .v (.bool b)] (fun r => r = .tup [.agg (fndA A), .v (.int .i64 (if b = true then 40 else 0))]) := by
    intro j hj b
    have hv := hsp (lpZ j) (lp_validZ hj) (lp_lenZ j hj)
    refine ⟨(findL ⟨lpZ j, []⟩ (0, 1) ⟨#[122]⟩ b).1, (Pfind7 ⟨lpZ j, []⟩ (0, 1) ⟨#[122]⟩ b (hv.n (Nat.zero_le 1000)) hv (by decide)).mono fun r hr => ?_⟩
    rw [hr]
    cases b with
    | true => rw [lp_loop j hj]; rfl
    | false => rw [lp_link j hj]; rfl
  refine enter Try.func7 rfl rfl rfl rfl rfl 0 rfl ?_
  refine w_ (a_ (h:=e_ (?_)))
  refine aw_midI (fun t => t = ⟨look [(3, .v (.int .i64 (k : Int)))], ⟨[], []⟩⟩) ?_ ?_
  · skip
    refine aw_region (m_ (h:=?_))
    refine al_p rfl (st_rem rfl rfl (by decide) ?_)
    refine al_p rfl (st_conv rfl Try.underlying5 Try.underlying3 ?_)
    refine a_ (h:=al_nil (?_))
    refine x_then ?_
    rw [hk, show IntKind.i64.wrap (k : Int) = (k : Int) by rw [IntKind.wrap_i64]; omega]
    exact ⟨_, rfl, (wk 0 0)⟩
  · rintro t rfl
    refine w_ (?_)
    refine al_p rfl (q_call (hnew) ?_)
    rintro r rfl
    refine m_ (h:=x_ (h:=x_ (h:=al_ (h:=s_ (h:=a_ (h:=e_ (w_ (bd_ (h:=al_ (h:=s_ (h:=e_ (w_ (l_ (h:=l_ (h:=?_)))))))))))))))
    refine al_p rfl (st_le (y := .agg (nodA lpFile)) (st_build (by repeat (first | exact FillA.nil _ | (apply FillA.cons; (focus exact rfl); (focus exact rfl); (focus exact rfl); (focus exact rfl); (focus exact rfl); (focus (repeat constructor))))) ⟨rfl, rfl⟩) (by repeat (first | exact LeA.refl _ | exact LeA.nil _ | exact LeL.refl _ | refine LeA.agg ?_ | refine LeA.tup ?_ | exact LeL.nil | refine LeL.cons ?_ ?_ | exact LeA.any _)) ?_)
    refine al_p rfl (q_call (hmk0) ?_)
    rintro r rfl
    refine m_ (h:=x_ (h:=x_ (h:=x_ (h:=s_ (h:=e_ (w_ (a_ (h:=e_ (w_ (bs_ (h:=a_ (h:=e_ (w_ (a_ (h:=e_ (q_ (w_ (a_ (h:=e_ (aw_block (?_)))))))))))))))))))))
    refine aw_loopW (fun m t => ∃ j : Nat, j ≤ k ∧ j ≤ 10 ∧ m = 10 - j ∧ t = ⟨look [(3, .v (.int .i64 (k : Int))), (4, .bp 0 0), (6, .bp 1 0), (7, .v (.string (lpLast j))), (8, .sl 1 (lpNames.map strA) none), (10, .v (.int .i64 (j : Int)))], ⟨[flsA (lpF j), filA (0, 1)], []⟩⟩) (10) ((wk 2 0)) (⟨0, by omega, by omega, rfl, rfl⟩) ?_
    rintro m t ⟨j, hjk, hj10, rfl, rfl⟩
    have hrow := lp_row (j := j) (by omega)
    refine q_ (w_ (m_ (h:=m_ (h:=lt_ (h:=m_ (h:=?_))))))
    refine al_gs true rfl rfl (fun hb1 => ?_) (fun hb1 => ?_)
    · have hc1 := bp hb1
      refine m_ (h:=lt_ (h:=pt_ (h:=e_ (?_))))
      refine aw_cond rfl (fun hb2 => ?_) (fun hb2 => ?_)
      · have hc2 := bp hb2
        refine kt_ (q_ (aw_block (q_ (yk_ ([(1, filA (0, 1))]) 15 (h:=dl_ 1 (h:=dm_ 2 (h:=dm_ 3 (h:=?_))))))))
        refine tk_ 4 rfl (fun _ hS => st_index (n := j) rfl rfl rfl hrow ⟨rfl, rfl⟩) ?_
        refine dl_ 5 (h:=dm_ 6 (h:=?_))
        refine tk_ 7 rfl (fun _ hS => st_le (y := .agg (nodA (lpNod (lpLast j)))) (st_build (by repeat (first | exact FillA.nil _ | (apply FillA.cons; (focus exact rfl); (focus exact rfl); (focus exact rfl); (focus exact rfl); (focus exact rfl); (focus (repeat constructor))))) ⟨rfl, rfl⟩) (lpNod_le _) ⟨rfl, rfl⟩) ?_
        refine c_ 0 rfl (st_loadBW rfl rfl rfl ?_)
        refine o_ (h:=?_)
        refine c_ 8 rfl (q_call (hmk j (by omega)) ?_)
        rintro r rfl
        refine o_ (h:=dm_ 9 (h:=dx_ 10 (h:=dx_ 11 (h:=dx_ 12 (h:=?_)))))
        refine c0_ 13 rfl (s_store rfl rfl rfl rfl rfl rfl (by repeat constructor) (by repeat constructor) ?_)
        refine o_ (h:=da_ 14 (h:=z_ (h:=t_ (q_ (w_ (m_ (h:=nq_ (h:=e_ (?_)))))))))
        refine aw_cond rfl (fun hb3 => ?_) (fun hb3 => ?_)
        · have hc3 := bp hb3
          refine w_ (?_)
          refine al_p rfl (q_call (Lawake7) ?_)
          rintro r rfl
          refine a_ (h:=e_ (aw_ret (x_thenR (x_blockR (x_thenR (x_thenR (x_blockR (x_thenR (?_)))))))))
          refine e_ret ?_
          first | rfl | (exfalso; first | contradiction | omega | (rcases hA with ⟨h1, h2, h3⟩ | ⟨h1, h2⟩ <;> simp_all <;> omega) | (simp_all; done))
        · have hc3 := bp hb3
          refine kt_ (aw_region (m_ (h:=m_ (h:=?_))))
          refine al_p rfl (st_index (n := j) rfl rfl rfl hrow ?_)
          refine l_ (h:=a_ (h:=al_nil (x_blockN (t_ (aw_region (m_ (h:=ad_ (h:=a_ (h:=al_nil (?_))))))))))
          refine x_then ?_
          refine ⟨_, _, ?_, ⟨j + 1, by omega, by omega, rfl, rfl⟩, (wk 2 0)⟩
          omega
      · have hc2 := bp hb2
        refine aw_exit (x_thenE (x_thenE (ABlock_out (t_ (?_)))))
        refine aw_midI (fun t => t = ⟨look [(3, .v (.int .i64 (j : Int))), (4, .bp 0 0), (6, .bp 1 0), (7, .v (.string (lpLast j)))], ⟨[flsA (lpF j), filA (0, 1)], []⟩⟩) ?_ ?_
        · skip
          refine aw_region (m_ (h:=?_))
          refine al_p rfl (st_min rfl rfl ?_)
          refine a_ (h:=al_nil (?_))
          refine x_then ?_
          rw [show (if (10 : Int) < (k : Int) then (10 : Int) else (k : Int)) = (j : Int) by split <;> omega]
          exact ⟨_, rfl, (wk 2 0)⟩
        · rintro t rfl
          obtain ⟨A, e, hA, hfd⟩ := hfd j (by omega)
          obtain ⟨Z1, hz1⟩ := hfz j (by omega) true
          obtain ⟨Z2, hz2⟩ := hfz j (by omega) false
          refine w_ (l_ (h:=?_))
          refine al_p rfl (st_le (y := .agg (spcA ⟨lpF j, []⟩)) (st_build (by repeat (first | exact FillA.nil _ | (apply FillA.cons; (focus exact rfl); (focus exact rfl); (focus exact rfl); (focus exact rfl); (focus exact rfl); (focus (repeat constructor))))) ⟨rfl, rfl⟩) (spc0_le _) ?_)
          refine l_ (h:=m_ (h:=?_))
          refine al_p rfl (q_call (hfd) ?_)
          rintro r rfl
          refine m_ (h:=x_ (h:=x_ (h:=al_ (h:=s_ (h:=a_ (h:=e_ (?_)))))))
          refine aw_midI (fun t => t = ⟨look [(4, .bp 0 0), (6, .bp 1 0)], ⟨[flsA (lpF j), filA (0, 1)], []⟩⟩) ?_ ?_
          · skip
            refine w_ (m_ (h:=eq_ (h:=m_ (h:=le_ (h:=nq_ (h:=m_ (h:=?_)))))))
            refine al_gs false rfl rfl (fun hb4 => ?_) (fun hb4 => ?_)
            · have hc4 := bp hb4
              refine g0_ (h:=g0_ (h:=g0_ (h:=gu_ (h:=gu_ (h:=g0_ (h:=pt_ (h:=m_ (h:=g0_ (h:=g0_ (h:=g0_ (h:=gu_ (h:=gu_ (h:=gu_ (h:=g0_ (h:=pt_ (h:=e_ (cy_ (h:=w_ (a_ (h:=e_ (aw_ret (x_thenR (?_)))))))))))))))))))))))
              refine e_ret ?_
              first | rfl | (exfalso; first | contradiction | omega | (rcases hA with ⟨h1, h2, h3⟩ | ⟨h1, h2⟩ <;> simp_all <;> omega) | (simp_all; done))
            · have hc4 := bp hb4
              refine m_ (h:=nq_ (h:=m_ (h:=?_)))
              refine al_gs true rfl rfl (fun hb5 => ?_) (fun hb5 => ?_)
              · have hc5 := bp hb5
                refine m_ (h:=nq_ (h:=pt_ (h:=pf_ (h:=m_ (h:=?_)))))
                refine al_gs false rfl rfl (fun hb6 => ?_) (fun hb6 => ?_)
                · have hc6 := bp hb6
                  refine g0_ (h:=g0_ (h:=g0_ (h:=gu_ (h:=gu_ (h:=gu_ (h:=g0_ (h:=pt_ (h:=e_ (cy_ (h:=w_ (a_ (h:=e_ (aw_ret (x_thenR (?_)))))))))))))))
                  refine e_ret ?_
                  first | rfl | (exfalso; first | contradiction | omega | (rcases hA with ⟨h1, h2, h3⟩ | ⟨h1, h2⟩ <;> simp_all <;> omega) | (simp_all; done))
                · have hc6 := bp hb6
                  refine m_ (h:=eq_ (h:=m_ (h:=g0_ (h:=g0_ (h:=g0_ (h:=pf_ (h:=pf_ (h:=e_ (cn_ (h:=aw_skip (?_)))))))))))
                  refine x_then ?_
                  exact ⟨_, rfl, (wk 2 0)⟩
              · have hc5 := bp hb5
                refine g0_ (h:=g0_ (h:=pf_ (h:=pf_ (h:=m_ (h:=m_ (h:=eq_ (h:=m_ (h:=f_ (h:=l_ (h:=nq_ (h:=pt_ (h:=pf_ (h:=e_ (?_))))))))))))))
                refine aw_cond rfl (fun hb7 => ?_) (fun hb7 => ?_)
                · have hc7 := bp hb7
                  refine w_ (a_ (h:=e_ (aw_ret (x_thenR (?_)))))
                  refine e_ret ?_
                  first | rfl | (exfalso; first | contradiction | omega | (rcases hA with ⟨h1, h2, h3⟩ | ⟨h1, h2⟩ <;> simp_all <;> omega) | (simp_all; done))
                · have hc7 := bp hb7
                  refine aw_skip (?_)
                  refine x_then ?_
                  exact ⟨_, rfl, (wk 2 0)⟩
          · rintro t rfl
            refine w_ (l_ (h:=l_ (h:=?_)))
            refine al_p rfl (st_le (y := .agg (nodA (lpNod ⟨#[47, 122]⟩))) (st_build (by repeat (first | exact FillA.nil _ | (apply FillA.cons; (focus exact rfl); (focus exact rfl); (focus exact rfl); (focus exact rfl); (focus exact rfl); (focus (repeat constructor))))) ⟨rfl, rfl⟩) (by repeat (first | exact LeA.refl _ | exact LeA.nil _ | exact LeL.refl _ | refine LeA.agg ?_ | refine LeA.tup ?_ | exact LeL.nil | refine LeL.cons ?_ ?_ | exact LeA.any _)) ?_)
            refine al_p rfl (q_call (hmz j (by omega)) ?_)
            rintro r rfl
            refine m_ (h:=x_ (h:=x_ (h:=x_ (h:=s_ (h:=e_ (w_ (l_ (h:=?_))))))))
            refine al_p rfl (st_le (y := .agg (spcA ⟨lpZ j, []⟩)) (st_build (by repeat (first | exact FillA.nil _ | (apply FillA.cons; (focus exact rfl); (focus exact rfl); (focus exact rfl); (focus exact rfl); (focus exact rfl); (focus (repeat constructor))))) ⟨rfl, rfl⟩) (spc0_le _) ?_)
            refine l_ (h:=?_)
            refine al_p rfl (q_call (hz1) ?_)
            rintro r rfl
            refine m_ (h:=x_ (h:=x_ (h:=al_ (h:=s_ (h:=a_ (h:=e_ (w_ (l_ (h:=?_)))))))))
            refine al_p rfl (st_le (y := .agg (spcA ⟨lpZ j, []⟩)) (st_build (by repeat (first | exact FillA.nil _ | (apply FillA.cons; (focus exact rfl); (focus exact rfl); (focus exact rfl); (focus exact rfl); (focus exact rfl); (focus (repeat constructor))))) ⟨rfl, rfl⟩) (spc0_le _) ?_)
            refine l_ (h:=?_)
            refine al_p rfl (q_call (hz2) ?_)
            rintro r rfl
            refine m_ (h:=x_ (h:=x_ (h:=al_ (h:=s_ (h:=a_ (h:=e_ (w_ (m_ (h:=eq_ (h:=m_ (h:=?_)))))))))))
            refine al_gs true rfl rfl (fun hb8 => ?_) (fun hb8 => ?_)
            · have hc8 := bp hb8
              refine m_ (h:=eq_ (h:=pt_ (h:=m_ (h:=?_))))
              refine al_gs true rfl rfl (fun hb9 => ?_) (fun hb9 => ?_)
              · have hc9 := bp hb9
                refine g_y (q_call (Lawake7) ?_)
                rintro r rfl
                refine pt_ (h:=a_ (h:=e_ (aw_ret (?_))))
                refine e_ret ?_
                first | rfl | (exfalso; first | contradiction | omega | (rcases hA with ⟨h1, h2, h3⟩ | ⟨h1, h2⟩ <;> simp_all <;> omega) | (simp_all; done))
              · have hc9 := bp hb9
                refine g0_ (h:=pf_ (h:=a_ (h:=e_ (aw_ret (?_)))))
                refine e_ret ?_
                first | rfl | (exfalso; first | contradiction | omega | (rcases hA with ⟨h1, h2, h3⟩ | ⟨h1, h2⟩ <;> simp_all <;> omega) | (simp_all; done))
            · have hc8 := bp hb8
              refine g0_ (h:=g0_ (h:=pf_ (h:=m_ (h:=g0_ (h:=pf_ (h:=a_ (h:=e_ (aw_ret (?_)))))))))
              refine e_ret ?_
              first | rfl | (exfalso; first | contradiction | omega | (rcases hA with ⟨h1, h2, h3⟩ | ⟨h1, h2⟩ <;> simp_all <;> omega) | (simp_all; done))
    · have hc1 := bp hb1
      refine g0_ (h:=g0_ (h:=pf_ (h:=e_ (cn_ (h:=aw_exit (x_thenE (x_thenE (ABlock_out (t_ (?_))))))))))
      refine aw_midI (fun t => t = ⟨look [(3, .v (.int .i64 (j : Int))), (4, .bp 0 0), (6, .bp 1 0), (7, .v (.string (lpLast j)))], ⟨[flsA (lpF j), filA (0, 1)], []⟩⟩) ?_ ?_
      · skip
        refine aw_region (m_ (h:=?_))
        refine al_p rfl (st_min rfl rfl ?_)
        refine a_ (h:=al_nil (?_))
        refine x_then ?_
        rw [show (if (10 : Int) < (k : Int) then (10 : Int) else (k : Int)) = (j : Int) by split <;> omega]
        exact ⟨_, rfl, (wk 2 0)⟩
      · rintro t rfl
        obtain ⟨A, e, hA, hfd⟩ := hfd j (by omega)
        obtain ⟨Z1, hz1⟩ := hfz j (by omega) true
        obtain ⟨Z2, hz2⟩ := hfz j (by omega) false
        refine w_ (l_ (h:=?_))
        refine al_p rfl (st_le (y := .agg (spcA ⟨lpF j, []⟩)) (st_build (by repeat (first | exact FillA.nil _ | (apply FillA.cons; (focus exact rfl); (focus exact rfl); (focus exact rfl); (focus exact rfl); (focus exact rfl); (focus (repeat constructor))))) ⟨rfl, rfl⟩) (spc0_le _) ?_)
        refine l_ (h:=m_ (h:=?_))
        refine al_p rfl (q_call (hfd) ?_)
        rintro r rfl
        refine m_ (h:=x_ (h:=x_ (h:=al_ (h:=s_ (h:=a_ (h:=e_ (?_)))))))
        refine aw_midI (fun t => t = ⟨look [(4, .bp 0 0), (6, .bp 1 0)], ⟨[flsA (lpF j), filA (0, 1)], []⟩⟩) ?_ ?_
        · skip
          refine w_ (m_ (h:=eq_ (h:=m_ (h:=le_ (h:=nq_ (h:=m_ (h:=?_)))))))
          refine al_gs false rfl rfl (fun hb10 => ?_) (fun hb10 => ?_)
          · have hc10 := bp hb10
            refine g0_ (h:=g0_ (h:=g0_ (h:=gu_ (h:=gu_ (h:=g0_ (h:=pt_ (h:=m_ (h:=g0_ (h:=g0_ (h:=g0_ (h:=gu_ (h:=gu_ (h:=gu_ (h:=g0_ (h:=pt_ (h:=e_ (cy_ (h:=w_ (a_ (h:=e_ (aw_ret (x_thenR (?_)))))))))))))))))))))))
            refine e_ret ?_
            first | rfl | (exfalso; first | contradiction | omega | (rcases hA with ⟨h1, h2, h3⟩ | ⟨h1, h2⟩ <;> simp_all <;> omega) | (simp_all; done))
          · have hc10 := bp hb10
            refine m_ (h:=nq_ (h:=m_ (h:=?_)))
            refine al_gs true rfl rfl (fun hb11 => ?_) (fun hb11 => ?_)
            · have hc11 := bp hb11
              refine m_ (h:=nq_ (h:=pt_ (h:=pf_ (h:=m_ (h:=?_)))))
              refine al_gs false rfl rfl (fun hb12 => ?_) (fun hb12 => ?_)
              · have hc12 := bp hb12
                refine g0_ (h:=g0_ (h:=g0_ (h:=gu_ (h:=gu_ (h:=gu_ (h:=g0_ (h:=pt_ (h:=e_ (cy_ (h:=w_ (a_ (h:=e_ (aw_ret (x_thenR (?_)))))))))))))))
                refine e_ret ?_
                first | rfl | (exfalso; first | contradiction | omega | (rcases hA with ⟨h1, h2, h3⟩ | ⟨h1, h2⟩ <;> simp_all <;> omega) | (simp_all; done))
              · have hc12 := bp hb12
                refine m_ (h:=eq_ (h:=m_ (h:=g0_ (h:=g0_ (h:=g0_ (h:=pf_ (h:=pf_ (h:=e_ (cn_ (h:=aw_skip (?_)))))))))))
                refine x_then ?_
                exact ⟨_, rfl, (wk 2 0)⟩
            · have hc11 := bp hb11
              refine g0_ (h:=g0_ (h:=pf_ (h:=pf_ (h:=m_ (h:=m_ (h:=eq_ (h:=m_ (h:=f_ (h:=l_ (h:=nq_ (h:=pt_ (h:=pf_ (h:=e_ (?_))))))))))))))
              refine aw_cond rfl (fun hb13 => ?_) (fun hb13 => ?_)
              · have hc13 := bp hb13
                refine w_ (a_ (h:=e_ (aw_ret (x_thenR (?_)))))
                refine e_ret ?_
                first | rfl | (exfalso; first | contradiction | omega | (rcases hA with ⟨h1, h2, h3⟩ | ⟨h1, h2⟩ <;> simp_all <;> omega) | (simp_all; done))
              · have hc13 := bp hb13
                refine aw_skip (?_)
                refine x_then ?_
                exact ⟨_, rfl, (wk 2 0)⟩
        · rintro t rfl
          refine w_ (l_ (h:=l_ (h:=?_)))
          refine al_p rfl (st_le (y := .agg (nodA (lpNod ⟨#[47, 122]⟩))) (st_build (by repeat (first | exact FillA.nil _ | (apply FillA.cons; (focus exact rfl); (focus exact rfl); (focus exact rfl); (focus exact rfl); (focus exact rfl); (focus (repeat constructor))))) ⟨rfl, rfl⟩) (by repeat (first | exact LeA.refl _ | exact LeA.nil _ | exact LeL.refl _ | refine LeA.agg ?_ | refine LeA.tup ?_ | exact LeL.nil | refine LeL.cons ?_ ?_ | exact LeA.any _)) ?_)
          refine al_p rfl (q_call (hmz j (by omega)) ?_)
          rintro r rfl
          refine m_ (h:=x_ (h:=x_ (h:=x_ (h:=s_ (h:=e_ (w_ (l_ (h:=?_))))))))
          refine al_p rfl (st_le (y := .agg (spcA ⟨lpZ j, []⟩)) (st_build (by repeat (first | exact FillA.nil _ | (apply FillA.cons; (focus exact rfl); (focus exact rfl); (focus exact rfl); (focus exact rfl); (focus exact rfl); (focus (repeat constructor))))) ⟨rfl, rfl⟩) (spc0_le _) ?_)
          refine l_ (h:=?_)
          refine al_p rfl (q_call (hz1) ?_)
          rintro r rfl
          refine m_ (h:=x_ (h:=x_ (h:=al_ (h:=s_ (h:=a_ (h:=e_ (w_ (l_ (h:=?_)))))))))
          refine al_p rfl (st_le (y := .agg (spcA ⟨lpZ j, []⟩)) (st_build (by repeat (first | exact FillA.nil _ | (apply FillA.cons; (focus exact rfl); (focus exact rfl); (focus exact rfl); (focus exact rfl); (focus exact rfl); (focus (repeat constructor))))) ⟨rfl, rfl⟩) (spc0_le _) ?_)
          refine l_ (h:=?_)
          refine al_p rfl (q_call (hz2) ?_)
          rintro r rfl
          refine m_ (h:=x_ (h:=x_ (h:=al_ (h:=s_ (h:=a_ (h:=e_ (w_ (m_ (h:=eq_ (h:=m_ (h:=?_)))))))))))
          refine al_gs true rfl rfl (fun hb14 => ?_) (fun hb14 => ?_)
          · have hc14 := bp hb14
            refine m_ (h:=eq_ (h:=pt_ (h:=m_ (h:=?_))))
            refine al_gs true rfl rfl (fun hb15 => ?_) (fun hb15 => ?_)
            · have hc15 := bp hb15
              refine g_y (q_call (Lawake7) ?_)
              rintro r rfl
              refine pt_ (h:=a_ (h:=e_ (aw_ret (?_))))
              refine e_ret ?_
              first | rfl | (exfalso; first | contradiction | omega | (rcases hA with ⟨h1, h2, h3⟩ | ⟨h1, h2⟩ <;> simp_all <;> omega) | (simp_all; done))
            · have hc15 := bp hb15
              refine g0_ (h:=pf_ (h:=a_ (h:=e_ (aw_ret (?_)))))
              refine e_ret ?_
              first | rfl | (exfalso; first | contradiction | omega | (rcases hA with ⟨h1, h2, h3⟩ | ⟨h1, h2⟩ <;> simp_all <;> omega) | (simp_all; done))
          · have hc14 := bp hb14
            refine g0_ (h:=g0_ (h:=pf_ (h:=m_ (h:=g0_ (h:=pf_ (h:=a_ (h:=e_ (aw_ret (?_)))))))))
            refine e_ret ?_
            first | rfl | (exfalso; first | contradiction | omega | (rcases hA with ⟨h1, h2, h3⟩ | ⟨h1, h2⟩ <;> simp_all <;> omega) | (simp_all; done))

end
end Go.Proofs.Ytaidkbnbfnaihaa
namespace Go.Proofs.Ytaidkbnbfnaihaa
open Go.RowKit
theorem LookupLoops_walk (n : Int) (w : World) (h0 : 0 ≤ n) (h1 : n ≤ 255) : Calls Try.prog 7 #[.int .u8 n] w fun e w' => e = .returned (.bool true) ∧ Below w.heap.size w w' :=
  calls_vals [.int .u8 n] (Lloops7 n ⟨h0, by omega⟩) w
end Go.Proofs.Ytaidkbnbfnaihaa
