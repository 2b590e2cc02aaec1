/-
  Part 17 of the proof of FilesRenamesP: what the statement's proof uses of the texts in wip/tpl.
-/
import Derived.OpenShut
import Derived.ChangeArms
import Derived.ChangeOld
import Derived.DataReads
import Derived.DataElems
import Derived.Test.YthcbdkmhamhciaaQn16
namespace Go.Proofs.Ythcbdkmhamhciaa
open Go.RowKit

theorem Prename (f : Fls) (src : Fil) (name : Str) (to : Fil) (name2 : Str) (hv : FlsV f) : AFn Try.prog 47 [.agg (flsA f), .agg (filA src), .v (.string name), .agg (filA to), .v (.string name2)] (fun r => r = chgR (renameL f src name to name2)) := by
  by_cases hS0 : (srcL f src name to name2).2 = 0
  · obtain ⟨q, d, i, n1, j, n2, p, k, m, h⟩ := ren_of hv hS0
    have hS : srcL f src name to name2 = ((srcL f src name to name2).1, 0) := Prod.ext rfl hS0
    generalize (srcL f src name to name2).1 = A at h hS
    obtain ⟨O, b, hO⟩ : ∃ O b, entP f to name2 = (O, b) := ⟨_, _, rfl⟩
    cases b with
    | true =>
      by_cases hns : O = A
      · exact Pren_two f src name to name2 hv hS h hO (.inl ⟨rfl, hns⟩)
      · by_cases h2 : ren2L f src to A O 0 = 0
        · by_cases hij : i = j
          · subst hij
            obtain rfl : n1 = n2 := Option.some.inj (h.hi.symm.trans h.hj)
            exact Pren_SA f src name to name2 hv hS h hO hns h2
          · exact Pren_DA f src name to name2 hv hS h hO hns h2 hij
        · exact Pren_two f src name to name2 hv hS h hO (.inr ⟨fun hh => hns hh.2, h2⟩)
    | false =>
      by_cases h2 : ren2L f src to A O 2 = 0
      · by_cases hij : i = j
        · subst hij
          obtain rfl : n1 = n2 := Option.some.inj (h.hi.symm.trans h.hj)
          exact Pren_SC f src name to name2 hv hS h hO h2
        · by_cases hF0 : n2.entries = []
          · exact Pren_D0 f src name to name2 hv hS h hO h2 hij hF0
          · exact Pren_DB f src name to name2 hv hS h hO h2 hij (List.length_pos_iff.2 hF0)
      · exact Pren_two f src name to name2 hv hS h hO (.inr ⟨(fun hh => by cases hh.1), h2⟩)
  · exact Pren_err f src name to name2 hv hS0
end Go.Proofs.Ythcbdkmhamhciaa
namespace Go.Proofs.Ythcbdkmhamhciaa
open Go.RowKit

section
set_option maxRecDepth 10000
set_option maxHeartbeats 1000000
theorem neqChg (a1 a2 b1 b2 c1 c2 : Int) (s : Str) (w : World) : (binOp .neq 68 (.agg #[.int .i64 a1, .int .i64 a2, .string s, .int .i64 b1, .int .i64 b2, .int .i64 c1, .int .i64 c2]) (.agg #[.int .i64 a1, .int .i64 a2, .string s, .int .i64 b1, .int .i64 b2, .int .i64 c1, .int .i64 c2])).run Try.prog w = .ok (.bool false) w := by
  have u3 := Try.underlying3
  have a3 := Try.isAgg3
  have z3 := Try.sizeOf3
  have u4 := Try.underlying9
  have a4 := Try.isAgg9
  have z4 := Try.sizeOf9
  have u2 := Try.underlying39
  have h2 := Try.isAgg39
  have z2 := Try.sizeOf39
  have hS : Try.prog.underlying 68 = some (.struct (Try.prog.fieldsOf 68)) := by kernel_rfl
  have hp : Try.prog.stoodInHeld 68 = false := by kernel_rfl
  have hS2 : Try.prog.underlying 39 = some (.struct (Try.prog.fieldsOf 39)) := by kernel_rfl
  have hp2 : Try.prog.stoodInHeld 39 = false := by kernel_rfl
  have e2 : ∀ b c w, (Op.equalIn 9999 39 (.agg #[.int .i64 b, .int .i64 c]) (.agg #[.int .i64 b, .int .i64 c])).run Try.prog w = .ok true w := by
    intro b c w
    rw [show (9999 : Nat) = 9998 + 1 from rfl, run_equalIn_agg w 9998 39 _ _ hS2 hp2]
    simp only [Program.fieldsOf, Try.underlying39]
    go_simp
    try simp
  have e : ∀ w, (Op.equalIn 10000 68 (.agg #[.int .i64 a1, .int .i64 a2, .string s, .int .i64 b1, .int .i64 b2, .int .i64 c1, .int .i64 c2]) (.agg #[.int .i64 a1, .int .i64 a2, .string s, .int .i64 b1, .int .i64 b2, .int .i64 c1, .int .i64 c2])).run Try.prog w = .ok true w := by
    intro w
    rw [show (10000 : Nat) = 9999 + 1 from rfl, run_equalIn_agg w 9999 68 _ _ hS hp]
    simp only [Program.fieldsOf, Try.underlying68]
    go_simp
    try simp [e2]
  rw [run_neq_struct, e]
  simp
theorem RsameC (l : List Chg) (hl : l.length ≤ 1000) : AFn Try.prog 72 [.sl 7 (l.map chgA) none, .sl 7 (l.map chgA) none] (fun r => r = .v (.bool true)) := by
  refine enter Try.func72 rfl rfl rfl rfl rfl 0 rfl ?_
  refine w_ (a_ (h:=e_ (q_ (w_ (m_ (h:=n_ (h:=m_ (h:=n_ (h:=nq_ (h:=e_ (?_)))))))))))
  refine aw_cond rfl (fun hb1 => ?_) (fun hb1 => ?_)
  · have hc1 := bp hb1
    exact absurd rfl hc1
  · have hc1 := bp hb1
    refine kt_ (q_ (w_ (a_ (h:=e_ (aw_block (?_))))))
    refine aw_loopW (fun m t => ∃ j : Nat, j ≤ l.length ∧ m = l.length - j ∧ t = ⟨look [(0, .sl 7 (l.map chgA) none), (1, .sl 7 (l.map chgA) none), (5, .v (.int .i64 (j : Int)))], ⟨[], []⟩⟩) (l.length) ((wk 0 0)) (⟨0, by omega, rfl, rfl⟩) ?_
    rintro m t ⟨j, hj, rfl, rfl⟩
    refine q_ (w_ (m_ (h:=m_ (h:=n_ (h:=lt_ (h:=e_ (?_)))))))
    refine aw_cond rfl (fun hb2 => ?_) (fun hb2 => ?_)
    · have hc2 := bp hb2
      obtain ⟨hlt, x, hy, hrow, -⟩ := row_at chgA hc2
      refine kt_ (q_ (aw_block (q_ (yr_ 9 (h:=dm_ 0 (h:=dm_ 1 (h:=di_ 2 (h:=dl_ 3 (h:=dm_ 4 (h:=dm_ 5 (h:=di_ 6 (h:=dl_ 7 (h:=?_)))))))))))))
      refine r_y (i := 8) rfl (st_binA rfl rfl (by repeat constructor) (by repeat constructor) (fun w => neqChg _ _ _ _ _ _ _ w) (by kernel_rfl) ⟨rfl, rfl⟩) ?_
      refine z_ (h:=t_ (?_))
      refine aw_cond rfl (fun hb3 => ?_) (fun hb3 => ?_)
      · have hc3 := bp hb3
        exfalso; first | contradiction | omega
      · have hc3 := bp hb3
        refine aw_skip (x_blockN (t_ (aw_region (m_ (h:=ad_ (h:=a_ (h:=al_nil (?_))))))))
        refine x_then ?_
        refine ⟨_, _, ?_, ⟨j + 1, by omega, rfl, rfl⟩, (wk 0 0)⟩
        omega
    · have hc2 := bp hb2
      refine aw_exit (x_thenE (x_thenE (ABlock_out (t_ (w_ (a_ (h:=e_ (aw_ret (?_)))))))))
      refine e_ret ?_
      first | exact vb rfl | (exfalso; first | contradiction | omega)

theorem Lbad (R : ChgRes) (hf : FlsB R.1) (hl : R.2.1.length ≤ 1000) : AFn Try.prog 26 [.agg (flsA R.1), .sl 7 (R.2.1.map chgA) none, .v (.int .i64 R.2.2), .agg (flsA R.1), .sl 7 (R.2.1.map chgA) none, .v (.int .i64 R.2.2)] (fun r => r = .v (.bool false)) := by
  refine enter Try.func26 rfl rfl rfl rfl rfl 0 rfl ?_
  refine w_ (b_ (h:=b_ (h:=a_ (h:=e_ (w_ (m_ (h:=m_ (h:=nq_ (h:=m_ (h:=?_))))))))))
  refine al_gs false rfl rfl (fun hb1 => ?_) (fun hb1 => ?_)
  · have hc1 := bp hb1
    exact absurd rfl hc1
  · have hc1 := bp hb1
    refine l_ (h:=l_ (h:=?_))
    refine g_y (q_call (RsameF R.1 hf) ?_)
    rintro r rfl
    refine nt_ (h:=pf_ (h:=m_ (h:=?_)))
    refine al_gs false rfl rfl (fun hb2 => ?_) (fun hb2 => ?_)
    · have hc2 := bp hb2
      exfalso; first | contradiction | omega
    · have hc2 := bp hb2
      refine m_ (h:=m_ (h:=?_))
      refine g_y (q_call (RsameC R.2.1 hl) ?_)
      rintro r rfl
      refine nt_ (h:=pf_ (h:=a_ (h:=e_ (aw_ret (?_)))))
      refine e_ret ?_
      rfl

end
theorem okay_b {f : Fls} {R : ChgRes} (h : Okay f R) (he : R.2.2 ≠ 0 → R.1 = []) : FlsB R.1 := by
  by_cases h0 : R.2.2 = 0
  · exact (h h0).1.b
  · rw [he h0]
    exact ⟨Nat.zero_le _, fun d hd => (by cases hd), fun d hd => (by cases hd)⟩
end Go.Proofs.Ythcbdkmhamhciaa
namespace Go.Proofs.Ythcbdkmhamhciaa
open Go.RowKit

theorem new_valid5 : FlsV (newL 1).1 := (new_valid (by decide) (by decide)).1
def aw5N : Nod := ⟨0, 1, 420, 0, 0, 0, ⟨#[]⟩, []⟩
def aw5F1 : Fls := (mkL (newL 1).1 (0, 1) ⟨#[97]⟩ aw5N).1
def aw5F2 : Fls := (linkL aw5F1 (0, 1) ⟨#[98]⟩ (0, 2)).1
set_option maxRecDepth 100000 in
theorem aw5_make : (mkL (newL 1).1 (0, 1) ⟨#[97]⟩ aw5N).2.2 = 0 ∧ (mkL (newL 1).1 (0, 1) ⟨#[97]⟩ aw5N).2.1 = [((0, 1), ⟨#[97]⟩, (0, 0), (0, 2))] := by decide +kernel
set_option maxRecDepth 100000 in
theorem aw5_link : (linkL aw5F1 (0, 1) ⟨#[98]⟩ (0, 2)).2.2 = 0 := by decide +kernel
set_option maxRecDepth 100000 in
theorem aw5_links : linksF aw5F2 (0, 2) = 2 := by decide +kernel
set_option maxRecDepth 100000 in
theorem aw5_e1 : (nodG (newL 1).1 (0, 1)).entries = [] := by decide +kernel
set_option maxRecDepth 100000 in
theorem aw5_e2 : 0 < (nodG aw5F1 (0, 1)).entries.length := by decide +kernel
theorem aw5_valid : FlsV aw5F1 ∧ FlsV aw5F2 := by
  have h1 : FlsV aw5F1 := (make_okay new_valid5 _ _ _ aw5_make.1).1
  exact ⟨h1, (link_okay h1 _ _ _ aw5_link).1⟩
section
set_option maxRecDepth 10000
set_option maxHeartbeats 1000000
theorem Lawake5 : AFn Try.prog 18 [] (fun r => r = .v (.bool true)) := by
  have hnew : AFn Try.prog 15 [.v (.int .i64 1)] (fun r => r = .tup [.agg (flsA (newL 1).1), .v (.int .i64 0)]) := Pnew 1
  have hmk : AFn Try.prog 24 [.agg (flsA (newL 1).1), .agg [.v (.int .i64 0), .v (.int .i64 1)], .v (.string ⟨#[97]⟩), .agg (nodA aw5N)] (fun r => r = .tup [.agg (flsA aw5F1), .sl 7 [chgA ((0, 1), ⟨#[97]⟩, (0, 0), (0, 2))] none, .v (.int .i64 0)]) :=
    (Pmake0 (newL 1).1 (0, 1) ⟨#[97]⟩ aw5N new_valid5 (by decide) aw5_e1).mono fun r hr => by rw [hr]; unfold chgR; rw [aw5_make.1, aw5_make.2]; rfl
  obtain ⟨c2, hlk⟩ : ∃ c2, AFn Try.prog 27 [.agg (flsA aw5F1), .agg [.v (.int .i64 0), .v (.int .i64 1)], .v (.string ⟨#[98]⟩), .agg [.v (.int .i64 0), .v (.int .i64 2)]] (fun r => r = .tup [.agg (flsA aw5F2), .sl 7 (List.map chgA c2) none, .v (.int .i64 0)]) :=
    ⟨_, (PlinkG aw5F1 (0, 1) ⟨#[98]⟩ (0, 2) aw5_valid.1 aw5_e2).mono fun r hr => by rw [hr]; unfold chgR; rw [aw5_link]; rfl⟩
  have hls : AFn Try.prog 37 [.agg (flsA aw5F2), .agg [.v (.int .i64 0), .v (.int .i64 2)]] (fun r => r = .v (.int .i64 2)) :=
    (Plinks aw5F2 (0, 2) aw5_valid.2.b).mono fun r hr => by rw [hr, aw5_links]; rfl
  refine enter Try.func18 rfl rfl rfl rfl rfl 0 rfl ?_
  refine w_ (a_ (h:=e_ (w_ (?_))))
  refine al_p rfl (q_call (hnew) ?_)
  rintro r rfl
  refine m_ (h:=x_ (h:=x_ (h:=al_ (h:=s_ (h:=a_ (h:=e_ (w_ (bd_ (h:=al_ (h:=s_ (h:=e_ (w_ (l_ (h:=l_ (h:=?_)))))))))))))))
  refine al_p rfl (st_le (y := .agg (nodA aw5N)) (st_build (by repeat (first | exact FillA.nil _ | (apply FillA.cons; (focus exact rfl); (focus exact rfl); (focus exact rfl); (focus exact rfl); (focus exact rfl); (focus (repeat constructor))))) ⟨rfl, rfl⟩) (by repeat (first | exact LeA.refl _ | exact LeA.nil _ | exact LeL.refl _ | refine LeA.agg ?_ | refine LeA.tup ?_ | exact LeL.nil | refine LeL.cons ?_ ?_ | exact LeA.any _)) ?_)
  refine al_p rfl (q_call (hmk) ?_)
  rintro r rfl
  refine m_ (h:=x_ (h:=x_ (h:=x_ (h:=s_ (h:=a_ (h:=a_ (h:=e_ (q_ (w_ (m_ (h:=nq_ (h:=m_ (h:=?_)))))))))))))
  refine al_gs false rfl rfl (fun hb1 => ?_) (fun hb1 => ?_)
  · have hc1 := bp hb1
    refine g0_ (h:=g0_ (h:=pt_ (h:=m_ (h:=g0_ (h:=g0_ (h:=g0_ (h:=pt_ (h:=e_ (cy_ (h:=w_ (a_ (h:=e_ (aw_ret (x_thenR (?_)))))))))))))))
    refine e_ret ?_
    first | rfl | (exfalso; simp_all)
  · have hc1 := bp hb1
    refine m_ (h:=nq_ (h:=pf_ (h:=m_ (h:=?_))))
    refine al_gs false rfl rfl (fun hb2 => ?_) (fun hb2 => ?_)
    · have hc2 := bp hb2
      refine g0_ (h:=g0_ (h:=g0_ (h:=pt_ (h:=e_ (cy_ (h:=w_ (a_ (h:=e_ (aw_ret (x_thenR (?_)))))))))))
      refine e_ret ?_
      first | rfl | (exfalso; simp_all)
    · have hc2 := bp hb2
      refine m_ (h:=n_ (h:=nq_ (h:=pf_ (h:=e_ (?_)))))
      refine aw_cond rfl (fun hb3 => ?_) (fun hb3 => ?_)
      · have hc3 := bp hb3
        refine w_ (a_ (h:=e_ (aw_ret (x_thenR (?_)))))
        refine e_ret ?_
        first | rfl | (exfalso; simp_all)
      · have hc3 := bp hb3
        refine kt_ (q_ (yk_ ([(1, [.v (.int .i64 0), .v (.int .i64 1)])]) 14 (h:=dl_ 1 (h:=dm_ 2 (h:=di_ 3 (h:=df_ 4 (h:=dl_ 5 (h:=?_))))))))
        refine c_ 0 rfl (st_loadBW rfl rfl rfl ?_)
        refine o_ (h:=?_)
        refine c_ 6 rfl (q_call (hlk) ?_)
        rintro r rfl
        refine o_ (h:=dm_ 7 (h:=dx_ 8 (h:=dx_ 9 (h:=dx_ 10 (h:=?_)))))
        refine c0_ 11 rfl (s_store rfl rfl rfl rfl rfl rfl (by repeat constructor) (by repeat constructor) ?_)
        refine o_ (h:=da_ 12 (h:=da_ 13 (h:=z_ (h:=t_ (q_ (yr_ 12 (h:=dm_ 0 (h:=deq_ 1 (h:=dm_ 2 (h:=?_))))))))))
        refine aa_both (j := 2) rfl (fun hb4 => ?_) (fun hb4 => ?_)
        · have hc4 := bp hb4
          refine dl_ 3 (h:=dm_ 4 (h:=di_ 5 (h:=df_ 6 (h:=dl_ 7 (h:=?_)))))
          refine c_ 8 rfl (q_call (hls) ?_)
          rintro r rfl
          refine o_ (h:=deq_ 9 (h:=dpt_ 10 (h:=da_ 11 (h:=z_ (h:=t_ (aw_ret (?_)))))))
          refine e_ret ?_
          first | rfl | (exfalso; simp_all)
        · have hc4 := bp hb4
          refine d0_ 3 (h:=d0_ 4 (h:=d0_ 5 (h:=d0_ 6 (h:=d0_ 7 (h:=d0_ 8 (h:=d0_ 9 (h:=dpf_ 10 (h:=da_ 11 (h:=z_ (h:=t_ (aw_ret (?_))))))))))))
          refine e_ret ?_
          first | rfl | (exfalso; simp_all)

end
end Go.Proofs.Ythcbdkmhamhciaa
namespace Go.Proofs.Ythcbdkmhamhciaa
open Go.RowKit

theorem ren_errs (f : Fls) (src : Fil) (name : Str) (to : Fil) (name2 : Str) : ((renameL f src name to name2).2.2 ≠ 0 → (renameL f src name to name2).1 = []) ∧ (renameL f src name to name2).2.1.length ≤ 1000 := by
  unfold renameL
  repeat' split
  all_goals first | exact ⟨fun _ => rfl, Nat.zero_le _⟩ | exact ⟨fun h => absurd rfl h, by simp⟩
section
set_option maxRecDepth 20000
set_option maxHeartbeats 4000000
theorem Lrenames (l : List Int) : AFn Try.prog 11 [.sl 1 (l.map intA) none] (fun r => r = .v (.bool true)) := by
  refine enter Try.func11 rfl rfl rfl rfl rfl 0 rfl ?_
  refine w_ (a_ (h:=e_ (w_ (m_ (h:=?_)))))
  refine al_p rfl (s_callN rfl (by repeat (first | exact Args.nil | refine Args.cons _ _ _ _ _ rfl (argOk_clean rfl) ?_ | refine Args.cons _ _ _ _ _ rfl (argOk_nil _) ?_ | refine Args.cons _ _ _ _ _ rfl (argOk_era _) ?_ | refine Args.cons _ _ _ _ _ rfl (argOk_le rfl (by repeat (first | exact LeA.refl _ | exact LeA.nil _ | exact LeL.refl _ | refine LeA.agg ?_ | refine LeA.tup ?_ | exact LeL.nil | refine LeL.cons ?_ ?_ | exact LeA.any _))) ?_)) rfl (Gnew l) (by repeat constructor) ?_)
  skip
  refine a_ (h:=e_ (w_ (m_ (h:=?_))))
  refine al_p rfl (s_gen 0 (hc := Gfiles l _ (by omega)) (hR := ?_))
  rintro r a1 ha1 ⟨f, rfl, hv, hp⟩
  refine ⟨rfl, _, (by repeat constructor), ?_⟩
  have hf := hv.b
  have hne := hv.ne
  refine al_ (h:=s_ (h:=e_ (q_ (w_ (a_ (h:=e_ (aw_block (?_))))))))
  refine aw_loopW (fun m t => ∃ (j b : Nat), j ≤ 6 ∧ m = 6 - j ∧ b ≤ 1000 + 100 * j ∧ t = ⟨look [(3, .bp 0 0), (4, .bp 1 0), (5, .v (.int .i64 (j : Int)))], ⟨[srcA l b, flsA f], []⟩⟩) (6) ((wk 2 0)) (⟨0, _, by omega, rfl, by omega, rfl⟩) ?_
  rintro m t ⟨j, b, hj, rfl, hbb, rfl⟩
  refine q_ (w_ (m_ (h:=lt_ (h:=e_ (?_)))))
  refine aw_cond rfl (fun hb1 => ?_) (fun hb1 => ?_)
  · have hc1 := bp hb1
    refine kt_ (q_ (aw_block (?_)))
    refine aw_midI (fun t => ∃ (x y : Fil) (k k2 : Str) (b2 : Nat), k.size ≤ 13 ∧ k2.size ≤ 13 ∧ b2 ≤ b + 100 ∧ t = ⟨look [(3, .bp 0 0), (4, .bp 1 0), (5, .v (.int .i64 (j : Int))), (6, .bp 2 0), (7, .v (.string k)), (8, .bp 3 0), (9, .v (.string k2))], ⟨[srcA l b2, flsA f, filA x, filA y], []⟩⟩) ?_ ?_
    · skip
      refine yk_ ([(1, flsA f)]) 16 (h:=dm_ 0 (h:=dl_ 1 (h:=dm_ 3 (h:=dm_ 5 (h:=dl_ 6 (h:=dm_ 8 (h:=?_)))))))
      refine cm_ 2 (ao_ 2 rfl ?_ (ao_ 10 rfl ?_ (ao_ 11 rfl ?_ ao_n)))
      · refine s_gen 0 (hc := Gfile l _ f (by omega) hf hne) (hR := ?_)
        rintro r a2 ha2 ⟨x2, rfl⟩
        refine ⟨rfl, _, (by repeat constructor), ?_⟩
        refine o_ (h:=?_)
        refine cm_ 4 (ao_ 4 rfl ?_ (ao_ 10 rfl ?_ (ao_ 11 rfl ?_ ao_n)))
        · refine s_gen 0 (hc := Gname l _ (by omega)) (hR := ?_)
          rintro r a3 ha3 ⟨k3, rfl, hk3⟩
          refine ⟨rfl, _, (by repeat constructor), ?_⟩
          refine o_ (h:=?_)
          refine cm_ 7 (ao_ 7 rfl ?_ (ao_ 10 rfl ?_ (ao_ 11 rfl ?_ ao_n)))
          · refine s_gen 0 (hc := Gfile l _ f (by omega) hf hne) (hR := ?_)
            rintro r a4 ha4 ⟨x4, rfl⟩
            refine ⟨rfl, _, (by repeat constructor), ?_⟩
            refine o_ (h:=?_)
            refine cm_ 9 (ao_ 9 rfl ?_ (ao_ 10 rfl ?_ (ao_ 11 rfl ?_ ao_n)))
            · refine s_gen 0 (hc := Gname l _ (by omega)) (hR := ?_)
              rintro r a5 ha5 ⟨k5, rfl, hk5⟩
              refine ⟨rfl, _, (by repeat constructor), ?_⟩
              refine o_ (h:=?_)
              refine c2_ 10 11 rfl rfl ?_ ?_
              · refine s_alloc (by repeat constructor) ?_
                refine o_ (h:=?_)
                refine c_ 11 rfl (s_alloc (by repeat constructor) ?_)
                refine o_ (h:=?_)
                refine c0_ 12 rfl (s_store rfl rfl rfl rfl rfl rfl (by repeat constructor) (by repeat constructor) ?_)
                refine o_ (h:=da_ 13 (h:=?_))
                refine c0_ 14 rfl (s_store rfl rfl rfl rfl rfl rfl (by repeat constructor) (by repeat constructor) ?_)
                refine o_ (h:=da_ 15 (h:=z_ (h:=?_)))
                refine x_then ?_
                first
                | refine ⟨_, ⟨_, _, _, _, _, ?_, ?_, ?_, rfl⟩, (wk 4 0)⟩
                | refine ⟨_, ⟨_, _, _, _, _, ?_, ?_, ?_, rfl⟩, wr_ [0, 1, 3, 2]⟩
                · assumption
                · assumption
                · omega
              · refine s_alloc (by repeat constructor) ?_
                refine o_ (h:=?_)
                refine c_ 10 rfl (s_alloc (by repeat constructor) ?_)
                refine o_ (h:=?_)
                refine c0_ 12 rfl (s_store rfl rfl rfl rfl rfl rfl (by repeat constructor) (by repeat constructor) ?_)
                refine o_ (h:=da_ 13 (h:=?_))
                refine c0_ 14 rfl (s_store rfl rfl rfl rfl rfl rfl (by repeat constructor) (by repeat constructor) ?_)
                refine o_ (h:=da_ 15 (h:=z_ (h:=?_)))
                refine x_then ?_
                first
                | refine ⟨_, ⟨_, _, _, _, _, ?_, ?_, ?_, rfl⟩, (wk 4 0)⟩
                | refine ⟨_, ⟨_, _, _, _, _, ?_, ?_, ?_, rfl⟩, wr_ [0, 1, 3, 2]⟩
                · assumption
                · assumption
                · omega
            · refine s_alloc (by repeat constructor) ?_
              refine o_ (h:=?_)
              refine c2_ 9 11 rfl rfl ?_ ?_
              · refine s_gen 0 (hc := Gname l _ (by omega)) (hR := ?_)
                rintro r a6 ha6 ⟨k6, rfl, hk6⟩
                refine ⟨rfl, _, (by repeat constructor), ?_⟩
                refine o_ (h:=?_)
                refine c_ 11 rfl (s_alloc (by repeat constructor) ?_)
                refine o_ (h:=?_)
                refine c0_ 12 rfl (s_store rfl rfl rfl rfl rfl rfl (by repeat constructor) (by repeat constructor) ?_)
                refine o_ (h:=da_ 13 (h:=?_))
                refine c0_ 14 rfl (s_store rfl rfl rfl rfl rfl rfl (by repeat constructor) (by repeat constructor) ?_)
                refine o_ (h:=da_ 15 (h:=z_ (h:=?_)))
                refine x_then ?_
                first
                | refine ⟨_, ⟨_, _, _, _, _, ?_, ?_, ?_, rfl⟩, (wk 4 0)⟩
                | refine ⟨_, ⟨_, _, _, _, _, ?_, ?_, ?_, rfl⟩, wr_ [0, 1, 3, 2]⟩
                · assumption
                · assumption
                · omega
              · refine s_alloc (by repeat constructor) ?_
                refine o_ (h:=?_)
                refine c_ 9 rfl (s_gen 0 (hc := Gname l _ (by omega)) (hR := ?_))
                rintro r a7 ha7 ⟨k7, rfl, hk7⟩
                refine ⟨rfl, _, (by repeat constructor), ?_⟩
                refine o_ (h:=?_)
                refine c0_ 12 rfl (s_store rfl rfl rfl rfl rfl rfl (by repeat constructor) (by repeat constructor) ?_)
                refine o_ (h:=da_ 13 (h:=?_))
                refine c0_ 14 rfl (s_store rfl rfl rfl rfl rfl rfl (by repeat constructor) (by repeat constructor) ?_)
                refine o_ (h:=da_ 15 (h:=z_ (h:=?_)))
                refine x_then ?_
                first
                | refine ⟨_, ⟨_, _, _, _, _, ?_, ?_, ?_, rfl⟩, (wk 4 0)⟩
                | refine ⟨_, ⟨_, _, _, _, _, ?_, ?_, ?_, rfl⟩, wr_ [0, 1, 3, 2]⟩
                · assumption
                · assumption
                · omega
            · refine s_alloc (by repeat constructor) ?_
              refine o_ (h:=?_)
              refine c2_ 9 10 rfl rfl ?_ ?_
              · refine s_gen 0 (hc := Gname l _ (by omega)) (hR := ?_)
                rintro r a8 ha8 ⟨k8, rfl, hk8⟩
                refine ⟨rfl, _, (by repeat constructor), ?_⟩
                refine o_ (h:=?_)
                refine c_ 10 rfl (s_alloc (by repeat constructor) ?_)
                refine o_ (h:=?_)
                refine c0_ 12 rfl (s_store rfl rfl rfl rfl rfl rfl (by repeat constructor) (by repeat constructor) ?_)
                refine o_ (h:=da_ 13 (h:=?_))
                refine c0_ 14 rfl (s_store rfl rfl rfl rfl rfl rfl (by repeat constructor) (by repeat constructor) ?_)
                refine o_ (h:=da_ 15 (h:=z_ (h:=?_)))
                refine x_then ?_
                first
                | refine ⟨_, ⟨_, _, _, _, _, ?_, ?_, ?_, rfl⟩, (wk 4 0)⟩
                | refine ⟨_, ⟨_, _, _, _, _, ?_, ?_, ?_, rfl⟩, wr_ [0, 1, 3, 2]⟩
                · assumption
                · assumption
                · omega
              · refine s_alloc (by repeat constructor) ?_
                refine o_ (h:=?_)
                refine c_ 9 rfl (s_gen 0 (hc := Gname l _ (by omega)) (hR := ?_))
                rintro r a9 ha9 ⟨k9, rfl, hk9⟩
                refine ⟨rfl, _, (by repeat constructor), ?_⟩
                refine o_ (h:=?_)
                refine c0_ 12 rfl (s_store rfl rfl rfl rfl rfl rfl (by repeat constructor) (by repeat constructor) ?_)
                refine o_ (h:=da_ 13 (h:=?_))
                refine c0_ 14 rfl (s_store rfl rfl rfl rfl rfl rfl (by repeat constructor) (by repeat constructor) ?_)
                refine o_ (h:=da_ 15 (h:=z_ (h:=?_)))
                refine x_then ?_
                first
                | refine ⟨_, ⟨_, _, _, _, _, ?_, ?_, ?_, rfl⟩, (wk 4 0)⟩
                | refine ⟨_, ⟨_, _, _, _, _, ?_, ?_, ?_, rfl⟩, wr_ [0, 1, 3, 2]⟩
                · assumption
                · assumption
                · omega
          · refine s_alloc (by repeat constructor) ?_
            refine o_ (h:=?_)
            refine c2_ 7 11 rfl rfl ?_ ?_
            · refine s_gen 0 (hc := Gfile l _ f (by omega) hf hne) (hR := ?_)
              rintro r a10 ha10 ⟨x10, rfl⟩
              refine ⟨rfl, _, (by repeat constructor), ?_⟩
              refine o_ (h:=?_)
              refine c2_ 9 11 rfl rfl ?_ ?_
              · refine s_gen 0 (hc := Gname l _ (by omega)) (hR := ?_)
                rintro r a11 ha11 ⟨k11, rfl, hk11⟩
                refine ⟨rfl, _, (by repeat constructor), ?_⟩
                refine o_ (h:=?_)
                refine c_ 11 rfl (s_alloc (by repeat constructor) ?_)
                refine o_ (h:=?_)
                refine c0_ 12 rfl (s_store rfl rfl rfl rfl rfl rfl (by repeat constructor) (by repeat constructor) ?_)
                refine o_ (h:=da_ 13 (h:=?_))
                refine c0_ 14 rfl (s_store rfl rfl rfl rfl rfl rfl (by repeat constructor) (by repeat constructor) ?_)
                refine o_ (h:=da_ 15 (h:=z_ (h:=?_)))
                refine x_then ?_
                first
                | refine ⟨_, ⟨_, _, _, _, _, ?_, ?_, ?_, rfl⟩, (wk 4 0)⟩
                | refine ⟨_, ⟨_, _, _, _, _, ?_, ?_, ?_, rfl⟩, wr_ [0, 1, 3, 2]⟩
                · assumption
                · assumption
                · omega
              · refine s_alloc (by repeat constructor) ?_
                refine o_ (h:=?_)
                refine c_ 9 rfl (s_gen 0 (hc := Gname l _ (by omega)) (hR := ?_))
                rintro r a12 ha12 ⟨k12, rfl, hk12⟩
                refine ⟨rfl, _, (by repeat constructor), ?_⟩
                refine o_ (h:=?_)
                refine c0_ 12 rfl (s_store rfl rfl rfl rfl rfl rfl (by repeat constructor) (by repeat constructor) ?_)
                refine o_ (h:=da_ 13 (h:=?_))
                refine c0_ 14 rfl (s_store rfl rfl rfl rfl rfl rfl (by repeat constructor) (by repeat constructor) ?_)
                refine o_ (h:=da_ 15 (h:=z_ (h:=?_)))
                refine x_then ?_
                first
                | refine ⟨_, ⟨_, _, _, _, _, ?_, ?_, ?_, rfl⟩, (wk 4 0)⟩
                | refine ⟨_, ⟨_, _, _, _, _, ?_, ?_, ?_, rfl⟩, wr_ [0, 1, 3, 2]⟩
                · assumption
                · assumption
                · omega
            · refine s_alloc (by repeat constructor) ?_
              refine o_ (h:=?_)
              refine c_ 7 rfl (s_gen 0 (hc := Gfile l _ f (by omega) hf hne) (hR := ?_))
              rintro r a13 ha13 ⟨x13, rfl⟩
              refine ⟨rfl, _, (by repeat constructor), ?_⟩
              refine o_ (h:=?_)
              refine c_ 9 rfl (s_gen 0 (hc := Gname l _ (by omega)) (hR := ?_))
              rintro r a14 ha14 ⟨k14, rfl, hk14⟩
              refine ⟨rfl, _, (by repeat constructor), ?_⟩
              refine o_ (h:=?_)
              refine c0_ 12 rfl (s_store rfl rfl rfl rfl rfl rfl (by repeat constructor) (by repeat constructor) ?_)
              refine o_ (h:=da_ 13 (h:=?_))
              refine c0_ 14 rfl (s_store rfl rfl rfl rfl rfl rfl (by repeat constructor) (by repeat constructor) ?_)
              refine o_ (h:=da_ 15 (h:=z_ (h:=?_)))
              refine x_then ?_
              first
              | refine ⟨_, ⟨_, _, _, _, _, ?_, ?_, ?_, rfl⟩, (wk 4 0)⟩
              | refine ⟨_, ⟨_, _, _, _, _, ?_, ?_, ?_, rfl⟩, wr_ [0, 1, 3, 2]⟩
              · assumption
              · assumption
              · omega
          · refine s_alloc (by repeat constructor) ?_
            refine o_ (h:=?_)
            refine c2_ 7 10 rfl rfl ?_ ?_
            · refine s_gen 0 (hc := Gfile l _ f (by omega) hf hne) (hR := ?_)
              rintro r a15 ha15 ⟨x15, rfl⟩
              refine ⟨rfl, _, (by repeat constructor), ?_⟩
              refine o_ (h:=?_)
              refine c2_ 9 10 rfl rfl ?_ ?_
              · refine s_gen 0 (hc := Gname l _ (by omega)) (hR := ?_)
                rintro r a16 ha16 ⟨k16, rfl, hk16⟩
                refine ⟨rfl, _, (by repeat constructor), ?_⟩
                refine o_ (h:=?_)
                refine c_ 10 rfl (s_alloc (by repeat constructor) ?_)
                refine o_ (h:=?_)
                refine c0_ 12 rfl (s_store rfl rfl rfl rfl rfl rfl (by repeat constructor) (by repeat constructor) ?_)
                refine o_ (h:=da_ 13 (h:=?_))
                refine c0_ 14 rfl (s_store rfl rfl rfl rfl rfl rfl (by repeat constructor) (by repeat constructor) ?_)
                refine o_ (h:=da_ 15 (h:=z_ (h:=?_)))
                refine x_then ?_
                first
                | refine ⟨_, ⟨_, _, _, _, _, ?_, ?_, ?_, rfl⟩, (wk 4 0)⟩
                | refine ⟨_, ⟨_, _, _, _, _, ?_, ?_, ?_, rfl⟩, wr_ [0, 1, 3, 2]⟩
                · assumption
                · assumption
                · omega
              · refine s_alloc (by repeat constructor) ?_
                refine o_ (h:=?_)
                refine c_ 9 rfl (s_gen 0 (hc := Gname l _ (by omega)) (hR := ?_))
                rintro r a17 ha17 ⟨k17, rfl, hk17⟩
                refine ⟨rfl, _, (by repeat constructor), ?_⟩
                refine o_ (h:=?_)
                refine c0_ 12 rfl (s_store rfl rfl rfl rfl rfl rfl (by repeat constructor) (by repeat constructor) ?_)
                refine o_ (h:=da_ 13 (h:=?_))
                refine c0_ 14 rfl (s_store rfl rfl rfl rfl rfl rfl (by repeat constructor) (by repeat constructor) ?_)
                refine o_ (h:=da_ 15 (h:=z_ (h:=?_)))
                refine x_then ?_
                first
                | refine ⟨_, ⟨_, _, _, _, _, ?_, ?_, ?_, rfl⟩, (wk 4 0)⟩
                | refine ⟨_, ⟨_, _, _, _, _, ?_, ?_, ?_, rfl⟩, wr_ [0, 1, 3, 2]⟩
                · assumption
                · assumption
                · omega
            · refine s_alloc (by repeat constructor) ?_
              refine o_ (h:=?_)
              refine c_ 7 rfl (s_gen 0 (hc := Gfile l _ f (by omega) hf hne) (hR := ?_))
              rintro r a18 ha18 ⟨x18, rfl⟩
              refine ⟨rfl, _, (by repeat constructor), ?_⟩
              refine o_ (h:=?_)
              refine c_ 9 rfl (s_gen 0 (hc := Gname l _ (by omega)) (hR := ?_))
              rintro r a19 ha19 ⟨k19, rfl, hk19⟩
              refine ⟨rfl, _, (by repeat constructor), ?_⟩
              refine o_ (h:=?_)
              refine c0_ 12 rfl (s_store rfl rfl rfl rfl rfl rfl (by repeat constructor) (by repeat constructor) ?_)
              refine o_ (h:=da_ 13 (h:=?_))
              refine c0_ 14 rfl (s_store rfl rfl rfl rfl rfl rfl (by repeat constructor) (by repeat constructor) ?_)
              refine o_ (h:=da_ 15 (h:=z_ (h:=?_)))
              refine x_then ?_
              first
              | refine ⟨_, ⟨_, _, _, _, _, ?_, ?_, ?_, rfl⟩, (wk 4 0)⟩
              | refine ⟨_, ⟨_, _, _, _, _, ?_, ?_, ?_, rfl⟩, wr_ [0, 1, 3, 2]⟩
              · assumption
              · assumption
              · omega
        · refine s_alloc (by repeat constructor) ?_
          refine o_ (h:=?_)
          refine c2_ 4 11 rfl rfl ?_ ?_
          · refine s_gen 0 (hc := Gname l _ (by omega)) (hR := ?_)
            rintro r a20 ha20 ⟨k20, rfl, hk20⟩
            refine ⟨rfl, _, (by repeat constructor), ?_⟩
            refine o_ (h:=?_)
            refine c2_ 7 11 rfl rfl ?_ ?_
            · refine s_gen 0 (hc := Gfile l _ f (by omega) hf hne) (hR := ?_)
              rintro r a21 ha21 ⟨x21, rfl⟩
              refine ⟨rfl, _, (by repeat constructor), ?_⟩
              refine o_ (h:=?_)
              refine c2_ 9 11 rfl rfl ?_ ?_
              · refine s_gen 0 (hc := Gname l _ (by omega)) (hR := ?_)
                rintro r a22 ha22 ⟨k22, rfl, hk22⟩
                refine ⟨rfl, _, (by repeat constructor), ?_⟩
                refine o_ (h:=?_)
                refine c_ 11 rfl (s_alloc (by repeat constructor) ?_)
                refine o_ (h:=?_)
                refine c0_ 12 rfl (s_store rfl rfl rfl rfl rfl rfl (by repeat constructor) (by repeat constructor) ?_)
                refine o_ (h:=da_ 13 (h:=?_))
                refine c0_ 14 rfl (s_store rfl rfl rfl rfl rfl rfl (by repeat constructor) (by repeat constructor) ?_)
                refine o_ (h:=da_ 15 (h:=z_ (h:=?_)))
                refine x_then ?_
                first
                | refine ⟨_, ⟨_, _, _, _, _, ?_, ?_, ?_, rfl⟩, (wk 4 0)⟩
                | refine ⟨_, ⟨_, _, _, _, _, ?_, ?_, ?_, rfl⟩, wr_ [0, 1, 3, 2]⟩
                · assumption
                · assumption
                · omega
              · refine s_alloc (by repeat constructor) ?_
                refine o_ (h:=?_)
                refine c_ 9 rfl (s_gen 0 (hc := Gname l _ (by omega)) (hR := ?_))
                rintro r a23 ha23 ⟨k23, rfl, hk23⟩
                refine ⟨rfl, _, (by repeat constructor), ?_⟩
                refine o_ (h:=?_)
                refine c0_ 12 rfl (s_store rfl rfl rfl rfl rfl rfl (by repeat constructor) (by repeat constructor) ?_)
                refine o_ (h:=da_ 13 (h:=?_))
                refine c0_ 14 rfl (s_store rfl rfl rfl rfl rfl rfl (by repeat constructor) (by repeat constructor) ?_)
                refine o_ (h:=da_ 15 (h:=z_ (h:=?_)))
                refine x_then ?_
                first
                | refine ⟨_, ⟨_, _, _, _, _, ?_, ?_, ?_, rfl⟩, (wk 4 0)⟩
                | refine ⟨_, ⟨_, _, _, _, _, ?_, ?_, ?_, rfl⟩, wr_ [0, 1, 3, 2]⟩
                · assumption
                · assumption
                · omega
            · refine s_alloc (by repeat constructor) ?_
              refine o_ (h:=?_)
              refine c_ 7 rfl (s_gen 0 (hc := Gfile l _ f (by omega) hf hne) (hR := ?_))
              rintro r a24 ha24 ⟨x24, rfl⟩
              refine ⟨rfl, _, (by repeat constructor), ?_⟩
              refine o_ (h:=?_)
              refine c_ 9 rfl (s_gen 0 (hc := Gname l _ (by omega)) (hR := ?_))
              rintro r a25 ha25 ⟨k25, rfl, hk25⟩
              refine ⟨rfl, _, (by repeat constructor), ?_⟩
              refine o_ (h:=?_)
              refine c0_ 12 rfl (s_store rfl rfl rfl rfl rfl rfl (by repeat constructor) (by repeat constructor) ?_)
              refine o_ (h:=da_ 13 (h:=?_))
              refine c0_ 14 rfl (s_store rfl rfl rfl rfl rfl rfl (by repeat constructor) (by repeat constructor) ?_)
              refine o_ (h:=da_ 15 (h:=z_ (h:=?_)))
              refine x_then ?_
              first
              | refine ⟨_, ⟨_, _, _, _, _, ?_, ?_, ?_, rfl⟩, (wk 4 0)⟩
              | refine ⟨_, ⟨_, _, _, _, _, ?_, ?_, ?_, rfl⟩, wr_ [0, 1, 3, 2]⟩
              · assumption
              · assumption
              · omega
          · refine s_alloc (by repeat constructor) ?_
            refine o_ (h:=?_)
            refine c_ 4 rfl (s_gen 0 (hc := Gname l _ (by omega)) (hR := ?_))
            rintro r a26 ha26 ⟨k26, rfl, hk26⟩
            refine ⟨rfl, _, (by repeat constructor), ?_⟩
            refine o_ (h:=?_)
            refine c_ 7 rfl (s_gen 0 (hc := Gfile l _ f (by omega) hf hne) (hR := ?_))
            rintro r a27 ha27 ⟨x27, rfl⟩
            refine ⟨rfl, _, (by repeat constructor), ?_⟩
            refine o_ (h:=?_)
            refine c_ 9 rfl (s_gen 0 (hc := Gname l _ (by omega)) (hR := ?_))
            rintro r a28 ha28 ⟨k28, rfl, hk28⟩
            refine ⟨rfl, _, (by repeat constructor), ?_⟩
            refine o_ (h:=?_)
            refine c0_ 12 rfl (s_store rfl rfl rfl rfl rfl rfl (by repeat constructor) (by repeat constructor) ?_)
            refine o_ (h:=da_ 13 (h:=?_))
            refine c0_ 14 rfl (s_store rfl rfl rfl rfl rfl rfl (by repeat constructor) (by repeat constructor) ?_)
            refine o_ (h:=da_ 15 (h:=z_ (h:=?_)))
            refine x_then ?_
            first
            | refine ⟨_, ⟨_, _, _, _, _, ?_, ?_, ?_, rfl⟩, (wk 4 0)⟩
            | refine ⟨_, ⟨_, _, _, _, _, ?_, ?_, ?_, rfl⟩, wr_ [0, 1, 3, 2]⟩
            · assumption
            · assumption
            · omega
        · refine s_alloc (by repeat constructor) ?_
          refine o_ (h:=?_)
          refine c2_ 4 10 rfl rfl ?_ ?_
          · refine s_gen 0 (hc := Gname l _ (by omega)) (hR := ?_)
            rintro r a29 ha29 ⟨k29, rfl, hk29⟩
            refine ⟨rfl, _, (by repeat constructor), ?_⟩
            refine o_ (h:=?_)
            refine c2_ 7 10 rfl rfl ?_ ?_
            · refine s_gen 0 (hc := Gfile l _ f (by omega) hf hne) (hR := ?_)
              rintro r a30 ha30 ⟨x30, rfl⟩
              refine ⟨rfl, _, (by repeat constructor), ?_⟩
              refine o_ (h:=?_)
              refine c2_ 9 10 rfl rfl ?_ ?_
              · refine s_gen 0 (hc := Gname l _ (by omega)) (hR := ?_)
                rintro r a31 ha31 ⟨k31, rfl, hk31⟩
                refine ⟨rfl, _, (by repeat constructor), ?_⟩
                refine o_ (h:=?_)
                refine c_ 10 rfl (s_alloc (by repeat constructor) ?_)
                refine o_ (h:=?_)
                refine c0_ 12 rfl (s_store rfl rfl rfl rfl rfl rfl (by repeat constructor) (by repeat constructor) ?_)
                refine o_ (h:=da_ 13 (h:=?_))
                refine c0_ 14 rfl (s_store rfl rfl rfl rfl rfl rfl (by repeat constructor) (by repeat constructor) ?_)
                refine o_ (h:=da_ 15 (h:=z_ (h:=?_)))
                refine x_then ?_
                first
                | refine ⟨_, ⟨_, _, _, _, _, ?_, ?_, ?_, rfl⟩, (wk 4 0)⟩
                | refine ⟨_, ⟨_, _, _, _, _, ?_, ?_, ?_, rfl⟩, wr_ [0, 1, 3, 2]⟩
                · assumption
                · assumption
                · omega
              · refine s_alloc (by repeat constructor) ?_
                refine o_ (h:=?_)
                refine c_ 9 rfl (s_gen 0 (hc := Gname l _ (by omega)) (hR := ?_))
                rintro r a32 ha32 ⟨k32, rfl, hk32⟩
                refine ⟨rfl, _, (by repeat constructor), ?_⟩
                refine o_ (h:=?_)
                refine c0_ 12 rfl (s_store rfl rfl rfl rfl rfl rfl (by repeat constructor) (by repeat constructor) ?_)
                refine o_ (h:=da_ 13 (h:=?_))
                refine c0_ 14 rfl (s_store rfl rfl rfl rfl rfl rfl (by repeat constructor) (by repeat constructor) ?_)
                refine o_ (h:=da_ 15 (h:=z_ (h:=?_)))
                refine x_then ?_
                first
                | refine ⟨_, ⟨_, _, _, _, _, ?_, ?_, ?_, rfl⟩, (wk 4 0)⟩
                | refine ⟨_, ⟨_, _, _, _, _, ?_, ?_, ?_, rfl⟩, wr_ [0, 1, 3, 2]⟩
                · assumption
                · assumption
                · omega
            · refine s_alloc (by repeat constructor) ?_
              refine o_ (h:=?_)
              refine c_ 7 rfl (s_gen 0 (hc := Gfile l _ f (by omega) hf hne) (hR := ?_))
              rintro r a33 ha33 ⟨x33, rfl⟩
              refine ⟨rfl, _, (by repeat constructor), ?_⟩
              refine o_ (h:=?_)
              refine c_ 9 rfl (s_gen 0 (hc := Gname l _ (by omega)) (hR := ?_))
              rintro r a34 ha34 ⟨k34, rfl, hk34⟩
              refine ⟨rfl, _, (by repeat constructor), ?_⟩
              refine o_ (h:=?_)
              refine c0_ 12 rfl (s_store rfl rfl rfl rfl rfl rfl (by repeat constructor) (by repeat constructor) ?_)
              refine o_ (h:=da_ 13 (h:=?_))
              refine c0_ 14 rfl (s_store rfl rfl rfl rfl rfl rfl (by repeat constructor) (by repeat constructor) ?_)
              refine o_ (h:=da_ 15 (h:=z_ (h:=?_)))
              refine x_then ?_
              first
              | refine ⟨_, ⟨_, _, _, _, _, ?_, ?_, ?_, rfl⟩, (wk 4 0)⟩
              | refine ⟨_, ⟨_, _, _, _, _, ?_, ?_, ?_, rfl⟩, wr_ [0, 1, 3, 2]⟩
              · assumption
              · assumption
              · omega
          · refine s_alloc (by repeat constructor) ?_
            refine o_ (h:=?_)
            refine c_ 4 rfl (s_gen 0 (hc := Gname l _ (by omega)) (hR := ?_))
            rintro r a35 ha35 ⟨k35, rfl, hk35⟩
            refine ⟨rfl, _, (by repeat constructor), ?_⟩
            refine o_ (h:=?_)
            refine c_ 7 rfl (s_gen 0 (hc := Gfile l _ f (by omega) hf hne) (hR := ?_))
            rintro r a36 ha36 ⟨x36, rfl⟩
            refine ⟨rfl, _, (by repeat constructor), ?_⟩
            refine o_ (h:=?_)
            refine c_ 9 rfl (s_gen 0 (hc := Gname l _ (by omega)) (hR := ?_))
            rintro r a37 ha37 ⟨k37, rfl, hk37⟩
            refine ⟨rfl, _, (by repeat constructor), ?_⟩
            refine o_ (h:=?_)
            refine c0_ 12 rfl (s_store rfl rfl rfl rfl rfl rfl (by repeat constructor) (by repeat constructor) ?_)
            refine o_ (h:=da_ 13 (h:=?_))
            refine c0_ 14 rfl (s_store rfl rfl rfl rfl rfl rfl (by repeat constructor) (by repeat constructor) ?_)
            refine o_ (h:=da_ 15 (h:=z_ (h:=?_)))
            refine x_then ?_
            first
            | refine ⟨_, ⟨_, _, _, _, _, ?_, ?_, ?_, rfl⟩, (wk 4 0)⟩
            | refine ⟨_, ⟨_, _, _, _, _, ?_, ?_, ?_, rfl⟩, wr_ [0, 1, 3, 2]⟩
            · assumption
            · assumption
            · omega
      · refine s_alloc (by repeat constructor) ?_
        refine o_ (h:=?_)
        refine c2_ 2 11 rfl rfl ?_ ?_
        · refine s_gen 0 (hc := Gfile l _ f (by omega) hf hne) (hR := ?_)
          rintro r a38 ha38 ⟨x38, rfl⟩
          refine ⟨rfl, _, (by repeat constructor), ?_⟩
          refine o_ (h:=?_)
          refine c2_ 4 11 rfl rfl ?_ ?_
          · refine s_gen 0 (hc := Gname l _ (by omega)) (hR := ?_)
            rintro r a39 ha39 ⟨k39, rfl, hk39⟩
            refine ⟨rfl, _, (by repeat constructor), ?_⟩
            refine o_ (h:=?_)
            refine c2_ 7 11 rfl rfl ?_ ?_
            · refine s_gen 0 (hc := Gfile l _ f (by omega) hf hne) (hR := ?_)
              rintro r a40 ha40 ⟨x40, rfl⟩
              refine ⟨rfl, _, (by repeat constructor), ?_⟩
              refine o_ (h:=?_)
              refine c2_ 9 11 rfl rfl ?_ ?_
              · refine s_gen 0 (hc := Gname l _ (by omega)) (hR := ?_)
                rintro r a41 ha41 ⟨k41, rfl, hk41⟩
                refine ⟨rfl, _, (by repeat constructor), ?_⟩
                refine o_ (h:=?_)
                refine c_ 11 rfl (s_alloc (by repeat constructor) ?_)
                refine o_ (h:=?_)
                refine c0_ 12 rfl (s_store rfl rfl rfl rfl rfl rfl (by repeat constructor) (by repeat constructor) ?_)
                refine o_ (h:=da_ 13 (h:=?_))
                refine c0_ 14 rfl (s_store rfl rfl rfl rfl rfl rfl (by repeat constructor) (by repeat constructor) ?_)
                refine o_ (h:=da_ 15 (h:=z_ (h:=?_)))
                refine x_then ?_
                first
                | refine ⟨_, ⟨_, _, _, _, _, ?_, ?_, ?_, rfl⟩, (wk 4 0)⟩
                | refine ⟨_, ⟨_, _, _, _, _, ?_, ?_, ?_, rfl⟩, wr_ [0, 1, 3, 2]⟩
                · assumption
                · assumption
                · omega
              · refine s_alloc (by repeat constructor) ?_
                refine o_ (h:=?_)
                refine c_ 9 rfl (s_gen 0 (hc := Gname l _ (by omega)) (hR := ?_))
                rintro r a42 ha42 ⟨k42, rfl, hk42⟩
                refine ⟨rfl, _, (by repeat constructor), ?_⟩
                refine o_ (h:=?_)
                refine c0_ 12 rfl (s_store rfl rfl rfl rfl rfl rfl (by repeat constructor) (by repeat constructor) ?_)
                refine o_ (h:=da_ 13 (h:=?_))
                refine c0_ 14 rfl (s_store rfl rfl rfl rfl rfl rfl (by repeat constructor) (by repeat constructor) ?_)
                refine o_ (h:=da_ 15 (h:=z_ (h:=?_)))
                refine x_then ?_
                first
                | refine ⟨_, ⟨_, _, _, _, _, ?_, ?_, ?_, rfl⟩, (wk 4 0)⟩
                | refine ⟨_, ⟨_, _, _, _, _, ?_, ?_, ?_, rfl⟩, wr_ [0, 1, 3, 2]⟩
                · assumption
                · assumption
                · omega
            · refine s_alloc (by repeat constructor) ?_
              refine o_ (h:=?_)
              refine c_ 7 rfl (s_gen 0 (hc := Gfile l _ f (by omega) hf hne) (hR := ?_))
              rintro r a43 ha43 ⟨x43, rfl⟩
              refine ⟨rfl, _, (by repeat constructor), ?_⟩
              refine o_ (h:=?_)
              refine c_ 9 rfl (s_gen 0 (hc := Gname l _ (by omega)) (hR := ?_))
              rintro r a44 ha44 ⟨k44, rfl, hk44⟩
              refine ⟨rfl, _, (by repeat constructor), ?_⟩
              refine o_ (h:=?_)
              refine c0_ 12 rfl (s_store rfl rfl rfl rfl rfl rfl (by repeat constructor) (by repeat constructor) ?_)
              refine o_ (h:=da_ 13 (h:=?_))
              refine c0_ 14 rfl (s_store rfl rfl rfl rfl rfl rfl (by repeat constructor) (by repeat constructor) ?_)
              refine o_ (h:=da_ 15 (h:=z_ (h:=?_)))
              refine x_then ?_
              first
              | refine ⟨_, ⟨_, _, _, _, _, ?_, ?_, ?_, rfl⟩, (wk 4 0)⟩
              | refine ⟨_, ⟨_, _, _, _, _, ?_, ?_, ?_, rfl⟩, wr_ [0, 1, 3, 2]⟩
              · assumption
              · assumption
              · omega
          · refine s_alloc (by repeat constructor) ?_
            refine o_ (h:=?_)
            refine c_ 4 rfl (s_gen 0 (hc := Gname l _ (by omega)) (hR := ?_))
            rintro r a45 ha45 ⟨k45, rfl, hk45⟩
            refine ⟨rfl, _, (by repeat constructor), ?_⟩
            refine o_ (h:=?_)
            refine c_ 7 rfl (s_gen 0 (hc := Gfile l _ f (by omega) hf hne) (hR := ?_))
            rintro r a46 ha46 ⟨x46, rfl⟩
            refine ⟨rfl, _, (by repeat constructor), ?_⟩
            refine o_ (h:=?_)
            refine c_ 9 rfl (s_gen 0 (hc := Gname l _ (by omega)) (hR := ?_))
            rintro r a47 ha47 ⟨k47, rfl, hk47⟩
            refine ⟨rfl, _, (by repeat constructor), ?_⟩
            refine o_ (h:=?_)
            refine c0_ 12 rfl (s_store rfl rfl rfl rfl rfl rfl (by repeat constructor) (by repeat constructor) ?_)
            refine o_ (h:=da_ 13 (h:=?_))
            refine c0_ 14 rfl (s_store rfl rfl rfl rfl rfl rfl (by repeat constructor) (by repeat constructor) ?_)
            refine o_ (h:=da_ 15 (h:=z_ (h:=?_)))
            refine x_then ?_
            first
            | refine ⟨_, ⟨_, _, _, _, _, ?_, ?_, ?_, rfl⟩, (wk 4 0)⟩
            | refine ⟨_, ⟨_, _, _, _, _, ?_, ?_, ?_, rfl⟩, wr_ [0, 1, 3, 2]⟩
            · assumption
            · assumption
            · omega
        · refine s_alloc (by repeat constructor) ?_
          refine o_ (h:=?_)
          refine c_ 2 rfl (s_gen 0 (hc := Gfile l _ f (by omega) hf hne) (hR := ?_))
          rintro r a48 ha48 ⟨x48, rfl⟩
          refine ⟨rfl, _, (by repeat constructor), ?_⟩
          refine o_ (h:=?_)
          refine c_ 4 rfl (s_gen 0 (hc := Gname l _ (by omega)) (hR := ?_))
          rintro r a49 ha49 ⟨k49, rfl, hk49⟩
          refine ⟨rfl, _, (by repeat constructor), ?_⟩
          refine o_ (h:=?_)
          refine c_ 7 rfl (s_gen 0 (hc := Gfile l _ f (by omega) hf hne) (hR := ?_))
          rintro r a50 ha50 ⟨x50, rfl⟩
          refine ⟨rfl, _, (by repeat constructor), ?_⟩
          refine o_ (h:=?_)
          refine c_ 9 rfl (s_gen 0 (hc := Gname l _ (by omega)) (hR := ?_))
          rintro r a51 ha51 ⟨k51, rfl, hk51⟩
          refine ⟨rfl, _, (by repeat constructor), ?_⟩
          refine o_ (h:=?_)
          refine c0_ 12 rfl (s_store rfl rfl rfl rfl rfl rfl (by repeat constructor) (by repeat constructor) ?_)
          refine o_ (h:=da_ 13 (h:=?_))
          refine c0_ 14 rfl (s_store rfl rfl rfl rfl rfl rfl (by repeat constructor) (by repeat constructor) ?_)
          refine o_ (h:=da_ 15 (h:=z_ (h:=?_)))
          refine x_then ?_
          first
          | refine ⟨_, ⟨_, _, _, _, _, ?_, ?_, ?_, rfl⟩, (wk 4 0)⟩
          | refine ⟨_, ⟨_, _, _, _, _, ?_, ?_, ?_, rfl⟩, wr_ [0, 1, 3, 2]⟩
          · assumption
          · assumption
          · omega
      · refine s_alloc (by repeat constructor) ?_
        refine o_ (h:=?_)
        refine c2_ 2 10 rfl rfl ?_ ?_
        · refine s_gen 0 (hc := Gfile l _ f (by omega) hf hne) (hR := ?_)
          rintro r a52 ha52 ⟨x52, rfl⟩
          refine ⟨rfl, _, (by repeat constructor), ?_⟩
          refine o_ (h:=?_)
          refine c2_ 4 10 rfl rfl ?_ ?_
          · refine s_gen 0 (hc := Gname l _ (by omega)) (hR := ?_)
            rintro r a53 ha53 ⟨k53, rfl, hk53⟩
            refine ⟨rfl, _, (by repeat constructor), ?_⟩
            refine o_ (h:=?_)
            refine c2_ 7 10 rfl rfl ?_ ?_
            · refine s_gen 0 (hc := Gfile l _ f (by omega) hf hne) (hR := ?_)
              rintro r a54 ha54 ⟨x54, rfl⟩
              refine ⟨rfl, _, (by repeat constructor), ?_⟩
              refine o_ (h:=?_)
              refine c2_ 9 10 rfl rfl ?_ ?_
              · refine s_gen 0 (hc := Gname l _ (by omega)) (hR := ?_)
                rintro r a55 ha55 ⟨k55, rfl, hk55⟩
                refine ⟨rfl, _, (by repeat constructor), ?_⟩
                refine o_ (h:=?_)
                refine c_ 10 rfl (s_alloc (by repeat constructor) ?_)
                refine o_ (h:=?_)
                refine c0_ 12 rfl (s_store rfl rfl rfl rfl rfl rfl (by repeat constructor) (by repeat constructor) ?_)
                refine o_ (h:=da_ 13 (h:=?_))
                refine c0_ 14 rfl (s_store rfl rfl rfl rfl rfl rfl (by repeat constructor) (by repeat constructor) ?_)
                refine o_ (h:=da_ 15 (h:=z_ (h:=?_)))
                refine x_then ?_
                first
                | refine ⟨_, ⟨_, _, _, _, _, ?_, ?_, ?_, rfl⟩, (wk 4 0)⟩
                | refine ⟨_, ⟨_, _, _, _, _, ?_, ?_, ?_, rfl⟩, wr_ [0, 1, 3, 2]⟩
                · assumption
                · assumption
                · omega
              · refine s_alloc (by repeat constructor) ?_
                refine o_ (h:=?_)
                refine c_ 9 rfl (s_gen 0 (hc := Gname l _ (by omega)) (hR := ?_))
                rintro r a56 ha56 ⟨k56, rfl, hk56⟩
                refine ⟨rfl, _, (by repeat constructor), ?_⟩
                refine o_ (h:=?_)
                refine c0_ 12 rfl (s_store rfl rfl rfl rfl rfl rfl (by repeat constructor) (by repeat constructor) ?_)
                refine o_ (h:=da_ 13 (h:=?_))
                refine c0_ 14 rfl (s_store rfl rfl rfl rfl rfl rfl (by repeat constructor) (by repeat constructor) ?_)
                refine o_ (h:=da_ 15 (h:=z_ (h:=?_)))
                refine x_then ?_
                first
                | refine ⟨_, ⟨_, _, _, _, _, ?_, ?_, ?_, rfl⟩, (wk 4 0)⟩
                | refine ⟨_, ⟨_, _, _, _, _, ?_, ?_, ?_, rfl⟩, wr_ [0, 1, 3, 2]⟩
                · assumption
                · assumption
                · omega
            · refine s_alloc (by repeat constructor) ?_
              refine o_ (h:=?_)
              refine c_ 7 rfl (s_gen 0 (hc := Gfile l _ f (by omega) hf hne) (hR := ?_))
              rintro r a57 ha57 ⟨x57, rfl⟩
              refine ⟨rfl, _, (by repeat constructor), ?_⟩
              refine o_ (h:=?_)
              refine c_ 9 rfl (s_gen 0 (hc := Gname l _ (by omega)) (hR := ?_))
              rintro r a58 ha58 ⟨k58, rfl, hk58⟩
              refine ⟨rfl, _, (by repeat constructor), ?_⟩
              refine o_ (h:=?_)
              refine c0_ 12 rfl (s_store rfl rfl rfl rfl rfl rfl (by repeat constructor) (by repeat constructor) ?_)
              refine o_ (h:=da_ 13 (h:=?_))
              refine c0_ 14 rfl (s_store rfl rfl rfl rfl rfl rfl (by repeat constructor) (by repeat constructor) ?_)
              refine o_ (h:=da_ 15 (h:=z_ (h:=?_)))
              refine x_then ?_
              first
              | refine ⟨_, ⟨_, _, _, _, _, ?_, ?_, ?_, rfl⟩, (wk 4 0)⟩
              | refine ⟨_, ⟨_, _, _, _, _, ?_, ?_, ?_, rfl⟩, wr_ [0, 1, 3, 2]⟩
              · assumption
              · assumption
              · omega
          · refine s_alloc (by repeat constructor) ?_
            refine o_ (h:=?_)
            refine c_ 4 rfl (s_gen 0 (hc := Gname l _ (by omega)) (hR := ?_))
            rintro r a59 ha59 ⟨k59, rfl, hk59⟩
            refine ⟨rfl, _, (by repeat constructor), ?_⟩
            refine o_ (h:=?_)
            refine c_ 7 rfl (s_gen 0 (hc := Gfile l _ f (by omega) hf hne) (hR := ?_))
            rintro r a60 ha60 ⟨x60, rfl⟩
            refine ⟨rfl, _, (by repeat constructor), ?_⟩
            refine o_ (h:=?_)
            refine c_ 9 rfl (s_gen 0 (hc := Gname l _ (by omega)) (hR := ?_))
            rintro r a61 ha61 ⟨k61, rfl, hk61⟩
            refine ⟨rfl, _, (by repeat constructor), ?_⟩
            refine o_ (h:=?_)
            refine c0_ 12 rfl (s_store rfl rfl rfl rfl rfl rfl (by repeat constructor) (by repeat constructor) ?_)
            refine o_ (h:=da_ 13 (h:=?_))
            refine c0_ 14 rfl (s_store rfl rfl rfl rfl rfl rfl (by repeat constructor) (by repeat constructor) ?_)
            refine o_ (h:=da_ 15 (h:=z_ (h:=?_)))
            refine x_then ?_
            first
            | refine ⟨_, ⟨_, _, _, _, _, ?_, ?_, ?_, rfl⟩, (wk 4 0)⟩
            | refine ⟨_, ⟨_, _, _, _, _, ?_, ?_, ?_, rfl⟩, wr_ [0, 1, 3, 2]⟩
            · assumption
            · assumption
            · omega
        · refine s_alloc (by repeat constructor) ?_
          refine o_ (h:=?_)
          refine c_ 2 rfl (s_gen 0 (hc := Gfile l _ f (by omega) hf hne) (hR := ?_))
          rintro r a62 ha62 ⟨x62, rfl⟩
          refine ⟨rfl, _, (by repeat constructor), ?_⟩
          refine o_ (h:=?_)
          refine c_ 4 rfl (s_gen 0 (hc := Gname l _ (by omega)) (hR := ?_))
          rintro r a63 ha63 ⟨k63, rfl, hk63⟩
          refine ⟨rfl, _, (by repeat constructor), ?_⟩
          refine o_ (h:=?_)
          refine c_ 7 rfl (s_gen 0 (hc := Gfile l _ f (by omega) hf hne) (hR := ?_))
          rintro r a64 ha64 ⟨x64, rfl⟩
          refine ⟨rfl, _, (by repeat constructor), ?_⟩
          refine o_ (h:=?_)
          refine c_ 9 rfl (s_gen 0 (hc := Gname l _ (by omega)) (hR := ?_))
          rintro r a65 ha65 ⟨k65, rfl, hk65⟩
          refine ⟨rfl, _, (by repeat constructor), ?_⟩
          refine o_ (h:=?_)
          refine c0_ 12 rfl (s_store rfl rfl rfl rfl rfl rfl (by repeat constructor) (by repeat constructor) ?_)
          refine o_ (h:=da_ 13 (h:=?_))
          refine c0_ 14 rfl (s_store rfl rfl rfl rfl rfl rfl (by repeat constructor) (by repeat constructor) ?_)
          refine o_ (h:=da_ 15 (h:=z_ (h:=?_)))
          refine x_then ?_
          first
          | refine ⟨_, ⟨_, _, _, _, _, ?_, ?_, ?_, rfl⟩, (wk 4 0)⟩
          | refine ⟨_, ⟨_, _, _, _, _, ?_, ?_, ?_, rfl⟩, wr_ [0, 1, 3, 2]⟩
          · assumption
          · assumption
          · omega
    · rintro t ⟨x, y, k, k2, b2, hk, hk2, hb2, rfl⟩
      have hb := okay_b (rename_okay hv x k y k2) (ren_errs f x k y k2).1
      refine w_ (l_ (h:=l_ (h:=m_ (h:=l_ (h:=m_ (h:=?_))))))
      refine al_p rfl (q_call (Prename f x k y k2 hv) ?_)
      rintro r rfl
      refine m_ (h:=x_ (h:=x_ (h:=x_ (h:=al_ (h:=s_ (h:=a_ (h:=a_ (h:=e_ (w_ (l_ (h:=l_ (h:=m_ (h:=l_ (h:=m_ (h:=?_)))))))))))))))
      refine al_p rfl (q_call (Rrename f x k y k2 hv (by omega) (by omega)) ?_)
      rintro r rfl
      refine m_ (h:=x_ (h:=x_ (h:=x_ (h:=al_ (h:=s_ (h:=a_ (h:=a_ (h:=e_ (w_ (l_ (h:=m_ (h:=m_ (h:=l_ (h:=m_ (h:=m_ (h:=?_))))))))))))))))
      refine al_p rfl (q_call (Lbad (renameL f x k y k2) hb (ren_errs f x k y k2).2) ?_)
      rintro r rfl
      refine e_ (?_)
      refine aw_cond rfl (fun hb2 => ?_) (fun hb2 => ?_)
      · have hc2 := bp hb2
        exfalso; first | contradiction | omega
      · have hc2 := bp hb2
        refine aw_skip (x_blockN (t_ (aw_region (m_ (h:=ad_ (h:=a_ (h:=al_nil (?_))))))))
        refine x_then ?_
        refine ⟨_, _, ?_, ⟨j + 1, _, by omega, rfl, ?_, rfl⟩, (wk 2 0)⟩ <;> omega
  · have hc1 := bp hb1
    refine aw_exit (x_thenE (x_thenE (ABlock_out (t_ (w_ (?_))))))
    refine al_p rfl (q_call (Lawake5) ?_)
    rintro r rfl
    refine a_ (h:=e_ (aw_ret (?_)))
    refine e_ret ?_
    rfl

end
end Go.Proofs.Ythcbdkmhamhciaa
namespace Go.Proofs.Ythcbdkmhamhciaa
open Go.RowKit

def StAll (w : World) : Nat → Nat → Prop := fun b _ => b < w.heap.size
def Opens (P : Program) (t : TypeId) (R : List AV → Prop) : Prop :=
  ∀ (H : Type) (enc : TypeId × Value → H) (w : World) (base : Nat) (spare : Nat → Bool) (held : Bool) (fuel : Nat) (cs : List Value) (x : DataW H × List MemPlace), DataW.trod enc P w base spare held fuel t cs = some x →
    ∃ row, R row ∧ froL (StAll w) w row cs ∧ ∀ u ∈ cs, u.oneCell' = true
section
variable {P : Program} {t : TypeId}
theorem Opens.mono {R R' : List AV → Prop} (h : Opens P t R) (hR : ∀ r, R r → R' r) : Opens P t R' := by
  intro H enc w base spare held fuel cs x hx
  obtain ⟨row, h1, h2⟩ := h H enc w base spare held fuel cs x hx
  exact ⟨row, hR _ h1, h2⟩
theorem opens_int {k : IntKind} (ht : P.underlying t = some (.int k)) : Opens P t fun r => ∃ n, r = [.v (.int k n)] ∧ (Lit.int k n).wf = true := by
  intro H enc w base spare held fuel cs x hx
  obtain ⟨b, rfl, _, hw⟩ := DataW.trod_int ht hx
  exact ⟨_, ⟨b, rfl, hw⟩, ⟨_, _, rfl, by simp only [fro], by simp only [froL]⟩, by simp [Value.oneCell']⟩
theorem cell_lt' {w : World} {b o : Nat} {v : Value} (h : w.cell? ⟨b, o, none⟩ = some v) : b < w.heap.size := by
  rcases Nat.lt_or_ge b w.heap.size with hlt | hge
  · exact hlt
  · simp [World.cell?, Array.getElem?_eq_none hge] at h
theorem froL_length' {St : Nat → Nat → Prop} {w : World} {xs : List AV} {ys : List Value} (h : froL St w xs ys) : ys.length = xs.length := repL_length (G := ⟨St, [], []⟩) (repL_fro (G := ⟨St, [], []⟩) _ _ h)
theorem opens_slice {e : TypeId} {n : Nat} {R : List AV → Prop} (ht : P.underlying t = some (.slice e)) (hc : P.cellsOf e = n) (hn : 0 < n) (h : Opens P e R) : Opens P t fun r => ∃ rows, r = [.sl n rows none] ∧ rows.length ≤ maxLen ∧ ∀ x ∈ rows, R x := by
  intro H enc w base spare held fuel cs x hx
  rcases DataW.trod_slice ht hx with ⟨rfl, _⟩ | ⟨⟨b, off, spot⟩, len, cap, elems, rest, m, rfl, rfl, _, hb, hl, hm, hlen, hel, _, _⟩
  · exact ⟨_, ⟨[], rfl, Nat.zero_le _, by simp⟩, ⟨_, _, rfl, by simp only [fro]; exact ⟨trivial, none, 0, rfl, Nat.le_refl _, Nat.zero_le _, .inl trivial⟩, by simp only [froL]⟩, by simp [Value.oneCell']⟩
  · have each : ∀ i, i < len → ∃ row cs', R row ∧ row.length = n ∧ froL (StAll w) w row cs' ∧ (∀ u ∈ cs', u.oneCell' = true) ∧ cs'.length = n ∧ ∀ j, j < n → w.cell? (Addr.add ⟨b, off, spot⟩ (i * n + j)) = cs'[j]? := by
      intro i hi
      have h1 := hel i hi
      rw [hc, List.getElem?_eq_getElem (by omega), Option.bind_eq_some_iff] at h1
      obtain ⟨cs', h2, h3⟩ := h1
      obtain ⟨row, r1, r2, r3⟩ := h _ _ _ _ _ _ _ _ _ h3
      obtain ⟨_, c1, c2⟩ := World.cells?_some h2
      refine ⟨row, cs', r1, by rw [← froL_length' r2, c1], r2, r3, c1, fun j hj => ?_⟩
      have := c2 j hj
      rwa [Addr.add_add] at this
    have hrows : ∃ rows : List (List AV), rows.length = len ∧ (∀ i, i < len → ∃ row cs', rows[i]? = some row ∧ R row ∧ row.length = n ∧ froL (StAll w) w row cs' ∧ (∀ u ∈ cs', u.oneCell' = true) ∧ cs'.length = n ∧ ∀ j, j < n → w.cell? (Addr.add ⟨b, off, spot⟩ (i * n + j)) = cs'[j]?) := by
      clear hel
      have : ∀ k, k ≤ len → ∃ rows : List (List AV), rows.length = k ∧ (∀ i, i < k → ∃ row cs', rows[i]? = some row ∧ R row ∧ row.length = n ∧ froL (StAll w) w row cs' ∧ (∀ u ∈ cs', u.oneCell' = true) ∧ cs'.length = n ∧ ∀ j, j < n → w.cell? (Addr.add ⟨b, off, spot⟩ (i * n + j)) = cs'[j]?) := by
        intro k
        induction k with
        | zero => intro _; exact ⟨[], rfl, fun i hi => by omega⟩
        | succ k ih =>
          intro hk
          obtain ⟨rows, e1, e2⟩ := ih (by omega)
          obtain ⟨row, cs', q⟩ := each k (by omega)
          refine ⟨rows ++ [row], by simp [e1], fun i hi => ?_⟩
          rcases Nat.lt_or_ge i k with hlt | hge
          · obtain ⟨row', cs'', q1, q2⟩ := e2 i hlt
            exact ⟨row', cs'', by rw [List.getElem?_append_left (by omega)]; exact q1, q2⟩
          · obtain rfl : i = k := by omega
            exact ⟨row, cs', by rw [List.getElem?_append_right (by omega), e1]; simp, q⟩
      exact this len (Nat.le_refl _)
    obtain ⟨rows, e1, e2⟩ := hrows
    refine ⟨_, ⟨rows, rfl, by omega, fun x hx => ?_⟩, ⟨_, _, rfl, ?_, by simp only [froL]⟩, by simp [Value.oneCell']⟩
    · obtain ⟨i, hi⟩ := List.getElem?_of_mem hx
      obtain ⟨row, _, q1, q2, _⟩ := e2 i (by rw [← e1]; exact (List.getElem?_eq_some_iff.1 hi).1)
      rw [hi] at q1
      injection q1 with q1
      subst q1
      exact q2
    · simp only [fro]
      refine ⟨trivial, some ⟨b, off, spot⟩, cap, by rw [e1], by omega, hm, ?_⟩
      rcases Nat.eq_zero_or_pos len with h0 | h0
      · left; exact List.eq_nil_of_length_eq_zero (by omega)
      · right
        have hspot : spot = none := by
          obtain ⟨_, cs', _, _, _, _, _, c3, c4⟩ := e2 0 h0
          have := c4 0 hn
          rw [List.getElem?_eq_getElem (by omega)] at this
          simpa [Addr.add] using World.cell?_spot this
        subst hspot
        refine ⟨b, off, rfl, ?_⟩
        have : ∀ (rs : List (List AV)) (k : Nat), (∀ i r, rs[i]? = some r → rows[k + i]? = some r) → froR (StAll w) w b n rs (off + k * n) := by
          intro rs
          induction rs with
          | nil => intro k _; simp only [froR]
          | cons r rs ih =>
            intro k hk
            simp only [froR]
            have h1 := hk 0 r rfl
            rw [Nat.add_zero] at h1
            obtain ⟨row, cs', q1, _, q3, q4, q5, q6, q7⟩ := e2 k (by rw [← e1]; exact (List.getElem?_eq_some_iff.1 h1).1)
            rw [h1] at q1
            injection q1 with q1
            subst q1
            refine ⟨⟨q3, froC_of fun i x hi => ?_⟩, ?_⟩
            · obtain ⟨u, u1, u2⟩ := froL_get q4 hi
              have hin : i < n := by rw [← q3]; exact (List.getElem?_eq_some_iff.1 hi).1
              have hc := q7 i hin
              rw [u1] at hc
              have hc' : w.cell? ⟨b, off + k * n + i, none⟩ = some u := by rw [Addr.add_mid] at hc; rwa [Nat.add_assoc]
              exact ⟨cell_lt' hc', u, hc', q5 u (List.mem_of_getElem? u1), u2⟩
            · have := ih (k + 1) (fun i r' hi => by
                have := hk (i + 1) r' (by simpa using hi)
                rwa [show k + 1 + i = k + (i + 1) by omega])
              rwa [show off + (k + 1) * n = off + k * n + n by rw [Nat.add_mul]; omega] at this
        simpa using this rows 0 (fun i r hi => by simpa using hi)
theorem rows_map {α : Type} {enc : α → List AV} {Q : α → Prop} : ∀ {rows : List (List AV)}, (∀ x ∈ rows, ∃ a, x = enc a ∧ Q a) → ∃ l : List α, rows = l.map enc ∧ ∀ a ∈ l, Q a
  | [], _ => ⟨[], rfl, by simp⟩
  | r :: rs, h => by
    obtain ⟨a, rfl, ha⟩ := h r (by simp)
    obtain ⟨l, rfl, hl⟩ := rows_map (rows := rs) fun x hx => h x (by simp [hx])
    exact ⟨a :: l, rfl, by simpa using ⟨ha, hl⟩⟩
theorem Opens.one {R : List AV → Prop} (h : Opens P t R) {H : Type} {enc : TypeId × Value → H} {w : World} {base : Nat} {spare : Nat → Bool} {held : Bool} {v : Value} {d : DataW H} {ps : List MemPlace} (hv : v.cells = #[v]) (hd : DataW.Trod enc P w base spare held t v d ps) :
    ∃ row, R row ∧ froL (StAll w) w row [v] := by
  obtain ⟨fuel, hf⟩ := hd
  rw [hv] at hf
  obtain ⟨row, h1, h2, _⟩ := h _ _ _ _ _ _ _ _ _ hf
  exact ⟨row, h1, h2⟩
end
end Go.Proofs.Ythcbdkmhamhciaa
namespace Go.Proofs.Ythcbdkmhamhciaa
open Go.RowKit

theorem opInts : Opens Try.prog 31 (fun r => ∃ l : List Int, r = [.sl 1 (l.map intA) none]) :=
  (opens_slice (n := 1) Try.underlying31 (by kernel_rfl) (by omega) (opens_int Try.underlying3)).mono (by
    rintro r ⟨rows, rfl, _, hr⟩
    obtain ⟨l, rfl, _⟩ := rows_map (enc := intA) (Q := fun _ => True) (fun x hx => by obtain ⟨t, rfl, _⟩ := hr x hx; exact ⟨t, rfl, trivial⟩)
    exact ⟨l, rfl⟩)
theorem ints_one {H : Type} {enc : TypeId × Value → H} {sp : Nat → Bool} {held : Bool} {base : Nat} {w : World} {a : Option Addr} {n c : Nat} {d : DataW H} {p : List MemPlace} (h : DataW.Trod enc Try.prog w base sp held 31 (.slice a n c) d p) :
    ∃ l : List Int, rep ⟨StAll w, [], []⟩ w (.sl 1 (l.map intA) none) (.slice a n c) := by
  obtain ⟨r0, ⟨l, rfl⟩, k0⟩ := opInts.one rfl h
  simp only [froL] at k0
  obtain ⟨_, _, e0, k0, rfl⟩ := k0
  injection e0 with e0
  subst e0
  exact ⟨l, rep_fro (G := ⟨StAll w, [], []⟩) _ _ k0⟩
theorem walk_ints {f : FuncId} (hf : ∀ l : List Int, AFn Try.prog f [.sl 1 (l.map intA) none] (fun x => x = .v (.bool true))) {H : Type} {enc : TypeId × Value → H} {sp : Nat → Bool} {held : Bool} {base : Nat} (a : Option Addr) (n c : Nat) (w : World) {d : DataW H} {p : List MemPlace}
    (h : DataW.Trod enc Try.prog w base sp held 31 (.slice a n c) d p) : Calls Try.prog f #[.slice a n c] w fun e w' => e = .returned (.bool true) ∧ Below w.heap.size w w' := by
  obtain ⟨l, k⟩ := ints_one h
  refine calls_of (vs := [.slice a n c]) (hf l) (StAll w) (fun b o h => h) ?_
  simp only [repL]
  exact ⟨_, _, rfl, k, rfl⟩
end Go.Proofs.Ythcbdkmhamhciaa
namespace Go.Proofs.Ythcbdkmhamhciaa
open Go.RowKit
theorem FilesRenames_walk {H : Type} {enc : TypeId × Value → H} {sp : Nat → Bool} {held : Bool} {base : Nat} (a : Option Addr) (n c : Nat) (w : World) {d : DataW H} {p : List MemPlace} (h : DataW.Trod enc Try.prog w base sp held 31 (.slice a n c) d p) :
    Calls Try.prog 11 #[.slice a n c] w fun e w' => e = .returned (.bool true) ∧ Below w.heap.size w w' := walk_ints Lrenames a n c w h
end Go.Proofs.Ythcbdkmhamhciaa
