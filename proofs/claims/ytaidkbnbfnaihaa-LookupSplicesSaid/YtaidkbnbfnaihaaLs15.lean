/-
  Part 15 of the proof of LookupSplicesP: what the statement's proof uses of the texts in wip/tpl.
-/
import Derived.Test.YtaidkbnbfnaihaaLs14
namespace Go.Proofs.Ytaidkbnbfnaihaa
open Go.RowKit

theorem flsV_spc {f : Fls} (h : FlsV f) (h0 : 0 < f.length) : SpcV ⟨f, []⟩ := ⟨h, h0, fun i m hm => by cases hm⟩
theorem aw7_le : LeA (.agg [.sl 2 (aw7F2.map dvcA) none, .v (.slice none 0 0)]) (.agg (spcA ⟨aw7F2, []⟩)) := LeA.agg (LeL.cons (LeA.refl _) (LeL.cons (LeA.nil _) LeL.nil))
theorem aw7_spc : SpcV ⟨aw7F2, []⟩ := flsV_spc aw7_valid.2 (by decide +kernel)
section
set_option maxRecDepth 10000
set_option maxHeartbeats 1000000
theorem Lawake7 : AFn Try.prog 16 [] (fun r => r = .v (.bool true)) := by
  have hnew : AFn Try.prog 21 [.v (.int .i64 1)] (fun r => r = .tup [.agg (flsA (newL 1).1), .v (.int .i64 0)]) := Rnew 1
  obtain ⟨c1, hmk1⟩ : ∃ c1, AFn Try.prog 19 [.agg (flsA (newL 1).1), .agg [.v (.int .i64 0), .v (.int .i64 1)], .v (.string ⟨#[102]⟩), .agg (nodA ⟨0, 1, 420, 0, 0, 0, ⟨#[]⟩, []⟩)] (fun r => r = .tup [.agg (flsA aw7F1), .sl 7 (List.map chgA c1) none, .v (.int .i64 0)]) :=
    ⟨_, (Rmake (newL 1).1 (0, 1) ⟨#[102]⟩ ⟨0, 1, 420, 0, 0, 0, ⟨#[]⟩, []⟩ new_valid1 (by decide) (by decide)).mono fun r hr => by rw [hr]; unfold chgR; rw [aw7_make.1]; rfl⟩
  obtain ⟨c2, hmk2⟩ : ∃ c2, AFn Try.prog 19 [.agg (flsA aw7F1), .agg [.v (.int .i64 0), .v (.int .i64 1)], .v (.string ⟨#[108]⟩), .agg (nodA ⟨0, 3, 511, 0, 0, 0, ⟨#[102]⟩, []⟩)] (fun r => r = .tup [.agg (flsA aw7F2), .sl 7 (List.map chgA c2) none, .v (.int .i64 0)]) :=
    ⟨_, (Rmake aw7F1 (0, 1) ⟨#[108]⟩ ⟨0, 3, 511, 0, 0, 0, ⟨#[102]⟩, []⟩ aw7_valid.1 (by decide) (by decide)).mono fun r hr => by rw [hr]; unfold chgR; rw [aw7_make.2]; rfl⟩
  obtain ⟨⟨d1, n1, ⟨f1, g1⟩, e1, s1, p1⟩, hx1⟩ : ∃ x : Fnd, (findL ⟨aw7F2, []⟩ (0, 1) ⟨#[47, 108]⟩ true).1 = x := ⟨_, rfl⟩
  obtain ⟨⟨d2, n2, ⟨f2, g2⟩, e2, s2, p2⟩, hx2⟩ : ∃ x : Fnd, (findL ⟨aw7F2, []⟩ (0, 1) ⟨#[47, 108]⟩ false).1 = x := ⟨_, rfl⟩
  obtain ⟨y1, y2, y3⟩ := aw7_yes
  obtain ⟨z1, z2, z3⟩ := aw7_no
  rw [hx1] at y2 y3
  rw [hx2] at z2 z3
  simp only at y2 y3 z2 z3
  subst y2 y3 z2 z3
  have hf1 : AFn Try.prog 11 [.agg (spcA ⟨aw7F2, []⟩), .agg [.v (.int .i64 0), .v (.int .i64 1)], .v (.string ⟨#[47, 108]⟩), .v (.bool true)] (fun r => r = .tup [.agg (fndA ⟨d1, n1, (f1, 2), e1, s1, ⟨#[47, 102]⟩⟩), .v (.int .i64 0)]) :=
    (Pfind7 ⟨aw7F2, []⟩ (0, 1) ⟨#[47, 108]⟩ true (aw7_spc.n (by decide)) aw7_spc (by decide)).mono fun r hr => by rw [hr, hx1, y1]
  have hf2 : AFn Try.prog 11 [.agg (spcA ⟨aw7F2, []⟩), .agg [.v (.int .i64 0), .v (.int .i64 1)], .v (.string ⟨#[47, 108]⟩), .v (.bool false)] (fun r => r = .tup [.agg (fndA ⟨d2, n2, (f2, 3), e2, s2, ⟨#[47, 108]⟩⟩), .v (.int .i64 0)]) :=
    (Pfind7 ⟨aw7F2, []⟩ (0, 1) ⟨#[47, 108]⟩ false (aw7_spc.n (by decide)) aw7_spc (by decide)).mono fun r hr => by rw [hr, hx2, z1]
  clear hx1 hx2 y1 z1
  refine enter Try.func16 rfl rfl rfl rfl rfl 0 rfl ?_
  refine w_ (a_ (h:=e_ (w_ (?_))))
  refine al_p rfl (q_call (hnew) ?_)
  rintro r rfl
  refine m_ (h:=x_ (h:=x_ (h:=al_ (h:=s_ (h:=a_ (h:=e_ (w_ (bd_ (h:=al_ (h:=s_ (h:=e_ (w_ (l_ (h:=l_ (h:=?_)))))))))))))))
  refine al_p rfl (st_le (y := .agg (nodA ⟨0, 1, 420, 0, 0, 0, ⟨#[]⟩, []⟩)) (st_build (by repeat (first | exact FillA.nil _ | (apply FillA.cons; (focus exact rfl); (focus exact rfl); (focus exact rfl); (focus exact rfl); (focus exact rfl); (focus (repeat constructor))))) ⟨rfl, rfl⟩) (by repeat (first | exact LeA.refl _ | exact LeA.nil _ | exact LeL.refl _ | refine LeA.agg ?_ | refine LeA.tup ?_ | exact LeL.nil | refine LeL.cons ?_ ?_ | exact LeA.any _)) ?_)
  refine al_p rfl (q_call (hmk1) ?_)
  rintro r rfl
  refine m_ (h:=x_ (h:=x_ (h:=x_ (h:=s_ (h:=e_ (w_ (l_ (h:=l_ (h:=?_)))))))))
  refine al_p rfl (st_le (y := .agg (nodA ⟨0, 3, 511, 0, 0, 0, ⟨#[102]⟩, []⟩)) (st_build (by repeat (first | exact FillA.nil _ | (apply FillA.cons; (focus exact rfl); (focus exact rfl); (focus exact rfl); (focus exact rfl); (focus exact rfl); (focus (repeat constructor))))) ⟨rfl, rfl⟩) (by repeat (first | exact LeA.refl _ | exact LeA.nil _ | exact LeL.refl _ | refine LeA.agg ?_ | refine LeA.tup ?_ | exact LeL.nil | refine LeL.cons ?_ ?_ | exact LeA.any _)) ?_)
  refine al_p rfl (q_call (hmk2) ?_)
  rintro r rfl
  refine m_ (h:=x_ (h:=x_ (h:=x_ (h:=s_ (h:=e_ (w_ (l_ (h:=?_))))))))
  refine al_p rfl (st_le (y := .agg (spcA ⟨aw7F2, []⟩)) (st_build (by repeat (first | exact FillA.nil _ | (apply FillA.cons; (focus exact rfl); (focus exact rfl); (focus exact rfl); (focus exact rfl); (focus exact rfl); (focus (repeat constructor))))) ⟨rfl, rfl⟩) aw7_le ?_)
  refine l_ (h:=?_)
  refine al_p rfl (q_call (hf1) ?_)
  rintro r rfl
  refine m_ (h:=x_ (h:=x_ (h:=al_ (h:=s_ (h:=a_ (h:=e_ (w_ (l_ (h:=?_)))))))))
  refine al_p rfl (st_le (y := .agg (spcA ⟨aw7F2, []⟩)) (st_build (by repeat (first | exact FillA.nil _ | (apply FillA.cons; (focus exact rfl); (focus exact rfl); (focus exact rfl); (focus exact rfl); (focus exact rfl); (focus (repeat constructor))))) ⟨rfl, rfl⟩) aw7_le ?_)
  refine l_ (h:=?_)
  refine al_p rfl (q_call (hf2) ?_)
  rintro r rfl
  refine m_ (h:=x_ (h:=x_ (h:=al_ (h:=s_ (h:=a_ (h:=e_ (w_ (m_ (h:=eq_ (h:=m_ (h:=?_)))))))))))
  refine al_gs true rfl rfl (fun hb1 => ?_) (fun hb1 => ?_)
  · have hc1 := bp hb1
    refine m_ (h:=eq_ (h:=pt_ (h:=m_ (h:=?_))))
    refine al_gs true rfl rfl (fun hb2 => ?_) (fun hb2 => ?_)
    · have hc2 := bp hb2
      refine f_ (h:=l_ (h:=eq_ (h:=pt_ (h:=m_ (h:=?_)))))
      refine al_gs true rfl rfl (fun hb3 => ?_) (fun hb3 => ?_)
      · have hc3 := bp hb3
        refine f_ (h:=l_ (h:=eq_ (h:=pt_ (h:=m_ (h:=?_)))))
        refine al_gs true rfl rfl (fun hb4 => ?_) (fun hb4 => ?_)
        · have hc4 := bp hb4
          refine f_ (h:=f_ (h:=l_ (h:=eq_ (h:=pt_ (h:=m_ (h:=?_))))))
          refine al_gs true rfl rfl (fun hb5 => ?_) (fun hb5 => ?_)
          · have hc5 := bp hb5
            refine f_ (h:=f_ (h:=l_ (h:=eq_ (h:=pt_ (h:=a_ (h:=e_ (aw_ret (?_))))))))
            refine e_ret ?_
            first | rfl | (exfalso; simp_all)
          · have hc5 := bp hb5
            refine g0_ (h:=g0_ (h:=g0_ (h:=g0_ (h:=pf_ (h:=a_ (h:=e_ (aw_ret (?_))))))))
            refine e_ret ?_
            first | rfl | (exfalso; simp_all)
        · have hc4 := bp hb4
          refine g0_ (h:=g0_ (h:=g0_ (h:=g0_ (h:=pf_ (h:=m_ (h:=g0_ (h:=g0_ (h:=g0_ (h:=g0_ (h:=pf_ (h:=a_ (h:=e_ (aw_ret (?_))))))))))))))
          refine e_ret ?_
          first | rfl | (exfalso; simp_all)
      · have hc3 := bp hb3
        refine g0_ (h:=g0_ (h:=g0_ (h:=pf_ (h:=m_ (h:=g0_ (h:=g0_ (h:=g0_ (h:=g0_ (h:=pf_ (h:=m_ (h:=g0_ (h:=g0_ (h:=g0_ (h:=g0_ (h:=pf_ (h:=a_ (h:=e_ (aw_ret (?_)))))))))))))))))))
        refine e_ret ?_
        first | rfl | (exfalso; simp_all)
    · have hc2 := bp hb2
      refine g0_ (h:=g0_ (h:=g0_ (h:=pf_ (h:=m_ (h:=g0_ (h:=g0_ (h:=g0_ (h:=pf_ (h:=m_ (h:=g0_ (h:=g0_ (h:=g0_ (h:=g0_ (h:=pf_ (h:=m_ (h:=g0_ (h:=g0_ (h:=g0_ (h:=g0_ (h:=pf_ (h:=a_ (h:=e_ (aw_ret (?_))))))))))))))))))))))))
      refine e_ret ?_
      first | rfl | (exfalso; simp_all)
  · have hc1 := bp hb1
    refine g0_ (h:=g0_ (h:=pf_ (h:=m_ (h:=g0_ (h:=g0_ (h:=g0_ (h:=pf_ (h:=m_ (h:=g0_ (h:=g0_ (h:=g0_ (h:=pf_ (h:=m_ (h:=g0_ (h:=g0_ (h:=g0_ (h:=g0_ (h:=pf_ (h:=m_ (h:=g0_ (h:=g0_ (h:=g0_ (h:=g0_ (h:=?_))))))))))))))))))))))))
    refine pf_ (h:=a_ (h:=e_ (aw_ret (?_))))
    refine e_ret ?_
    first | rfl | (exfalso; simp_all)

end
end Go.Proofs.Ytaidkbnbfnaihaa
namespace Go.Proofs.Ytaidkbnbfnaihaa
open Go.RowKit

def fndV (x : Fnd) : List Value := [.int .i64 x.dir.1, .int .i64 x.dir.2, .string x.name, .int .i64 x.file.1, .int .i64 x.file.2, .bool x.ex, .bool x.slash, .string x.path]
set_option maxRecDepth 10000 in
set_option maxHeartbeats 1000000 in
theorem eqFnd (x : Fnd) (w : World) : (binOp .eql 35 (.agg (fndV x).toArray) (.agg (fndV x).toArray)).run Try.prog w = .ok (.bool true) w := by
  have u3 := Try.underlying3
  have a3 := Try.isAgg3
  have z3 := Try.sizeOf3
  have u4 := Try.underlying4
  have a4 := Try.isAgg4
  have z4 := Try.sizeOf4
  have u9 := Try.underlying9
  have a9 := Try.isAgg9
  have z9 := Try.sizeOf9
  have u5 := Try.underlying33
  have a5 := Try.isAgg33
  have z5 := Try.sizeOf33
  have hS : Try.prog.underlying 35 = some (.struct (Try.prog.fieldsOf 35)) := by kernel_rfl
  have hp : Try.prog.stoodInHeld 35 = false := by kernel_rfl
  have hSF : Try.prog.underlying 33 = some (.struct (Try.prog.fieldsOf 33)) := by kernel_rfl
  have hpF : Try.prog.stoodInHeld 33 = false := by kernel_rfl
  have eF : ∀ (d : Nat) (a b : Int) (w : World), (Op.equalIn (d + 2) 33 (.agg #[.int .i64 a, .int .i64 b]) (.agg #[.int .i64 a, .int .i64 b])).run Try.prog w = .ok true w := by
    intro d a b w
    rw [run_equalIn_agg w (d + 1) 33 _ _ hSF hpF]
    simp only [Program.fieldsOf, Try.underlying33]
    go_simp
  have e : ∀ w, (Op.equalIn 10000 35 (.agg (fndV x).toArray) (.agg (fndV x).toArray)).run Try.prog w = .ok true w := by
    intro w
    rw [show (10000 : Nat) = 9999 + 1 from rfl, run_equalIn_agg w 9999 35 _ _ hS hp]
    simp only [Program.fieldsOf, Try.underlying35, fndV]
    go_simp
  rw [run_eql_struct, e]
  rfl
theorem allV_fnd (x : Fnd) : AllV (fndA x) (fndV x) := by repeat constructor
theorem st_eqF {ev : Operand → Option AV} {h : AH} {R : AV → AH → Prop} {d : Option Tmp} {ty : TypeId} {pos : String} {af : Array Edge} {gd : Option (Nat × Bool)} {yT : TypeId} {x y : Operand} (z : Fnd) (hx : ev x = some (.agg (fndA z))) (hy : ev y = some (.agg (fndA z))) (hR : R (.v (.bool true)) h) : AStep Try.prog ⟨d, .binOp .eql 35 x y yT, ty, pos, af, gd⟩ ev h R :=
  st_binA hx hy (allV_fnd z) (allV_fnd z) (fun w => eqFnd z w) (by kernel_rfl) hR
end Go.Proofs.Ytaidkbnbfnaihaa
namespace Go.Proofs.Ytaidkbnbfnaihaa
open Go.RowKit

theorem hd_false {p : Str} (h0 : 0 < p.size) (h : ¬ ((p[0]'h0).toNat : Int) = 47) : hdL p = false := by rw [hd_pos h0]; exact decide_eq_false h
theorem ne_size {p : Str} (h : ¬ (p.size : Int) = 0) : p ≠ ⟨#[]⟩ := fun e => h (by rw [e]; rfl)
theorem cov_noneS {s : Spc} {a : Fil} (h : (covL s a).isSome = false) : covL s a = none := by
  cases hc : covL s a with
  | none => rfl
  | some d => rw [hc] at h; cases h
section
set_option maxRecDepth 10000
set_option maxHeartbeats 2000000
theorem Lsplices7 (l : List Int) : AFn Try.prog 6 [.sl 1 (l.map intA) none] (fun r => r = .v (.bool true)) := by
  refine enter Try.func6 rfl rfl rfl rfl rfl 0 rfl ?_
  refine w_ (a_ (h:=e_ (w_ (m_ (h:=?_)))))
  refine al_p rfl (s_callN rfl (by repeat (first | exact Args.nil | refine Args.cons _ _ _ _ _ rfl (argOk_clean rfl) ?_ | refine Args.cons _ _ _ _ _ rfl (argOk_nil _) ?_ | refine Args.cons _ _ _ _ _ rfl (argOk_era _) ?_ | refine Args.cons _ _ _ _ _ rfl (argOk_le rfl (by repeat (first | exact LeA.refl _ | exact LeA.nil _ | exact LeL.refl _ | refine LeA.agg ?_ | refine LeA.tup ?_ | exact LeL.nil | refine LeL.cons ?_ ?_ | exact LeA.any _))) ?_)) rfl (Gnew l) (by repeat constructor) ?_)
  skip
  refine a_ (h:=e_ (w_ (m_ (h:=?_))))
  refine al_p rfl (s_gen 0 (hc := Gspace l _ (by omega)) (hR := ?_))
  rintro r a1 ha1 ⟨x, rfl, hv, hm⟩
  refine ⟨rfl, _, (by repeat constructor), ?_⟩
  have hsb := hv.b (show x.mounts.length ≤ 1000 by omega)
  refine al_ (h:=s_ (h:=e_ (w_ (m_ (h:=?_)))))
  refine al_p rfl (s_gen 0 (hc := Gpath l _ (by omega)) (hR := ?_))
  rintro r a2 ha2 ⟨rest, rfl, hrs⟩
  refine ⟨rfl, _, (by repeat constructor), ?_⟩
  refine m_ (h:=?_)
  refine al_p rfl (s_gen 0 (hc := Gpath l _ (by omega)) (hR := ?_))
  rintro r a3 ha3 ⟨tg, rfl, htg⟩
  refine ⟨rfl, _, (by repeat constructor), ?_⟩
  refine a_ (h:=a_ (h:=e_ (q_ (w_ (m_ (h:=n_ (h:=eq_ (h:=m_ (h:=?_)))))))))
  refine al_gs false rfl rfl (fun hb1 => ?_) (fun hb1 => ?_)
  · have hc1 := bp hb1
    refine g0_ (h:=g0_ (h:=g0_ (h:=pt_ (h:=m_ (h:=g0_ (h:=g0_ (h:=g0_ (h:=pt_ (h:=m_ (h:=g0_ (h:=g0_ (h:=g0_ (h:=pt_ (h:=e_ (cy_ (h:=w_ (?_)))))))))))))))))
    refine al_p rfl (q_call (Lawake7) ?_)
    rintro r rfl
    refine a_ (h:=e_ (aw_ret (x_thenR (?_))))
    refine e_ret ?_
    first | rfl | (exfalso; first | contradiction | exact absurd rfl hc9 | omega | (simp_all; done))
  · have hc1 := bp hb1
    refine m_ (h:=?_)
    refine g_y (st_strIdx (n := 0) Try.underlying9 rfl rfl rfl (by omega) ?_)
    refine eq_ (h:=pf_ (h:=m_ (h:=?_)))
    refine al_gs false rfl rfl (fun hb2 => ?_) (fun hb2 => ?_)
    · have hc2 := bp hb2
      refine g0_ (h:=g0_ (h:=g0_ (h:=pt_ (h:=m_ (h:=g0_ (h:=g0_ (h:=g0_ (h:=pt_ (h:=e_ (cy_ (h:=w_ (?_))))))))))))
      refine al_p rfl (q_call (Lawake7) ?_)
      rintro r rfl
      refine a_ (h:=e_ (aw_ret (x_thenR (?_))))
      refine e_ret ?_
      first | rfl | (exfalso; first | contradiction | exact absurd rfl hc9 | omega | (simp_all; done))
    · have hc2 := bp hb2
      refine m_ (h:=n_ (h:=eq_ (h:=pf_ (h:=m_ (h:=?_)))))
      refine al_gs false rfl rfl (fun hb3 => ?_) (fun hb3 => ?_)
      · have hc3 := bp hb3
        refine g0_ (h:=g0_ (h:=g0_ (h:=pt_ (h:=e_ (cy_ (h:=w_ (?_)))))))
        refine al_p rfl (q_call (Lawake7) ?_)
        rintro r rfl
        refine a_ (h:=e_ (aw_ret (x_thenR (?_))))
        refine e_ret ?_
        first | rfl | (exfalso; first | contradiction | exact absurd rfl hc9 | omega | (simp_all; done))
      · have hc3 := bp hb3
        refine m_ (h:=?_)
        refine g_y (st_strIdx (n := 0) Try.underlying9 rfl rfl rfl (by omega) ?_)
        refine eq_ (h:=pf_ (h:=e_ (?_)))
        refine aw_cond rfl (fun hb4 => ?_) (fun hb4 => ?_)
        · have hc4 := bp hb4
          refine w_ (?_)
          refine al_p rfl (q_call (Lawake7) ?_)
          rintro r rfl
          refine a_ (h:=e_ (aw_ret (x_thenR (?_))))
          refine e_ret ?_
          first | rfl | (exfalso; first | contradiction | exact absurd rfl hc9 | omega | (simp_all; done))
        · have hc4 := bp hb4
          refine kt_ (w_ (f_ (h:=l_ (h:=bd_ (h:=m_ (h:=?_))))))
          refine al_p rfl (st_le (y := .agg (nodA ⟨0, 3, 511, 0, 0, 0, tg, []⟩)) (st_build (by repeat (first | exact FillA.nil _ | (apply FillA.cons; (focus exact rfl); (focus exact rfl); (focus exact rfl); (focus exact rfl); (focus exact rfl); (focus (repeat constructor))))) ⟨rfl, rfl⟩) (by repeat (first | exact LeA.refl _ | exact LeA.nil _ | exact LeL.refl _ | refine LeA.agg ?_ | refine LeA.tup ?_ | exact LeL.nil | refine LeL.cons ?_ ?_ | exact LeA.any _)) ?_)
          refine al_p rfl (q_call (Rmake x.files (0, 1) zz ⟨0, 3, 511, 0, 0, 0, tg, []⟩ hv.files (by decide) (by show tg.size ≤ 100000; omega)) ?_)
          rintro r rfl
          refine m_ (h:=x_ (h:=x_ (h:=x_ (h:=al_ (h:=s_ (h:=a_ (h:=a_ (h:=e_ (q_ (w_ (m_ (h:=nq_ (h:=m_ (h:=?_))))))))))))))
          refine al_gs false rfl rfl (fun hb5 => ?_) (fun hb5 => ?_)
          · have hc5 := bp hb5
            refine g0_ (h:=g0_ (h:=g0_ (h:=pt_ (h:=e_ (cy_ (h:=w_ (?_)))))))
            refine al_p rfl (q_call (Lawake7) ?_)
            rintro r rfl
            refine a_ (h:=e_ (aw_ret (x_thenR (?_))))
            refine e_ret ?_
            first | rfl | (exfalso; first | contradiction | exact absurd rfl hc9 | omega | (simp_all; done))
          · have hc5 := bp hb5
            refine l_ (h:=bd_ (h:=?_))
            refine g_y (q_call (Rcovered x (0, 1) hsb) ?_)
            rintro r rfl
            refine pf_ (h:=e_ (?_))
            refine aw_cond rfl (fun hb6 => ?_) (fun hb6 => ?_)
            · have hc6 := bp hb6
              refine w_ (?_)
              refine al_p rfl (q_call (Lawake7) ?_)
              rintro r rfl
              refine a_ (h:=e_ (aw_ret (x_thenR (?_))))
              refine e_ret ?_
              first | rfl | (exfalso; first | contradiction | exact absurd rfl hc9 | omega | (simp_all; done))
            · have hc6 := bp hb6
              have h0 : (mkL x.files (0, 1) zz ⟨0, 3, 511, 0, 0, 0, tg, []⟩).2.2 = 0 := by simpa using hc5
              have hvy : SpcV ⟨(mkL x.files (0, 1) zz ⟨0, 3, 511, 0, 0, 0, tg, []⟩).1, x.mounts⟩ := mk_spc hv h0
              refine kt_ (w_ (l_ (h:=f_ (h:=l_ (h:=bd_ (h:=al_ (h:=s_ (h:=e_ (w_ (l_ (h:=bd_ (h:=m_ (h:=?_)))))))))))))
              refine al_p rfl (st_addS rfl rfl (by show 4 + rest.size ≤ _; omega) ?_)
              refine al_p rfl (q_call (Pfind7 ⟨(mkL x.files (0, 1) zz ⟨0, 3, 511, 0, 0, 0, tg, []⟩).1, x.mounts⟩ (0, 0) (⟨#[47, 122, 122, 47]⟩ ++ rest) false (hvy.n (show x.mounts.length ≤ 1000 by omega)) hvy (by rw [ByteArray.size_append]; show 4 + rest.size ≤ _; omega)) ?_)
              rintro r rfl
              refine m_ (h:=x_ (h:=x_ (h:=al_ (h:=s_ (h:=a_ (h:=e_ (w_ (l_ (h:=bd_ (h:=m_ (h:=?_)))))))))))
              refine al_p rfl (st_addS rfl rfl (by show 1 + tg.size ≤ _; omega) ?_)
              refine al_p rfl (st_addS rfl rfl (by rw [ByteArray.size_append]; show 1 + tg.size + 1 ≤ _; omega) ?_)
              refine m_ (h:=?_)
              refine al_p rfl (st_addS rfl rfl (by rw [ByteArray.size_append, ByteArray.size_append]; show 1 + tg.size + 1 + rest.size ≤ _; omega) ?_)
              refine al_p rfl (q_call (Pfind7 ⟨(mkL x.files (0, 1) zz ⟨0, 3, 511, 0, 0, 0, tg, []⟩).1, x.mounts⟩ (0, 0) (⟨#[47]⟩ ++ tg ++ ⟨#[47]⟩ ++ rest) false (hvy.n (show x.mounts.length ≤ 1000 by omega)) hvy (by rw [ByteArray.size_append, ByteArray.size_append, ByteArray.size_append]; show 1 + tg.size + 1 + rest.size ≤ _; omega)) ?_)
              rintro r rfl
              refine m_ (h:=x_ (h:=x_ (h:=al_ (h:=s_ (h:=a_ (h:=e_ (q_ (w_ (m_ (h:=eq_ (h:=m_ (h:=?_))))))))))))
              refine al_gs false rfl rfl (fun hb7 => ?_) (fun hb7 => ?_)
              · have hc7 := bp hb7
                refine g0_ (h:=g0_ (h:=pt_ (h:=e_ (cy_ (h:=w_ (?_))))))
                refine al_p rfl (q_call (Lawake7) ?_)
                rintro r rfl
                refine a_ (h:=e_ (aw_ret (x_thenR (?_))))
                refine e_ret ?_
                first | rfl | (exfalso; first | contradiction | exact absurd rfl hc9 | omega | (simp_all; done))
              · have hc7 := bp hb7
                refine m_ (h:=eq_ (h:=pf_ (h:=e_ (?_))))
                refine aw_cond rfl (fun hb8 => ?_) (fun hb8 => ?_)
                · have hc8 := bp hb8
                  refine w_ (?_)
                  refine al_p rfl (q_call (Lawake7) ?_)
                  rintro r rfl
                  refine a_ (h:=e_ (aw_ret (x_thenR (?_))))
                  refine e_ret ?_
                  first | rfl | (exfalso; first | contradiction | exact absurd rfl hc9 | omega | (simp_all; done))
                · have hc8 := bp hb8
                  have hsp := splices_law hv (target := tg) (rest := rest) (ne_size hc1) (hd_false (by omega) hc2) (ne_size hc3) (hd_false (by omega) hc4) (n := ⟨0, 3, 511, 0, 0, 0, tg, []⟩) rfl rfl h0 (cov_noneS hc6) (p := ⟨#[47, 122, 122, 47]⟩ ++ rest) (q := ⟨#[47]⟩ ++ tg ++ ⟨#[47]⟩ ++ rest) (by simp) (by simp) (by rw [ByteArray.size_append]; show 4 + rest.size ≤ _; omega) (by rw [ByteArray.size_append, ByteArray.size_append, ByteArray.size_append]; show 1 + tg.size + 1 + rest.size ≤ _; omega) (0, 0) hc7 hc8
                  rw [hsp]
                  refine kt_ (w_ (m_ (h:=m_ (h:=eq_ (h:=m_ (h:=?_))))))
                  refine al_gs true rfl rfl (fun hb9 => ?_) (fun hb9 => ?_)
                  · have hc9 := bp hb9
                    refine l_ (h:=l_ (h:=?_))
                    refine g_y (st_eqF (findL ⟨(mkL x.files (0, 1) zz ⟨0, 3, 511, 0, 0, 0, tg, []⟩).1, x.mounts⟩ (0, 0) (⟨#[47]⟩ ++ tg ++ ⟨#[47]⟩ ++ rest) false).1 rfl rfl ?_)
                    refine pt_ (h:=m_ (h:=?_))
                    refine al_gs true rfl rfl (fun hb10 => ?_) (fun hb10 => ?_)
                    · have hc10 := bp hb10
                      refine g_y (q_call (Lawake7) ?_)
                      rintro r rfl
                      refine pt_ (h:=a_ (h:=e_ (aw_ret (?_))))
                      refine e_ret ?_
                      first | rfl | (exfalso; first | contradiction | exact absurd rfl hc9 | omega | (simp_all; done))
                    · have hc10 := bp hb10
                      refine g0_ (h:=pf_ (h:=a_ (h:=e_ (aw_ret (?_)))))
                      refine e_ret ?_
                      first | rfl | (exfalso; first | contradiction | exact absurd rfl hc9 | omega | (simp_all; done))
                  · have hc9 := bp hb9
                    refine g0_ (h:=g0_ (h:=g0_ (h:=pf_ (h:=m_ (h:=g0_ (h:=pf_ (h:=a_ (h:=e_ (aw_ret (?_))))))))))
                    refine e_ret ?_
                    first | rfl | (exfalso; first | contradiction | exact absurd rfl hc9 | omega | (simp_all; done))

end
end Go.Proofs.Ytaidkbnbfnaihaa
namespace Go.Proofs.Ytaidkbnbfnaihaa
open Go.RowKit
theorem LookupSplices_walk {H : Type} {enc : TypeId × Value → H} {sp : Nat → Bool} {held : Bool} {base : Nat} (a : Option Addr) (n c : Nat) (w : World) {d : DataW H} {p : List MemPlace} (h : DataW.Trod enc Try.prog w base sp held 22 (.slice a n c) d p) :
    Calls Try.prog 6 #[.slice a n c] w fun e w' => e = .returned (.bool true) ∧ Below w.heap.size w w' := walk_ints Lsplices7 a n c w h
end Go.Proofs.Ytaidkbnbfnaihaa
