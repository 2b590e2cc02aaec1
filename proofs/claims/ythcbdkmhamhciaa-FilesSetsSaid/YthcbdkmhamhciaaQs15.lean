/-
  Part 15 of the proof of FilesSetsP: what the statement's proof uses of the texts in wip/tpl.
-/
import Derived.OpenShut
import Derived.ChangeArms
import Derived.ChangeOld
import Derived.DataReads
import Derived.DataElems
import Derived.Test.YthcbdkmhamhciaaQs14
namespace Go.Proofs.Ythcbdkmhamhciaa
open Go.RowKit

theorem new_valid5 : FlsV (newL 1).1 := (new_valid (by decide) (by decide)).1
def aw5N : Nod := ⟨0, 1, 420, 0, 0, 0, ⟨#[]⟩, []⟩
def aw5F1 : Fls := (mkL (newL 1).1 (0, 1) ⟨#[97]⟩ aw5N).1
def aw5F2 : Fls := (linkL aw5F1 (0, 1) ⟨#[98]⟩ (0, 2)).1
set_option maxRecDepth 100000 in
theorem aw5_make : (mkL (newL 1).1 (0, 1) ⟨#[97]⟩ aw5N).2.2 = 0 ∧ (mkL (newL 1).1 (0, 1) ⟨#[97]⟩ aw5N).2.1 = [((0, 1), ⟨#[97]⟩, (0, 0), (0, 2))] := by decide +kernel
set_option maxRecDepth 100000 in
theorem aw5_link : (linkL aw5F1 (0, 1) ⟨#[98]⟩ (0, 2)).2.2 = 0 := by decide +kernel
set_option maxRecDepth 100000 in
theorem aw5_links : linksF aw5F2 (0, 2) = 2 := by decide +kernel
theorem aw5_valid : FlsV aw5F1 ∧ FlsV aw5F2 := by
  have h1 : FlsV aw5F1 := (make_okay new_valid5 _ _ _ aw5_make.1).1
  exact ⟨h1, (link_okay h1 _ _ _ aw5_link).1⟩
section
set_option maxRecDepth 10000
set_option maxHeartbeats 1000000
theorem Lawake5 : AFn Try.prog 18 [] (fun r => r = .v (.bool true)) := by
  have hnew : AFn Try.prog 15 [.v (.int .i64 1)] (fun r => r = .tup [.agg (flsA (newL 1).1), .v (.int .i64 0)]) := Pnew 1
  have hmk : AFn Try.prog 24 [.agg (flsA (newL 1).1), .agg [.v (.int .i64 0), .v (.int .i64 1)], .v (.string ⟨#[97]⟩), .agg (nodA aw5N)] (fun r => r = .tup [.agg (flsA aw5F1), .sl 7 [chgA ((0, 1), ⟨#[97]⟩, (0, 0), (0, 2))] none, .v (.int .i64 0)]) :=
    (Pmake (newL 1).1 (0, 1) ⟨#[97]⟩ aw5N new_valid5 (by decide)).mono fun r hr => by rw [hr]; unfold chgR; rw [aw5_make.1, aw5_make.2]; rfl
  obtain ⟨c2, hlk⟩ : ∃ c2, AFn Try.prog 27 [.agg (flsA aw5F1), .agg [.v (.int .i64 0), .v (.int .i64 1)], .v (.string ⟨#[98]⟩), .agg [.v (.int .i64 0), .v (.int .i64 2)]] (fun r => r = .tup [.agg (flsA aw5F2), .sl 7 (List.map chgA c2) none, .v (.int .i64 0)]) :=
    ⟨_, (Plink aw5F1 (0, 1) ⟨#[98]⟩ (0, 2) aw5_valid.1).mono fun r hr => by rw [hr]; unfold chgR; rw [aw5_link]; rfl⟩
  have hls : AFn Try.prog 37 [.agg (flsA aw5F2), .agg [.v (.int .i64 0), .v (.int .i64 2)]] (fun r => r = .v (.int .i64 2)) :=
    (Plinks aw5F2 (0, 2) aw5_valid.2.b).mono fun r hr => by rw [hr, aw5_links]; rfl
  refine enter Try.func18 rfl rfl rfl rfl rfl 0 rfl ?_
  refine w_ (a_ (h:=e_ (w_ (?_))))
  refine al_p rfl (q_call (hnew) ?_)
  rintro r rfl
  refine m_ (h:=x_ (h:=x_ (h:=al_ (h:=s_ (h:=a_ (h:=e_ (w_ (bd_ (h:=al_ (h:=s_ (h:=e_ (w_ (l_ (h:=l_ (h:=?_)))))))))))))))
  refine al_p rfl (st_le (y := .agg (nodA aw5N)) (st_build (by repeat (first | exact FillA.nil _ | (apply FillA.cons; (focus exact rfl); (focus exact rfl); (focus exact rfl); (focus exact rfl); (focus exact rfl); (focus (repeat constructor))))) ⟨rfl, rfl⟩) (by repeat (first | exact LeA.refl _ | exact LeA.nil _ | exact LeL.refl _ | refine LeA.agg ?_ | refine LeA.tup ?_ | exact LeL.nil | refine LeL.cons ?_ ?_ | exact LeA.any _)) ?_)
  refine al_p rfl (q_call (hmk) ?_)
  rintro r rfl
  refine m_ (h:=x_ (h:=x_ (h:=x_ (h:=s_ (h:=a_ (h:=a_ (h:=e_ (q_ (w_ (m_ (h:=nq_ (h:=m_ (h:=?_)))))))))))))
  refine al_gs false rfl rfl (fun hb1 => ?_) (fun hb1 => ?_)
  · have hc1 := bp hb1
    refine g0_ (h:=g0_ (h:=pt_ (h:=m_ (h:=g0_ (h:=g0_ (h:=g0_ (h:=pt_ (h:=e_ (cy_ (h:=w_ (a_ (h:=e_ (aw_ret (x_thenR (?_)))))))))))))))
    refine e_ret ?_
    first | rfl | (exfalso; simp_all)
  · have hc1 := bp hb1
    refine m_ (h:=nq_ (h:=pf_ (h:=m_ (h:=?_))))
    refine al_gs false rfl rfl (fun hb2 => ?_) (fun hb2 => ?_)
    · have hc2 := bp hb2
      refine g0_ (h:=g0_ (h:=g0_ (h:=pt_ (h:=e_ (cy_ (h:=w_ (a_ (h:=e_ (aw_ret (x_thenR (?_)))))))))))
      refine e_ret ?_
      first | rfl | (exfalso; simp_all)
    · have hc2 := bp hb2
      refine m_ (h:=n_ (h:=nq_ (h:=pf_ (h:=e_ (?_)))))
      refine aw_cond rfl (fun hb3 => ?_) (fun hb3 => ?_)
      · have hc3 := bp hb3
        refine w_ (a_ (h:=e_ (aw_ret (x_thenR (?_)))))
        refine e_ret ?_
        first | rfl | (exfalso; simp_all)
      · have hc3 := bp hb3
        refine kt_ (q_ (yk_ ([(1, [.v (.int .i64 0), .v (.int .i64 1)])]) 14 (h:=dl_ 1 (h:=dm_ 2 (h:=di_ 3 (h:=df_ 4 (h:=dl_ 5 (h:=?_))))))))
        refine c_ 0 rfl (st_loadBW rfl rfl rfl ?_)
        refine o_ (h:=?_)
        refine c_ 6 rfl (q_call (hlk) ?_)
        rintro r rfl
        refine o_ (h:=dm_ 7 (h:=dx_ 8 (h:=dx_ 9 (h:=dx_ 10 (h:=?_)))))
        refine c0_ 11 rfl (s_store rfl rfl rfl rfl rfl rfl (by repeat constructor) (by repeat constructor) ?_)
        refine o_ (h:=da_ 12 (h:=da_ 13 (h:=z_ (h:=t_ (q_ (yr_ 12 (h:=dm_ 0 (h:=deq_ 1 (h:=dm_ 2 (h:=?_))))))))))
        refine aa_both (j := 2) rfl (fun hb4 => ?_) (fun hb4 => ?_)
        · have hc4 := bp hb4
          refine dl_ 3 (h:=dm_ 4 (h:=di_ 5 (h:=df_ 6 (h:=dl_ 7 (h:=?_)))))
          refine c_ 8 rfl (q_call (hls) ?_)
          rintro r rfl
          refine o_ (h:=deq_ 9 (h:=dpt_ 10 (h:=da_ 11 (h:=z_ (h:=t_ (aw_ret (?_)))))))
          refine e_ret ?_
          first | rfl | (exfalso; simp_all)
        · have hc4 := bp hb4
          refine d0_ 3 (h:=d0_ 4 (h:=d0_ 5 (h:=d0_ 6 (h:=d0_ 7 (h:=d0_ 8 (h:=d0_ 9 (h:=dpf_ 10 (h:=da_ 11 (h:=z_ (h:=t_ (aw_ret (?_))))))))))))
          refine e_ret ?_
          first | rfl | (exfalso; simp_all)

end
end Go.Proofs.Ythcbdkmhamhciaa
namespace Go.Proofs.Ythcbdkmhamhciaa
open Go.RowKit

theorem set_b {f : Fls} (hv : FlsV f) (a : Fil) (m u g : Int) : FlsB (setL05 f a m u g).1 := by
  by_cases h : (setL05 f a m u g).2 = 0
  · exact (set_okay hv a m u g h).1.b
  · have e : (setL05 f a m u g).1 = [] := by
      unfold setL05 at h ⊢
      repeat' split
      all_goals first | rfl | (exfalso; simp_all)
    rw [e]
    exact ⟨Nat.zero_le _, fun d hd => (by cases hd), fun d hd => (by cases hd)⟩
def triA (x : Int × Int × Int) : List AV := [.sl 1 [[.v (.int .i64 x.1)], [.v (.int .i64 x.2.1)], [.v (.int .i64 x.2.2)]] none]
section
set_option maxRecDepth 20000
set_option maxHeartbeats 2000000
theorem Lsets (l : List Int) (mode uid gid : Int) : AFn Try.prog 6 [.sl 1 (l.map intA) none, .v (.int .i64 mode), .v (.int .i64 uid), .v (.int .i64 gid)] (fun r => r = .v (.bool true)) := by
  refine enter Try.func6 rfl rfl rfl rfl rfl 0 rfl ?_
  refine w_ (a_ (h:=e_ (w_ (m_ (h:=?_)))))
  refine al_p rfl (s_callN rfl (by repeat (first | exact Args.nil | refine Args.cons _ _ _ _ _ rfl (argOk_clean rfl) ?_ | refine Args.cons _ _ _ _ _ rfl (argOk_nil _) ?_ | refine Args.cons _ _ _ _ _ rfl (argOk_era _) ?_ | refine Args.cons _ _ _ _ _ rfl (argOk_le rfl (by repeat (first | exact LeA.refl _ | exact LeA.nil _ | exact LeL.refl _ | refine LeA.agg ?_ | refine LeA.tup ?_ | exact LeL.nil | refine LeL.cons ?_ ?_ | exact LeA.any _))) ?_)) rfl (Gnew l) (by repeat constructor) ?_)
  skip
  refine a_ (h:=e_ (w_ (m_ (h:=?_))))
  refine al_p rfl (s_gen 0 (hc := Gfiles l _ (by omega)) (hR := ?_))
  rintro r a1 ha1 ⟨f, rfl, hv, hp⟩
  refine ⟨rfl, _, (by repeat constructor), ?_⟩
  have hf := hv.b
  have hne := hv.ne
  refine al_ (h:=s_ (h:=e_ (w_ (m_ (h:=l_ (h:=?_))))))
  refine al_p rfl (s_gen 0 (hc := Gfile l _ f (by omega) hf hne) (hR := ?_))
  rintro r a2 ha2 ⟨x, rfl⟩
  refine ⟨rfl, _, (by repeat constructor), ?_⟩
  refine al_ (h:=s_ (h:=e_ (w_ (m_ (h:=m_ (h:=m_ (h:=bs_ (h:=m_ (h:=bs_ (h:=?_))))))))))
  refine al_p rfl (s_gen 0 (hc := Gpick l _ _ (fun _ => true) (by omega) (by rfl) (by rfl) (by rfl)) (hR := ?_))
  rintro r a3 ha3 ⟨k3, rfl, p3⟩
  refine ⟨rfl, _, (by repeat constructor), ?_⟩
  refine m_ (h:=bs_ (h:=?_))
  refine al_p rfl (s_gen 0 (hc := Gpick l _ _ (fun _ => true) (by omega) (by rfl) (by rfl) (by rfl)) (hR := ?_))
  rintro r a4 ha4 ⟨k4, rfl, p4⟩
  refine ⟨rfl, _, (by repeat constructor), ?_⟩
  refine m_ (h:=bs_ (h:=?_))
  refine al_p rfl (s_gen 0 (hc := Gpick l _ _ (fun _ => true) (by omega) (by rfl) (by rfl) (by rfl)) (hR := ?_))
  rintro r a5 ha5 ⟨k5, rfl, p5⟩
  refine ⟨rfl, _, (by repeat constructor), ?_⟩
  refine bs_ (h:=bs_ (h:=a_ (h:=e_ (q_ (w_ (a_ (h:=e_ (aw_block (?_)))))))))
  refine aw_loopW (fun m t => ∃ (j b : Nat), j ≤ 2 ∧ m = 2 - j ∧ t = ⟨look [(10, .bp 1 0), (11, .bp 2 0), (12, .sl 1 (([(mode, uid, gid), (k3, k4, k5)] : List (Int × Int × Int)).map triA) none), (13, .v (.int .i64 (j : Int)))], ⟨[srcA l b, flsA f, filA x], []⟩⟩) (2) ((wk 3 0)) (⟨0, _, by omega, rfl, rfl⟩) ?_
  rintro m t ⟨j, b, hj, rfl, rfl⟩
  refine q_ (w_ (m_ (h:=m_ (h:=n_ (h:=lt_ (h:=e_ (?_)))))))
  refine aw_cond rfl (fun hb1 => ?_) (fun hb1 => ?_)
  · have hc1 := bp hb1
    obtain ⟨hlt, y, hy, hrow, -⟩ := row_at triA (l := [(mode, uid, gid), (k3, k4, k5)]) hc1
    refine kt_ (q_ (aw_block (?_)))
    refine aw_midI (fun t => t = ⟨look [(10, .bp 1 0), (11, .bp 2 0), (12, .sl 1 (([(mode, uid, gid), (k3, k4, k5)] : List (Int × Int × Int)).map triA) none), (13, .v (.int .i64 (j : Int))), (14, .bp 3 0), (15, .v (.int .i64 (setL05 f x y.1 y.2.1 y.2.2).2))], ⟨[srcA l b, flsA f, filA x, flsA (setL05 f x y.1 y.2.1 y.2.2).1], []⟩⟩) ?_ ?_
    · skip
      refine yk_ ([(0, srcA l b), (1, flsA f), (2, filA x)]) 27 (h:=dl_ 0 (h:=dl_ 1 (h:=dm_ 2 (h:=dm_ 3 (h:=?_)))))
      refine tk_ 4 rfl (fun _ hS => st_index (n := j) rfl rfl rfl hrow ⟨rfl, rfl⟩) ?_
      refine dl_ 5 (h:=di_ 6 (h:=dl_ 7 (h:=dm_ 8 (h:=dm_ 9 (h:=?_)))))
      refine tk_ 10 rfl (fun _ hS => st_index (n := j) rfl rfl rfl hrow ⟨rfl, rfl⟩) ?_
      refine dl_ 11 (h:=di_ 12 (h:=dl_ 13 (h:=dm_ 14 (h:=dm_ 15 (h:=?_)))))
      refine tk_ 16 rfl (fun _ hS => st_index (n := j) rfl rfl rfl hrow ⟨rfl, rfl⟩) ?_
      refine dl_ 17 (h:=di_ 18 (h:=dl_ 19 (h:=?_)))
      refine c2_ 20 24 rfl rfl ?_ ?_
      · refine q_call (Pset f x y.1 y.2.1 y.2.2 hv) ?_
        rintro r rfl
        refine o_ (h:=?_)
        refine dm_ 21 (h:=dx_ 22 (h:=dx_ 23 (h:=?_)))
        refine c_ 24 rfl (s_alloc (by repeat constructor) ?_)
        refine o_ (h:=?_)
        refine c0_ 25 rfl (s_store rfl rfl rfl rfl rfl rfl (by repeat constructor) (by repeat constructor) ?_)
        refine o_ (h:=da_ 26 (h:=z_ (h:=?_)))
        refine x_then ?_
        exact ⟨_, rfl, (wk 4 0)⟩
      · refine s_alloc (by repeat constructor) ?_
        refine o_ (h:=?_)
        refine c_ 20 rfl (q_call (Pset f x y.1 y.2.1 y.2.2 hv) ?_)
        rintro r rfl
        refine o_ (h:=dm_ 21 (h:=dx_ 22 (h:=dx_ 23 (h:=?_))))
        refine c0_ 25 rfl (s_store rfl rfl rfl rfl rfl rfl (by repeat constructor) (by repeat constructor) ?_)
        refine o_ (h:=da_ 26 (h:=z_ (h:=?_)))
        refine x_then ?_
        exact ⟨_, rfl, (wk 4 0)⟩
    · rintro t rfl
      refine aw_midI (fun t => t = ⟨look [(10, .bp 1 0), (11, .bp 2 0), (12, .sl 1 (([(mode, uid, gid), (k3, k4, k5)] : List (Int × Int × Int)).map triA) none), (13, .v (.int .i64 (j : Int))), (14, .bp 3 0), (15, .v (.int .i64 (setL05 f x y.1 y.2.1 y.2.2).2)), (16, .bp 4 0), (17, .v (.int .i64 (setL05 f x y.1 y.2.1 y.2.2).2))], ⟨[srcA l b, flsA f, filA x, flsA (setL05 f x y.1 y.2.1 y.2.2).1, flsA (setL05 f x y.1 y.2.1 y.2.2).1], []⟩⟩) ?_ ?_
      · skip
        refine yk_ ([(0, srcA l b), (1, flsA f), (2, filA x), (3, flsA (setL05 f x y.1 y.2.1 y.2.2).1)]) 27 (h:=dl_ 0 (h:=dl_ 1 (h:=dm_ 2 (h:=dm_ 3 (h:=?_)))))
        refine tk_ 4 rfl (fun _ hS => st_index (n := j) rfl rfl rfl hrow ⟨rfl, rfl⟩) ?_
        refine dl_ 5 (h:=di_ 6 (h:=dl_ 7 (h:=dm_ 8 (h:=dm_ 9 (h:=?_)))))
        refine tk_ 10 rfl (fun _ hS => st_index (n := j) rfl rfl rfl hrow ⟨rfl, rfl⟩) ?_
        refine dl_ 11 (h:=di_ 12 (h:=dl_ 13 (h:=dm_ 14 (h:=dm_ 15 (h:=?_)))))
        refine tk_ 16 rfl (fun _ hS => st_index (n := j) rfl rfl rfl hrow ⟨rfl, rfl⟩) ?_
        refine dl_ 17 (h:=di_ 18 (h:=dl_ 19 (h:=?_)))
        refine c2_ 20 24 rfl rfl ?_ ?_
        · refine q_call (Rset f x y.1 y.2.1 y.2.2 hv) ?_
          rintro r rfl
          refine o_ (h:=?_)
          refine dm_ 21 (h:=dx_ 22 (h:=dx_ 23 (h:=?_)))
          refine c_ 24 rfl (s_alloc (by repeat constructor) ?_)
          refine o_ (h:=?_)
          refine c0_ 25 rfl (s_store rfl rfl rfl rfl rfl rfl (by repeat constructor) (by repeat constructor) ?_)
          refine o_ (h:=da_ 26 (h:=z_ (h:=?_)))
          refine x_then ?_
          exact ⟨_, rfl, (wk 5 0)⟩
        · refine s_alloc (by repeat constructor) ?_
          refine o_ (h:=?_)
          refine c_ 20 rfl (q_call (Rset f x y.1 y.2.1 y.2.2 hv) ?_)
          rintro r rfl
          refine o_ (h:=dm_ 21 (h:=dx_ 22 (h:=dx_ 23 (h:=?_))))
          refine c0_ 25 rfl (s_store rfl rfl rfl rfl rfl rfl (by repeat constructor) (by repeat constructor) ?_)
          refine o_ (h:=da_ 26 (h:=z_ (h:=?_)))
          refine x_then ?_
          exact ⟨_, rfl, (wk 5 0)⟩
      · rintro t rfl
        refine w_ (m_ (h:=m_ (h:=nq_ (h:=m_ (h:=?_)))))
        refine al_gs false rfl rfl (fun hb2 => ?_) (fun hb2 => ?_)
        · have hc2 := bp hb2
          exact absurd rfl hc2
        · have hc2 := bp hb2
          refine l_ (h:=l_ (h:=?_))
          refine g_y (q_call (RsameF (setL05 f x y.1 y.2.1 y.2.2).1 (set_b hv x y.1 y.2.1 y.2.2)) ?_)
          rintro r rfl
          refine nt_ (h:=pf_ (h:=e_ (?_)))
          refine aw_cond rfl (fun hb3 => ?_) (fun hb3 => ?_)
          · have hc3 := bp hb3
            exfalso; first | contradiction | omega
          · have hc3 := bp hb3
            refine aw_skip (x_blockN (t_ (aw_region (m_ (h:=ad_ (h:=a_ (h:=al_nil (?_))))))))
            refine x_then ?_
            have hl2 : j < 2 := hlt
            refine ⟨_, _, ?_, ⟨j + 1, b, by omega, rfl, rfl⟩, (wk 3 0)⟩
            omega
  · have hc1 := bp hb1
    refine aw_exit (x_thenE (x_thenE (ABlock_out (t_ (w_ (?_))))))
    refine al_p rfl (q_call (Lawake5) ?_)
    rintro r rfl
    refine a_ (h:=e_ (aw_ret (?_)))
    refine e_ret ?_
    rfl

end
end Go.Proofs.Ythcbdkmhamhciaa
namespace Go.Proofs.Ythcbdkmhamhciaa
open Go.RowKit

def StAll (w : World) : Nat → Nat → Prop := fun b _ => b < w.heap.size
def Opens (P : Program) (t : TypeId) (R : List AV → Prop) : Prop :=
  ∀ (H : Type) (enc : TypeId × Value → H) (w : World) (base : Nat) (spare : Nat → Bool) (held : Bool) (fuel : Nat) (cs : List Value) (x : DataW H × List MemPlace), DataW.trod enc P w base spare held fuel t cs = some x →
    ∃ row, R row ∧ froL (StAll w) w row cs ∧ ∀ u ∈ cs, u.oneCell' = true
section
variable {P : Program} {t : TypeId}
theorem Opens.mono {R R' : List AV → Prop} (h : Opens P t R) (hR : ∀ r, R r → R' r) : Opens P t R' := by
  intro H enc w base spare held fuel cs x hx
  obtain ⟨row, h1, h2⟩ := h H enc w base spare held fuel cs x hx
  exact ⟨row, hR _ h1, h2⟩
theorem opens_int {k : IntKind} (ht : P.underlying t = some (.int k)) : Opens P t fun r => ∃ n, r = [.v (.int k n)] ∧ (Lit.int k n).wf = true := by
  intro H enc w base spare held fuel cs x hx
  obtain ⟨b, rfl, _, hw⟩ := DataW.trod_int ht hx
  exact ⟨_, ⟨b, rfl, hw⟩, ⟨_, _, rfl, by simp only [fro], by simp only [froL]⟩, by simp [Value.oneCell']⟩
theorem cell_lt' {w : World} {b o : Nat} {v : Value} (h : w.cell? ⟨b, o, none⟩ = some v) : b < w.heap.size := by
  rcases Nat.lt_or_ge b w.heap.size with hlt | hge
  · exact hlt
  · simp [World.cell?, Array.getElem?_eq_none hge] at h
theorem froL_length' {St : Nat → Nat → Prop} {w : World} {xs : List AV} {ys : List Value} (h : froL St w xs ys) : ys.length = xs.length := repL_length (G := ⟨St, [], []⟩) (repL_fro (G := ⟨St, [], []⟩) _ _ h)
theorem opens_slice {e : TypeId} {n : Nat} {R : List AV → Prop} (ht : P.underlying t = some (.slice e)) (hc : P.cellsOf e = n) (hn : 0 < n) (h : Opens P e R) : Opens P t fun r => ∃ rows, r = [.sl n rows none] ∧ rows.length ≤ maxLen ∧ ∀ x ∈ rows, R x := by
  intro H enc w base spare held fuel cs x hx
  rcases DataW.trod_slice ht hx with ⟨rfl, _⟩ | ⟨⟨b, off, spot⟩, len, cap, elems, rest, m, rfl, rfl, _, hb, hl, hm, hlen, hel, _, _⟩
  · exact ⟨_, ⟨[], rfl, Nat.zero_le _, by simp⟩, ⟨_, _, rfl, by simp only [fro]; exact ⟨trivial, none, 0, rfl, Nat.le_refl _, Nat.zero_le _, .inl trivial⟩, by simp only [froL]⟩, by simp [Value.oneCell']⟩
  · have each : ∀ i, i < len → ∃ row cs', R row ∧ row.length = n ∧ froL (StAll w) w row cs' ∧ (∀ u ∈ cs', u.oneCell' = true) ∧ cs'.length = n ∧ ∀ j, j < n → w.cell? (Addr.add ⟨b, off, spot⟩ (i * n + j)) = cs'[j]? := by
      intro i hi
      have h1 := hel i hi
      rw [hc, List.getElem?_eq_getElem (by omega), Option.bind_eq_some_iff] at h1
      obtain ⟨cs', h2, h3⟩ := h1
      obtain ⟨row, r1, r2, r3⟩ := h _ _ _ _ _ _ _ _ _ h3
      obtain ⟨_, c1, c2⟩ := World.cells?_some h2
      refine ⟨row, cs', r1, by rw [← froL_length' r2, c1], r2, r3, c1, fun j hj => ?_⟩
      have := c2 j hj
      rwa [Addr.add_add] at this
    have hrows : ∃ rows : List (List AV), rows.length = len ∧ (∀ i, i < len → ∃ row cs', rows[i]? = some row ∧ R row ∧ row.length = n ∧ froL (StAll w) w row cs' ∧ (∀ u ∈ cs', u.oneCell' = true) ∧ cs'.length = n ∧ ∀ j, j < n → w.cell? (Addr.add ⟨b, off, spot⟩ (i * n + j)) = cs'[j]?) := by
      clear hel
      have : ∀ k, k ≤ len → ∃ rows : List (List AV), rows.length = k ∧ (∀ i, i < k → ∃ row cs', rows[i]? = some row ∧ R row ∧ row.length = n ∧ froL (StAll w) w row cs' ∧ (∀ u ∈ cs', u.oneCell' = true) ∧ cs'.length = n ∧ ∀ j, j < n → w.cell? (Addr.add ⟨b, off, spot⟩ (i * n + j)) = cs'[j]?) := by
        intro k
        induction k with
        | zero => intro _; exact ⟨[], rfl, fun i hi => by omega⟩
        | succ k ih =>
          intro hk
          obtain ⟨rows, e1, e2⟩ := ih (by omega)
          obtain ⟨row, cs', q⟩ := each k (by omega)
          refine ⟨rows ++ [row], by simp [e1], fun i hi => ?_⟩
          rcases Nat.lt_or_ge i k with hlt | hge
          · obtain ⟨row', cs'', q1, q2⟩ := e2 i hlt
            exact ⟨row', cs'', by rw [List.getElem?_append_left (by omega)]; exact q1, q2⟩
          · obtain rfl : i = k := by omega
            exact ⟨row, cs', by rw [List.getElem?_append_right (by omega), e1]; simp, q⟩
      exact this len (Nat.le_refl _)
    obtain ⟨rows, e1, e2⟩ := hrows
    refine ⟨_, ⟨rows, rfl, by omega, fun x hx => ?_⟩, ⟨_, _, rfl, ?_, by simp only [froL]⟩, by simp [Value.oneCell']⟩
    · obtain ⟨i, hi⟩ := List.getElem?_of_mem hx
      obtain ⟨row, _, q1, q2, _⟩ := e2 i (by rw [← e1]; exact (List.getElem?_eq_some_iff.1 hi).1)
      rw [hi] at q1
      injection q1 with q1
      subst q1
      exact q2
    · simp only [fro]
      refine ⟨trivial, some ⟨b, off, spot⟩, cap, by rw [e1], by omega, hm, ?_⟩
      rcases Nat.eq_zero_or_pos len with h0 | h0
      · left; exact List.eq_nil_of_length_eq_zero (by omega)
      · right
        have hspot : spot = none := by
          obtain ⟨_, cs', _, _, _, _, _, c3, c4⟩ := e2 0 h0
          have := c4 0 hn
          rw [List.getElem?_eq_getElem (by omega)] at this
          simpa [Addr.add] using World.cell?_spot this
        subst hspot
        refine ⟨b, off, rfl, ?_⟩
        have : ∀ (rs : List (List AV)) (k : Nat), (∀ i r, rs[i]? = some r → rows[k + i]? = some r) → froR (StAll w) w b n rs (off + k * n) := by
          intro rs
          induction rs with
          | nil => intro k _; simp only [froR]
          | cons r rs ih =>
            intro k hk
            simp only [froR]
            have h1 := hk 0 r rfl
            rw [Nat.add_zero] at h1
            obtain ⟨row, cs', q1, _, q3, q4, q5, q6, q7⟩ := e2 k (by rw [← e1]; exact (List.getElem?_eq_some_iff.1 h1).1)
            rw [h1] at q1
            injection q1 with q1
            subst q1
            refine ⟨⟨q3, froC_of fun i x hi => ?_⟩, ?_⟩
            · obtain ⟨u, u1, u2⟩ := froL_get q4 hi
              have hin : i < n := by rw [← q3]; exact (List.getElem?_eq_some_iff.1 hi).1
              have hc := q7 i hin
              rw [u1] at hc
              have hc' : w.cell? ⟨b, off + k * n + i, none⟩ = some u := by rw [Addr.add_mid] at hc; rwa [Nat.add_assoc]
              exact ⟨cell_lt' hc', u, hc', q5 u (List.mem_of_getElem? u1), u2⟩
            · have := ih (k + 1) (fun i r' hi => by
                have := hk (i + 1) r' (by simpa using hi)
                rwa [show k + 1 + i = k + (i + 1) by omega])
              rwa [show off + (k + 1) * n = off + k * n + n by rw [Nat.add_mul]; omega] at this
        simpa using this rows 0 (fun i r hi => by simpa using hi)
theorem rows_map {α : Type} {enc : α → List AV} {Q : α → Prop} : ∀ {rows : List (List AV)}, (∀ x ∈ rows, ∃ a, x = enc a ∧ Q a) → ∃ l : List α, rows = l.map enc ∧ ∀ a ∈ l, Q a
  | [], _ => ⟨[], rfl, by simp⟩
  | r :: rs, h => by
    obtain ⟨a, rfl, ha⟩ := h r (by simp)
    obtain ⟨l, rfl, hl⟩ := rows_map (rows := rs) fun x hx => h x (by simp [hx])
    exact ⟨a :: l, rfl, by simpa using ⟨ha, hl⟩⟩
theorem Opens.one {R : List AV → Prop} (h : Opens P t R) {H : Type} {enc : TypeId × Value → H} {w : World} {base : Nat} {spare : Nat → Bool} {held : Bool} {v : Value} {d : DataW H} {ps : List MemPlace} (hv : v.cells = #[v]) (hd : DataW.Trod enc P w base spare held t v d ps) :
    ∃ row, R row ∧ froL (StAll w) w row [v] := by
  obtain ⟨fuel, hf⟩ := hd
  rw [hv] at hf
  obtain ⟨row, h1, h2, _⟩ := h _ _ _ _ _ _ _ _ _ hf
  exact ⟨row, h1, h2⟩
end
end Go.Proofs.Ythcbdkmhamhciaa
namespace Go.Proofs.Ythcbdkmhamhciaa
open Go.RowKit

theorem opInts : Opens Try.prog 31 (fun r => ∃ l : List Int, r = [.sl 1 (l.map intA) none]) :=
  (opens_slice (n := 1) Try.underlying31 (by kernel_rfl) (by omega) (opens_int Try.underlying3)).mono (by
    rintro r ⟨rows, rfl, _, hr⟩
    obtain ⟨l, rfl, _⟩ := rows_map (enc := intA) (Q := fun _ => True) (fun x hx => by obtain ⟨t, rfl, _⟩ := hr x hx; exact ⟨t, rfl, trivial⟩)
    exact ⟨l, rfl⟩)
theorem ints_one {H : Type} {enc : TypeId × Value → H} {sp : Nat → Bool} {held : Bool} {base : Nat} {w : World} {a : Option Addr} {n c : Nat} {d : DataW H} {p : List MemPlace} (h : DataW.Trod enc Try.prog w base sp held 31 (.slice a n c) d p) :
    ∃ l : List Int, rep ⟨StAll w, [], []⟩ w (.sl 1 (l.map intA) none) (.slice a n c) := by
  obtain ⟨r0, ⟨l, rfl⟩, k0⟩ := opInts.one rfl h
  simp only [froL] at k0
  obtain ⟨_, _, e0, k0, rfl⟩ := k0
  injection e0 with e0
  subst e0
  exact ⟨l, rep_fro (G := ⟨StAll w, [], []⟩) _ _ k0⟩
theorem walk_intsv {f : FuncId} (us : List Value) (hf : ∀ l : List Int, AFn Try.prog f (.sl 1 (l.map intA) none :: us.map AV.v) (fun x => x = .v (.bool true))) {H : Type} {enc : TypeId × Value → H} {sp : Nat → Bool} {held : Bool} {base : Nat} (a : Option Addr) (n c : Nat) (w : World) {d : DataW H} {p : List MemPlace}
    (h : DataW.Trod enc Try.prog w base sp held 31 (.slice a n c) d p) : Calls Try.prog f (.slice a n c :: us).toArray w fun e w' => e = .returned (.bool true) ∧ Below w.heap.size w w' := by
  obtain ⟨l, k⟩ := ints_one h
  refine calls_of (vs := .slice a n c :: us) (hf l) (StAll w) (fun b o h => h) ?_
  simp only [repL]
  exact ⟨_, _, rfl, k, repL_v us⟩
end Go.Proofs.Ythcbdkmhamhciaa
namespace Go.Proofs.Ythcbdkmhamhciaa
open Go.RowKit
theorem FilesSets_walk {H : Type} {enc : TypeId × Value → H} {sp : Nat → Bool} {held : Bool} {base : Nat} (a : Option Addr) (n c : Nat) (mode uid gid : Int) (w : World) {d : DataW H} {p : List MemPlace} (h : DataW.Trod enc Try.prog w base sp held 31 (.slice a n c) d p) (_ : -9223372036854775808 ≤ mode) (_ : mode ≤ 9223372036854775807) (_ : -9223372036854775808 ≤ uid) (_ : uid ≤ 9223372036854775807) (_ : -9223372036854775808 ≤ gid) (_ : gid ≤ 9223372036854775807) :
    Calls Try.prog 6 #[.slice a n c, .int .i64 mode, .int .i64 uid, .int .i64 gid] w fun e w' => e = .returned (.bool true) ∧ Below w.heap.size w w' := walk_intsv [.int .i64 mode, .int .i64 uid, .int .i64 gid] (fun l => Lsets l mode uid gid) a n c w h
end Go.Proofs.Ythcbdkmhamhciaa
