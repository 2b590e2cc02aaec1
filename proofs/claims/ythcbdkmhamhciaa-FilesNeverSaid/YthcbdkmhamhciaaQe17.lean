/-
  Part 17 of the proof of FilesNeverP: what the statement's proof uses of the texts in wip/tpl.
-/
import Derived.OpenShut
import Derived.ChangeArms
import Derived.ChangeOld
import Derived.DataReads
import Derived.DataElems
import Derived.Test.YthcbdkmhamhciaaQe16
namespace Go.Proofs.Ythcbdkmhamhciaa
open Go.RowKit

theorem Prename (f : Fls) (src : Fil) (name : Str) (to : Fil) (name2 : Str) (hv : FlsV f) : AFn Try.prog 47 [.agg (flsA f), .agg (filA src), .v (.string name), .agg (filA to), .v (.string name2)] (fun r => r = chgR (renameL f src name to name2)) := by
  by_cases hS0 : (srcL f src name to name2).2 = 0
  · obtain ⟨q, d, i, n1, j, n2, p, k, m, h⟩ := ren_of hv hS0
    have hS : srcL f src name to name2 = ((srcL f src name to name2).1, 0) := Prod.ext rfl hS0
    generalize (srcL f src name to name2).1 = A at h hS
    obtain ⟨O, b, hO⟩ : ∃ O b, entP f to name2 = (O, b) := ⟨_, _, rfl⟩
    cases b with
    | true =>
      by_cases hns : O = A
      · exact Pren_two f src name to name2 hv hS h hO (.inl ⟨rfl, hns⟩)
      by_cases h2 : ren2L f src to A O 0 = 0
      · by_cases hij : i = j
        · subst hij
          obtain rfl : n1 = n2 := Option.some.inj (h.hi.symm.trans h.hj)
          exact Pren_SA f src name to name2 hv hS h hO hns h2
        exact Pren_DA f src name to name2 hv hS h hO hns h2 hij
      exact Pren_two f src name to name2 hv hS h hO (.inr ⟨fun hh => hns hh.2, h2⟩)
    | false =>
      by_cases h2 : ren2L f src to A O 2 = 0
      · by_cases hij : i = j
        · subst hij
          obtain rfl : n1 = n2 := Option.some.inj (h.hi.symm.trans h.hj)
          exact Pren_SC f src name to name2 hv hS h hO h2
        by_cases hF0 : n2.entries = []
        · exact Pren_D0 f src name to name2 hv hS h hO h2 hij hF0
        exact Pren_DB f src name to name2 hv hS h hO h2 hij (List.length_pos_iff.2 hF0)
      exact Pren_two f src name to name2 hv hS h hO (.inr ⟨(fun hh => by cases hh.1), h2⟩)
  exact Pren_err f src name to name2 hv hS0
end Go.Proofs.Ythcbdkmhamhciaa
namespace Go.Proofs.Ythcbdkmhamhciaa
open Go.RowKit

theorem new_valid5 : FlsV (newL 1).1 := (new_valid (by decide) (by decide)).1
def aw5N : Nod := ⟨0, 1, 420, 0, 0, 0, ⟨#[]⟩, []⟩
def aw5F1 : Fls := (mkL (newL 1).1 (0, 1) ⟨#[97]⟩ aw5N).1
def aw5F2 : Fls := (linkL aw5F1 (0, 1) ⟨#[98]⟩ (0, 2)).1
set_option maxRecDepth 100000 in
theorem aw5_make : (mkL (newL 1).1 (0, 1) ⟨#[97]⟩ aw5N).2.2 = 0 ∧ (mkL (newL 1).1 (0, 1) ⟨#[97]⟩ aw5N).2.1 = [((0, 1), ⟨#[97]⟩, (0, 0), (0, 2))] := by decide +kernel
set_option maxRecDepth 100000 in
theorem aw5_link : (linkL aw5F1 (0, 1) ⟨#[98]⟩ (0, 2)).2.2 = 0 := by decide +kernel
set_option maxRecDepth 100000 in
theorem aw5_links : linksF aw5F2 (0, 2) = 2 := by decide +kernel
set_option maxRecDepth 100000 in
theorem aw5_e1 : (nodG (newL 1).1 (0, 1)).entries = [] := by decide +kernel
set_option maxRecDepth 100000 in
theorem aw5_e2 : 0 < (nodG aw5F1 (0, 1)).entries.length := by decide +kernel
theorem aw5_valid : FlsV aw5F1 ∧ FlsV aw5F2 := by
  have h1 : FlsV aw5F1 := (make_okay new_valid5 _ _ _ aw5_make.1).1
  exact ⟨h1, (link_okay h1 _ _ _ aw5_link).1⟩
section
set_option maxRecDepth 10000
set_option maxHeartbeats 1000000
theorem Lawake5 : AFn Try.prog 18 [] (fun r => r = .v (.bool true)) := by
  have hnew : AFn Try.prog 15 [.v (.int .i64 1)] (fun r => r = .tup [.agg (flsA (newL 1).1), .v (.int .i64 0)]) := Pnew 1
  have hmk : AFn Try.prog 24 [.agg (flsA (newL 1).1), .agg [.v (.int .i64 0), .v (.int .i64 1)], .v (.string ⟨#[97]⟩), .agg (nodA aw5N)] (fun r => r = .tup [.agg (flsA aw5F1), .sl 7 [chgA ((0, 1), ⟨#[97]⟩, (0, 0), (0, 2))] none, .v (.int .i64 0)]) :=
    (Pmake0 (newL 1).1 (0, 1) ⟨#[97]⟩ aw5N new_valid5 (by decide) aw5_e1).mono fun r hr => by rw [hr]; unfold chgR; rw [aw5_make.1, aw5_make.2]; rfl
  obtain ⟨c2, hlk⟩ : ∃ c2, AFn Try.prog 27 [.agg (flsA aw5F1), .agg [.v (.int .i64 0), .v (.int .i64 1)], .v (.string ⟨#[98]⟩), .agg [.v (.int .i64 0), .v (.int .i64 2)]] (fun r => r = .tup [.agg (flsA aw5F2), .sl 7 (List.map chgA c2) none, .v (.int .i64 0)]) :=
    ⟨_, (PlinkG aw5F1 (0, 1) ⟨#[98]⟩ (0, 2) aw5_valid.1 aw5_e2).mono fun r hr => by rw [hr]; unfold chgR; rw [aw5_link]; rfl⟩
  have hls : AFn Try.prog 37 [.agg (flsA aw5F2), .agg [.v (.int .i64 0), .v (.int .i64 2)]] (fun r => r = .v (.int .i64 2)) :=
    (Plinks aw5F2 (0, 2) aw5_valid.2.b).mono fun r hr => by rw [hr, aw5_links]; rfl
  refine enter Try.func18 rfl rfl rfl rfl rfl 0 rfl ?_
  refine w_ (a_ (h:=e_ (w_ (?_))))
  refine al_p rfl (q_call (hnew) ?_)
  rintro r rfl
  refine m_ (h:=x_ (h:=x_ (h:=al_ (h:=s_ (h:=a_ (h:=e_ (w_ (bd_ (h:=al_ (h:=s_ (h:=e_ (w_ (l_ (h:=l_ (h:=?_)))))))))))))))
  refine al_p rfl (st_le (y := .agg (nodA aw5N)) (st_build (by repeat (first | exact FillA.nil _ | (apply FillA.cons; (focus exact rfl); (focus exact rfl); (focus exact rfl); (focus exact rfl); (focus exact rfl); (focus (repeat constructor))))) ⟨rfl, rfl⟩) (by repeat (first | exact LeA.refl _ | exact LeA.nil _ | exact LeL.refl _ | refine LeA.agg ?_ | refine LeA.tup ?_ | exact LeL.nil | refine LeL.cons ?_ ?_ | exact LeA.any _)) ?_)
  refine al_p rfl (q_call (hmk) ?_)
  rintro r rfl
  refine m_ (h:=x_ (h:=x_ (h:=x_ (h:=s_ (h:=a_ (h:=a_ (h:=e_ (q_ (w_ (m_ (h:=nq_ (h:=m_ (h:=?_)))))))))))))
  refine al_gs false rfl rfl (fun hb1 => ?_) (fun hb1 => ?_)
  · have hc1 := bp hb1
    refine g0_ (h:=g0_ (h:=pt_ (h:=m_ (h:=g0_ (h:=g0_ (h:=g0_ (h:=pt_ (h:=e_ (cy_ (h:=w_ (a_ (h:=e_ (aw_ret (x_thenR (?_)))))))))))))))
    refine e_ret ?_
    first | rfl | (exfalso; simp_all)
  have hc1 := bp hb1
  refine m_ (h:=nq_ (h:=pf_ (h:=m_ (h:=?_))))
  refine al_gs false rfl rfl (fun hb2 => ?_) (fun hb2 => ?_)
  · have hc2 := bp hb2
    refine g0_ (h:=g0_ (h:=g0_ (h:=pt_ (h:=e_ (cy_ (h:=w_ (a_ (h:=e_ (aw_ret (x_thenR (?_)))))))))))
    refine e_ret ?_
    first | rfl | (exfalso; simp_all)
  have hc2 := bp hb2
  refine m_ (h:=n_ (h:=nq_ (h:=pf_ (h:=e_ (?_)))))
  refine aw_cond rfl (fun hb3 => ?_) (fun hb3 => ?_)
  · have hc3 := bp hb3
    refine w_ (a_ (h:=e_ (aw_ret (x_thenR (?_)))))
    refine e_ret ?_
    first | rfl | (exfalso; simp_all)
  have hc3 := bp hb3
  refine kt_ (q_ (yk_ ([(1, [.v (.int .i64 0), .v (.int .i64 1)])]) 14 (h:=dl_ 1 (h:=dm_ 2 (h:=di_ 3 (h:=df_ 4 (h:=dl_ 5 (h:=?_))))))))
  refine c_ 0 rfl (st_loadBW rfl rfl rfl ?_)
  refine o_ (h:=?_)
  refine c_ 6 rfl (q_call (hlk) ?_)
  rintro r rfl
  refine o_ (h:=dm_ 7 (h:=dx_ 8 (h:=dx_ 9 (h:=dx_ 10 (h:=?_)))))
  refine c0_ 11 rfl (s_store rfl rfl rfl rfl rfl rfl (by repeat constructor) (by repeat constructor) ?_)
  refine o_ (h:=da_ 12 (h:=da_ 13 (h:=z_ (h:=t_ (q_ (yr_ 12 (h:=dm_ 0 (h:=deq_ 1 (h:=dm_ 2 (h:=?_))))))))))
  refine aa_both (j := 2) rfl (fun hb4 => ?_) (fun hb4 => ?_)
  · have hc4 := bp hb4
    refine dl_ 3 (h:=dm_ 4 (h:=di_ 5 (h:=df_ 6 (h:=dl_ 7 (h:=?_)))))
    refine c_ 8 rfl (q_call (hls) ?_)
    rintro r rfl
    refine o_ (h:=deq_ 9 (h:=dpt_ 10 (h:=da_ 11 (h:=z_ (h:=t_ (aw_ret (?_)))))))
    refine e_ret ?_
    first | rfl | (exfalso; simp_all)
  have hc4 := bp hb4
  refine d0_ 3 (h:=d0_ 4 (h:=d0_ 5 (h:=d0_ 6 (h:=d0_ 7 (h:=d0_ 8 (h:=d0_ 9 (h:=dpf_ 10 (h:=da_ 11 (h:=z_ (h:=t_ (aw_ret (?_))))))))))))
  refine e_ret ?_
  first | rfl | (exfalso; simp_all)

end
end Go.Proofs.Ythcbdkmhamhciaa
namespace Go.Proofs.Ythcbdkmhamhciaa
open Go.RowKit

theorem mk_err (f : Fls) (dir : Fil) (name : Str) (n : Nod) : ((mkL f dir name n).2.2 ≠ 0 → (mkL f dir name n).1 = []) ∧ (mkL f dir name n).2.1.length ≤ 1000 := by
  unfold mkL
  repeat' split
  all_goals first | exact ⟨fun _ => rfl, Nat.zero_le _⟩ | exact ⟨fun h => absurd rfl h, by simp⟩
theorem lnk_err (f : Fls) (dir : Fil) (name : Str) (a : Fil) : ((linkL f dir name a).2.2 ≠ 0 → (linkL f dir name a).1 = []) ∧ (linkL f dir name a).2.1.length ≤ 1000 := by
  unfold linkL
  repeat' split
  all_goals first | exact ⟨fun _ => rfl, Nat.zero_le _⟩ | exact ⟨fun h => absurd rfl h, by simp⟩
end Go.Proofs.Ythcbdkmhamhciaa
namespace Go.Proofs.Ythcbdkmhamhciaa
open Go.RowKit

theorem ren_errs (f : Fls) (src : Fil) (name : Str) (to : Fil) (name2 : Str) : ((renameL f src name to name2).2.2 ≠ 0 → (renameL f src name to name2).1 = []) ∧ (renameL f src name to name2).2.1.length ≤ 1000 := by
  unfold renameL
  repeat' split
  all_goals first | exact ⟨fun _ => rfl, Nat.zero_le _⟩ | exact ⟨fun h => absurd rfl h, by simp⟩
end Go.Proofs.Ythcbdkmhamhciaa
namespace Go.Proofs.Ythcbdkmhamhciaa
open Go.RowKit

theorem named_ok {f : Fls} (hv : FlsV f) {dir : Fil} {name : Str} (h : (namedL f dir name).2 = 0) : placeL f dir name = 0 ∧ (lookL f dir name).2 = 0 ∧ namedL f dir name = lookL f dir name ∧
    ∃ (q i : Nat) (d : Dvc) (n0 : Nod) (p k : Nat) (m : Nod), dir.1 = (q : Int) ∧ f[q]? = some d ∧ d.nodes[i]? = some n0 ∧ n0.ino = dir.2 ∧ (∃ e, n0.entries[p]? = some e ∧ e.1 = name) ∧ (lookL f dir name).1.1 = (q : Int) ∧ d.nodes[k]? = some m ∧ m.ino = (lookL f dir name).1.2 ∧ nodeL f (lookL f dir name).1 = some m := by
  unfold namedL at h ⊢
  by_cases hp : placeL f dir name = 0
  · rw [if_neg (not_not_intro hp)] at h ⊢
    obtain ⟨q, i, d, n0, hdq, hq, hn0, hino, hidx, hnode, hk0, hnm⟩ := place_ok hp
    obtain ⟨e, m, he, hle, hm, hem, he1, hnm⟩ := look_node hv hdq hq hn0 hnode hk0 h
    obtain ⟨hemem, hen⟩ := entF_some he
    obtain ⟨p, hpe⟩ := List.getElem?_of_mem hemem
    obtain ⟨k, hmk⟩ := List.getElem?_of_mem hm
    exact ⟨hp, h, rfl, q, i, d, n0, p, k, m, hdq, hq, hn0, hino, ⟨e, hpe, hen⟩, by rw [hle]; exact hdq, hmk, by rw [hle]; exact hem.symm, hnm⟩
  rw [if_pos hp] at h
  exact absurd h hp
theorem named_err {f : Fls} {dir : Fil} {name : Str} (h : ¬ (namedL f dir name).2 = 0) : unlinkL f dir name = ([], [], (namedL f dir name).2) ∧ rmdirL f dir name = ([], [], (namedL f dir name).2) := by
  unfold namedL at h ⊢
  unfold unlinkL rmdirL
  by_cases hp : placeL f dir name = 0
  · rw [if_neg (not_not_intro hp)] at h ⊢
    simp only [ne_eq, hp, not_true, if_false, h, not_false_eq_true, if_true, and_self]
  rw [if_pos hp] at h ⊢
  simp only [ne_eq, hp, not_false_eq_true, if_true, and_self]
section
set_option maxRecDepth 10000
set_option maxHeartbeats 2000000
theorem Punlink (f : Fls) (dir : Fil) (name : Str) (hv : FlsV f) : AFn Try.prog 43 [.agg (flsA f), .agg (filA dir), .v (.string name)] (fun r => r = chgR (unlinkL f dir name)) := by
  have hf := hv.b
  refine enter Try.func43 rfl rfl rfl rfl rfl 0 rfl ?_
  refine w_ (b_ (h:=b_ (h:=al_ (h:=a_ (h:=a_ (h:=e_ (w_ (l_ (h:=l_ (h:=m_ (h:=?_)))))))))))
  refine al_p rfl (q_call (Pnamed f dir name hf) ?_)
  rintro r rfl
  refine m_ (h:=x_ (h:=x_ (h:=al_ (h:=s_ (h:=a_ (h:=e_ (q_ (w_ (m_ (h:=nq_ (h:=e_ (?_))))))))))))
  refine aw_cond rfl (fun hb1 => ?_) (fun hb1 => ?_)
  · have hc1 := bp hb1
    refine w_ (bd_ (h:=m_ (h:=s_ (h:=a_ (h:=a_ (h:=e_ (aw_ret (x_thenR (?_)))))))))
    refine rt_ (r := chgR (unlinkL f dir name)) none (h5 := ?_) (h6 := ⟨rfl, rfl, rfl⟩)
    rw [(named_err hc1).1]
    exact err_le _
  have hc1 := bp hb1
  obtain ⟨hpl, hlk, hnl, q, i, d, n0, p, k, m, hdq, hq, hn0, hino, hpe, ha1, hmk, hmi, hnm⟩ := named_ok hv (show (namedL f dir name).2 = 0 by omega)
  refine kt_ (q_ (w_ (l_ (h:=l_ (h:=?_)))))
  refine al_p rfl (q_call (PisDir f (namedL f dir name).1 hf) ?_)
  rintro r rfl
  refine e_ (?_)
  refine aw_cond rfl (fun hb2 => ?_) (fun hb2 => ?_)
  · have hc2 := bp hb2
    refine w_ (bd_ (h:=s_ (h:=a_ (h:=a_ (h:=e_ (aw_ret (x_thenR (?_))))))))
    refine rt_ (r := chgR (unlinkL f dir name)) none (h5 := ?_) (h6 := ⟨rfl, rfl, rfl⟩)
    rw [unlinkL, if_neg (by simp [hpl]), if_neg (by simp [hlk]), if_pos (by rw [← hnl]; exact hc2)]
    exact err_le _
  have hc2 := bp hb2
  refine kt_ (w_ (l_ (h:=l_ (h:=m_ (h:=l_ (h:=?_))))))
  refine al_p rfl (q_call (Prm5 f q d i n0 dir (namedL f dir name).1 name p k hv hdq hq hn0 hino hpe (by rw [hnl]; exact ha1) ⟨m, hmk, by rw [hnl]; exact hmi⟩) ?_)
  rintro r rfl
  refine m_ (h:=x_ (h:=x_ (h:=s_ (h:=a_ (h:=e_ (w_ (l_ (h:=m_ (h:=s_ (h:=a_ (h:=a_ (h:=e_ (aw_ret (?_))))))))))))))
  refine rt_ (r := chgR (unlinkL f dir name)) none (h5 := ?_) (h6 := ⟨rfl, rfl, rfl⟩)
  rw [unlinkL, if_neg (by simp [hpl]), if_neg (by simp [hlk]), if_neg (by rw [← hnl, hc2]; simp), hdq, Int.toNat_natCast, onD_set hq, ← hino, ← entS_D (hv.vd d (List.mem_of_getElem? hq)) hn0, ← hnl]
  exact LeA.refl _

theorem Prmdir (f : Fls) (dir : Fil) (name : Str) (hv : FlsV f) : AFn Try.prog 45 [.agg (flsA f), .agg (filA dir), .v (.string name)] (fun r => r = chgR (rmdirL f dir name)) := by
  have hf := hv.b
  refine enter Try.func45 rfl rfl rfl rfl rfl 0 rfl ?_
  refine w_ (b_ (h:=b_ (h:=al_ (h:=a_ (h:=a_ (h:=e_ (w_ (l_ (h:=l_ (h:=m_ (h:=?_)))))))))))
  refine al_p rfl (q_call (Pnamed f dir name hf) ?_)
  rintro r rfl
  refine m_ (h:=x_ (h:=x_ (h:=al_ (h:=s_ (h:=a_ (h:=e_ (q_ (w_ (m_ (h:=nq_ (h:=e_ (?_))))))))))))
  refine aw_cond rfl (fun hb1 => ?_) (fun hb1 => ?_)
  · have hc1 := bp hb1
    refine w_ (bd_ (h:=m_ (h:=s_ (h:=a_ (h:=a_ (h:=e_ (aw_ret (x_thenR (?_)))))))))
    refine rt_ (r := chgR (rmdirL f dir name)) none (h5 := ?_) (h6 := ⟨rfl, rfl, rfl⟩)
    rw [(named_err hc1).2]
    exact err_le _
  have hc1 := bp hb1
  obtain ⟨hpl, hlk, hnl, q, i, d, n0, p, k, m, hdq, hq, hn0, hino, hpe, ha1, hmk, hmi, hnm⟩ := named_ok hv (show (namedL f dir name).2 = 0 by omega)
  refine kt_ (q_ (w_ (l_ (h:=l_ (h:=?_)))))
  refine al_p rfl (q_call (PisDir f (namedL f dir name).1 hf) ?_)
  rintro r rfl
  refine nt_ (h:=e_ (?_))
  refine aw_cond rfl (fun hb2 => ?_) (fun hb2 => ?_)
  · have hc2 := bp hb2
    refine w_ (bd_ (h:=s_ (h:=a_ (h:=a_ (h:=e_ (aw_ret (x_thenR (?_))))))))
    refine rt_ (r := chgR (rmdirL f dir name)) none (h5 := ?_) (h6 := ⟨rfl, rfl, rfl⟩)
    rw [rmdirL, if_neg (by simp [hpl]), if_neg (by simp [hlk]), if_pos (by rw [← hnl]; simpa using hc2)]
    exact err_le _
  have hc2 := bp hb2
  refine kt_ (q_ (w_ (l_ (h:=l_ (h:=?_)))))
  refine al_p rfl (q_call (Pfind f (namedL f dir name).1 hf) ?_)
  rintro r (⟨e, rfl⟩ | ⟨n, e, rfl⟩)
  · rw [hnl, hnm] at e; cases e
  have hnm2 : n = m := by rw [hnl, hnm] at e; exact (Option.some.inj e).symm
  refine k_ (h:=f_ (h:=l_ (h:=n_ (h:=gt_ (h:=e_ (?_))))))
  refine aw_cond rfl (fun hb3 => ?_) (fun hb3 => ?_)
  · have hc3 := bp hb3
    refine w_ (bd_ (h:=s_ (h:=a_ (h:=a_ (h:=e_ (aw_ret (x_thenR (?_))))))))
    refine rt_ (r := chgR (rmdirL f dir name)) none (h5 := ?_) (h6 := ⟨rfl, rfl, rfl⟩)
    rw [rmdirL, if_neg (by simp [hpl]), if_neg (by simp [hlk]), if_neg (by rw [← hnl]; simpa using hc2), if_pos (by rw [emptyL, hnm]; simp only [List.length_map] at hc3; simp; intro h; subst hnm2; rw [h] at hc3; simp at hc3)]
    exact err_le _
  have hc3 := bp hb3
  refine kt_ (w_ (l_ (h:=l_ (h:=m_ (h:=l_ (h:=?_))))))
  refine al_p rfl (q_call (Prm5 f q d i n0 dir (namedL f dir name).1 name p k hv hdq hq hn0 hino hpe (by rw [hnl]; exact ha1) ⟨m, hmk, by rw [hnl]; exact hmi⟩) ?_)
  rintro r rfl
  refine m_ (h:=x_ (h:=x_ (h:=s_ (h:=a_ (h:=e_ (w_ (l_ (h:=m_ (h:=s_ (h:=a_ (h:=a_ (h:=e_ (aw_ret (?_))))))))))))))
  refine rt_ (r := chgR (rmdirL f dir name)) none (h5 := ?_) (h6 := ⟨rfl, rfl, rfl⟩)
  rw [rmdirL, if_neg (by simp [hpl]), if_neg (by simp [hlk]), if_neg (by rw [← hnl]; simpa using hc2), if_neg (by rw [emptyL, hnm]; simp only [List.length_map] at hc3; subst hnm2; simp; exact List.length_eq_zero_iff.1 (by omega)), hdq, Int.toNat_natCast, onD_set hq, ← hino, ← entS_D (hv.vd d (List.mem_of_getElem? hq)) hn0, ← hnl]
  exact LeA.refl _

end
end Go.Proofs.Ythcbdkmhamhciaa
namespace Go.Proofs.Ythcbdkmhamhciaa
open Go.RowKit

def ChgOf (f : Fls) (Q : ChgRes) : Prop := (∃ dir name a, Q = linkL f dir name a) ∨ (∃ dir name, Q = unlinkL f dir name) ∨ (∃ dir name, Q = rmdirL f dir name) ∨ (∃ src name to name2, Q = renameL f src name to name2) ∨ (∃ dir name n, Q = mkL f dir name n)
theorem ChgOf.okay {f : Fls} {Q : ChgRes} (h : ChgOf f Q) (hv : FlsV f) : Okay f Q := by
  rcases h with ⟨_, _, _, rfl⟩ | ⟨_, _, rfl⟩ | ⟨_, _, rfl⟩ | ⟨_, _, _, _, rfl⟩ | ⟨_, _, _, rfl⟩
  · exact link_okay hv _ _ _
  · exact unlink_okay hv _ _
  · exact rmdir_okay hv _ _
  · exact rename_okay hv _ _ _ _
  exact make_okay hv _ _ _
section
set_option maxRecDepth 20000
set_option maxHeartbeats 4000000
theorem Lchange (l : List Int) (a : Nat) (f : Fls) (ha : a ≤ 1000000000) (hv : FlsV f) : GenF Try.prog 49 l a [.agg (flsA f)] 80 (fun r => ∃ Q, r = chgR Q ∧ ChgOf f Q) := by
  have hf := hv.b
  have hne := hv.ne
  refine enter Try.func49 rfl rfl rfl rfl rfl 1 rfl ?_
  refine w_ (b_ (h:=al_ (h:=a_ (h:=a_ (h:=e_ (w_ (m_ (h:=l_ (h:=?_)))))))))
  refine al_p rfl (s_gen 0 (hc := Gfile l _ f (by omega) hf hne) (hR := ?_))
  rintro r a1 ha1 ⟨x1, rfl⟩
  refine ⟨rfl, _, (by repeat constructor), ?_⟩
  refine m_ (h:=?_)
  refine al_p rfl (s_gen 0 (hc := Gname l _ (by omega)) (hR := ?_))
  rintro r a2 ha2 ⟨k2, rfl, hk2⟩
  refine ⟨rfl, _, (by repeat constructor), ?_⟩
  refine al_ (h:=s_ (h:=a_ (h:=e_ (q_ (w_ (m_ (h:=?_)))))))
  refine al_p rfl (s_gen 0 (hc := Gn l _ (6) (by omega) (by omega)) (hR := ?_))
  rintro r a3 ha3 ⟨k3, rfl, p3, q3, o3⟩
  refine ⟨rfl, _, (by repeat constructor), ?_⟩
  refine e_ (aw_block (w_ (eq_ (h:=a_ (h:=e_ (?_))))))
  refine aw_cond rfl (fun hb1 => ?_) (fun hb1 => ?_)
  · have hc1 := bp hb1
    refine q_ (yk_ ([(1, flsA f), (3, filA x1)]) 13 (h:=dl_ 0 (h:=dl_ 1 (h:=dm_ 2 (h:=dm_ 3 (h:=dl_ 4 (h:=?_)))))))
    refine c_ 5 rfl (s_gen 0 (hc := Gfile l _ f (by omega) hf hne) (hR := ?_))
    rintro r a4 ha4 ⟨x4, rfl⟩
    refine ⟨rfl, _, (by repeat constructor), ?_⟩
    refine o_ (h:=?_)
    refine c_ 6 rfl (q_call (Plink f x1 k2 x4 hv) ?_)
    rintro r rfl
    refine o_ (h:=dx_ 7 (h:=dx_ 8 (h:=dx_ 9 (h:=?_))))
    refine c0_ 10 rfl (s_store rfl rfl rfl rfl rfl rfl (by repeat constructor) (by repeat constructor) ?_)
    refine o_ (h:=da_ 11 (h:=da_ 12 (h:=z_ (h:=t_ (aw_ret (x_blockR (x_thenR (?_))))))))
    refine rt_ none (h5 := (LeA.refl _)) (h6 := ⟨_, rfl, rfl, _, ?_, rfl, linkL f x1 k2 x4, rfl, .inl ⟨_, _, _, rfl⟩⟩)
    omega
  have hc1 := bp hb1
  refine w_ (eq_ (h:=a_ (h:=e_ (?_))))
  refine aw_cond rfl (fun hb2 => ?_) (fun hb2 => ?_)
  · have hc2 := bp hb2
    refine w_ (l_ (h:=l_ (h:=m_ (h:=?_))))
    refine al_p rfl (q_call (Punlink f x1 k2 hv) ?_)
    rintro r rfl
    refine x_ (h:=x_ (h:=x_ (h:=s_ (h:=a_ (h:=a_ (h:=e_ (aw_ret (x_blockR (x_thenR (?_))))))))))
    refine rt_ none (h5 := (LeA.refl _)) (h6 := ⟨_, rfl, rfl, _, ?_, rfl, unlinkL f x1 k2, rfl, .inr (.inl ⟨_, _, rfl⟩)⟩)
    omega
  have hc2 := bp hb2
  refine w_ (eq_ (h:=a_ (h:=e_ (?_))))
  refine aw_cond rfl (fun hb3 => ?_) (fun hb3 => ?_)
  · have hc3 := bp hb3
    refine w_ (l_ (h:=l_ (h:=m_ (h:=?_))))
    refine al_p rfl (q_call (Prmdir f x1 k2 hv) ?_)
    rintro r rfl
    refine x_ (h:=x_ (h:=x_ (h:=s_ (h:=a_ (h:=a_ (h:=e_ (aw_ret (x_blockR (x_thenR (?_))))))))))
    refine rt_ none (h5 := (LeA.refl _)) (h6 := ⟨_, rfl, rfl, _, ?_, rfl, rmdirL f x1 k2, rfl, .inr (.inr (.inl ⟨_, _, rfl⟩))⟩)
    omega
  have hc3 := bp hb3
  refine w_ (eq_ (h:=a_ (h:=e_ (?_))))
  refine aw_cond rfl (fun hb4 => ?_) (fun hb4 => ?_)
  · have hc4 := bp hb4
    refine q_ (yk_ ([(1, flsA f), (3, filA x1)]) 15 (h:=dl_ 0 (h:=dl_ 1 (h:=dm_ 2 (h:=dm_ 3 (h:=dl_ 4 (h:=dm_ 6 (h:=?_))))))))
    refine c_ 5 rfl (s_gen 0 (hc := Gfile l _ f (by omega) hf hne) (hR := ?_))
    rintro r a5 ha5 ⟨x5, rfl⟩
    refine ⟨rfl, _, (by repeat constructor), ?_⟩
    refine o_ (h:=?_)
    refine c_ 7 rfl (s_gen 0 (hc := Gname l _ (by omega)) (hR := ?_))
    rintro r a6 ha6 ⟨k6, rfl, hk6⟩
    refine ⟨rfl, _, (by repeat constructor), ?_⟩
    refine o_ (h:=?_)
    refine c_ 8 rfl (q_call (Prename f x1 k2 x5 k6 hv) ?_)
    rintro r rfl
    refine o_ (h:=dx_ 9 (h:=dx_ 10 (h:=dx_ 11 (h:=?_))))
    refine c0_ 12 rfl (s_store rfl rfl rfl rfl rfl rfl (by repeat constructor) (by repeat constructor) ?_)
    refine o_ (h:=da_ 13 (h:=da_ 14 (h:=z_ (h:=t_ (aw_ret (x_blockR (x_thenR (?_))))))))
    refine rt_ none (h5 := (LeA.refl _)) (h6 := ⟨_, rfl, rfl, _, ?_, rfl, renameL f x1 k2 x5 k6, rfl, .inr (.inr (.inr (.inl ⟨_, _, _, _, rfl⟩)))⟩)
    omega
  have hc4 := bp hb4
  refine aw_skip (x_blockN (t_ (q_ (yk_ ([(1, flsA f), (3, filA x1)]) 12 (h:=dl_ 0 (h:=dl_ 1 (h:=dm_ 2 (h:=dm_ 3 (h:=?_)))))))))
  refine c_ 4 rfl (s_gen 0 (hc := Gattr l _ (by omega)) (hR := ?_))
  rintro r a7 ha7 ⟨n7, ht7, he7, rfl⟩
  refine ⟨rfl, _, (by repeat constructor), ?_⟩
  refine o_ (h:=?_)
  refine c_ 5 rfl (q_call (Pmake f x1 k2 n7 hv (by omega)) ?_)
  rintro r rfl
  refine o_ (h:=dx_ 6 (h:=dx_ 7 (h:=dx_ 8 (h:=?_))))
  refine c0_ 9 rfl (s_store rfl rfl rfl rfl rfl rfl (by repeat constructor) (by repeat constructor) ?_)
  refine o_ (h:=da_ 10 (h:=da_ 11 (h:=z_ (h:=t_ (aw_ret (?_))))))
  refine rt_ none (h5 := (LeA.refl _)) (h6 := ⟨_, rfl, rfl, _, ?_, rfl, mkL f x1 k2 n7, rfl, .inr (.inr (.inr (.inr ⟨_, _, _, rfl⟩)))⟩)
  omega

end
end Go.Proofs.Ythcbdkmhamhciaa
namespace Go.Proofs.Ythcbdkmhamhciaa
open Go.RowKit

theorem unl_err (f : Fls) (dir : Fil) (name : Str) : ((unlinkL f dir name).2.2 ≠ 0 → (unlinkL f dir name).1 = []) ∧ (unlinkL f dir name).2.1.length ≤ 1000 := by
  unfold unlinkL
  repeat' split
  all_goals first | exact ⟨fun _ => rfl, Nat.zero_le _⟩ | exact ⟨fun h => absurd rfl h, by simp⟩
theorem rmd_err (f : Fls) (dir : Fil) (name : Str) : ((rmdirL f dir name).2.2 ≠ 0 → (rmdirL f dir name).1 = []) ∧ (rmdirL f dir name).2.1.length ≤ 1000 := by
  unfold rmdirL
  repeat' split
  all_goals first | exact ⟨fun _ => rfl, Nat.zero_le _⟩ | exact ⟨fun h => absurd rfl h, by simp⟩
end Go.Proofs.Ythcbdkmhamhciaa
namespace Go.Proofs.Ythcbdkmhamhciaa
open Go.RowKit

theorem never_law {f : Fls} (hv : FlsV f) {Q : ChgRes} (h : ChgOf f Q) {c : Chg} (hc : c ∈ Q.2.1) (hno : hasG f c.2.2.2 = false) (hne : c.2.2.2 ≠ (0, 0)) : ∃ (q : Nat) (d d' : Dvc), c.2.2.2.1 = (q : Int) ∧ f[q]? = some d ∧ c.2.2.2.2 = d.next ∧ Q.1[q]? = some d' ∧ d'.next = d.next + 1 := by
  rcases h with ⟨dir, name, a, rfl⟩ | ⟨dir, name, rfl⟩ | ⟨dir, name, rfl⟩ | ⟨src, name, to, name2, rfl⟩ | ⟨dir, name, n, rfl⟩
  · exfalso
    unfold linkL at hc
    split at hc
    · cases hc
    split at hc
    · cases hc
    rename_i h1
    repeat' split at hc
    all_goals first | (cases hc; done) | skip
    rw [List.mem_singleton.1 hc] at hno
    exact h1 hno
  · exfalso
    unfold unlinkL at hc
    repeat' split at hc
    all_goals first | (cases hc; done) | skip
    rw [List.mem_singleton.1 hc] at hne
    exact hne rfl
  · exfalso
    unfold rmdirL at hc
    repeat' split at hc
    all_goals first | (cases hc; done) | skip
    rw [List.mem_singleton.1 hc] at hne
    exact hne rfl
  · exfalso
    unfold renameL at hc
    split at hc
    · cases hc
    rename_i hord
    split at hc
    · cases hc
    rename_i hl1
    repeat' split at hc
    all_goals first | (cases hc; done) | skip
    obtain ⟨hpl1, -⟩ := ord_zero (f := f) (x := src) (y := to) (name := name) (name2 := name2) (by omega)
    obtain ⟨q, i, d, n1, hsq, hq, hn1, hn1i, hidx, hnode, hk1, hnm1⟩ := place_ok hpl1
    obtain ⟨e, m, he, hle, hm, hem, he1, hmn⟩ := look_node hv hsq hq hn1 hnode hk1 (name := name) (by omega)
    simp only [List.mem_cons, List.not_mem_nil, or_false] at hc
    rcases hc with rfl | rfl
    · exact hne rfl
    simp only [hasG, hmn] at hno
    cases hno
  unfold mkL at hc ⊢
  split at hc
  · cases hc
  rename_i h1
  rw [if_neg h1]
  split at hc
  · cases hc
  rename_i h2
  rw [if_neg h2]
  split at hc
  · cases hc
  rename_i h3
  rw [if_neg h3]
  cases hat : atI f dir.1 with
  | none => rw [hat] at hc; cases hc
  | some d =>
    rw [hat] at hc
    simp only at hc ⊢
    split at hc
    · cases hc
    rename_i h4
    rw [if_neg h4]
    obtain ⟨g1, g2, g3⟩ := atI_some hat
    rw [List.mem_singleton.1 hc]
    exact ⟨dir.1.toNat, d, _, by simp only; omega, g3, rfl, List.getElem?_set_self (by omega), rfl⟩
theorem ChgOf.few {f : Fls} {Q : ChgRes} (h : ChgOf f Q) : Q.2.1.length ≤ 1000 ∧ (Q.2.2 ≠ 0 → Q.1 = []) := by
  rcases h with ⟨_, _, _, rfl⟩ | ⟨_, _, rfl⟩ | ⟨_, _, rfl⟩ | ⟨_, _, _, _, rfl⟩ | ⟨_, _, _, rfl⟩
  · exact (lnk_err _ _ _ _).symm
  · exact (unl_err _ _ _).symm
  · exact (rmd_err _ _ _).symm
  · exact (ren_errs _ _ _ _ _).symm
  exact (mk_err _ _ _ _).symm
section
set_option maxRecDepth 20000
set_option maxHeartbeats 4000000
theorem Lnever (l : List Int) : AFn Try.prog 14 [.sl 1 (l.map intA) none] (fun r => r = .v (.bool true)) := by
  refine enter Try.func14 rfl rfl rfl rfl rfl 0 rfl ?_
  refine w_ (a_ (h:=e_ (w_ (m_ (h:=?_)))))
  refine al_p rfl (s_callN rfl (by repeat (first | exact Args.nil | refine Args.cons _ _ _ _ _ rfl (argOk_clean rfl) ?_ | refine Args.cons _ _ _ _ _ rfl (argOk_nil _) ?_ | refine Args.cons _ _ _ _ _ rfl (argOk_era _) ?_ | refine Args.cons _ _ _ _ _ rfl (argOk_le rfl (by repeat (first | exact LeA.refl _ | exact LeA.nil _ | exact LeL.refl _ | refine LeA.agg ?_ | refine LeA.tup ?_ | exact LeL.nil | refine LeL.cons ?_ ?_ | exact LeA.any _))) ?_)) rfl (Gnew l) (by repeat constructor) ?_)
  skip
  refine a_ (h:=e_ (w_ (m_ (h:=?_))))
  refine al_p rfl (s_gen 0 (hc := Gfiles l _ (by omega)) (hR := ?_))
  rintro r a1 ha1 ⟨f0, rfl, hv0, hp0⟩
  refine ⟨rfl, _, (by repeat constructor), ?_⟩
  refine al_ (h:=s_ (h:=e_ (q_ (w_ (a_ (h:=e_ (aw_block (?_))))))))
  refine aw_loopW (fun m t => ∃ (j b : Nat) (f : Fls), j ≤ 8 ∧ m = 8 - j ∧ b ≤ 1000 + 100 * j ∧ FlsV f ∧ t = ⟨look [(3, .bp 0 0), (4, .bp 1 0), (5, .v (.int .i64 (j : Int)))], ⟨[srcA l b, flsA f], []⟩⟩) (8) ((wk 2 0)) (⟨0, _, f0, by omega, rfl, by omega, hv0, rfl⟩) ?_
  rintro m t ⟨j, b, f, hj, rfl, hbb, hv, rfl⟩
  refine q_ (w_ (m_ (h:=lt_ (h:=e_ (?_)))))
  refine aw_cond rfl (fun hb1 => ?_) (fun hb1 => ?_)
  · have hc1 := bp hb1
    refine kt_ (q_ (aw_block (w_ (m_ (h:=l_ (h:=?_))))))
    refine al_p rfl (s_gen 0 (hc := Lchange l _ f (by omega) hv) (hR := ?_))
    rintro r a2 ha2 ⟨Q, rfl, hQ⟩
    refine ⟨rfl, _, (by repeat constructor), ?_⟩
    have hqf := hQ.few.1
    have hfew := hv.b.few
    have hml : (f.map dvcA).length = f.length := by simp
    refine m_ (h:=x_ (h:=x_ (h:=x_ (h:=al_ (h:=s_ (h:=a_ (h:=a_ (h:=e_ (q_ (w_ (m_ (h:=nq_ (h:=e_ (?_))))))))))))))
    refine aw_cond rfl (fun hb2 => ?_) (fun hb2 => ?_)
    · have hc2 := bp hb2
      refine aw_exit (x_thenE (ABlock_out (t_ (aw_region (m_ (h:=ad_ (h:=a_ (h:=al_nil (?_)))))))))
      refine x_then ?_
      first
      | (refine ⟨_, _, ?_, ⟨j + 1, a2, Q.1, by omega, rfl, by omega, (hQ.okay hv hc2).1, rfl⟩, (wk 2 0)⟩; omega)
      | (refine ⟨_, _, ?_, ⟨j + 1, a2, f, by omega, rfl, by omega, hv, rfl⟩, (wk 2 0)⟩; omega)
    have hc2 := bp hb2
    refine kt_ (q_ (w_ (a_ (h:=e_ (aw_block (?_))))))
    refine aw_loopW (fun m t => ∃ k : Nat, k ≤ Q.2.1.length ∧ m = Q.2.1.length - k ∧ t = ⟨look [(3, .bp 0 0), (4, .bp 1 0), (5, .v (.int .i64 (j : Int))), (6, .bp 2 0), (7, .sl 7 (Q.2.1.map chgA) none), (9, .v (.int .i64 (k : Int)))], ⟨[srcA l a2, flsA f, flsA Q.1], []⟩⟩) (Q.2.1.length) ((wk 3 0)) (⟨0, by omega, rfl, rfl⟩) ?_
    rintro m t ⟨k, hk, rfl, rfl⟩
    refine q_ (w_ (m_ (h:=m_ (h:=n_ (h:=lt_ (h:=e_ (?_)))))))
    refine aw_cond rfl (fun hb3 => ?_) (fun hb3 => ?_)
    · have hc3 := bp hb3
      obtain ⟨hlt, c, hy, hrow, -⟩ := row_at chgA hc3
      refine kt_ (q_ (aw_block (q_ (yk_ ([(0, srcA l a2), (1, flsA f), (2, flsA Q.1)]) 13 (h:=dl_ 0 (h:=dm_ 1 (h:=dm_ 2 (h:=?_))))))))
      refine tk_ 3 rfl (fun _ hS => st_index (n := k) rfl rfl rfl hrow ⟨rfl, rfl⟩) ?_
      refine df_ 4 (h:=dl_ 5 (h:=?_))
      refine c2_ 6 10 rfl rfl ?_ ?_
      · refine q_call (Rnode f c.2.2.2 hv.b) ?_
        rintro r rfl
        refine o_ (h:=?_)
        refine dm_ 7 (h:=dx_ 8 (h:=dx_ 9 (h:=?_)))
        refine c_ 10 rfl (s_alloc (by repeat constructor) ?_)
        refine o_ (h:=?_)
        refine c0_ 11 rfl (s_store rfl rfl rfl rfl rfl rfl (by repeat constructor) (by repeat constructor) ?_)
        refine o_ (h:=da_ 12 (h:=z_ (h:=t_ (w_ (m_ (h:=nt_ (h:=m_ (h:=?_))))))))
        refine al_gs true rfl rfl (fun hb4 => ?_) (fun hb4 => ?_)
        · have hc4 := bp hb4
          refine m_ (h:=m_ (h:=?_))
          refine g_y (st_index (n := k) rfl rfl rfl hrow ?_)
          refine f_ (h:=l_ (h:=bd_ (h:=?_)))
          refine g_y (st_binA rfl rfl (by repeat constructor) (by repeat constructor) (fun w => neqlFil _ _ _ _ w) (by kernel_rfl) ?_)
          refine pt_ (h:=e_ (?_))
          refine aw_cond rfl (fun hb5 => ?_) (fun hb5 => ?_)
          · have hc5 := bp hb5
            obtain ⟨q, d, d2, hcq, hqd, hnx, hgd, hgn⟩ := never_law hv hQ (List.mem_of_getElem? hy) hc4 hc5
            have hrowd : (f.map dvcA)[q]? = some (dvcA d) := by rw [List.getElem?_map, hqd]; rfl
            have hrowg : (Q.1.map dvcA)[q]? = some (dvcA d2) := by rw [List.getElem?_map, hgd]; rfl
            have hql := (List.getElem?_eq_some_iff.1 hqd).1
            have hgl := (List.getElem?_eq_some_iff.1 hgd).1
            have hmg : (Q.1.map dvcA).length = Q.1.length := by simp
            have hnM := (hv.vd d (List.mem_of_getElem? hqd)).nextM
            have hn2 := (hv.vd d (List.mem_of_getElem? hqd)).next2
            refine w_ (m_ (h:=m_ (h:=?_)))
            refine al_p rfl (st_index (n := k) rfl rfl rfl hrow ?_)
            refine f_ (h:=f_ (h:=l_ (h:=a_ (h:=e_ (q_ (yr_ 47 (h:=dm_ 0 (h:=dlt_ 1 (h:=dm_ 2 (h:=?_))))))))))
            refine aa_both (j := 2) rfl (fun hb6 => ?_) (fun hb6 => ?_)
            · have hc6 := bp hb6
              exfalso
              first
              | omega
              | exact hc6 hnx
              | exact hc6 (by rw [hgn, hnx])
            have hc6 := bp hb6
            refine dm_ 3 (h:=df_ 4 (h:=dl_ 5 (h:=dn_ 6 (h:=dge_ 7 (h:=dpf_ 8 (h:=dm_ 9 (h:=?_)))))))
            refine aa_both (j := 9) rfl (fun hb7 => ?_) (fun hb7 => ?_)
            · have hc7 := bp hb7
              exfalso
              first
              | omega
              | exact hc7 hnx
              | exact hc7 (by rw [hgn, hnx])
            have hc7 := bp hb7
            refine dm_ 10 (h:=dm_ 11 (h:=?_))
            refine r_y (i := 12) rfl (st_index (n := k) rfl rfl rfl hrow ⟨rfl, rfl⟩) ?_
            refine df_ 13 (h:=df_ 14 (h:=dl_ 15 (h:=df_ 16 (h:=dl_ 17 (h:=dm_ 18 (h:=?_))))))
            refine r_y (i := 19) rfl (st_index (n := q) rfl rfl hcq hrowd ⟨rfl, rfl⟩) ?_
            refine df_ 20 (h:=dl_ 21 (h:=dnq_ 22 (h:=dpf_ 23 (h:=dm_ 24 (h:=?_)))))
            refine aa_both (j := 24) rfl (fun hb8 => ?_) (fun hb8 => ?_)
            · have hc8 := bp hb8
              exfalso
              first
              | omega
              | exact hc8 hnx
              | exact hc8 (by rw [hgn, hnx])
            have hc8 := bp hb8
            refine dm_ 25 (h:=df_ 26 (h:=dl_ 27 (h:=dn_ 28 (h:=dge_ 29 (h:=dpf_ 30 (h:=dm_ 31 (h:=?_)))))))
            refine aa_both (j := 31) rfl (fun hb9 => ?_) (fun hb9 => ?_)
            · have hc9 := bp hb9
              exfalso
              first
              | omega
              | exact hc9 hnx
              | exact hc9 (by rw [hgn, hnx])
            have hc9 := bp hb9
            refine df_ 32 (h:=dl_ 33 (h:=dm_ 34 (h:=?_)))
            refine r_y (i := 35) rfl (st_index (n := q) rfl rfl hcq hrowg ⟨rfl, rfl⟩) ?_
            refine df_ 36 (h:=dl_ 37 (h:=dm_ 38 (h:=dm_ 39 (h:=?_))))
            refine r_y (i := 40) rfl (st_index (n := k) rfl rfl rfl hrow ⟨rfl, rfl⟩) ?_
            refine df_ 41 (h:=df_ 42 (h:=dl_ 43 (h:=?_)))
            refine r_y (i := 44) rfl (st_add64 rfl rfl (by omega) ⟨rfl, rfl⟩) ?_
            refine dnq_ 45 (h:=dpf_ 46 (h:=z_ (h:=t_ (?_))))
            refine aw_cond rfl (fun hb10 => ?_) (fun hb10 => ?_)
            · have hc10 := bp hb10
              exfalso
              first
              | omega
              | exact hc10 hnx
              | exact hc10 (by rw [hgn, hnx])
            have hc10 := bp hb10
            refine aw_skip (x_blockN (t_ (aw_region (m_ (h:=ad_ (h:=a_ (h:=al_nil (?_))))))))
            refine x_then ?_
            refine ⟨_, _, ?_, ⟨k + 1, by omega, rfl, rfl⟩, (wk 3 0)⟩
            omega
          have hc5 := bp hb5
          refine aw_skip (x_blockN (t_ (aw_region (m_ (h:=ad_ (h:=a_ (h:=al_nil (?_))))))))
          refine x_then ?_
          refine ⟨_, _, ?_, ⟨k + 1, by omega, rfl, rfl⟩, (wk 3 0)⟩
          omega
        have hc4 := bp hb4
        refine g0_ (h:=g0_ (h:=g0_ (h:=g0_ (h:=g0_ (h:=g0_ (h:=g0_ (h:=pf_ (h:=e_ (cn_ (h:=aw_skip (x_blockN (t_ (aw_region (m_ (h:=ad_ (h:=a_ (h:=al_nil (?_))))))))))))))))))
        refine x_then ?_
        refine ⟨_, _, ?_, ⟨k + 1, by omega, rfl, rfl⟩, (wk 3 0)⟩
        omega
      refine s_alloc (by repeat constructor) ?_
      refine o_ (h:=?_)
      refine c_ 6 rfl (q_call (Rnode f c.2.2.2 hv.b) ?_)
      rintro r rfl
      refine o_ (h:=dm_ 7 (h:=dx_ 8 (h:=dx_ 9 (h:=?_))))
      refine c0_ 11 rfl (s_store rfl rfl rfl rfl rfl rfl (by repeat constructor) (by repeat constructor) ?_)
      refine o_ (h:=da_ 12 (h:=z_ (h:=t_ (w_ (m_ (h:=nt_ (h:=m_ (h:=?_))))))))
      refine al_gs true rfl rfl (fun hb11 => ?_) (fun hb11 => ?_)
      · have hc11 := bp hb11
        refine m_ (h:=m_ (h:=?_))
        refine g_y (st_index (n := k) rfl rfl rfl hrow ?_)
        refine f_ (h:=l_ (h:=bd_ (h:=?_)))
        refine g_y (st_binA rfl rfl (by repeat constructor) (by repeat constructor) (fun w => neqlFil _ _ _ _ w) (by kernel_rfl) ?_)
        refine pt_ (h:=e_ (?_))
        refine aw_cond rfl (fun hb12 => ?_) (fun hb12 => ?_)
        · have hc12 := bp hb12
          obtain ⟨q, d, d2, hcq, hqd, hnx, hgd, hgn⟩ := never_law hv hQ (List.mem_of_getElem? hy) hc11 hc12
          have hrowd : (f.map dvcA)[q]? = some (dvcA d) := by rw [List.getElem?_map, hqd]; rfl
          have hrowg : (Q.1.map dvcA)[q]? = some (dvcA d2) := by rw [List.getElem?_map, hgd]; rfl
          have hql := (List.getElem?_eq_some_iff.1 hqd).1
          have hgl := (List.getElem?_eq_some_iff.1 hgd).1
          have hmg : (Q.1.map dvcA).length = Q.1.length := by simp
          have hnM := (hv.vd d (List.mem_of_getElem? hqd)).nextM
          have hn2 := (hv.vd d (List.mem_of_getElem? hqd)).next2
          refine w_ (m_ (h:=m_ (h:=?_)))
          refine al_p rfl (st_index (n := k) rfl rfl rfl hrow ?_)
          refine f_ (h:=f_ (h:=l_ (h:=a_ (h:=e_ (q_ (yr_ 47 (h:=dm_ 0 (h:=dlt_ 1 (h:=dm_ 2 (h:=?_))))))))))
          refine aa_both (j := 2) rfl (fun hb13 => ?_) (fun hb13 => ?_)
          · have hc13 := bp hb13
            exfalso
            first
            | omega
            | exact hc13 hnx
            | exact hc13 (by rw [hgn, hnx])
          have hc13 := bp hb13
          refine dm_ 3 (h:=df_ 4 (h:=dl_ 5 (h:=dn_ 6 (h:=dge_ 7 (h:=dpf_ 8 (h:=dm_ 9 (h:=?_)))))))
          refine aa_both (j := 9) rfl (fun hb14 => ?_) (fun hb14 => ?_)
          · have hc14 := bp hb14
            exfalso
            first
            | omega
            | exact hc14 hnx
            | exact hc14 (by rw [hgn, hnx])
          have hc14 := bp hb14
          refine dm_ 10 (h:=dm_ 11 (h:=?_))
          refine r_y (i := 12) rfl (st_index (n := k) rfl rfl rfl hrow ⟨rfl, rfl⟩) ?_
          refine df_ 13 (h:=df_ 14 (h:=dl_ 15 (h:=df_ 16 (h:=dl_ 17 (h:=dm_ 18 (h:=?_))))))
          refine r_y (i := 19) rfl (st_index (n := q) rfl rfl hcq hrowd ⟨rfl, rfl⟩) ?_
          refine df_ 20 (h:=dl_ 21 (h:=dnq_ 22 (h:=dpf_ 23 (h:=dm_ 24 (h:=?_)))))
          refine aa_both (j := 24) rfl (fun hb15 => ?_) (fun hb15 => ?_)
          · have hc15 := bp hb15
            exfalso
            first
            | omega
            | exact hc15 hnx
            | exact hc15 (by rw [hgn, hnx])
          have hc15 := bp hb15
          refine dm_ 25 (h:=df_ 26 (h:=dl_ 27 (h:=dn_ 28 (h:=dge_ 29 (h:=dpf_ 30 (h:=dm_ 31 (h:=?_)))))))
          refine aa_both (j := 31) rfl (fun hb16 => ?_) (fun hb16 => ?_)
          · have hc16 := bp hb16
            exfalso
            first
            | omega
            | exact hc16 hnx
            | exact hc16 (by rw [hgn, hnx])
          have hc16 := bp hb16
          refine df_ 32 (h:=dl_ 33 (h:=dm_ 34 (h:=?_)))
          refine r_y (i := 35) rfl (st_index (n := q) rfl rfl hcq hrowg ⟨rfl, rfl⟩) ?_
          refine df_ 36 (h:=dl_ 37 (h:=dm_ 38 (h:=dm_ 39 (h:=?_))))
          refine r_y (i := 40) rfl (st_index (n := k) rfl rfl rfl hrow ⟨rfl, rfl⟩) ?_
          refine df_ 41 (h:=df_ 42 (h:=dl_ 43 (h:=?_)))
          refine r_y (i := 44) rfl (st_add64 rfl rfl (by omega) ⟨rfl, rfl⟩) ?_
          refine dnq_ 45 (h:=dpf_ 46 (h:=z_ (h:=t_ (?_))))
          refine aw_cond rfl (fun hb17 => ?_) (fun hb17 => ?_)
          · have hc17 := bp hb17
            exfalso
            first
            | omega
            | exact hc17 hnx
            | exact hc17 (by rw [hgn, hnx])
          have hc17 := bp hb17
          refine aw_skip (x_blockN (t_ (aw_region (m_ (h:=ad_ (h:=a_ (h:=al_nil (?_))))))))
          refine x_then ?_
          refine ⟨_, _, ?_, ⟨k + 1, by omega, rfl, rfl⟩, (wk 3 0)⟩
          omega
        have hc12 := bp hb12
        refine aw_skip (x_blockN (t_ (aw_region (m_ (h:=ad_ (h:=a_ (h:=al_nil (?_))))))))
        refine x_then ?_
        refine ⟨_, _, ?_, ⟨k + 1, by omega, rfl, rfl⟩, (wk 3 0)⟩
        omega
      have hc11 := bp hb11
      refine g0_ (h:=g0_ (h:=g0_ (h:=g0_ (h:=g0_ (h:=g0_ (h:=g0_ (h:=pf_ (h:=e_ (cn_ (h:=aw_skip (x_blockN (t_ (aw_region (m_ (h:=ad_ (h:=a_ (h:=al_nil (?_))))))))))))))))))
      refine x_then ?_
      refine ⟨_, _, ?_, ⟨k + 1, by omega, rfl, rfl⟩, (wk 3 0)⟩
      omega
    have hc3 := bp hb3
    refine aw_exit (x_thenE (x_thenE (ABlock_out (t_ (aw_region (l_ (h:=s_ (h:=al_nil (x_blockN (t_ (aw_region (m_ (h:=ad_ (h:=a_ (h:=al_nil (?_))))))))))))))))
    refine x_then ?_
    first
    | (refine ⟨_, _, ?_, ⟨j + 1, a2, Q.1, by omega, rfl, by omega, (hQ.okay hv hc2).1, rfl⟩, (wk 2 0)⟩; omega)
    | (refine ⟨_, _, ?_, ⟨j + 1, a2, f, by omega, rfl, by omega, hv, rfl⟩, (wk 2 0)⟩; omega)
  have hc1 := bp hb1
  refine aw_exit (x_thenE (x_thenE (ABlock_out (t_ (w_ (?_))))))
  refine al_p rfl (q_call (Lawake5) ?_)
  rintro r rfl
  refine a_ (h:=e_ (aw_ret (?_)))
  refine e_ret ?_
  rfl

end
end Go.Proofs.Ythcbdkmhamhciaa
namespace Go.Proofs.Ythcbdkmhamhciaa
open Go.RowKit

def StAll (w : World) : Nat → Nat → Prop := fun b _ => b < w.heap.size
def Opens (P : Program) (t : TypeId) (R : List AV → Prop) : Prop :=
  ∀ (H : Type) (enc : TypeId × Value → H) (w : World) (base : Nat) (spare : Nat → Bool) (held : Bool) (fuel : Nat) (cs : List Value) (x : DataW H × List MemPlace), DataW.trod enc P w base spare held fuel t cs = some x →
    ∃ row, R row ∧ froL (StAll w) w row cs ∧ ∀ u ∈ cs, u.oneCell' = true
section
variable {P : Program} {t : TypeId}
theorem Opens.mono {R R' : List AV → Prop} (h : Opens P t R) (hR : ∀ r, R r → R' r) : Opens P t R' := by
  intro H enc w base spare held fuel cs x hx
  obtain ⟨row, h1, h2⟩ := h H enc w base spare held fuel cs x hx
  exact ⟨row, hR _ h1, h2⟩
theorem opens_int {k : IntKind} (ht : P.underlying t = some (.int k)) : Opens P t fun r => ∃ n, r = [.v (.int k n)] ∧ (Lit.int k n).wf = true := by
  intro H enc w base spare held fuel cs x hx
  obtain ⟨b, rfl, _, hw⟩ := DataW.trod_int ht hx
  exact ⟨_, ⟨b, rfl, hw⟩, ⟨_, _, rfl, by simp only [fro], by simp only [froL]⟩, by simp [Value.oneCell']⟩
theorem cell_lt' {w : World} {b o : Nat} {v : Value} (h : w.cell? ⟨b, o, none⟩ = some v) : b < w.heap.size := by
  rcases Nat.lt_or_ge b w.heap.size with hlt | hge
  · exact hlt
  simp [World.cell?, Array.getElem?_eq_none hge] at h
theorem froL_length' {St : Nat → Nat → Prop} {w : World} {xs : List AV} {ys : List Value} (h : froL St w xs ys) : ys.length = xs.length := repL_length (G := ⟨St, [], []⟩) (repL_fro (G := ⟨St, [], []⟩) _ _ h)
theorem opens_slice {e : TypeId} {n : Nat} {R : List AV → Prop} (ht : P.underlying t = some (.slice e)) (hc : P.cellsOf e = n) (hn : 0 < n) (h : Opens P e R) : Opens P t fun r => ∃ rows, r = [.sl n rows none] ∧ rows.length ≤ maxLen ∧ ∀ x ∈ rows, R x := by
  intro H enc w base spare held fuel cs x hx
  rcases DataW.trod_slice ht hx with ⟨rfl, _⟩ | ⟨⟨b, off, spot⟩, len, cap, elems, rest, m, rfl, rfl, _, hb, hl, hm, hlen, hel, _, _⟩
  · exact ⟨_, ⟨[], rfl, Nat.zero_le _, by simp⟩, ⟨_, _, rfl, by simp only [fro]; exact ⟨trivial, none, 0, rfl, Nat.le_refl _, Nat.zero_le _, .inl trivial⟩, by simp only [froL]⟩, by simp [Value.oneCell']⟩
  have each : ∀ i, i < len → ∃ row cs', R row ∧ row.length = n ∧ froL (StAll w) w row cs' ∧ (∀ u ∈ cs', u.oneCell' = true) ∧ cs'.length = n ∧ ∀ j, j < n → w.cell? (Addr.add ⟨b, off, spot⟩ (i * n + j)) = cs'[j]? := by
    intro i hi
    have h1 := hel i hi
    rw [hc, List.getElem?_eq_getElem (by omega), Option.bind_eq_some_iff] at h1
    obtain ⟨cs', h2, h3⟩ := h1
    obtain ⟨row, r1, r2, r3⟩ := h _ _ _ _ _ _ _ _ _ h3
    obtain ⟨_, c1, c2⟩ := World.cells?_some h2
    refine ⟨row, cs', r1, by rw [← froL_length' r2, c1], r2, r3, c1, fun j hj => ?_⟩
    have := c2 j hj
    rwa [Addr.add_add] at this
  have hrows : ∃ rows : List (List AV), rows.length = len ∧ (∀ i, i < len → ∃ row cs', rows[i]? = some row ∧ R row ∧ row.length = n ∧ froL (StAll w) w row cs' ∧ (∀ u ∈ cs', u.oneCell' = true) ∧ cs'.length = n ∧ ∀ j, j < n → w.cell? (Addr.add ⟨b, off, spot⟩ (i * n + j)) = cs'[j]?) := by
    clear hel
    have : ∀ k, k ≤ len → ∃ rows : List (List AV), rows.length = k ∧ (∀ i, i < k → ∃ row cs', rows[i]? = some row ∧ R row ∧ row.length = n ∧ froL (StAll w) w row cs' ∧ (∀ u ∈ cs', u.oneCell' = true) ∧ cs'.length = n ∧ ∀ j, j < n → w.cell? (Addr.add ⟨b, off, spot⟩ (i * n + j)) = cs'[j]?) := by
      intro k
      induction k with
      | zero => intro _; exact ⟨[], rfl, fun i hi => by omega⟩
      | succ k ih =>
        intro hk
        obtain ⟨rows, e1, e2⟩ := ih (by omega)
        obtain ⟨row, cs', q⟩ := each k (by omega)
        refine ⟨rows ++ [row], by simp [e1], fun i hi => ?_⟩
        rcases Nat.lt_or_ge i k with hlt | hge
        · obtain ⟨row', cs'', q1, q2⟩ := e2 i hlt
          exact ⟨row', cs'', by rw [List.getElem?_append_left (by omega)]; exact q1, q2⟩
        obtain rfl : i = k := by omega
        exact ⟨row, cs', by rw [List.getElem?_append_right (by omega), e1]; simp, q⟩
    exact this len (Nat.le_refl _)
  obtain ⟨rows, e1, e2⟩ := hrows
  refine ⟨_, ⟨rows, rfl, by omega, fun x hx => ?_⟩, ⟨_, _, rfl, ?_, by simp only [froL]⟩, by simp [Value.oneCell']⟩
  · obtain ⟨i, hi⟩ := List.getElem?_of_mem hx
    obtain ⟨row, _, q1, q2, _⟩ := e2 i (by rw [← e1]; exact (List.getElem?_eq_some_iff.1 hi).1)
    rw [hi] at q1
    injection q1 with q1
    subst q1
    exact q2
  simp only [fro]
  refine ⟨trivial, some ⟨b, off, spot⟩, cap, by rw [e1], by omega, hm, ?_⟩
  rcases Nat.eq_zero_or_pos len with h0 | h0
  · left; exact List.eq_nil_of_length_eq_zero (by omega)
  right
  have hspot : spot = none := by
    obtain ⟨_, cs', _, _, _, _, _, c3, c4⟩ := e2 0 h0
    have := c4 0 hn
    rw [List.getElem?_eq_getElem (by omega)] at this
    simpa [Addr.add] using World.cell?_spot this
  subst hspot
  refine ⟨b, off, rfl, ?_⟩
  have : ∀ (rs : List (List AV)) (k : Nat), (∀ i r, rs[i]? = some r → rows[k + i]? = some r) → froR (StAll w) w b n rs (off + k * n) := by
    intro rs
    induction rs with
    | nil => intro k _; simp only [froR]
    | cons r rs ih =>
      intro k hk
      simp only [froR]
      have h1 := hk 0 r rfl
      rw [Nat.add_zero] at h1
      obtain ⟨row, cs', q1, _, q3, q4, q5, q6, q7⟩ := e2 k (by rw [← e1]; exact (List.getElem?_eq_some_iff.1 h1).1)
      rw [h1] at q1
      injection q1 with q1
      subst q1
      refine ⟨⟨q3, froC_of fun i x hi => ?_⟩, ?_⟩
      · obtain ⟨u, u1, u2⟩ := froL_get q4 hi
        have hin : i < n := by rw [← q3]; exact (List.getElem?_eq_some_iff.1 hi).1
        have hc := q7 i hin
        rw [u1] at hc
        have hc' : w.cell? ⟨b, off + k * n + i, none⟩ = some u := by rw [Addr.add_mid] at hc; rwa [Nat.add_assoc]
        exact ⟨cell_lt' hc', u, hc', q5 u (List.mem_of_getElem? u1), u2⟩
      have := ih (k + 1) (fun i r' hi => by
        have := hk (i + 1) r' (by simpa using hi)
        rwa [show k + 1 + i = k + (i + 1) by omega])
      rwa [show off + (k + 1) * n = off + k * n + n by rw [Nat.add_mul]; omega] at this
  simpa using this rows 0 (fun i r hi => by simpa using hi)
theorem rows_map {α : Type} {enc : α → List AV} {Q : α → Prop} : ∀ {rows : List (List AV)}, (∀ x ∈ rows, ∃ a, x = enc a ∧ Q a) → ∃ l : List α, rows = l.map enc ∧ ∀ a ∈ l, Q a
  | [], _ => ⟨[], rfl, by simp⟩
  | r :: rs, h => by
    obtain ⟨a, rfl, ha⟩ := h r (by simp)
    obtain ⟨l, rfl, hl⟩ := rows_map (rows := rs) fun x hx => h x (by simp [hx])
    exact ⟨a :: l, rfl, by simpa using ⟨ha, hl⟩⟩
theorem Opens.one {R : List AV → Prop} (h : Opens P t R) {H : Type} {enc : TypeId × Value → H} {w : World} {base : Nat} {spare : Nat → Bool} {held : Bool} {v : Value} {d : DataW H} {ps : List MemPlace} (hv : v.cells = #[v]) (hd : DataW.Trod enc P w base spare held t v d ps) :
    ∃ row, R row ∧ froL (StAll w) w row [v] := by
  obtain ⟨fuel, hf⟩ := hd
  rw [hv] at hf
  obtain ⟨row, h1, h2, _⟩ := h _ _ _ _ _ _ _ _ _ hf
  exact ⟨row, h1, h2⟩
end
end Go.Proofs.Ythcbdkmhamhciaa
namespace Go.Proofs.Ythcbdkmhamhciaa
open Go.RowKit

theorem opInts : Opens Try.prog 31 (fun r => ∃ l : List Int, r = [.sl 1 (l.map intA) none]) :=
  (opens_slice (n := 1) Try.underlying31 (by kernel_rfl) (by omega) (opens_int Try.underlying3)).mono (by
    rintro r ⟨rows, rfl, _, hr⟩
    obtain ⟨l, rfl, _⟩ := rows_map (enc := intA) (Q := fun _ => True) (fun x hx => by obtain ⟨t, rfl, _⟩ := hr x hx; exact ⟨t, rfl, trivial⟩)
    exact ⟨l, rfl⟩)
theorem ints_one {H : Type} {enc : TypeId × Value → H} {sp : Nat → Bool} {held : Bool} {base : Nat} {w : World} {a : Option Addr} {n c : Nat} {d : DataW H} {p : List MemPlace} (h : DataW.Trod enc Try.prog w base sp held 31 (.slice a n c) d p) :
    ∃ l : List Int, rep ⟨StAll w, [], []⟩ w (.sl 1 (l.map intA) none) (.slice a n c) := by
  obtain ⟨r0, ⟨l, rfl⟩, k0⟩ := opInts.one rfl h
  simp only [froL] at k0
  obtain ⟨_, _, e0, k0, rfl⟩ := k0
  injection e0 with e0
  subst e0
  exact ⟨l, rep_fro (G := ⟨StAll w, [], []⟩) _ _ k0⟩
theorem walk_ints {f : FuncId} (hf : ∀ l : List Int, AFn Try.prog f [.sl 1 (l.map intA) none] (fun x => x = .v (.bool true))) {H : Type} {enc : TypeId × Value → H} {sp : Nat → Bool} {held : Bool} {base : Nat} (a : Option Addr) (n c : Nat) (w : World) {d : DataW H} {p : List MemPlace}
    (h : DataW.Trod enc Try.prog w base sp held 31 (.slice a n c) d p) : Calls Try.prog f #[.slice a n c] w fun e w' => e = .returned (.bool true) ∧ Below w.heap.size w w' := by
  obtain ⟨l, k⟩ := ints_one h
  refine calls_of (vs := [.slice a n c]) (hf l) (StAll w) (fun b o h => h) ?_
  simp only [repL]
  exact ⟨_, _, rfl, k, rfl⟩
end Go.Proofs.Ythcbdkmhamhciaa
namespace Go.Proofs.Ythcbdkmhamhciaa
open Go.RowKit
theorem FilesNever_walk {H : Type} {enc : TypeId × Value → H} {sp : Nat → Bool} {held : Bool} {base : Nat} (a : Option Addr) (n c : Nat) (w : World) {d : DataW H} {p : List MemPlace} (h : DataW.Trod enc Try.prog w base sp held 31 (.slice a n c) d p) :
    Calls Try.prog 14 #[.slice a n c] w fun e w' => e = .returned (.bool true) ∧ Below w.heap.size w w' := walk_ints Lnever a n c w h
end Go.Proofs.Ythcbdkmhamhciaa
