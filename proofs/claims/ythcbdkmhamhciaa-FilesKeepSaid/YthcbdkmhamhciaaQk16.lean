/-
  Part 16 of the proof of FilesKeepP: what the statement's proof uses of the texts in wip/tpl.
-/
import Derived.Shelf.Abstract
import Derived.Shelf.RegionOpen
import Derived.OwnWalkIn
import Derived.TacticsInMore
import Derived.LoopNIn
import Derived.LoopIn
import Derived.WalkMore
import Derived.Maps.AppendAt
import Derived.OwnWalk
import Derived.StillTailTactics
import Derived.OpenShut
import Derived.ChangeArms
import Derived.ChangeOld
import Derived.DataReads
import Derived.DataElems
import Derived.Test.YthcbdkmhamhciaaQk15
namespace Go.Proofs.Ythcbdkmhamhciaa
open Go.RowKit
theorem Prename (f : Fls) (src : Fil) (name : Str) (to : Fil) (name2 : Str) (hv : FlsV f) : AFn Try.prog 47 [.agg (flsA f), .agg (filA src), .v (.string name), .agg (filA to), .v (.string name2)] (fun r => r = chgR (renameL f src name to name2)) := by
 by_cases hS0 : (srcL f src name to name2).2 = 0
 ·obtain ⟨q, d, i, n1, j, n2, p, k, m, h⟩ := ren_of hv hS0
  have hS : srcL f src name to name2 = ((srcL f src name to name2).1, 0) := Prod.ext rfl hS0
  generalize (srcL f src name to name2).1 = A at h hS
  obtain ⟨O, b, hO⟩ : ∃ O b, entP f to name2 = (O, b) := ⟨_, _, rfl⟩
  cases b with
  | true =>
    by_cases hns : O = A
    ·exact Pren_two f src name to name2 hv hS h hO (.inl ⟨rfl, hns⟩)
    by_cases h2 : ren2L f src to A O 0 = 0
    ·by_cases hij : i = j
     ·subst hij
      obtain rfl : n1 = n2 := Option.some.inj (h.hi.symm.trans h.hj)
      exact Pren_SA f src name to name2 hv hS h hO hns h2
     exact Pren_DA f src name to name2 hv hS h hO hns h2 hij
    exact Pren_two f src name to name2 hv hS h hO (.inr ⟨fun hh => hns hh.2, h2⟩)
  | false =>
    by_cases h2 : ren2L f src to A O 2 = 0
    ·by_cases hij : i = j
     ·subst hij
      obtain rfl : n1 = n2 := Option.some.inj (h.hi.symm.trans h.hj)
      exact Pren_SC f src name to name2 hv hS h hO h2
     by_cases hF0 : n2.entries = []
     ·exact Pren_D0 f src name to name2 hv hS h hO h2 hij hF0
     exact Pren_DB f src name to name2 hv hS h hO h2 hij (List.length_pos_iff.2 hF0)
    exact Pren_two f src name to name2 hv hS h hO (.inr ⟨(fun hh => by cases hh.1), h2⟩)
 exact Pren_err f src name to name2 hv hS0
theorem new_valid5 : FlsV (newL 1).1 := (new_valid (by decide) (by decide)).1
def aw5N : Nod := ⟨0, 1, 420, 0, 0, 0, ⟨#[]⟩, []⟩
def aw5F1 : Fls := (mkL (newL 1).1 (0, 1) ⟨#[97]⟩ aw5N).1
def aw5F2 : Fls := (linkL aw5F1 (0, 1) ⟨#[98]⟩ (0, 2)).1
set_option maxRecDepth 100000 in
theorem aw5_make : (mkL (newL 1).1 (0, 1) ⟨#[97]⟩ aw5N).2.2 = 0 ∧ (mkL (newL 1).1 (0, 1) ⟨#[97]⟩ aw5N).2.1 = [((0, 1), ⟨#[97]⟩, (0, 0), (0, 2))] := by decide +kernel
set_option maxRecDepth 100000 in
theorem aw5_link : (linkL aw5F1 (0, 1) ⟨#[98]⟩ (0, 2)).2.2 = 0 := by decide +kernel
set_option maxRecDepth 100000 in
theorem aw5_links : linksF aw5F2 (0, 2) = 2 := by decide +kernel
set_option maxRecDepth 100000 in
theorem aw5_e1 : (nodG (newL 1).1 (0, 1)).entries = [] := by decide +kernel
set_option maxRecDepth 100000 in
theorem aw5_e2 : 0 < (nodG aw5F1 (0, 1)).entries.length := by decide +kernel
theorem aw5_valid : FlsV aw5F1 ∧ FlsV aw5F2 := by
 have h1 : FlsV aw5F1 := (make_okay new_valid5 _ _ _ aw5_make.1).1
 exact ⟨h1, (link_okay h1 _ _ _ aw5_link).1⟩
section
set_option maxRecDepth 10000
set_option maxHeartbeats 1000000
theorem Lawake5 : AFn Try.prog 18 [] (fun r => r = .v (.bool true)) := by
 have hnew : AFn Try.prog 15 [.v (.int .i64 1)] (fun r => r = .tup [.agg (flsA (newL 1).1), .v (.int .i64 0)]) := Pnew 1
 have hmk : AFn Try.prog 24 [.agg (flsA (newL 1).1), .agg [.v (.int .i64 0), .v (.int .i64 1)], .v (.string ⟨#[97]⟩), .agg (nodA aw5N)] (fun r => r = .tup [.agg (flsA aw5F1), .sl 7 [chgA ((0, 1), ⟨#[97]⟩, (0, 0), (0, 2))] none, .v (.int .i64 0)]) :=
  (Pmake0 (newL 1).1 (0, 1) ⟨#[97]⟩ aw5N new_valid5 (by decide) aw5_e1).mono fun r hr => by rw [hr]; unfold chgR; rw [aw5_make.1, aw5_make.2]; rfl
 obtain ⟨c2, hlk⟩ : ∃ c2, AFn Try.prog 27 [.agg (flsA aw5F1), .agg [.v (.int .i64 0), .v (.int .i64 1)], .v (.string ⟨#[98]⟩), .agg [.v (.int .i64 0), .v (.int .i64 2)]] (fun r => r = .tup [.agg (flsA aw5F2), .sl 7 (List.map chgA c2) none, .v (.int .i64 0)]) :=
  ⟨_, (PlinkG aw5F1 (0, 1) ⟨#[98]⟩ (0, 2) aw5_valid.1 aw5_e2).mono fun r hr => by rw [hr]; unfold chgR; rw [aw5_link]; rfl⟩
 have hls : AFn Try.prog 37 [.agg (flsA aw5F2), .agg [.v (.int .i64 0), .v (.int .i64 2)]] (fun r => r = .v (.int .i64 2)) :=
  (Plinks aw5F2 (0, 2) aw5_valid.2.b).mono fun r hr => by rw [hr, aw5_links]; rfl
 refine enter Try.func18 rfl rfl rfl rfl rfl 0 rfl ?_
 refine w_ (a_ (h:=e_ (w_ (?_))))
 refine al_p rfl (q_call (hnew) ?_)
 rintro r rfl
 refine m_ (h:=x_ (h:=x_ (h:=al_ (h:=s_ (h:=a_ (h:=e_ (w_ (bd_ (h:=al_ (h:=s_ (h:=e_ (w_ (l_ (h:=l_ (h:=?_)))))))))))))))
 refine al_p rfl (st_le (y := .agg (nodA aw5N)) (st_build (by repeat (first | exact FillA.nil _ | (apply FillA.cons; (focus exact rfl); (focus exact rfl); (focus exact rfl); (focus exact rfl); (focus exact rfl); (focus (repeat constructor))))) ⟨rfl, rfl⟩) (by repeat (first | exact LeA.refl _ | exact LeA.nil _ | exact LeL.refl _ | refine LeA.agg ?_ | refine LeA.tup ?_ | exact LeL.nil | refine LeL.cons ?_ ?_ | exact LeA.any _)) ?_)
 refine al_p rfl (q_call (hmk) ?_)
 rintro r rfl
 refine m_ (h:=x_ (h:=x_ (h:=x_ (h:=s_ (h:=a_ (h:=a_ (h:=e_ (q_ (w_ (m_ (h:=nq_ (h:=m_ (h:=?_)))))))))))))
 refine al_gs false rfl rfl (fun hb1 => ?_) (fun hb1 => ?_)
 ·have hc1 := bp hb1
  refine g0_ (h:=g0_ (h:=pt_ (h:=m_ (h:=g0_ (h:=g0_ (h:=g0_ (h:=pt_ (h:=e_ (cy_ (h:=w_ (a_ (h:=e_ (aw_ret (x_thenR (?_)))))))))))))))
  refine e_ret ?_
  first | rfl | (exfalso; simp_all)
 have hc1 := bp hb1
 refine m_ (h:=nq_ (h:=pf_ (h:=m_ (h:=?_))))
 refine al_gs false rfl rfl (fun hb2 => ?_) (fun hb2 => ?_)
 ·have hc2 := bp hb2
  refine g0_ (h:=g0_ (h:=g0_ (h:=pt_ (h:=e_ (cy_ (h:=w_ (a_ (h:=e_ (aw_ret (x_thenR (?_)))))))))))
  refine e_ret ?_
  first | rfl | (exfalso; simp_all)
 have hc2 := bp hb2
 refine m_ (h:=n_ (h:=nq_ (h:=pf_ (h:=e_ (?_)))))
 refine aw_cond rfl (fun hb3 => ?_) (fun hb3 => ?_)
 ·have hc3 := bp hb3
  refine w_ (a_ (h:=e_ (aw_ret (x_thenR (?_)))))
  refine e_ret ?_
  first | rfl | (exfalso; simp_all)
 have hc3 := bp hb3
 refine kt_ (q_ (yk_ ([(1, [.v (.int .i64 0), .v (.int .i64 1)])]) 14 (h:=dl_ 1 (h:=dm_ 2 (h:=di_ 3 (h:=df_ 4 (h:=dl_ 5 (h:=?_))))))))
 refine c_ 0 rfl (st_loadBW rfl rfl rfl ?_)
 refine o_ (h:=?_)
 refine c_ 6 rfl (q_call (hlk) ?_)
 rintro r rfl
 refine o_ (h:=dm_ 7 (h:=dx_ 8 (h:=dx_ 9 (h:=dx_ 10 (h:=?_)))))
 refine c0_ 11 rfl (s_store rfl rfl rfl rfl rfl rfl (by repeat constructor) (by repeat constructor) ?_)
 refine o_ (h:=da_ 12 (h:=da_ 13 (h:=z_ (h:=t_ (q_ (yr_ 12 (h:=dm_ 0 (h:=deq_ 1 (h:=dm_ 2 (h:=?_))))))))))
 refine aa_both (j := 2) rfl (fun hb4 => ?_) (fun hb4 => ?_)
 ·have hc4 := bp hb4
  refine dl_ 3 (h:=dm_ 4 (h:=di_ 5 (h:=df_ 6 (h:=dl_ 7 (h:=?_)))))
  refine c_ 8 rfl (q_call (hls) ?_)
  rintro r rfl
  refine o_ (h:=deq_ 9 (h:=dpt_ 10 (h:=da_ 11 (h:=z_ (h:=t_ (aw_ret (?_)))))))
  refine e_ret ?_
  first | rfl | (exfalso; simp_all)
 have hc4 := bp hb4
 refine d0_ 3 (h:=d0_ 4 (h:=d0_ 5 (h:=d0_ 6 (h:=d0_ 7 (h:=d0_ 8 (h:=d0_ 9 (h:=dpf_ 10 (h:=da_ 11 (h:=z_ (h:=t_ (aw_ret (?_))))))))))))
 refine e_ret ?_
 first | rfl | (exfalso; simp_all)
end
theorem named_ok {f : Fls} (hv : FlsV f) {dir : Fil} {name : Str} (h : (namedL f dir name).2 = 0) : placeL f dir name = 0 ∧ (lookL f dir name).2 = 0 ∧ namedL f dir name = lookL f dir name ∧
    ∃ (q i : Nat) (d : Dvc) (n0 : Nod) (p k : Nat) (m : Nod), dir.1 = (q : Int) ∧ f[q]? = some d ∧ d.nodes[i]? = some n0 ∧ n0.ino = dir.2 ∧ (∃ e, n0.entries[p]? = some e ∧ e.1 = name) ∧ (lookL f dir name).1.1 = (q : Int) ∧ d.nodes[k]? = some m ∧ m.ino = (lookL f dir name).1.2 ∧ nodeL f (lookL f dir name).1 = some m := by
 unfold namedL at h ⊢
 by_cases hp : placeL f dir name = 0
 ·rw [if_neg (not_not_intro hp)] at h ⊢
  obtain ⟨q, i, d, n0, hdq, hq, hn0, hino, hidx, hnode, hk0, hnm⟩ := place_ok hp
  obtain ⟨e, m, he, hle, hm, hem, he1, hnm⟩ := look_node hv hdq hq hn0 hnode hk0 h
  obtain ⟨hemem, hen⟩ := entF_some he
  obtain ⟨p, hpe⟩ := List.getElem?_of_mem hemem
  obtain ⟨k, hmk⟩ := List.getElem?_of_mem hm
  exact ⟨hp, h, rfl, q, i, d, n0, p, k, m, hdq, hq, hn0, hino, ⟨e, hpe, hen⟩, by rw [hle]; exact hdq, hmk, by rw [hle]; exact hem.symm, hnm⟩
 rw [if_pos hp] at h
 exact absurd h hp
theorem named_err {f : Fls} {dir : Fil} {name : Str} (h : ¬ (namedL f dir name).2 = 0) : unlinkL f dir name = ([], [], (namedL f dir name).2) ∧ rmdirL f dir name = ([], [], (namedL f dir name).2) := by
 unfold namedL at h ⊢
 unfold unlinkL rmdirL
 by_cases hp : placeL f dir name = 0
 ·rw [if_neg (not_not_intro hp)] at h ⊢
  simp only [ne_eq, hp, not_true, if_false, h, not_false_eq_true, if_true, and_self]
 rw [if_pos hp] at h ⊢
 simp only [ne_eq, hp, not_false_eq_true, if_true, and_self]
section
set_option maxRecDepth 10000
set_option maxHeartbeats 2000000
theorem Punlink (f : Fls) (dir : Fil) (name : Str) (hv : FlsV f) : AFn Try.prog 43 [.agg (flsA f), .agg (filA dir), .v (.string name)] (fun r => r = chgR (unlinkL f dir name)) := by
 have hf := hv.b
 refine enter Try.func43 rfl rfl rfl rfl rfl 0 rfl ?_
 refine w_ (b_ (h:=b_ (h:=al_ (h:=a_ (h:=a_ (h:=e_ (w_ (l_ (h:=l_ (h:=m_ (h:=?_)))))))))))
 refine al_p rfl (q_call (Pnamed f dir name hf) ?_)
 rintro r rfl
 refine m_ (h:=x_ (h:=x_ (h:=al_ (h:=s_ (h:=a_ (h:=e_ (q_ (w_ (m_ (h:=nq_ (h:=e_ (?_))))))))))))
 refine aw_cond rfl (fun hb1 => ?_) (fun hb1 => ?_)
 ·have hc1 := bp hb1
  refine w_ (bd_ (h:=m_ (h:=s_ (h:=a_ (h:=a_ (h:=e_ (aw_ret (x_thenR (?_)))))))))
  refine rt_ (r := chgR (unlinkL f dir name)) none (h5 := ?_) (h6 := ⟨rfl, rfl, rfl⟩)
  rw [(named_err hc1).1]
  exact err_le _
 have hc1 := bp hb1
 obtain ⟨hpl, hlk, hnl, q, i, d, n0, p, k, m, hdq, hq, hn0, hino, hpe, ha1, hmk, hmi, hnm⟩ := named_ok hv (show (namedL f dir name).2 = 0 by omega)
 refine kt_ (q_ (w_ (l_ (h:=l_ (h:=?_)))))
 refine al_p rfl (q_call (PisDir f (namedL f dir name).1 hf) ?_)
 rintro r rfl
 refine e_ (?_)
 refine aw_cond rfl (fun hb2 => ?_) (fun hb2 => ?_)
 ·have hc2 := bp hb2
  refine w_ (bd_ (h:=s_ (h:=a_ (h:=a_ (h:=e_ (aw_ret (x_thenR (?_))))))))
  refine rt_ (r := chgR (unlinkL f dir name)) none (h5 := ?_) (h6 := ⟨rfl, rfl, rfl⟩)
  rw [unlinkL, if_neg (by simp [hpl]), if_neg (by simp [hlk]), if_pos (by rw [← hnl]; exact hc2)]
  exact err_le _
 have hc2 := bp hb2
 refine kt_ (w_ (l_ (h:=l_ (h:=m_ (h:=l_ (h:=?_))))))
 refine al_p rfl (q_call (Prm5 f q d i n0 dir (namedL f dir name).1 name p k hv hdq hq hn0 hino hpe (by rw [hnl]; exact ha1) ⟨m, hmk, by rw [hnl]; exact hmi⟩) ?_)
 rintro r rfl
 refine m_ (h:=x_ (h:=x_ (h:=s_ (h:=a_ (h:=e_ (w_ (l_ (h:=m_ (h:=s_ (h:=a_ (h:=a_ (h:=e_ (aw_ret (?_))))))))))))))
 refine rt_ (r := chgR (unlinkL f dir name)) none (h5 := ?_) (h6 := ⟨rfl, rfl, rfl⟩)
 rw [unlinkL, if_neg (by simp [hpl]), if_neg (by simp [hlk]), if_neg (by rw [← hnl, hc2]; simp), hdq, Int.toNat_natCast, onD_set hq, ← hino, ← entS_D (hv.vd d (List.mem_of_getElem? hq)) hn0, ← hnl]
 exact LeA.refl _
theorem Prmdir (f : Fls) (dir : Fil) (name : Str) (hv : FlsV f) : AFn Try.prog 45 [.agg (flsA f), .agg (filA dir), .v (.string name)] (fun r => r = chgR (rmdirL f dir name)) := by
 have hf := hv.b
 refine enter Try.func45 rfl rfl rfl rfl rfl 0 rfl ?_
 refine w_ (b_ (h:=b_ (h:=al_ (h:=a_ (h:=a_ (h:=e_ (w_ (l_ (h:=l_ (h:=m_ (h:=?_)))))))))))
 refine al_p rfl (q_call (Pnamed f dir name hf) ?_)
 rintro r rfl
 refine m_ (h:=x_ (h:=x_ (h:=al_ (h:=s_ (h:=a_ (h:=e_ (q_ (w_ (m_ (h:=nq_ (h:=e_ (?_))))))))))))
 refine aw_cond rfl (fun hb1 => ?_) (fun hb1 => ?_)
 ·have hc1 := bp hb1
  refine w_ (bd_ (h:=m_ (h:=s_ (h:=a_ (h:=a_ (h:=e_ (aw_ret (x_thenR (?_)))))))))
  refine rt_ (r := chgR (rmdirL f dir name)) none (h5 := ?_) (h6 := ⟨rfl, rfl, rfl⟩)
  rw [(named_err hc1).2]
  exact err_le _
 have hc1 := bp hb1
 obtain ⟨hpl, hlk, hnl, q, i, d, n0, p, k, m, hdq, hq, hn0, hino, hpe, ha1, hmk, hmi, hnm⟩ := named_ok hv (show (namedL f dir name).2 = 0 by omega)
 refine kt_ (q_ (w_ (l_ (h:=l_ (h:=?_)))))
 refine al_p rfl (q_call (PisDir f (namedL f dir name).1 hf) ?_)
 rintro r rfl
 refine nt_ (h:=e_ (?_))
 refine aw_cond rfl (fun hb2 => ?_) (fun hb2 => ?_)
 ·have hc2 := bp hb2
  refine w_ (bd_ (h:=s_ (h:=a_ (h:=a_ (h:=e_ (aw_ret (x_thenR (?_))))))))
  refine rt_ (r := chgR (rmdirL f dir name)) none (h5 := ?_) (h6 := ⟨rfl, rfl, rfl⟩)
  rw [rmdirL, if_neg (by simp [hpl]), if_neg (by simp [hlk]), if_pos (by rw [← hnl]; simpa using hc2)]
  exact err_le _
 have hc2 := bp hb2
 refine kt_ (q_ (w_ (l_ (h:=l_ (h:=?_)))))
 refine al_p rfl (q_call (Pfind f (namedL f dir name).1 hf) ?_)
 rintro r (⟨e, rfl⟩ | ⟨n, e, rfl⟩)
 ·rw [hnl, hnm] at e; cases e
 have hnm2 : n = m := by rw [hnl, hnm] at e; exact (Option.some.inj e).symm
 refine k_ (h:=f_ (h:=l_ (h:=n_ (h:=gt_ (h:=e_ (?_))))))
 refine aw_cond rfl (fun hb3 => ?_) (fun hb3 => ?_)
 ·have hc3 := bp hb3
  refine w_ (bd_ (h:=s_ (h:=a_ (h:=a_ (h:=e_ (aw_ret (x_thenR (?_))))))))
  refine rt_ (r := chgR (rmdirL f dir name)) none (h5 := ?_) (h6 := ⟨rfl, rfl, rfl⟩)
  rw [rmdirL, if_neg (by simp [hpl]), if_neg (by simp [hlk]), if_neg (by rw [← hnl]; simpa using hc2), if_pos (by rw [emptyL, hnm]; simp only [List.length_map] at hc3; simp; intro h; subst hnm2; rw [h] at hc3; simp at hc3)]
  exact err_le _
 have hc3 := bp hb3
 refine kt_ (w_ (l_ (h:=l_ (h:=m_ (h:=l_ (h:=?_))))))
 refine al_p rfl (q_call (Prm5 f q d i n0 dir (namedL f dir name).1 name p k hv hdq hq hn0 hino hpe (by rw [hnl]; exact ha1) ⟨m, hmk, by rw [hnl]; exact hmi⟩) ?_)
 rintro r rfl
 refine m_ (h:=x_ (h:=x_ (h:=s_ (h:=a_ (h:=e_ (w_ (l_ (h:=m_ (h:=s_ (h:=a_ (h:=a_ (h:=e_ (aw_ret (?_))))))))))))))
 refine rt_ (r := chgR (rmdirL f dir name)) none (h5 := ?_) (h6 := ⟨rfl, rfl, rfl⟩)
 rw [rmdirL, if_neg (by simp [hpl]), if_neg (by simp [hlk]), if_neg (by rw [← hnl]; simpa using hc2), if_neg (by rw [emptyL, hnm]; simp only [List.length_map] at hc3; subst hnm2; simp; exact List.length_eq_zero_iff.1 (by omega)), hdq, Int.toNat_natCast, onD_set hq, ← hino, ← entS_D (hv.vd d (List.mem_of_getElem? hq)) hn0, ← hnl]
 exact LeA.refl _
end
def ChgOf (f : Fls) (Q : ChgRes) : Prop := (∃ dir name a, Q = linkL f dir name a) ∨ (∃ dir name, Q = unlinkL f dir name) ∨ (∃ dir name, Q = rmdirL f dir name) ∨ (∃ src name to name2, Q = renameL f src name to name2) ∨ (∃ dir name n, Q = mkL f dir name n)
theorem ChgOf.okay {f : Fls} {Q : ChgRes} (h : ChgOf f Q) (hv : FlsV f) : Okay f Q := by
 rcases h with ⟨_, _, _, rfl⟩ | ⟨_, _, rfl⟩ | ⟨_, _, rfl⟩ | ⟨_, _, _, _, rfl⟩ | ⟨_, _, _, rfl⟩
 ·exact link_okay hv _ _ _
 ·exact unlink_okay hv _ _
 ·exact rmdir_okay hv _ _
 ·exact rename_okay hv _ _ _ _
 exact make_okay hv _ _ _
section
set_option maxRecDepth 20000
set_option maxHeartbeats 4000000
theorem Lchange (l : List Int) (a : Nat) (f : Fls) (ha : a ≤ 1000000000) (hv : FlsV f) : GenF Try.prog 49 l a [.agg (flsA f)] 80 (fun r => ∃ Q, r = chgR Q ∧ ChgOf f Q) := by
 have hf := hv.b
 have hne := hv.ne
 refine enter Try.func49 rfl rfl rfl rfl rfl 1 rfl ?_
 refine w_ (b_ (h:=al_ (h:=a_ (h:=a_ (h:=e_ (w_ (m_ (h:=l_ (h:=?_)))))))))
 refine al_p rfl (s_gen 0 (hc := Gfile l _ f (by omega) hf hne) (hR := ?_))
 rintro r a1 ha1 ⟨x1, rfl⟩
 refine ⟨rfl, _, (by repeat constructor), ?_⟩
 refine m_ (h:=?_)
 refine al_p rfl (s_gen 0 (hc := Gname l _ (by omega)) (hR := ?_))
 rintro r a2 ha2 ⟨k2, rfl, hk2⟩
 refine ⟨rfl, _, (by repeat constructor), ?_⟩
 refine al_ (h:=s_ (h:=a_ (h:=e_ (q_ (w_ (m_ (h:=?_)))))))
 refine al_p rfl (s_gen 0 (hc := Gn l _ (6) (by omega) (by omega)) (hR := ?_))
 rintro r a3 ha3 ⟨k3, rfl, p3, q3, o3⟩
 refine ⟨rfl, _, (by repeat constructor), ?_⟩
 refine e_ (aw_block (w_ (eq_ (h:=a_ (h:=e_ (?_))))))
 refine aw_cond rfl (fun hb1 => ?_) (fun hb1 => ?_)
 ·have hc1 := bp hb1
  refine q_ (yk_ ([(1, flsA f), (3, filA x1)]) 13 (h:=dl_ 0 (h:=dl_ 1 (h:=dm_ 2 (h:=dm_ 3 (h:=dl_ 4 (h:=?_)))))))
  refine c_ 5 rfl (s_gen 0 (hc := Gfile l _ f (by omega) hf hne) (hR := ?_))
  rintro r a4 ha4 ⟨x4, rfl⟩
  refine ⟨rfl, _, (by repeat constructor), ?_⟩
  refine o_ (h:=?_)
  refine c_ 6 rfl (q_call (Plink f x1 k2 x4 hv) ?_)
  rintro r rfl
  refine o_ (h:=dx_ 7 (h:=dx_ 8 (h:=dx_ 9 (h:=?_))))
  refine c0_ 10 rfl (s_store rfl rfl rfl rfl rfl rfl (by repeat constructor) (by repeat constructor) ?_)
  refine o_ (h:=da_ 11 (h:=da_ 12 (h:=z_ (h:=t_ (aw_ret (x_blockR (x_thenR (?_))))))))
  refine rt_ none (h5 := (LeA.refl _)) (h6 := ⟨_, rfl, rfl, _, ?_, rfl, linkL f x1 k2 x4, rfl, .inl ⟨_, _, _, rfl⟩⟩)
  omega
 have hc1 := bp hb1
 refine w_ (eq_ (h:=a_ (h:=e_ (?_))))
 refine aw_cond rfl (fun hb2 => ?_) (fun hb2 => ?_)
 ·have hc2 := bp hb2
  refine w_ (l_ (h:=l_ (h:=m_ (h:=?_))))
  refine al_p rfl (q_call (Punlink f x1 k2 hv) ?_)
  rintro r rfl
  refine x_ (h:=x_ (h:=x_ (h:=s_ (h:=a_ (h:=a_ (h:=e_ (aw_ret (x_blockR (x_thenR (?_))))))))))
  refine rt_ none (h5 := (LeA.refl _)) (h6 := ⟨_, rfl, rfl, _, ?_, rfl, unlinkL f x1 k2, rfl, .inr (.inl ⟨_, _, rfl⟩)⟩)
  omega
 have hc2 := bp hb2
 refine w_ (eq_ (h:=a_ (h:=e_ (?_))))
 refine aw_cond rfl (fun hb3 => ?_) (fun hb3 => ?_)
 ·have hc3 := bp hb3
  refine w_ (l_ (h:=l_ (h:=m_ (h:=?_))))
  refine al_p rfl (q_call (Prmdir f x1 k2 hv) ?_)
  rintro r rfl
  refine x_ (h:=x_ (h:=x_ (h:=s_ (h:=a_ (h:=a_ (h:=e_ (aw_ret (x_blockR (x_thenR (?_))))))))))
  refine rt_ none (h5 := (LeA.refl _)) (h6 := ⟨_, rfl, rfl, _, ?_, rfl, rmdirL f x1 k2, rfl, .inr (.inr (.inl ⟨_, _, rfl⟩))⟩)
  omega
 have hc3 := bp hb3
 refine w_ (eq_ (h:=a_ (h:=e_ (?_))))
 refine aw_cond rfl (fun hb4 => ?_) (fun hb4 => ?_)
 ·have hc4 := bp hb4
  refine q_ (yk_ ([(1, flsA f), (3, filA x1)]) 15 (h:=dl_ 0 (h:=dl_ 1 (h:=dm_ 2 (h:=dm_ 3 (h:=dl_ 4 (h:=dm_ 6 (h:=?_))))))))
  refine c_ 5 rfl (s_gen 0 (hc := Gfile l _ f (by omega) hf hne) (hR := ?_))
  rintro r a5 ha5 ⟨x5, rfl⟩
  refine ⟨rfl, _, (by repeat constructor), ?_⟩
  refine o_ (h:=?_)
  refine c_ 7 rfl (s_gen 0 (hc := Gname l _ (by omega)) (hR := ?_))
  rintro r a6 ha6 ⟨k6, rfl, hk6⟩
  refine ⟨rfl, _, (by repeat constructor), ?_⟩
  refine o_ (h:=?_)
  refine c_ 8 rfl (q_call (Prename f x1 k2 x5 k6 hv) ?_)
  rintro r rfl
  refine o_ (h:=dx_ 9 (h:=dx_ 10 (h:=dx_ 11 (h:=?_))))
  refine c0_ 12 rfl (s_store rfl rfl rfl rfl rfl rfl (by repeat constructor) (by repeat constructor) ?_)
  refine o_ (h:=da_ 13 (h:=da_ 14 (h:=z_ (h:=t_ (aw_ret (x_blockR (x_thenR (?_))))))))
  refine rt_ none (h5 := (LeA.refl _)) (h6 := ⟨_, rfl, rfl, _, ?_, rfl, renameL f x1 k2 x5 k6, rfl, .inr (.inr (.inr (.inl ⟨_, _, _, _, rfl⟩)))⟩)
  omega
 have hc4 := bp hb4
 refine aw_skip (x_blockN (t_ (q_ (yk_ ([(1, flsA f), (3, filA x1)]) 12 (h:=dl_ 0 (h:=dl_ 1 (h:=dm_ 2 (h:=dm_ 3 (h:=?_)))))))))
 refine c_ 4 rfl (s_gen 0 (hc := Gattr l _ (by omega)) (hR := ?_))
 rintro r a7 ha7 ⟨n7, ht7, he7, rfl⟩
 refine ⟨rfl, _, (by repeat constructor), ?_⟩
 refine o_ (h:=?_)
 refine c_ 5 rfl (q_call (Pmake f x1 k2 n7 hv (by omega)) ?_)
 rintro r rfl
 refine o_ (h:=dx_ 6 (h:=dx_ 7 (h:=dx_ 8 (h:=?_))))
 refine c0_ 9 rfl (s_store rfl rfl rfl rfl rfl rfl (by repeat constructor) (by repeat constructor) ?_)
 refine o_ (h:=da_ 10 (h:=da_ 11 (h:=z_ (h:=t_ (aw_ret (?_))))))
 refine rt_ none (h5 := (LeA.refl _)) (h6 := ⟨_, rfl, rfl, _, ?_, rfl, mkL f x1 k2 n7, rfl, .inr (.inr (.inr (.inr ⟨_, _, _, rfl⟩)))⟩)
 omega
end
def entN (i : Nat) (n : Nod) : List Chg := n.entries.map fun e => (((i : Int), n.ino), e.1, (0, 0), ((i : Int), e.2))
def entNs (i : Nat) (ns : List Nod) : List Chg := ns.flatMap (entN i)
def entFs (f : Fls) (i : Nat) : List Chg := match f[i]? with
 | some d => entNs i d.nodes
 | none => []
def entsL (f : Fls) : List Chg := (List.range f.length).flatMap (entFs f)
def stepKeep (c x : Chg) : Bool := !decide (x.1 = c.1) || !decide (x.2.1 = c.2.1)
def stepOne (l : List Chg) (c : Chg) : List Chg := l.filter (stepKeep c) ++ (if c.2.2.2 = (0, 0) then [] else [(c.1, c.2.1, (0, 0), c.2.2.2)])
def stepL (l : List Chg) (cs : List Chg) : List Chg := cs.foldl stepOne l
def alikeL (a b : List Chg) : Bool := decide (a.length = b.length) && a.all fun x => b.any fun y => decide (x = y)
theorem mem_ents {f : Fls} {x : Chg} : x ∈ entsL f ↔ ∃ (i : Nat) (d : Dvc), f[i]? = some d ∧ ∃ n ∈ d.nodes, ∃ e ∈ n.entries, x = (((i : Int), n.ino), e.1, (0, 0), ((i : Int), e.2)) := by
 unfold entsL
 rw [List.mem_flatMap]
 constructor
 ·rintro ⟨i, _, h⟩
  unfold entFs at h
  split at h
  ·rename_i d hd
   unfold entNs entN at h
   obtain ⟨n, hn, h⟩ := List.mem_flatMap.1 h
   obtain ⟨e, he, rfl⟩ := List.mem_map.1 h
   exact ⟨i, d, hd, n, hn, e, he, rfl⟩
  cases h
 rintro ⟨i, d, hd, n, hn, e, he, rfl⟩
 refine ⟨i, List.mem_range.2 (List.getElem?_eq_some_iff.1 hd).1, ?_⟩
 unfold entFs
 rw [hd]
 exact List.mem_flatMap.2 ⟨n, hn, List.mem_map.2 ⟨e, he, rfl⟩⟩
theorem ents_nodup {f : Fls} (hv : FlsV f) : (entsL f).Nodup := by
 unfold entsL List.Nodup
 rw [List.pairwise_flatMap]
 constructor
 ·intro i _
  unfold entFs
  split
  ·rename_i d hd
   have hvd := hv.vd d (List.mem_of_getElem? hd)
   unfold entNs
   rw [List.pairwise_flatMap]
   constructor
   ·intro n hn
    unfold entN
    rw [List.pairwise_map]
    exact List.Pairwise.imp (R := fun a b : Ent => strLt a.1 b.1 = true) (fun {a b} h (e : (((i : Int), n.ino), a.1, ((0 : Int), (0 : Int)), ((i : Int), a.2)) = ((((i : Int), n.ino), b.1, (0, 0), ((i : Int), b.2)) : Chg)) => lt_ne (a := a.1) (b := b.1) h (congrArg (fun x : Chg => x.2.1) e)) (hvd.sorted n hn)
   refine hvd.asc.imp fun {a b} h x hx y hy e => ?_
   obtain ⟨_, _, rfl⟩ := List.mem_map.1 hx
   obtain ⟨_, _, rfl⟩ := List.mem_map.1 hy
   have := congrArg (fun x : Chg => x.1.2) e
   simp only at this
   omega
  exact List.Pairwise.nil
 refine List.pairwise_lt_range.imp fun {a b} h x hx y hy e => ?_
 have hk : ∀ (i : Nat) (x : Chg), x ∈ entFs f i → x.1.1 = (i : Int) := by
  intro i x hx
  unfold entFs at hx
  split at hx
  ·obtain ⟨n, _, hx⟩ := List.mem_flatMap.1 hx
   obtain ⟨_, _, rfl⟩ := List.mem_map.1 hx
   rfl
  cases hx
 have h1 := hk a x hx
 have h2 := hk b y hy
 rw [e] at h1
 omega
theorem mem_step {l : List Chg} {c x : Chg} : x ∈ stepOne l c ↔ (x ∈ l ∧ ¬ (x.1 = c.1 ∧ x.2.1 = c.2.1)) ∨ (c.2.2.2 ≠ (0, 0) ∧ x = (c.1, c.2.1, (0, 0), c.2.2.2)) := by
 unfold stepOne
 rw [List.mem_append, List.mem_filter]
 have e : (stepKeep c x = true) ↔ ¬ (x.1 = c.1 ∧ x.2.1 = c.2.1) := by
  unfold stepKeep
  by_cases h1 : x.1 = c.1 <;> by_cases h2 : x.2.1 = c.2.1 <;> simp [h1, h2]
 rw [e]
 refine or_congr Iff.rfl ?_
 split
 ·rename_i h; simp [h]
 rename_i h; simp [h]
theorem step_nodup {l : List Chg} (h : l.Nodup) (c : Chg) : (stepOne l c).Nodup := by
 unfold stepOne
 rw [List.nodup_append]
 refine ⟨h.filter _, by split <;> simp, ?_⟩
 intro a ha b hb e
 subst e
 split at hb
 ·cases hb
 rw [List.mem_singleton] at hb
 have := (List.mem_filter.1 ha).2
 rw [hb] at this
 simp [stepKeep] at this
theorem nodupLe {α : Type} : ∀ {xs l : List α}, xs.Nodup → (∀ x ∈ xs, x ∈ l) → xs.length ≤ l.length
 | [], _, _, _ => Nat.zero_le _
 | x :: r, l, h, hs => by
   obtain ⟨h1, h2⟩ := List.nodup_cons.1 h
   obtain ⟨s, t, rfl⟩ := List.append_of_mem (hs x (by simp))
   have := nodupLe (xs := r) (l := s ++ t) h2 fun y hy => by
    have := hs y (by simp [hy])
    have hne : y ≠ x := fun e => h1 (e ▸ hy)
    simp only [List.mem_append, List.mem_cons] at this ⊢
    rcases this with h | h | h
    ·exact .inl h
    ·exact absurd h hne
    exact .inr h
   simp only [List.length_append, List.length_cons] at this ⊢
   omega
theorem alike_of {a b : List Chg} (ha : a.Nodup) (hb : b.Nodup) (h : ∀ x, x ∈ a ↔ x ∈ b) : alikeL a b = true := by
 have h1 := nodupLe ha fun x hx => (h x).1 hx
 have h2 := nodupLe hb fun x hx => (h x).2 hx
 unfold alikeL
 simp only [Bool.and_eq_true, decide_eq_true_eq, List.all_eq_true, List.any_eq_true]
 exact ⟨by omega, fun x hx => ⟨x, (h x).1 hx, rfl⟩⟩
def PE (ns : List Nod) (i : Int) (e : Ent) : Prop := ∃ n ∈ ns, n.ino = i ∧ e ∈ n.entries
theorem mem_entL' {es : List Ent} {name : Str} {ino : Int} {e : Ent} : e ∈ entL es name ino ↔ (e ∈ es ∧ e.1 ≠ name) ∨ (ino ≠ 0 ∧ e = (name, ino)) := by
 have hw : e ∈ without name es ↔ e ∈ es ∧ e.1 ≠ name := by unfold without; rw [List.mem_filter]; simp
 by_cases h : ino = 0
 ·subst h
  rw [entL_zero, hw]
  simp
 rw [(entL_perm es name h).mem_iff, List.mem_cons, hw]
 simp only [ne_eq, h, not_false_eq_true, true_and]
 exact Or.comm
theorem PE_entD {ns : List Nod} {p : Int} {name : Str} {ino : Int} {n0 : Nod} (h0 : n0 ∈ ns) (hp : n0.ino = p) {i : Int} {e : Ent} : PE (entD ns p name ino) i e ↔ (PE ns i e ∧ ¬ (i = p ∧ e.1 = name)) ∨ (ino ≠ 0 ∧ i = p ∧ e = (name, ino)) := by
 unfold PE
 constructor
 ·rintro ⟨m, hm, hi, he⟩
  obtain ⟨n, hn, w⟩ := mem_entD hm
  rw [w.ents] at he
  have hni : n.ino = i := by rw [← hi, w.ino]
  split at he
  ·rename_i hnp
   rcases mem_entL'.1 he with ⟨h1, h2⟩ | ⟨h1, h2⟩
   ·exact .inl ⟨⟨n, hn, hni, h1⟩, fun h => h2 h.2⟩
   exact .inr ⟨h1, by omega, h2⟩
  rename_i hnp
  exact .inl ⟨⟨n, hn, hni, he⟩, fun h => hnp (by omega)⟩
 rintro (⟨⟨n, hn, hi, he⟩, hne⟩ | ⟨h1, h2, h3⟩)
 ·obtain ⟨m, hm, w⟩ := to_entD p name ino hn
  refine ⟨m, hm, by rw [w.ino]; exact hi, ?_⟩
  rw [w.ents]
  split
  ·rename_i hnp
   exact mem_entL'.2 (.inl ⟨he, fun h => hne ⟨by omega, h⟩⟩)
  exact he
 obtain ⟨m, hm, w⟩ := to_entD p name ino h0
 refine ⟨m, hm, by rw [w.ino]; omega, ?_⟩
 rw [w.ents, if_pos hp]
 exact mem_entL'.2 (.inr ⟨h1, h3⟩)
theorem PE_drop {ns : List Nod} {j : Int} (h : ∀ m ∈ ns, m.ino = j → m.entries = []) {i : Int} {e : Ent} : PE (dropI ns j) i e ↔ PE ns i e := by
 unfold PE
 constructor
 ·rintro ⟨m, hm, hi, he⟩
  exact ⟨m, (mem_dropI.1 hm).1, hi, he⟩
 rintro ⟨m, hm, hi, he⟩
 refine ⟨m, mem_dropI.2 ⟨hm, .inl fun hj => ?_⟩, hi, he⟩
 rw [h m hm hj] at he
 cases he
theorem PE_par {ns : List Nod} {a p : Int} {b : Bool} {i : Int} {e : Ent} : PE (renPar ns a p b) i e ↔ PE ns i e := by
 unfold renPar
 split
 ·unfold PE updI
  constructor
  ·rintro ⟨m, hm, hi, he⟩
   obtain ⟨n, hn, rfl⟩ := List.mem_map.1 hm
   refine ⟨n, hn, ?_, ?_⟩
   ·rw [← hi]; split <;> rfl
   revert he; split <;> exact id
  rintro ⟨n, hn, hi, he⟩
  refine ⟨_, List.mem_map.2 ⟨n, hn, rfl⟩, ?_, ?_⟩
  ·rw [← hi]; split <;> rfl
  split <;> exact he
 exact Iff.rfl
theorem PE_new {ns : List Nod} {m : Nod} (h : m.entries = []) {i : Int} {e : Ent} : PE (ns ++ [m]) i e ↔ PE ns i e := by
 unfold PE
 constructor
 ·rintro ⟨n, hn, hi, he⟩
  rcases List.mem_append.1 hn with hn | hn
  ·exact ⟨n, hn, hi, he⟩
  rw [List.mem_singleton.1 hn, h] at he; cases he
 rintro ⟨n, hn, hi, he⟩
 exact ⟨n, List.mem_append_left _ hn, hi, he⟩
theorem ents_PE {f : Fls} {x : Chg} : x ∈ entsL f ↔ ∃ (i : Nat) (d : Dvc), f[i]? = some d ∧ ∃ e, PE d.nodes x.1.2 e ∧ x = (((i : Int), x.1.2), e.1, (0, 0), ((i : Int), e.2)) := by
 rw [mem_ents]
 constructor
 ·rintro ⟨i, d, hd, n, hn, e, he, rfl⟩
  exact ⟨i, d, hd, e, ⟨n, hn, rfl, he⟩, rfl⟩
 rintro ⟨i, d, hd, e, ⟨n, hn, hi, he⟩, hx⟩
 exact ⟨i, d, hd, n, hn, e, he, by rw [hx, hi]⟩
theorem ents_step {f : Fls} {q : Nat} {d : Dvc} (hq : f[q]? = some d) {ns' : List Nod} (nx : Int) {p : Int} {name : Str} {ino : Int} {c : Chg} (h : ∀ i e, PE ns' i e ↔ (PE d.nodes i e ∧ ¬ (i = p ∧ e.1 = name)) ∨ (ino ≠ 0 ∧ i = p ∧ e = (name, ino))) (h1 : c.1 = ((q : Int), p)) (h2 : c.2.1 = name) (h3 : c.2.2.2 = if ino = 0 then (0, 0) else ((q : Int), ino)) (x : Chg) : x ∈ stepOne (entsL f) c ↔ x ∈ entsL (f.set q ⟨nx, ns'⟩) := by
 have hql := (List.getElem?_eq_some_iff.1 hq).1
 rw [mem_step, ents_PE, ents_PE, h1, h2, h3]
 constructor
 ·rintro (⟨⟨i, d', hd', e, hpe, hx⟩, hne⟩ | ⟨hn, hx⟩)
  ·by_cases hi : i = q
   ·subst hi
    obtain rfl : d = d' := Option.some.inj (hq.symm.trans hd')
    refine ⟨i, ⟨nx, ns'⟩, by simp [hql], e, (h _ _).2 (.inl ⟨hpe, fun hh => hne ?_⟩), hx⟩
    rw [hx]
    exact ⟨Prod.ext rfl hh.1, hh.2⟩
   exact ⟨i, d', by rw [List.getElem?_set, if_neg (fun e => hi e.symm)]; exact hd', e, hpe, hx⟩
  have hi0 : ino ≠ 0 := fun hh => hn (if_pos hh)
  rw [if_neg hi0] at hx
  refine ⟨q, ⟨nx, ns'⟩, by simp [hql], (name, ino), (h _ _).2 (.inr ⟨hi0, by rw [hx], rfl⟩), ?_⟩
  rw [hx]
 rintro ⟨i, d', hd', e, hpe, hx⟩
 by_cases hi : i = q
 ·subst hi
  have : d' = ⟨nx, ns'⟩ := by simpa [hql] using hd'.symm
  subst this
  rcases (h _ _).1 hpe with ⟨hpe', hne⟩ | ⟨hi0, hp, he⟩
  ·refine .inl ⟨⟨i, d, hq, e, hpe', hx⟩, fun hh => hne ?_⟩
   rw [hx] at hh
   refine ⟨?_, hh.2⟩
   rw [hx]
   exact congrArg (fun y : Fil => y.2) hh.1
  right
  rw [if_neg hi0]
  refine ⟨fun hh => hi0 (congrArg (fun y : Fil => y.2) hh), ?_⟩
  rw [hx, he, hp]
 rw [List.getElem?_set, if_neg (fun e => hi e.symm)] at hd'
 refine .inl ⟨⟨i, d', hd', e, hpe, hx⟩, fun hh => hi ?_⟩
 rw [hx] at hh
 have := congrArg (fun y : Fil => y.1) hh.1
 simp only at this
 omega
theorem look_PE {g : Fls} (hv : FlsV g) {q : Nat} {d : Dvc} (hq : g[q]? = some d) {dir : Fil} (hd : dir.1 = (q : Int)) {e : Ent} (h : PE d.nodes dir.2 e) : lookL g dir e.1 = ((dir.1, e.2), 0) := by
 obtain ⟨n, hn, hi, he⟩ := h
 have hvd := hv.vd d (List.mem_of_getElem? hq)
 have hnl := node_asc hd hq hvd.asc hn hi
 have hk := hvd.dirOf hn he
 unfold lookL
 rw [hnl]
 simp only [hk, if_true]
 split
 ·rename_i hx
  exact absurd rfl (entF_none (es := n.entries) (name := e.1) hx e he)
 rename_i e' hx
 obtain ⟨h1, h2⟩ := entF_some (es := n.entries) (name := e.1) hx
 rw [sorted_name (hvd.sorted n hn) h1 he h2]
theorem look_PE0 {g : Fls} {q : Nat} {d : Dvc} (hq : g[q]? = some d) {dir : Fil} (hd : dir.1 = (q : Int)) {name : Str} (h : ∀ e, PE d.nodes dir.2 e → e.1 ≠ name) : (lookL g dir name).1 = (0, 0) := by
 unfold lookL
 split
 ·rfl
 rename_i n hn
 split
 ·split
  ·rfl
  rename_i e he
  exfalso
  unfold nodeL at hn
  rw [hd, atI_nat, hq] at hn
  have h1 := List.mem_of_find?_eq_some hn
  have h2 := List.find?_some hn
  simp only [beq_iff_eq] at h2
  obtain ⟨h3, h4⟩ := entF_some (es := n.entries) (name := name) he
  exact h e ⟨n, h1, h2, h3⟩ h4
 rfl
theorem look_after {f g : Fls} {q : Nat} {d : Dvc} {ns' : List Nod} {nx : Int} (hql : q < f.length) (hg : g = f.set q ⟨nx, ns'⟩) (hv : FlsV g) {p : Int} {name : Str} {ino : Int} {c : Chg} (h : ∀ i e, PE ns' i e ↔ (PE d.nodes i e ∧ ¬ (i = p ∧ e.1 = name)) ∨ (ino ≠ 0 ∧ i = p ∧ e = (name, ino))) (h1 : c.1 = ((q : Int), p)) (h2 : c.2.1 = name) (h3 : c.2.2.2 = if ino = 0 then (0, 0) else ((q : Int), ino)) : (lookL g c.1 c.2.1).1 = c.2.2.2 := by
 have hq : g[q]? = some ⟨nx, ns'⟩ := by rw [hg]; simp [hql]
 rw [h1, h2, h3]
 split
 ·rename_i h0
  refine look_PE0 hq rfl fun e he hn => ?_
  rcases (h _ _).1 he with ⟨_, hh⟩ | ⟨hh, _⟩
  ·exact hh ⟨rfl, hn⟩
  exact hh h0
 rename_i h0
 rw [look_PE hv hq (dir := ((q : Int), p)) rfl (e := (name, ino)) ((h _ _).2 (.inr ⟨h0, rfl, rfl⟩))]
structure KeptF (f g : Fls) (cs : List Chg) : Prop where
 alike : alikeL (stepL (entsL f) cs) (entsL g) = true
 look : ∀ c ∈ cs, (lookL f c.1 c.2.1).1 = c.2.2.1 ∧ (lookL g c.1 c.2.1).1 = c.2.2.2 ∧ c.2.2.1 ≠ c.2.2.2
 twice : ∀ c1 c2, cs = [c1, c2] → ¬ (c1.1 = c2.1 ∧ c1.2.1 = c2.2.1)
theorem kept_one {f g : Fls} (hv : FlsV f) (hvg : FlsV g) {q : Nat} {d : Dvc} (hq : f[q]? = some d) {ns' : List Nod} {nx : Int} (hg : g = f.set q ⟨nx, ns'⟩) {p : Int} {name : Str} {ino : Int} {c : Chg} (h : ∀ i e, PE ns' i e ↔ (PE d.nodes i e ∧ ¬ (i = p ∧ e.1 = name)) ∨ (ino ≠ 0 ∧ i = p ∧ e = (name, ino))) (h1 : c.1 = ((q : Int), p)) (h2 : c.2.1 = name) (h3 : c.2.2.2 = if ino = 0 then (0, 0) else ((q : Int), ino)) (hold : (lookL f c.1 c.2.1).1 = c.2.2.1) (hne : c.2.2.1 ≠ c.2.2.2) : KeptF f g [c] := by
 refine ⟨?_, ?_, ?_⟩
 ·refine alike_of (step_nodup (ents_nodup hv) c) (ents_nodup hvg) fun x => ?_
  rw [hg]
  exact ents_step hq nx h h1 h2 h3 x
 ·intro c' hc
  rw [List.mem_singleton.1 hc]
  exact ⟨hold, look_after (List.getElem?_eq_some_iff.1 hq).1 hg hvg h h1 h2 h3, hne⟩
 intro c1 c2 e
 cases e
theorem drop_ents {ns : List Nod} {p : Int} {name : Str} {j : Int} (h : ∀ m ∈ ns, m.ino = j → m.entries = []) : ∀ m ∈ entD ns p name 0, m.ino = j → m.entries = [] := by
 intro m hm hi
 obtain ⟨n, hn, w⟩ := mem_entD hm
 have := h n hn (by rw [← w.ino]; exact hi)
 rw [w.ents, this]
 split
 ·rw [entL_zero]; rfl
 rfl
theorem gone_kept {f : Fls} (hv : FlsV f) {dir : Fil} {name : Str} (hpl : placeL f dir name = 0) (hl : (lookL f dir name).2 = 0) (hem : ∀ m, nodeL f (lookL f dir name).1 = some m → m.entries = []) (hvg : FlsV (onD f dir.1.toNat fun ns => dropI (entD ns dir.2 name 0) (lookL f dir name).1.2)) :
    KeptF f (onD f dir.1.toNat fun ns => dropI (entD ns dir.2 name 0) (lookL f dir name).1.2) [(dir, name, (lookL f dir name).1, (0, 0))] := by
 obtain ⟨q, i, d, n0, hdq, hq, hn0, hino, hidx, hnode, hk0, hnm⟩ := place_ok hpl
 have hvd := hv.vd d (List.mem_of_getElem? hq)
 obtain ⟨e, m, he, hle, hm, hei, he1, hmn⟩ := look_node hv hdq hq hn0 hnode hk0 (name := name) hl
 have hm0 := hem m hmn
 have hA2 : (lookL f dir name).1.2 = m.ino := by rw [hle]; exact hei
 refine kept_one hv hvg hq (by rw [hdq, Int.toNat_natCast, onD_set hq]) (p := dir.2) (name := name) (ino := 0) (c := (dir, name, (lookL f dir name).1, (0, 0))) (fun i e => ?_) (Prod.ext hdq rfl) rfl rfl rfl ?_
 ·rw [PE_drop (drop_ents fun y hy hyi => ?_), PE_entD (List.mem_of_getElem? hn0) hino]
  obtain rfl : y = m := asc_eq hvd.asc hy hm (by rw [hyi, hA2])
  exact hm0
 intro h
 have : (lookL f dir name).1.2 = 0 := congrArg (fun y : Fil => y.2) h
 have := hvd.pos hm
 omega
theorem keep_law {f : Fls} (hv : FlsV f) {Q : ChgRes} (h : ChgOf f Q) (h0 : Q.2.2 = 0) : KeptF f Q.1 Q.2.1 := by
 have hok := (h.okay hv h0).1
 rcases h with ⟨dir, name, a, rfl⟩ | ⟨dir, name, rfl⟩ | ⟨dir, name, rfl⟩ | ⟨src, name, to, name2, rfl⟩ | ⟨dir, name, n, rfl⟩
 ·unfold linkL at h0 hok ⊢
  split at h0
  ·rename_i hh; exact absurd h0 hh
  rename_i hpl
  rw [if_neg hpl] at hok ⊢
  split at h0
  ·exact absurd h0 (by decide)
  rename_i hha
  rw [if_neg hha] at hok ⊢
  split at h0
  ·exact absurd h0 (by decide)
  rename_i hdv
  rw [if_neg hdv] at hok ⊢
  split at h0
  ·exact absurd h0 (by decide)
  rename_i hkd
  rw [if_neg hkd] at hok ⊢
  split at h0
  ·exact absurd h0 (by decide)
  rename_i hlk
  rw [if_neg hlk] at hok ⊢
  split at h0
  ·exact absurd h0 (by decide)
  rename_i hfl
  rw [if_neg hfl] at hok ⊢
  obtain ⟨q, i, d, n0, hdq, hq, hn0, hino, hidx, hnode, hk0, hnm⟩ := place_ok (f := f) (dir := dir) (name := name) (by omega)
  have hvd := hv.vd d (List.mem_of_getElem? hq)
  obtain ⟨q2, i2, d2, m, haq, hq2, hm, hmi, hmn, hmg⟩ := at_ok (f := f) (a := a) (by simpa using hha)
  have hpos := (hv.vd d2 (List.mem_of_getElem? hq2)).pos (List.mem_of_getElem? hm)
  have ha0 : a.2 ≠ 0 := by omega
  have haq' : a.1 = (q : Int) := by omega
  refine kept_one hv hok hq (ns' := entD d.nodes dir.2 name a.2) (nx := d.next) (by show onD f dir.1.toNat _ = _; rw [hdq, Int.toNat_natCast, onD_set hq]; rfl) (p := dir.2) (name := name) (ino := a.2) (fun i e => PE_entD (List.mem_of_getElem? hn0) hino) (Prod.ext hdq rfl) rfl ?_ (look_no hnode hk0 hlk).2 ?_
  ·rw [if_neg ha0]; exact Prod.ext haq' rfl
  intro hh; exact ha0 (congrArg (fun y : Fil => y.2) hh).symm
 ·unfold unlinkL at h0 hok ⊢
  split at h0
  ·rename_i hh; exact absurd h0 hh
  rename_i hpl
  rw [if_neg hpl] at hok ⊢
  split at h0
  ·rename_i hh; exact absurd h0 hh
  rename_i hlk
  rw [if_neg hlk] at hok ⊢
  split at h0
  ·exact absurd h0 (by decide)
  rename_i hdr
  rw [if_neg hdr] at hok ⊢
  refine gone_kept hv (by omega) (by omega) (fun m hm => ?_) hok
  obtain ⟨q2, i2, d2, m', haq, hq2, hm2, hmi, hmn, hmg⟩ := at_ok (f := f) (a := (lookL f dir name).1) (by simp [hasG, hm])
  obtain rfl : m = m' := Option.some.inj (hm.symm.trans hmn)
  exact ((hv.vd d2 (List.mem_of_getElem? hq2)).leaf m (List.mem_of_getElem? hm2) fun hk => hdr ((dir_kind hm).2 hk)).2
 ·unfold rmdirL at h0 hok ⊢
  split at h0
  ·rename_i hh; exact absurd h0 hh
  rename_i hpl
  rw [if_neg hpl] at hok ⊢
  split at h0
  ·rename_i hh; exact absurd h0 hh
  rename_i hlk
  rw [if_neg hlk] at hok ⊢
  split at h0
  ·exact absurd h0 (by decide)
  rename_i hdr
  rw [if_neg hdr] at hok ⊢
  split at h0
  ·exact absurd h0 (by decide)
  rename_i hem
  rw [if_neg hem] at hok ⊢
  exact gone_kept hv (by omega) (by omega) (fun m hm => (empty_len hm).1 (by simpa using hem)) hok
 ·unfold renameL at h0 hok ⊢
  split at h0
  ·rename_i hh; exact absurd h0 hh
  rename_i hord
  rw [if_neg hord] at hok ⊢
  split at h0
  ·rename_i hh; exact absurd h0 hh
  rename_i hl1
  rw [if_neg hl1] at hok ⊢
  split at h0
  ·exact absurd h0 (by decide)
  rename_i hdev
  rw [if_neg hdev] at hok ⊢
  split at h0
  ·exact absurd h0 (by decide)
  rename_i hbel
  rw [if_neg hbel] at hok ⊢
  split at h0
  ·rename_i hsame
   rw [if_pos hsame]
   exact ⟨alike_of (ents_nodup hv) (ents_nodup hv) fun x => Iff.rfl, fun c hc => (by cases hc), fun c1 c2 e => (by cases e)⟩
  rename_i hsame
  rw [if_neg hsame] at hok ⊢
  split at h0
  ·rename_i hh; exact absurd h0 hh
  rename_i hr2
  rw [if_neg hr2] at hok ⊢
  obtain ⟨hpl1, hpl2⟩ := ord_zero (f := f) (x := src) (y := to) (name := name) (name2 := name2) (by omega)
  obtain ⟨q, i, d, n1, hsq, hq, hn1, hn1i, hidx, hnode, hk1, hnm1⟩ := place_ok hpl1
  obtain ⟨q', i2, d', n2, htq, hq', hn2, hn2i, -, hnode2, hk2, hnm2⟩ := place_ok hpl2
  obtain rfl : q = q' := by omega
  obtain rfl : d = d' := Option.some.inj (hq.symm.trans hq')
  have hvd := hv.vd d (List.mem_of_getElem? hq)
  have hm1 := List.mem_of_getElem? hn1
  have hm2 := List.mem_of_getElem? hn2
  have hql := (List.getElem?_eq_some_iff.1 hq).1
  obtain ⟨e, m, he, hle, hm, hem, he1, hmn⟩ := look_node hv hsq hq hn1 hnode hk1 (name := name) (by omega)
  have hA2 : (lookL f src name).1.2 = m.ino := by rw [hle]; exact hem
  have hA1 : (lookL f src name).1.1 = (q : Int) := by rw [hle]; exact hsq
  have hpos : (lookL f src name).1.2 ≠ 0 := by have := hvd.pos hm; omega
  have hne : ¬ (src = to ∧ name = name2) := by
   rintro ⟨rfl, rfl⟩
   exact hsame ⟨by omega, rfl⟩
  have hO : (lookL f to name2).2 = 0 → ∀ y ∈ d.nodes, y.ino = (lookL f to name2).1.2 → y.entries = [] ∧ y.ino ≠ to.2 := by
   intro hz y hy hyi
   have hr3 : ren2L f src to (lookL f src name).1 (lookL f to name2).1 (lookL f to name2).2 = 0 := by omega
   unfold ren2L at hr3
   rw [if_pos hz] at hr3
   obtain ⟨eo, o, heo, hleo, hom, heoi, heo1, hon⟩ := look_node hv htq hq hn2 hnode2 hk2 (name := name2) hz
   have hO2 : (lookL f to name2).1.2 = eo.2 := by rw [hleo]
   obtain rfl : y = o := asc_eq hvd.asc hy hom (by rw [hyi, hO2, heoi])
   have hoe : y.entries = [] := by
    have hdo := dir_kind hon
    by_cases hok2 : y.kind = 2
    ·rw [if_neg (fun hh => by
        rw [if_pos hh] at hr3; exact absurd hr3 (by decide))] at hr3
     rw [if_neg (fun hh => by rw [hdo.2 hok2] at hh; exact absurd hh.1 (by decide))] at hr3
     split at hr3
     ·exact absurd hr3 (by decide)
     rename_i h5
     refine (empty_len hon).1 ?_
     cases hem2 : emptyL f (lookL f to name2).1 with
     | true => rfl
     | false => exact absurd ⟨hdo.2 hok2, hem2⟩ h5
    exact (hvd.leaf y hom hok2).2
   refine ⟨hoe, fun hto => ?_⟩
   obtain rfl : y = n2 := asc_eq hvd.asc hy hm2 (by omega)
   have := (entF_some heo).1
   rw [hoe] at this
   cases this
  have hPE : ∀ i e, PE (renPar (renNs d.nodes src name to name2 (lookL f src name).1 (lookL f to name2).1 (lookL f to name2).2) (lookL f src name).1.2 to.2 (dirL f (lookL f src name).1)) i e ↔ (PE (entD d.nodes src.2 name 0) i e ∧ ¬ (i = to.2 ∧ e.1 = name2)) ∨ ((lookL f src name).1.2 ≠ 0 ∧ i = to.2 ∧ e = (name2, (lookL f src name).1.2)) := by
   intro i e
   obtain ⟨m2, hm2', w2⟩ := to_entD src.2 name 0 hm2
   have hE := PE_entD (ns := entD d.nodes src.2 name 0) (p := to.2) (name := name2) (ino := (lookL f src name).1.2) hm2' (by rw [w2.ino]; exact hn2i) (i := i) (e := e)
   rw [PE_par]
   unfold renNs
   split
   ·rename_i hz
    rw [PE_drop, hE]
    intro y hy hyi
    obtain ⟨y1, h1, w1⟩ := mem_entD hy
    obtain ⟨y2, h2, w2⟩ := mem_entD h1
    obtain ⟨h3, h4⟩ := hO hz y2 h2 (by rw [← w2.ino, ← w1.ino]; exact hyi)
    rw [w1.ents, if_neg (by rw [w2.ino]; exact h4), w2.ents, h3]
    split
    ·rw [entL_zero]; rfl
    rfl
   exact hE
  have hPE1 : ∀ i e, PE (entD d.nodes src.2 name 0) i e ↔ (PE d.nodes i e ∧ ¬ (i = src.2 ∧ e.1 = name)) ∨ ((0 : Int) ≠ 0 ∧ i = src.2 ∧ e = (name, 0)) := fun i e => PE_entD hm1 hn1i
  have hset : (onD f to.1.toNat fun ns => renPar (renNs ns src name to name2 (lookL f src name).1 (lookL f to name2).1 (lookL f to name2).2) (lookL f src name).1.2 to.2 (dirL f (lookL f src name).1)) = f.set q ⟨d.next, renPar (renNs d.nodes src name to name2 (lookL f src name).1 (lookL f to name2).1 (lookL f to name2).2) (lookL f src name).1.2 to.2 (dirL f (lookL f src name).1)⟩ := by
   rw [htq, Int.toNat_natCast, onD_set hq]
  dsimp only at hok ⊢
  rw [hset] at hok ⊢
  generalize hns' : renPar (renNs d.nodes src name to name2 (lookL f src name).1 (lookL f to name2).1 (lookL f to name2).2) (lookL f src name).1.2 to.2 (dirL f (lookL f src name).1) = ns' at hPE hok ⊢
  have hq1 : (f.set q ⟨d.next, entD d.nodes src.2 name 0⟩)[q]? = some ⟨d.next, entD d.nodes src.2 name 0⟩ := by simp [hql]
  have hqg : (f.set q ⟨d.next, ns'⟩)[q]? = some ⟨d.next, ns'⟩ := by simp [hql]
  have hs : src = ((q : Int), src.2) := Prod.ext hsq rfl
  have ht : to = ((q : Int), to.2) := Prod.ext htq rfl
  have hA : (lookL f src name).1 = ((q : Int), (lookL f src name).1.2) := Prod.ext hA1 rfl
  have hA0 : (lookL f src name).1 ≠ (0, 0) := fun hh => hpos (congrArg (fun y : Fil => y.2) hh)
  refine ⟨?_, ?_, ?_⟩
  ·refine alike_of (step_nodup (step_nodup (ents_nodup hv) _) _) (ents_nodup hok) fun x => ?_
   have e1 := ents_step hq d.next hPE1 (c := (src, name, (lookL f src name).1, (0, 0))) hs rfl rfl
   have e2 := ents_step hq1 d.next hPE (c := (to, name2, (lookL f to name2).1, (lookL f src name).1)) ht rfl (by rw [if_neg hpos]; exact hA) x
   rw [List.set_set] at e2
   rw [← e2]
   show x ∈ stepOne (stepOne (entsL f) _) _ ↔ _
   rw [mem_step, mem_step (l := entsL (f.set q ⟨d.next, entD d.nodes src.2 name 0⟩)), e1 x]
  ·intro c hc
   simp only [List.mem_cons, List.not_mem_nil, or_false] at hc
   rcases hc with rfl | rfl
   ·refine ⟨rfl, ?_, hA0⟩
    show (lookL (f.set q ⟨d.next, ns'⟩) src name).1 = (0, 0)
    refine look_PE0 hqg hsq fun e he hn => ?_
    rcases (hPE _ _).1 he with ⟨h1, _⟩ | ⟨_, h2, h3⟩
    ·rcases (hPE1 _ _).1 h1 with ⟨_, h4⟩ | ⟨h4, _⟩
     ·exact h4 ⟨rfl, hn⟩
     exact h4 rfl
    rw [h3] at hn
    exact hne ⟨Prod.ext (by omega) h2, hn.symm⟩
   refine ⟨rfl, ?_, ?_⟩
   ·show (lookL (f.set q ⟨d.next, ns'⟩) to name2).1 = (lookL f src name).1
    rw [look_PE hok hqg htq (e := (name2, (lookL f src name).1.2)) ((hPE _ _).2 (.inr ⟨hpos, rfl, rfl⟩))]
    exact Prod.ext (by show to.1 = _; omega) rfl
   show (lookL f to name2).1 ≠ (lookL f src name).1
   intro hh
   by_cases hz : (lookL f to name2).2 = 0
   ·exact hsame ⟨hz, hh⟩
   rw [(look_no hnode2 hk2 hz).2] at hh
   exact hA0 hh.symm
  intro c1 c2 hc
  injection hc with h1 h2
  injection h2 with h2 _
  rw [← h1, ← h2]
  exact hne
 unfold mkL at h0 hok ⊢
 split at h0
 ·rename_i hh; exact absurd h0 hh
 rename_i hpl
 rw [if_neg hpl] at hok ⊢
 split at h0
 ·exact absurd h0 (by decide)
 rename_i hpn
 rw [if_neg hpn] at hok ⊢
 split at h0
 ·exact absurd h0 (by decide)
 rename_i hlk
 rw [if_neg hlk] at hok ⊢
 obtain ⟨q, i, d, n0, hdq, hq, hn0, hino, hidx, hnode, hk0, hnm⟩ := place_ok (f := f) (dir := dir) (name := name) (by omega)
 have hvd := hv.vd d (List.mem_of_getElem? hq)
 rw [hdq, atI_nat, hq] at h0 hok ⊢
 dsimp only at h0 hok ⊢
 split at h0
 ·exact absurd h0 (by decide)
 rename_i hfl
 rw [if_neg hfl] at hok ⊢
 have hnx : d.next ≠ 0 := by have := hvd.next2; omega
 refine kept_one hv hok hq (by show f.set _ _ = _; rw [Int.toNat_natCast]) (p := dir.2) (name := name) (ino := d.next) (fun i e => ?_) (Prod.ext hdq rfl) rfl ?_ (look_no hnode hk0 hlk).2 ?_
 ·rw [PE_new rfl]
  exact PE_entD (List.mem_of_getElem? hn0) hino
 ·rw [if_neg hnx]
 intro hh; exact hnx (congrArg (fun y : Fil => y.2) hh).symm
theorem entNs_snoc {i j : Nat} {ns : List Nod} {n : Nod} (h : ns[j]? = some n) : entNs i (ns.take (j + 1)) = entNs i (ns.take j) ++ entN i n := by
 unfold entNs
 rw [List.take_add_one, h, List.flatMap_append]
 simp
theorem ents_snoc {f : Fls} {i : Nat} {d : Dvc} (h : f[i]? = some d) : (List.range (i + 1)).flatMap (entFs f) = (List.range i).flatMap (entFs f) ++ entNs i d.nodes := by
 rw [List.range_succ, List.flatMap_append]
 simp [entFs, h]
theorem ent_snoc {i k : Nat} {n : Nod} {e : Ent} (h : n.entries[k]? = some e) : (n.entries.take (k + 1)).map (fun e : Ent => (((((i : Int), n.ino), e.1, (0, 0), ((i : Int), e.2)) : Chg))) = (n.entries.take k).map (fun e : Ent => (((((i : Int), n.ino), e.1, (0, 0), ((i : Int), e.2)) : Chg))) ++ [(((i : Int), n.ino), e.1, (0, 0), ((i : Int), e.2))] := by
 rw [List.take_add_one, h, List.map_append]
 rfl
section
set_option maxRecDepth 20000
set_option maxHeartbeats 2000000
theorem RentsK (f : Fls) (hv : FlsV f) : AFn Try.prog 52 [.agg (flsA f)] (fun r => (entsL f).length ≤ 600 ∧ r = .sl 7 ((entsL f).map chgA) none) := by
 have hfl : (f.map dvcA).length = f.length := by simp
 have hfew := hv.few
 refine enter Try.func52 rfl rfl rfl rfl rfl 0 rfl ?_
 refine w_ (b_ (h:=a_ (h:=e_ (w_ (a_ (h:=e_ (q_ (w_ (a_ (h:=e_ (aw_block (?_))))))))))))
 refine aw_nilTok 3 68 7 rfl (by repeat constructor) ?_
 refine aw_loopW (fun m t => ∃ (i : Nat) (acc : List Chg), i ≤ f.length ∧ m = f.length - i ∧ acc = (List.range i).flatMap (entFs f) ∧ acc.length ≤ 192 * i ∧ t = ⟨look [(1, .bp 0 0), (3, .sl 7 (acc.map chgA) (some 0)), (4, .v (.int .i64 (i : Int)))], ⟨[flsA f], [(68, 7, acc.map chgA)]⟩⟩) (f.length) (wk 1 1) (⟨0, [], by omega, rfl, rfl, by simp, rfl⟩) ?_
 rintro m t ⟨i, acc, hi, rfl, hacc, hal, rfl⟩
 refine q_ (w_ (m_ (h:=f_ (h:=l_ (h:=n_ (h:=lt_ (h:=e_ (?_))))))))
 refine aw_cond rfl (fun hb1 => ?_) (fun hb1 => ?_)
 ·have hc1 := bp hb1
  obtain ⟨hlt, d, hd, hrow, -⟩ := row_at dvcA hc1
  have hvd := hv.vd d (List.mem_of_getElem? hd)
  have hdl : (d.nodes.map nodA).length = d.nodes.length := by simp
  have hdn := hvd.len
  refine kt_ (q_ (aw_block (w_ (f_ (h:=l_ (h:=m_ (h:=i_ (h:=f_ (h:=l_ (h:=a_ (h:=e_ (w_ (a_ (h:=e_ (aw_block (?_))))))))))))))))
  refine aw_loopW (fun m t => ∃ (j : Nat) (acc2 : List Chg), j ≤ d.nodes.length ∧ m = d.nodes.length - j ∧ acc2 = acc ++ entNs i (d.nodes.take j) ∧ acc2.length ≤ 192 * i + 12 * j ∧ t = ⟨look [(1, .bp 0 0), (3, .sl 7 (acc2.map chgA) (some 0)), (4, .v (.int .i64 (i : Int))), (5, .sl 8 (d.nodes.map nodA) none), (6, .v (.int .i64 (j : Int)))], ⟨[flsA f], [(68, 7, acc2.map chgA)]⟩⟩) (d.nodes.length) (wk 1 1) (⟨0, acc, by omega, rfl, by simp [entNs], by omega, rfl⟩) ?_
  rintro m t ⟨j, acc2, hj, rfl, ha2, hal2, rfl⟩
  refine q_ (w_ (m_ (h:=m_ (h:=n_ (h:=lt_ (h:=e_ (?_)))))))
  refine aw_cond rfl (fun hb2 => ?_) (fun hb2 => ?_)
  ·have hc2 := bp hb2
   obtain ⟨hlt2, n, hn, hrow2, -⟩ := row_at nodA hc2
   have hen := hvd.many n (List.mem_of_getElem? hn)
   have hel : (n.entries.map entA).length = n.entries.length := by simp
   refine kt_ (q_ (aw_block (w_ (a_ (h:=e_ (aw_block (?_)))))))
   refine aw_loopW (fun m t => ∃ (k : Nat) (acc3 : List Chg), k ≤ n.entries.length ∧ m = n.entries.length - k ∧ acc3 = acc2 ++ (n.entries.take k).map (fun e : Ent => (((((i : Int), n.ino), e.1, (0, 0), ((i : Int), e.2)) : Chg))) ∧ acc3.length ≤ 192 * i + 12 * j + k ∧ t = ⟨look [(1, .bp 0 0), (3, .sl 7 (acc3.map chgA) (some 0)), (4, .v (.int .i64 (i : Int))), (5, .sl 8 (d.nodes.map nodA) none), (6, .v (.int .i64 (j : Int))), (7, .v (.int .i64 (k : Int)))], ⟨[flsA f], [(68, 7, acc3.map chgA)]⟩⟩) (n.entries.length) (wk 1 1) (⟨0, acc2, by omega, rfl, by simp, by omega, rfl⟩) ?_
   rintro m t ⟨k, acc3, hk, rfl, ha3, hal3, rfl⟩
   refine q_ (w_ (m_ (h:=m_ (h:=m_ (h:=i_ (h:=f_ (h:=l_ (h:=n_ (h:=lt_ (h:=e_ (?_)))))))))))
   refine aw_cond rfl (fun hb3 => ?_) (fun hb3 => ?_)
   ·have hc3 := bp hb3
    obtain ⟨hlt3, e, he, hrow3, -⟩ := row_at entA hc3
    refine kt_ (q_ (aw_block (yk_ ([]) 32 (h:=dm_ 0 (h:=dm_ 1 (h:=dm_ 2 (h:=dm_ 3 (h:=di_ 4 (h:=df_ 5 (h:=dl_ 6 (h:=dbd_ 7 (h:=dm_ 8 (h:=dm_ 9 (h:=di_ 10 (h:=df_ 11 (h:=dl_ 12 (h:=dm_ 13 (h:=di_ 14 (h:=df_ 15 (h:=dl_ 16 (h:=dm_ 17 (h:=dm_ 18 (h:=dm_ 19 (h:=?_))))))))))))))))))))))))
    refine di_ 20 (h:=df_ 21 (h:=dl_ 22 (h:=dm_ 23 (h:=di_ 24 (h:=df_ 25 (h:=dl_ 26 (h:=dbd_ 27 (h:=dbd_ 28 (h:=dbs_ 29 (h:=?_))))))))))
    first | refine c_ 30 rfl (s_append rfl rfl rfl (by simp; omega) (by repeat constructor) ?_) | refine c_ 30 rfl (s_append0 rfl rfl (by simp; omega) (by repeat constructor) ?_)
    refine o_ (h:=da_ 31 (h:=z_ (h:=x_blockN (t_ (aw_region (m_ (h:=ad_ (h:=a_ (h:=al_nil (?_))))))))))
    refine x_then ?_
    refine ⟨_, _, ?_, ⟨k + 1, acc3 ++ [(((i : Int), n.ino), e.1, (0, 0), ((i : Int), e.2))], by omega, rfl, ?_, (by simp; omega), rfl⟩, (by simp only [List.map_append, List.map_cons, List.map_nil]; exact wk 1 1)⟩
    ·omega
    rw [ent_snoc he, ← List.append_assoc, ← ha3]
   have hc3 := bp hb3
   have e3 := row_no entA hk hc3
   subst e3
   refine aw_exit (x_thenE (x_thenE (ABlock_out (x_blockN (t_ (aw_region (m_ (h:=ad_ (h:=a_ (h:=al_nil (?_)))))))))))
   refine x_then ?_
   refine ⟨_, _, ?_, ⟨j + 1, acc3, by omega, rfl, ?_, by omega, rfl⟩, wk 1 1⟩
   ·omega
   rw [entNs_snoc hn, ← List.append_assoc, ← ha2, ha3, List.take_length]; rfl
  have hc2 := bp hb2
  have e2 := row_no nodA hj hc2
  subst e2
  refine aw_exit (x_thenE (x_thenE (ABlock_out (x_blockN (t_ (aw_region (m_ (h:=ad_ (h:=a_ (h:=al_nil (?_)))))))))))
  refine x_then ?_
  refine ⟨_, _, ?_, ⟨i + 1, acc2, by omega, rfl, ?_, by omega, rfl⟩, wk 1 1⟩
  ·omega
  rw [ents_snoc hd, ← hacc, ha2, List.take_length]
 have hc1 := bp hb1
 have e1 := row_no dvcA hi hc1
 subst e1
 refine aw_exit (x_thenE (x_thenE (ABlock_out (t_ (w_ (m_ (h:=a_ (h:=e_ (aw_ret (?_))))))))))
 refine e_ret ?_
 exact ⟨by unfold entsL; rw [← hacc]; omega, by unfold entsL; rw [← hacc]; rfl⟩
end
def chgV (c : Chg) : List Value := [.int .i64 c.1.1, .int .i64 c.1.2, .string c.2.1, .int .i64 c.2.2.1.1, .int .i64 c.2.2.1.2, .int .i64 c.2.2.2.1, .int .i64 c.2.2.2.2]
theorem allV_chg (c : Chg) : AllV (chgA c) (chgV c) := by repeat constructor
set_option maxRecDepth 10000 in
set_option maxHeartbeats 2000000 in
theorem eqChg (x y : Chg) (w : World) : (binOp .eql 68 (.agg (chgV x).toArray) (.agg (chgV y).toArray)).run Try.prog w = .ok (.bool (decide (x = y))) w := by
 have u3 := Try.underlying3
 have a3 := Try.isAgg3
 have z3 := Try.sizeOf3
 have u9 := Try.underlying9
 have a9 := Try.isAgg9
 have z9 := Try.sizeOf9
 have u5 := Try.underlying39
 have a5 := Try.isAgg39
 have z5 := Try.sizeOf39
 have hS : Try.prog.underlying 68 = some (.struct (Try.prog.fieldsOf 68)) := by kernel_rfl
 have hp : Try.prog.stoodInHeld 68 = false := by kernel_rfl
 have hSF : Try.prog.underlying 39 = some (.struct (Try.prog.fieldsOf 39)) := by kernel_rfl
 have hpF : Try.prog.stoodInHeld 39 = false := by kernel_rfl
 have eF : ∀ (d : Nat) (a b a' b' : Int) (w : World), (Op.equalIn (d + 2) 39 (.agg #[.int .i64 a, .int .i64 b]) (.agg #[.int .i64 a', .int .i64 b'])).run Try.prog w = .ok (decide ((a, b) = (a', b'))) w := by
  intro d a b a' b' w
  rw [run_equalIn_agg w (d + 1) 39 _ _ hSF hpF]
  simp only [Program.fieldsOf, Try.underlying39]
  go_simp
  by_cases h1 : a = a' <;> by_cases h2 : b = b' <;> simp [h1, h2]
 obtain ⟨⟨x1, x2⟩, x3, ⟨x4, x5⟩, ⟨x6, x7⟩⟩ := x
 obtain ⟨⟨y1, y2⟩, y3, ⟨y4, y5⟩, ⟨y6, y7⟩⟩ := y
 have e : ∀ w, (Op.equalIn 10000 68 (.agg (chgV ((x1, x2), x3, (x4, x5), (x6, x7))).toArray) (.agg (chgV ((y1, y2), y3, (y4, y5), (y6, y7))).toArray)).run Try.prog w = .ok (decide ((((x1, x2), x3, (x4, x5), (x6, x7)) : Chg) = ((y1, y2), y3, (y4, y5), (y6, y7)))) w := by
  intro w
  rw [show (10000 : Nat) = 9999 + 1 from rfl, run_equalIn_agg w 9999 68 _ _ hS hp]
  simp only [Program.fieldsOf, Try.underlying68, chgV]
  go_simp
  have hst := str_eq x3 y3
  by_cases h1 : (x1, x2) = (y1, y2) <;> by_cases h2 : x3 = y3 <;> by_cases h3 : (x4, x5) = (y4, y5) <;> by_cases h4 : (x6, x7) = (y6, y7) <;> simp_all
 rw [run_eql_struct, e]
 rfl
theorem st_eqChg {ev : Operand → Option AV} {h : AH} {R : AV → AH → Prop} {d : Option Tmp} {ty : TypeId} {pos : String} {af : Array Edge} {gd : Option (Nat × Bool)} {yT : TypeId} {x y : Operand} (a b : Chg) (hx : ev x = some (.agg (chgA a))) (hy : ev y = some (.agg (chgA b))) (hR : R (.v (.bool (decide (a = b)))) h) : AStep Try.prog ⟨d, .binOp .eql 68 x y yT, ty, pos, af, gd⟩ ev h R :=
 st_binA hx hy (allV_chg a) (allV_chg b) (fun w => eqChg a b w) (by kernel_rfl) hR
theorem step_snoc {l cs : List Chg} {i : Nat} {c : Chg} (h : cs[i]? = some c) : stepL l (cs.take (i + 1)) = stepOne (stepL l (cs.take i)) c := by
 unfold stepL
 rw [List.take_add_one, h, List.foldl_append]
 rfl
theorem step_len (l : List Chg) (c : Chg) : (stepOne l c).length ≤ l.length + 1 := by
 unfold stepOne
 rw [List.length_append]
 have := List.length_filter_le (stepKeep c) l
 split <;> simp <;> omega
theorem filt_snoc {α : Type} {p : α → Bool} {l : List α} {k : Nat} {x : α} (h : l[k]? = some x) : (l.take (k + 1)).filter p = (l.take k).filter p ++ if p x then [x] else [] := by
 rw [List.take_add_one, h, List.filter_append]
 cases hp : p x <;> simp [hp]
theorem filt_len {α : Type} (p : α → Bool) (l : List α) (k : Nat) : ((l.take k).filter p).length ≤ k := by
 have := List.length_filter_le p (l.take k)
 rw [List.length_take] at this
 omega
section
set_option maxRecDepth 20000
set_option maxHeartbeats 2000000
theorem Ralike (a b : List Chg) (_ : a.length ≤ 100000) (hb : b.length ≤ 100000) : AFn Try.prog 50 [.sl 7 (a.map chgA) none, .sl 7 (b.map chgA) none] (fun r => r = .v (.bool (alikeL a b))) := by
 have hal : (a.map chgA).length = a.length := by simp
 have hbl : (b.map chgA).length = b.length := by simp
 refine enter Try.func50 rfl rfl rfl rfl rfl 0 rfl ?_
 refine w_ (a_ (h:=e_ (q_ (w_ (m_ (h:=n_ (h:=m_ (h:=n_ (h:=nq_ (h:=e_ (?_)))))))))))
 refine aw_cond rfl (fun hb1 => ?_) (fun hb1 => ?_)
 ·have hc1 := bp hb1
  refine w_ (a_ (h:=e_ (aw_ret (x_thenR (?_)))))
  refine e_ret ?_
  exact vb (by unfold alikeL; rw [decide_eq_false (by omega), Bool.false_and])
 have hc1 := bp hb1
 refine kt_ (q_ (w_ (a_ (h:=e_ (aw_block (?_))))))
 refine aw_loopW (fun m t => ∃ i : Nat, i ≤ a.length ∧ m = a.length - i ∧ (∀ z ∈ a.take i, (b.any fun y => decide (z = y)) = true) ∧ t = ⟨look [(0, .sl 7 (a.map chgA) none), (1, .sl 7 (b.map chgA) none), (5, .v (.int .i64 (i : Int)))], ⟨[], []⟩⟩) (a.length) (wk 0 0) (⟨0, by omega, rfl, by simp, rfl⟩) ?_
 rintro m t ⟨i, hi, rfl, hall, rfl⟩
 refine q_ (w_ (m_ (h:=m_ (h:=n_ (h:=lt_ (h:=e_ (?_)))))))
 refine aw_cond rfl (fun hb2 => ?_) (fun hb2 => ?_)
 ·have hc2 := bp hb2
  obtain ⟨hlt, x, hx, hrow, -⟩ := row_at chgA hc2
  refine kt_ (q_ (aw_block (w_ (a_ (h:=e_ (q_ (w_ (a_ (h:=e_ (aw_block (?_)))))))))))
  refine aw_loopW (fun m t => ∃ (k : Nat) (fo : Bool), k ≤ b.length ∧ m = b.length - k ∧ fo = ((b.take k).any fun y => decide (x = y)) ∧ t = ⟨look [(0, .sl 7 (a.map chgA) none), (1, .sl 7 (b.map chgA) none), (5, .v (.int .i64 (i : Int))), (6, .v (.bool fo)), (7, .v (.int .i64 (k : Int)))], ⟨[], []⟩⟩) (b.length) (wk 0 0) (⟨0, false, by omega, rfl, rfl, rfl⟩) ?_
  rintro m t ⟨k, fo, hk, rfl, hfo, rfl⟩
  refine q_ (w_ (m_ (h:=m_ (h:=n_ (h:=lt_ (h:=e_ (?_)))))))
  refine aw_cond rfl (fun hb3 => ?_) (fun hb3 => ?_)
  ·have hc3 := bp hb3
   obtain ⟨hlt2, y, hy, hrow2, -⟩ := row_at chgA hc3
   refine kt_ (q_ (aw_block (yr_ 13 (h:=dm_ 0 (h:=dm_ 1 (h:=?_))))))
   refine aa_both (j := 1) rfl (fun hb4 => ?_) (fun hb4 => ?_)
   ·have hc4 := bp hb4
    refine d0_ 2 (h:=d0_ 3 (h:=d0_ 4 (h:=d0_ 5 (h:=d0_ 6 (h:=d0_ 7 (h:=d0_ 8 (h:=d0_ 9 (h:=d0_ 10 (h:=dpt_ 11 (h:=da_ 12 (h:=z_ (h:=x_blockN (t_ (aw_region (m_ (h:=ad_ (h:=a_ (h:=al_nil (?_)))))))))))))))))))
    refine x_then ?_
    first | (refine ⟨_, _, ?_, ⟨k + 1, true, by omega, rfl, ?_, rfl⟩, wk 0 0⟩ <;> first | omega | (rw [List.take_add_one, hy, List.any_append, ← hfo, hc4]; rfl)) | (refine ⟨_, _, ?_, ⟨k + 1, decide (x = y), by omega, rfl, ?_, rfl⟩, wk 0 0⟩ <;> first | omega | (rw [List.take_add_one, hy, List.any_append, ← hfo]; simp [hc4]))
   have hc4 := bp hb4
   refine dm_ 2 (h:=dm_ 3 (h:=di_ 4 (h:=dl_ 5 (h:=dm_ 6 (h:=dm_ 7 (h:=di_ 8 (h:=dl_ 9 (h:=?_))))))))
   refine r_y (i := 10) rfl (st_eqChg x y rfl rfl ⟨rfl, rfl⟩) ?_
   refine dpf_ 11 (h:=da_ 12 (h:=z_ (h:=x_blockN (t_ (aw_region (m_ (h:=ad_ (h:=a_ (h:=al_nil (?_))))))))))
   refine x_then ?_
   first | (refine ⟨_, _, ?_, ⟨k + 1, true, by omega, rfl, ?_, rfl⟩, wk 0 0⟩ <;> first | omega | (rw [List.take_add_one, hy, List.any_append, ← hfo, hc4]; rfl)) | (refine ⟨_, _, ?_, ⟨k + 1, decide (x = y), by omega, rfl, ?_, rfl⟩, wk 0 0⟩ <;> first | omega | (rw [List.take_add_one, hy, List.any_append, ← hfo]; simp [hc4]))
  have hc3 := bp hb3
  have e2 := row_no chgA hk hc3
  subst e2
  refine aw_exit (x_thenE (x_thenE (ABlock_out (t_ (w_ (m_ (h:=nt_ (h:=e_ (?_)))))))))
  refine aw_cond rfl (fun hb5 => ?_) (fun hb5 => ?_)
  ·have hc5 := bp hb5
   refine w_ (a_ (h:=e_ (aw_ret (x_blockR (x_thenR (x_thenR (x_blockR (x_thenR (?_)))))))))
   refine e_ret ?_
   refine vb (Eq.symm (Bool.eq_false_iff.2 fun h => ?_))
   unfold alikeL at h
   simp only [Bool.and_eq_true, List.all_eq_true] at h
   have := h.2 x (List.mem_of_getElem? hx)
   rw [List.take_length] at hfo
   rw [← hfo] at this
   rw [this] at hc5
   cases hc5
  have hc5 := bp hb5
  refine aw_skip (x_blockN (t_ (aw_region (m_ (h:=ad_ (h:=a_ (h:=al_nil (?_))))))))
  refine x_then ?_
  refine ⟨_, _, ?_, ⟨i + 1, by omega, rfl, ?_, rfl⟩, wk 0 0⟩
  ·omega
  intro z hz
  rw [List.take_add_one, hx] at hz
  rcases List.mem_append.1 hz with hz | hz
  ·exact hall z hz
  obtain rfl : z = x := by simpa using hz
  rw [List.take_length] at hfo
  rw [← hfo]
  simpa using hc5
 have hc2 := bp hb2
 have e1 := row_no chgA hi hc2
 subst e1
 refine aw_exit (x_thenE (x_thenE (ABlock_out (t_ (w_ (a_ (h:=e_ (aw_ret (?_)))))))))
 refine e_ret ?_
 refine vb (Eq.symm ?_)
 unfold alikeL
 rw [List.take_length] at hall
 simp only [Bool.and_eq_true, List.all_eq_true, decide_eq_true_eq]
 exact ⟨by omega, hall⟩
theorem Rstep (l cs : List Chg) (hl : l.length ≤ 1000) (hc : cs.length ≤ 1000) : AFn Try.prog 51 [.sl 7 (l.map chgA) none, .sl 7 (cs.map chgA) none] (fun r => (stepL l cs).length ≤ 2000 ∧ r = .sl 7 ((stepL l cs).map chgA) none) := by
 have hll : (l.map chgA).length = l.length := by simp
 have hcl : (cs.map chgA).length = cs.length := by simp
 refine enter Try.func51 rfl rfl rfl rfl rfl 0 rfl ?_
 refine w_ (a_ (h:=e_ (w_ (m_ (h:=?_)))))
 first | refine al_p rfl (s_append rfl rfl rfl (by simp; omega) (by repeat constructor) ?_) | refine al_p rfl (s_append0 rfl rfl (by simp; omega) (by repeat constructor) ?_)
 refine a_ (h:=e_ (q_ (w_ (a_ (h:=e_ (aw_block (?_)))))))
 refine aw_loopW (fun m t => ∃ (i : Nat) (acc : List Chg), i ≤ cs.length ∧ m = cs.length - i ∧ acc = stepL l (cs.take i) ∧ acc.length ≤ l.length + i ∧ t = ⟨look [(1, .sl 7 (cs.map chgA) none), (5, .sl 7 (acc.map chgA) none), (6, .v (.int .i64 (i : Int)))], ⟨[], []⟩⟩) (cs.length) (wk 0 0) (⟨0, l, by omega, rfl, rfl, by omega, rfl⟩) ?_
 rintro m t ⟨i, acc, hi, rfl, hacc, hal, rfl⟩
 refine q_ (w_ (m_ (h:=m_ (h:=n_ (h:=lt_ (h:=e_ (?_)))))))
 refine aw_cond rfl (fun hb1 => ?_) (fun hb1 => ?_)
 ·have hc1 := bp hb1
  obtain ⟨hlt, c, hcc, hrow, -⟩ := row_at chgA hc1
  have hal2 : (acc.map chgA).length = acc.length := by simp
  refine kt_ (q_ (aw_block (w_ (a_ (h:=e_ (q_ (w_ (a_ (h:=e_ (aw_block (?_)))))))))))
  refine aw_nilTok 7 68 7 rfl (by repeat constructor) ?_
  refine aw_loopW (fun m t => ∃ (k : Nat) (nx : List Chg), k ≤ acc.length ∧ m = acc.length - k ∧ nx = (acc.take k).filter (stepKeep c) ∧ t = ⟨look [(1, .sl 7 (cs.map chgA) none), (5, .sl 7 (acc.map chgA) none), (6, .v (.int .i64 (i : Int))), (7, .sl 7 (nx.map chgA) (some 0)), (8, .v (.int .i64 (k : Int)))], ⟨[], [(68, 7, nx.map chgA)]⟩⟩) (acc.length) (wk 0 1) (⟨0, [], by omega, rfl, rfl, rfl⟩) ?_
  rintro m t ⟨k, nx, hk, rfl, hnx, rfl⟩
  have hnl : nx.length ≤ k := by rw [hnx]; exact filt_len _ _ _
  refine q_ (w_ (m_ (h:=m_ (h:=n_ (h:=lt_ (h:=e_ (?_)))))))
  refine aw_cond rfl (fun hb2 => ?_) (fun hb2 => ?_)
  ·have hc2 := bp hb2
   obtain ⟨hlt2, x, hx, hrow2, -⟩ := row_at chgA hc2
   refine kt_ (q_ (aw_block (q_ (yr_ 24 (h:=dm_ 0 (h:=dm_ 1 (h:=di_ 2 (h:=df_ 3 (h:=dl_ 4 (h:=dm_ 5 (h:=dm_ 6 (h:=di_ 7 (h:=df_ 8 (h:=dl_ 9 (h:=?_)))))))))))))))
   refine r_y (i := 10) rfl (st_binA rfl rfl (by repeat constructor) (by repeat constructor) (fun w => neqlFil _ _ _ _ w) (by kernel_rfl) ⟨rfl, rfl⟩) ?_
   refine dm_ 11 (h:=?_)
   refine aa_both (j := 11) rfl (fun hb3 => ?_) (fun hb3 => ?_)
   ·have hc3 := bp hb3
    refine d0_ 12 (h:=d0_ 13 (h:=d0_ 14 (h:=d0_ 15 (h:=d0_ 16 (h:=d0_ 17 (h:=d0_ 18 (h:=d0_ 19 (h:=d0_ 20 (h:=d0_ 21 (h:=d0_ 22 (h:=dpt_ 23 (h:=z_ (h:=t_ (cy_ (h:=aw_region (m_ (h:=m_ (h:=m_ (h:=i_ (h:=l_ (h:=bs_ (h:=?_))))))))))))))))))))))
    first | refine al_p rfl (s_append rfl rfl rfl (by simp; omega) (by repeat constructor) ?_) | refine al_p rfl (s_append0 rfl rfl (by simp; omega) (by repeat constructor) ?_)
    refine a_ (h:=al_nil (x_blockN (t_ (aw_region (m_ (h:=ad_ (h:=a_ (h:=al_nil (?_)))))))))
    refine x_then ?_
    first
    | (have hkp : stepKeep c x = true := by
         unfold stepKeep
         first | (rw [decide_eq_false (show ¬ x.1 = c.1 from hc3)]; rfl) | (rw [decide_eq_false (show ¬ x.2.1 = c.2.1 from hc4)]; simp)
       refine ⟨_, _, ?_, ⟨k + 1, nx ++ [x], by omega, rfl, (by rw [filt_snoc hx, hkp, ← hnx]; rfl), rfl⟩, (by simp only [List.map_append, List.map_cons, List.map_nil]; exact wk 0 1)⟩
       omega)
    | (have hkp : stepKeep c x = false := by unfold stepKeep; rw [decide_eq_true (show x.1 = c.1 from hc3), decide_eq_true (show x.2.1 = c.2.1 from hc4)]; rfl
       refine ⟨_, _, ?_, ⟨k + 1, nx, by omega, rfl, (by rw [filt_snoc hx, hkp, ← hnx]; simp), rfl⟩, wk 0 1⟩
       omega)
   have hc3 := bp hb3
   refine dm_ 12 (h:=dm_ 13 (h:=di_ 14 (h:=df_ 15 (h:=dl_ 16 (h:=dm_ 17 (h:=dm_ 18 (h:=di_ 19 (h:=df_ 20 (h:=dl_ 21 (h:=dnq_ 22 (h:=dpf_ 23 (h:=z_ (h:=t_ (?_))))))))))))))
   refine aw_cond rfl (fun hb4 => ?_) (fun hb4 => ?_)
   ·have hc4 := bp hb4
    refine aw_region (m_ (h:=m_ (h:=m_ (h:=i_ (h:=l_ (h:=bs_ (h:=?_)))))))
    first | refine al_p rfl (s_append rfl rfl rfl (by simp; omega) (by repeat constructor) ?_) | refine al_p rfl (s_append0 rfl rfl (by simp; omega) (by repeat constructor) ?_)
    refine a_ (h:=al_nil (x_blockN (t_ (aw_region (m_ (h:=ad_ (h:=a_ (h:=al_nil (?_)))))))))
    refine x_then ?_
    first
    | (have hkp : stepKeep c x = true := by
         unfold stepKeep
         first | (rw [decide_eq_false (show ¬ x.1 = c.1 from hc3)]; rfl) | (rw [decide_eq_false (show ¬ x.2.1 = c.2.1 from hc4)]; simp)
       refine ⟨_, _, ?_, ⟨k + 1, nx ++ [x], by omega, rfl, (by rw [filt_snoc hx, hkp, ← hnx]; rfl), rfl⟩, (by simp only [List.map_append, List.map_cons, List.map_nil]; exact wk 0 1)⟩
       omega)
    | (have hkp : stepKeep c x = false := by unfold stepKeep; rw [decide_eq_true (show x.1 = c.1 from hc3), decide_eq_true (show x.2.1 = c.2.1 from hc4)]; rfl
       refine ⟨_, _, ?_, ⟨k + 1, nx, by omega, rfl, (by rw [filt_snoc hx, hkp, ← hnx]; simp), rfl⟩, wk 0 1⟩
       omega)
   have hc4 := bp hb4
   refine aw_skip (x_blockN (t_ (aw_region (m_ (h:=ad_ (h:=a_ (h:=al_nil (?_))))))))
   refine x_then ?_
   first
   | (have hkp : stepKeep c x = true := by
        unfold stepKeep
        first | (rw [decide_eq_false (show ¬ x.1 = c.1 from hc3)]; rfl) | (rw [decide_eq_false (show ¬ x.2.1 = c.2.1 from hc4)]; simp)
      refine ⟨_, _, ?_, ⟨k + 1, nx ++ [x], by omega, rfl, (by rw [filt_snoc hx, hkp, ← hnx]; rfl), rfl⟩, (by simp only [List.map_append, List.map_cons, List.map_nil]; exact wk 0 1)⟩
      omega)
   | (have hkp : stepKeep c x = false := by unfold stepKeep; rw [decide_eq_true (show x.1 = c.1 from hc3), decide_eq_true (show x.2.1 = c.2.1 from hc4)]; rfl
      refine ⟨_, _, ?_, ⟨k + 1, nx, by omega, rfl, (by rw [filt_snoc hx, hkp, ← hnx]; simp), rfl⟩, wk 0 1⟩
      omega)
  have hc2 := bp hb2
  have e2 := row_no chgA hk hc2
  subst e2
  rw [List.take_length] at hnx
  have hst := step_snoc (l := l) hcc
  rw [← hacc] at hst
  have hlen := step_len acc c
  refine aw_exit (x_thenE (x_thenE (ABlock_out (t_ (q_ (w_ (m_ (h:=m_ (h:=i_ (h:=f_ (h:=l_ (h:=bd_ (h:=?_)))))))))))))
  refine al_p rfl (st_binA rfl rfl (by repeat constructor) (by repeat constructor) (fun w => neqlFil _ _ _ _ w) (by kernel_rfl) ?_)
  refine e_ (?_)
  refine aw_cond rfl (fun hb5 => ?_) (fun hb5 => ?_)
  ·have hc5 := bp hb5
   refine yk_ ([]) 20 (h:=dm_ 0 (h:=dm_ 1 (h:=dm_ 2 (h:=di_ 3 (h:=df_ 4 (h:=dl_ 5 (h:=dm_ 6 (h:=dm_ 7 (h:=di_ 8 (h:=df_ 9 (h:=dl_ 10 (h:=dm_ 11 (h:=dm_ 12 (h:=di_ 13 (h:=df_ 14 (h:=dl_ 15 (h:=dbd_ 16 (h:=dbs_ 17 (h:=?_)))))))))))))))))))
   first | refine c_ 18 rfl (s_append rfl rfl rfl (by simp; omega) (by repeat constructor) ?_) | refine c_ 18 rfl (s_append0 rfl rfl (by simp; omega) (by repeat constructor) ?_)
   refine o_ (h:=da_ 19 (h:=z_ (h:=t_ (aw_region (m_ (h:=a_ (h:=al_nil (x_blockN (t_ (aw_region (m_ (h:=ad_ (h:=a_ (h:=al_nil (?_)))))))))))))))
   refine x_then ?_
   first
   | (have hQ : stepOne acc c = nx ++ [(c.1, c.2.1, (0, 0), c.2.2.2)] := by unfold stepOne; rw [if_neg (show ¬ c.2.2.2 = (0, 0) from hc5), hnx]
      refine ⟨_, _, ?_, ⟨i + 1, nx ++ [(c.1, c.2.1, (0, 0), c.2.2.2)], by omega, rfl, (by rw [hst, hQ]), (by rw [← hQ]; omega), rfl⟩, (by simp only [List.map_append, List.map_cons, List.map_nil]; exact wk 0 0)⟩
      omega)
   | (have hQ : stepOne acc c = nx := by unfold stepOne; rw [if_pos (show c.2.2.2 = (0, 0) from hc5), List.append_nil, hnx]
      refine ⟨_, _, ?_, ⟨i + 1, nx, by omega, rfl, (by rw [hst, hQ]), (by rw [← hQ]; omega), rfl⟩, wk 0 0⟩
      omega)
  have hc5 := bp hb5
  refine kt_ (aw_region (m_ (h:=a_ (h:=al_nil (x_blockN (t_ (aw_region (m_ (h:=ad_ (h:=a_ (h:=al_nil (?_))))))))))))
  refine x_then ?_
  first
  | (have hQ : stepOne acc c = nx ++ [(c.1, c.2.1, (0, 0), c.2.2.2)] := by unfold stepOne; rw [if_neg (show ¬ c.2.2.2 = (0, 0) from hc5), hnx]
     refine ⟨_, _, ?_, ⟨i + 1, nx ++ [(c.1, c.2.1, (0, 0), c.2.2.2)], by omega, rfl, (by rw [hst, hQ]), (by rw [← hQ]; omega), rfl⟩, (by simp only [List.map_append, List.map_cons, List.map_nil]; exact wk 0 0)⟩
     omega)
  | (have hQ : stepOne acc c = nx := by unfold stepOne; rw [if_pos (show c.2.2.2 = (0, 0) from hc5), List.append_nil, hnx]
     refine ⟨_, _, ?_, ⟨i + 1, nx, by omega, rfl, (by rw [hst, hQ]), (by rw [← hQ]; omega), rfl⟩, wk 0 0⟩
     omega)
 have hc1 := bp hb1
 have e1 := row_no chgA hi hc1
 subst e1
 rw [List.take_length] at hacc
 refine aw_exit (x_thenE (x_thenE (ABlock_out (t_ (w_ (m_ (h:=a_ (h:=e_ (aw_ret (?_))))))))))
 refine e_ret ?_
 exact ⟨by rw [← hacc]; omega, by rw [← hacc]; rfl⟩
end
def SpcIn (s : Spc) (N : Nat) (w : World) (ds ms : Value) : Prop := N ≤ w.heap.size ∧ froL (fun b _ => b < N) w (spcA s) [ds, ms]
end Go.Proofs.Ythcbdkmhamhciaa
namespace Go.Proofs.Ythcbdkmhamhciaa
open Go.RowKit Go.Shelf
attribute [local go_sem] Oper.semAt_some
def mostL (f : Fls) : Nat := (f.map fun d => d.nodes.length).sum
end Go.Proofs.Ythcbdkmhamhciaa
namespace Go.Proofs.Ythcbdkmhamhciaa
open Go.RowKit Go.Shelf
section
variable {F : Fence} {n : Nat} {P : Program}
end
attribute [local go_sem] Oper.semAt_some
end Go.Proofs.Ythcbdkmhamhciaa
namespace Go.Proofs.Ythcbdkmhamhciaa
open Go.RowKit Go.Shelf
attribute [local go_sem] Oper.semAt_some
end Go.Proofs.Ythcbdkmhamhciaa
namespace Go.Proofs.Ythcbdkmhamhciaa
open Go.RowKit
def abvL (s : Spc) (a : Fil) : Nod := nodG s.files (a.1, (nodG s.files a).parent)
def nmoL (s : Spc) (a : Fil) : Str := (((abvL s a).entries.find? fun e : Ent => decide (e.2 = a.2)).map (·.1)).getD ⟨#[]⟩
end Go.Proofs.Ythcbdkmhamhciaa
namespace Go.Proofs.Ythcbdkmhamhciaa
open Go.RowKit Go.Shelf
attribute [local go_sem] Oper.semAt_some
end Go.Proofs.Ythcbdkmhamhciaa
namespace Go.Proofs.Ythcbdkmhamhciaa
open Go.RowKit Go.Shelf
attribute [local go_sem] Oper.semAt_some
end Go.Proofs.Ythcbdkmhamhciaa
namespace Go.Proofs.Ythcbdkmhamhciaa
open Go.RowKit Go.Shelf
attribute [local go_sem] Oper.semAt_some
end Go.Proofs.Ythcbdkmhamhciaa
namespace Go.Proofs.Ythcbdkmhamhciaa
open Go.RowKit
structure SpcN (s : Spc) : Prop where
 b : SpcB s
 nm : ∀ x, (nmoL s x).size ≤ 100
 most : mostL s.files ≤ 5000
theorem nameL_size {x : Str} (h : nameL x = true) : x.size ≤ 12 := by
 rw [name_eq] at h
 by_cases hc : x.size < 1 ∨ 12 < x.size
 ·rw [if_pos hc] at h; cases h
 omega
def StAll (w : World) : Nat → Nat → Prop := fun b _ => b < w.heap.size
def Opens (P : Program) (t : TypeId) (R : List AV → Prop) : Prop :=
 ∀ (H : Type) (enc : TypeId × Value → H) (w : World) (base : Nat) (spare : Nat → Bool) (held : Bool) (fuel : Nat) (cs : List Value) (x : DataW H × List MemPlace), DataW.trod enc P w base spare held fuel t cs = some x →
  ∃ row, R row ∧ froL (StAll w) w row cs ∧ ∀ u ∈ cs, u.oneCell' = true
section
variable {P : Program} {t : TypeId}
theorem Opens.mono {R R' : List AV → Prop} (h : Opens P t R) (hR : ∀ r, R r → R' r) : Opens P t R' := by
 intro H enc w base spare held fuel cs x hx
 obtain ⟨row, h1, h2⟩ := h H enc w base spare held fuel cs x hx
 exact ⟨row, hR _ h1, h2⟩
theorem opens_int {k : IntKind} (ht : P.underlying t = some (.int k)) : Opens P t fun r => ∃ n, r = [.v (.int k n)] ∧ (Lit.int k n).wf = true := by
 intro H enc w base spare held fuel cs x hx
 obtain ⟨b, rfl, _, hw⟩ := DataW.trod_int ht hx
 exact ⟨_, ⟨b, rfl, hw⟩, ⟨_, _, rfl, by simp only [fro], by simp only [froL]⟩, by simp [Value.oneCell']⟩
theorem cell_lt' {w : World} {b o : Nat} {v : Value} (h : w.cell? ⟨b, o, none⟩ = some v) : b < w.heap.size := by
 rcases Nat.lt_or_ge b w.heap.size with hlt | hge
 ·exact hlt
 simp [World.cell?, Array.getElem?_eq_none hge] at h
theorem froL_length' {St : Nat → Nat → Prop} {w : World} {xs : List AV} {ys : List Value} (h : froL St w xs ys) : ys.length = xs.length := repL_length (G := ⟨St, [], []⟩) (repL_fro (G := ⟨St, [], []⟩) _ _ h)
theorem opens_slice {e : TypeId} {n : Nat} {R : List AV → Prop} (ht : P.underlying t = some (.slice e)) (hc : P.cellsOf e = n) (hn : 0 < n) (h : Opens P e R) : Opens P t fun r => ∃ rows, r = [.sl n rows none] ∧ rows.length ≤ maxLen ∧ ∀ x ∈ rows, R x := by
 intro H enc w base spare held fuel cs x hx
 rcases DataW.trod_slice ht hx with ⟨rfl, _⟩ | ⟨⟨b, off, spot⟩, len, cap, elems, rest, m, rfl, rfl, _, hb, hl, hm, hlen, hel, _, _⟩
 ·exact ⟨_, ⟨[], rfl, Nat.zero_le _, by simp⟩, ⟨_, _, rfl, by simp only [fro]; exact ⟨trivial, none, 0, rfl, Nat.le_refl _, Nat.zero_le _, .inl trivial⟩, by simp only [froL]⟩, by simp [Value.oneCell']⟩
 have each : ∀ i, i < len → ∃ row cs', R row ∧ row.length = n ∧ froL (StAll w) w row cs' ∧ (∀ u ∈ cs', u.oneCell' = true) ∧ cs'.length = n ∧ ∀ j, j < n → w.cell? (Addr.add ⟨b, off, spot⟩ (i * n + j)) = cs'[j]? := by
  intro i hi
  have h1 := hel i hi
  rw [hc, List.getElem?_eq_getElem (by omega), Option.bind_eq_some_iff] at h1
  obtain ⟨cs', h2, h3⟩ := h1
  obtain ⟨row, r1, r2, r3⟩ := h _ _ _ _ _ _ _ _ _ h3
  obtain ⟨_, c1, c2⟩ := World.cells?_some h2
  refine ⟨row, cs', r1, by rw [← froL_length' r2, c1], r2, r3, c1, fun j hj => ?_⟩
  have := c2 j hj
  rwa [Addr.add_add] at this
 have hrows : ∃ rows : List (List AV), rows.length = len ∧ (∀ i, i < len → ∃ row cs', rows[i]? = some row ∧ R row ∧ row.length = n ∧ froL (StAll w) w row cs' ∧ (∀ u ∈ cs', u.oneCell' = true) ∧ cs'.length = n ∧ ∀ j, j < n → w.cell? (Addr.add ⟨b, off, spot⟩ (i * n + j)) = cs'[j]?) := by
  clear hel
  have : ∀ k, k ≤ len → ∃ rows : List (List AV), rows.length = k ∧ (∀ i, i < k → ∃ row cs', rows[i]? = some row ∧ R row ∧ row.length = n ∧ froL (StAll w) w row cs' ∧ (∀ u ∈ cs', u.oneCell' = true) ∧ cs'.length = n ∧ ∀ j, j < n → w.cell? (Addr.add ⟨b, off, spot⟩ (i * n + j)) = cs'[j]?) := by
   intro k
   induction k with
   | zero => intro _; exact ⟨[], rfl, fun i hi => by omega⟩
   | succ k ih =>
     intro hk
     obtain ⟨rows, e1, e2⟩ := ih (by omega)
     obtain ⟨row, cs', q⟩ := each k (by omega)
     refine ⟨rows ++ [row], by simp [e1], fun i hi => ?_⟩
     rcases Nat.lt_or_ge i k with hlt | hge
     ·obtain ⟨row', cs'', q1, q2⟩ := e2 i hlt
      exact ⟨row', cs'', by rw [List.getElem?_append_left (by omega)]; exact q1, q2⟩
     obtain rfl : i = k := by omega
     exact ⟨row, cs', by rw [List.getElem?_append_right (by omega), e1]; simp, q⟩
  exact this len (Nat.le_refl _)
 obtain ⟨rows, e1, e2⟩ := hrows
 refine ⟨_, ⟨rows, rfl, by omega, fun x hx => ?_⟩, ⟨_, _, rfl, ?_, by simp only [froL]⟩, by simp [Value.oneCell']⟩
 ·obtain ⟨i, hi⟩ := List.getElem?_of_mem hx
  obtain ⟨row, _, q1, q2, _⟩ := e2 i (by rw [← e1]; exact (List.getElem?_eq_some_iff.1 hi).1)
  rw [hi] at q1
  injection q1 with q1
  subst q1
  exact q2
 simp only [fro]
 refine ⟨trivial, some ⟨b, off, spot⟩, cap, by rw [e1], by omega, hm, ?_⟩
 rcases Nat.eq_zero_or_pos len with h0 | h0
 ·left; exact List.eq_nil_of_length_eq_zero (by omega)
 right
 have hspot : spot = none := by
  obtain ⟨_, cs', _, _, _, _, _, c3, c4⟩ := e2 0 h0
  have := c4 0 hn
  rw [List.getElem?_eq_getElem (by omega)] at this
  simpa [Addr.add] using World.cell?_spot this
 subst hspot
 refine ⟨b, off, rfl, ?_⟩
 have : ∀ (rs : List (List AV)) (k : Nat), (∀ i r, rs[i]? = some r → rows[k + i]? = some r) → froR (StAll w) w b n rs (off + k * n) := by
  intro rs
  induction rs with
  | nil => intro k _; simp only [froR]
  | cons r rs ih =>
    intro k hk
    simp only [froR]
    have h1 := hk 0 r rfl
    rw [Nat.add_zero] at h1
    obtain ⟨row, cs', q1, _, q3, q4, q5, q6, q7⟩ := e2 k (by rw [← e1]; exact (List.getElem?_eq_some_iff.1 h1).1)
    rw [h1] at q1
    injection q1 with q1
    subst q1
    refine ⟨⟨q3, froC_of fun i x hi => ?_⟩, ?_⟩
    ·obtain ⟨u, u1, u2⟩ := froL_get q4 hi
     have hin : i < n := by rw [← q3]; exact (List.getElem?_eq_some_iff.1 hi).1
     have hc := q7 i hin
     rw [u1] at hc
     have hc' : w.cell? ⟨b, off + k * n + i, none⟩ = some u := by rw [Addr.add_mid] at hc; rwa [Nat.add_assoc]
     exact ⟨cell_lt' hc', u, hc', q5 u (List.mem_of_getElem? u1), u2⟩
    have := ih (k + 1) (fun i r' hi => by
     have := hk (i + 1) r' (by simpa using hi)
     rwa [show k + 1 + i = k + (i + 1) by omega])
    rwa [show off + (k + 1) * n = off + k * n + n by rw [Nat.add_mul]; omega] at this
 simpa using this rows 0 (fun i r hi => by simpa using hi)
theorem rows_map {α : Type} {enc : α → List AV} {Q : α → Prop} : ∀ {rows : List (List AV)}, (∀ x ∈ rows, ∃ a, x = enc a ∧ Q a) → ∃ l : List α, rows = l.map enc ∧ ∀ a ∈ l, Q a
 | [], _ => ⟨[], rfl, by simp⟩
 | r :: rs, h => by
   obtain ⟨a, rfl, ha⟩ := h r (by simp)
   obtain ⟨l, rfl, hl⟩ := rows_map (rows := rs) fun x hx => h x (by simp [hx])
   exact ⟨a :: l, rfl, by simpa using ⟨ha, hl⟩⟩
theorem Opens.one {R : List AV → Prop} (h : Opens P t R) {H : Type} {enc : TypeId × Value → H} {w : World} {base : Nat} {spare : Nat → Bool} {held : Bool} {v : Value} {d : DataW H} {ps : List MemPlace} (hv : v.cells = #[v]) (hd : DataW.Trod enc P w base spare held t v d ps) :
    ∃ row, R row ∧ froL (StAll w) w row [v] := by
 obtain ⟨fuel, hf⟩ := hd
 rw [hv] at hf
 obtain ⟨row, h1, h2, _⟩ := h _ _ _ _ _ _ _ _ _ hf
 exact ⟨row, h1, h2⟩
end
theorem opInts : Opens Try.prog 31 (fun r => ∃ l : List Int, r = [.sl 1 (l.map intA) none]) :=
 (opens_slice (n := 1) Try.underlying31 (by kernel_rfl) (by omega) (opens_int Try.underlying3)).mono (by
   rintro r ⟨rows, rfl, _, hr⟩
   obtain ⟨l, rfl, _⟩ := rows_map (enc := intA) (Q := fun _ => True) (fun x hx => by obtain ⟨t, rfl, _⟩ := hr x hx; exact ⟨t, rfl, trivial⟩)
   exact ⟨l, rfl⟩)
theorem ints_one {H : Type} {enc : TypeId × Value → H} {sp : Nat → Bool} {held : Bool} {base : Nat} {w : World} {a : Option Addr} {n c : Nat} {d : DataW H} {p : List MemPlace} (h : DataW.Trod enc Try.prog w base sp held 31 (.slice a n c) d p) :
    ∃ l : List Int, rep ⟨StAll w, [], []⟩ w (.sl 1 (l.map intA) none) (.slice a n c) := by
 obtain ⟨r0, ⟨l, rfl⟩, k0⟩ := opInts.one rfl h
 simp only [froL] at k0
 obtain ⟨_, _, e0, k0, rfl⟩ := k0
 injection e0 with e0
 subst e0
 exact ⟨l, rep_fro (G := ⟨StAll w, [], []⟩) _ _ k0⟩
theorem walk_ints {f : FuncId} (hf : ∀ l : List Int, AFn Try.prog f [.sl 1 (l.map intA) none] (fun x => x = .v (.bool true))) {H : Type} {enc : TypeId × Value → H} {sp : Nat → Bool} {held : Bool} {base : Nat} (a : Option Addr) (n c : Nat) (w : World) {d : DataW H} {p : List MemPlace}
    (h : DataW.Trod enc Try.prog w base sp held 31 (.slice a n c) d p) : Calls Try.prog f #[.slice a n c] w fun e w' => e = .returned (.bool true) ∧ Below w.heap.size w w' := by
 obtain ⟨l, k⟩ := ints_one h
 refine calls_of (vs := [.slice a n c]) (hf l) (StAll w) (fun b o h => h) ?_
 simp only [repL]
 exact ⟨_, _, rfl, k, rfl⟩
end Go.Proofs.Ythcbdkmhamhciaa
namespace Go.Proofs.Ythcbdkmhamhciaa
theorem FlsV.t {f : Fls} (h : FlsV f) : FlsT f := by
 refine ⟨h.b, fun d hd n hn e he => ?_, fun d hd n hn => ?_⟩
 ·have := nameL_size ((h.vd d hd).ent n hn e he).1
  omega
 have hp := (h.vd d hd).plain n hn
 unfold plainL at hp
 split at hp
 ·cases hp
 split at hp
 ·unfold targetL at hp
  simp only [Bool.and_eq_true, decide_eq_true_eq] at hp
  omega
 have e := str_eq n.target ⟨#[]⟩
 rw [show (⟨#[]⟩ : ByteArray).toList = [] by rw [ByteArray.toList_eq]] at e
 have : n.target.toList = [] := by simpa using hp
 rw [this] at e
 have e2 : n.target = ⟨#[]⟩ := of_decide_eq_true e.symm
 rw [e2]
 exact Nat.zero_le _
theorem countP_lt {α : Type} {p q : α → Bool} : ∀ {l : List α}, (∀ x ∈ l, p x = true → q x = true) → ∀ {a : α}, a ∈ l → q a = true → p a = false → l.countP p < l.countP q
 | [], _, _, ha, _, _ => by cases ha
 | x :: l, h, a, ha, hq, hp => by
   have hle : l.countP p ≤ l.countP q := List.countP_mono_left fun y hy => h y (List.mem_cons_of_mem _ hy)
   rw [List.countP_cons, List.countP_cons]
   rcases List.mem_cons.1 ha with rfl | ha
   ·rw [hq, hp]; simp; omega
   have ih := countP_lt (fun y hy => h y (List.mem_cons_of_mem _ hy)) ha hq hp
   have := h x (List.mem_cons_self ..)
   cases hx : p x with
   | false => simp; omega
   | true => rw [this hx]; simp; omega
section
variable {d : Dvc} (hd : VD d)
include hd
theorem par_eq {n : Nod} (hn : n ∈ d.nodes) : parentL d n.ino = n.parent := by
 have h := node_asc (f := [d]) (a := (0, n.ino)) (q := 0) rfl rfl hd.asc hn rfl
 rw [nodeL_at (f := [d]) (a := (0, n.ino)) (k := 0) rfl rfl] at h
 unfold parentL
 rw [h]
theorem itP_one : ∀ k, itP d k 1 = 1 := by
 obtain ⟨r, rest, hr, h1, _, h3⟩ := hd.root
 have : parentL d 1 = 1 := by
  have := par_eq hd (n := r) (by rw [hr]; exact List.mem_cons_self ..)
  rw [h1, h3] at this
  exact this
 intro k
 induction k with
 | zero => rfl
 | succ k ih => rw [itP, this, ih]
theorem itP_end (rk : Int → Nat) (hrk : ∀ n ∈ d.nodes, n.ino ≠ 1 → n.kind = 2 → rk n.parent < rk n.ino) : ∀ (k : Nat) (n : Nod), n ∈ d.nodes → n.kind = 2 → d.nodes.countP (fun m => decide (m.ino ≠ 1 ∧ rk m.ino ≤ rk n.ino)) ≤ k → itP d k n.ino = 1 := by
 intro k
 induction k with
 | zero =>
   intro n hn _ hc
   by_cases h1 : n.ino = 1
   ·rw [h1]; rfl
   have : 0 < d.nodes.countP (fun m => decide (m.ino ≠ 1 ∧ rk m.ino ≤ rk n.ino)) := List.countP_pos_iff.2 ⟨n, hn, by simp [h1]⟩
   omega
 | succ k ih =>
   intro n hn hk hc
   by_cases h1 : n.ino = 1
   ·rw [h1]; exact itP_one hd _
   rw [itP, par_eq hd hn]
   obtain ⟨p, hp, hpi, e, he, _⟩ := hd.par n hn h1 hk
   have hpk : p.kind = 2 := by
    by_cases h : p.kind = 2
    ·exact h
    rw [(hd.leaf p hp h).2] at he; cases he
   rw [← hpi]
   refine ih p hp hpk ?_
   have hlt := hrk n hn h1 hk
   rw [← hpi] at hlt
   have : d.nodes.countP (fun m => decide (m.ino ≠ 1 ∧ rk m.ino ≤ rk p.ino)) < d.nodes.countP (fun m => decide (m.ino ≠ 1 ∧ rk m.ino ≤ rk n.ino)) := by
    refine countP_lt (fun x _ hx => ?_) hn (by simp [h1]) (decide_eq_false fun h => by omega)
    have := of_decide_eq_true hx
    exact decide_eq_true ⟨this.1, by omega⟩
   omega
theorem rch_true : rchR d = true := by
 obtain ⟨rk, hrk⟩ := hd.rank
 refine range_yes fun i hi => ?_
 unfold rchAt
 rw [List.getElem?_eq_getElem hi]
 simp only
 split
 ·rename_i hk
  exact decide_eq_true (itP_end hd rk hrk _ _ (List.getElem_mem hi) hk List.countP_le_length)
 rfl
theorem asc_get {i : Nat} {n y : Nod} (h0 : 0 < i) (h : d.nodes[i]? = some n) (hy : d.nodes[i - 1]? = some y) : y.ino < n.ino := by
 have := hd.asc
 unfold Asc at this
 obtain ⟨h1, e1⟩ := List.getElem?_eq_some_iff.1 h
 obtain ⟨h2, e2⟩ := List.getElem?_eq_some_iff.1 hy
 have := List.pairwise_iff_getElem.1 this (i - 1) i h2 h1 (by omega)
 rw [e1, e2] at this
 exact this
theorem sort_get {n : Nod} (hn : n ∈ d.nodes) {i : Nat} {x : Ent} (h0 : 0 < i) (h : n.entries[i]? = some x) : preE n.entries i x = false := by
 have hs := hd.sorted n hn
 unfold Sorted at hs
 unfold preE
 cases hy : n.entries[i - 1]? with
 | none => rfl
 | some y =>
   obtain ⟨h1, e1⟩ := List.getElem?_eq_some_iff.1 h
   obtain ⟨h2, e2⟩ := List.getElem?_eq_some_iff.1 hy
   have := List.pairwise_iff_getElem.1 hs (i - 1) i h2 h1 (by omega)
   rw [e1, e2] at this
   simp only
   rw [this]
   rfl
end
section
variable {f : Fls} (hv : FlsV f) {q : Nat} {d : Dvc} (hq : f[q]? = some d)
include hv hq
theorem vdq : VD d := hv.vd d (List.mem_of_getElem? hq)
theorem node_q {p : Nod} (hp : p ∈ d.nodes) : nodeL f ((q : Int), p.ino) = some p := node_asc (a := ((q : Int), p.ino)) rfl hq (vdq hv hq).asc hp rfl
theorem idx_q {p : Nod} (hp : p ∈ d.nodes) : ¬ indexL f ((q : Int), p.ino) < 0 := by
 rcases index_node f ((q : Int), p.ino) with h | ⟨k, i, d', n, _, _, _, _, h, _⟩
 ·rw [node_q hv hq hp] at h; cases h.2
 omega
theorem ents_true {n : Nod} (hn : n ∈ d.nodes) : entsR f (q : Int) n.entries = true := by
 have hd := vdq hv hq
 refine ents_yes (by have := hd.many n hn; omega) fun i hi => ?_
 have hx : n.entries[i]? = some n.entries[i] := List.getElem?_eq_getElem hi
 generalize n.entries[i] = x at hx
 obtain ⟨h1, h2, m, hm, h3⟩ := hd.ent n hn x (List.mem_of_getElem? hx)
 unfold entAt
 rw [hx]
 simp only
 rw [if_neg (by rw [h1]; simp), if_neg (fun h => by rw [sort_get hd hn h.1 hx] at h; cases h.2), if_neg h2, if_neg (by rw [← h3]; exact idx_q hv hq hm)]
theorem links_q {n : Nod} (hn : n ∈ d.nodes) : linksF f ((q : Int), n.ino) = cntN n.ino d.nodes := linksF_at (a := ((q : Int), n.ino)) rfl hq (node_q hv hq hn)
theorem dev_true : devR5 f (q : Int) d = true := by
 have hd := vdq hv hq
 obtain ⟨r, rest, hr, r1, r2, r3⟩ := hd.root
 have hlen := hd.len
 have hl1 : ¬ d.nodes.length < 1 := by rw [hr]; simp
 have hhd : headR d = true := by
  unfold headR
  rw [if_neg hl1, if_neg (by omega), if_neg (by have := hd.next2; omega), if_neg (by have := hd.nextM; omega), hr]
  simp [r1, r2, r3]
 rw [dev_yes hhd, rch_true hd]
 intro i hi
 have hx : d.nodes[i]? = some d.nodes[i] := List.getElem?_eq_getElem hi
 generalize d.nodes[i] = n at hx
 have hn := List.mem_of_getElem? hx
 unfold devAt
 rw [hx]
 simp only
 rw [if_neg (by have := hd.lt n hn; omega), if_neg (fun h => by
  unfold preN at h
  cases hy : d.nodes[i - 1]? with
  | none => rw [hy] at h; exact absurd h.2 (by simp)
  | some y =>
    rw [hy] at h
    have h1 := asc_get hd h.1 hx hy
    have h2 := of_decide_eq_true h.2
    omega), if_neg (by rw [hd.plain n hn]; simp), if_neg (fun h => by
  obtain ⟨h1, h2⟩ := hd.leaf n hn h.1
  rcases h.2 with h3 | h3
  ·exact h3 h1
  rw [h2] at h3; cases h3), if_neg (by rw [ents_true hv hq hn]; simp)]
 split
 ·rfl
 rename_i h0
 have h1 : n.ino ≠ 1 := by
  have hy : d.nodes[0]? = some r := by rw [hr]; rfl
  have : r.ino < n.ino := by
   have ha := hd.asc
   unfold Asc at ha
   obtain ⟨e1, e2⟩ := List.getElem?_eq_some_iff.1 hx
   obtain ⟨e3, e4⟩ := List.getElem?_eq_some_iff.1 hy
   have := List.pairwise_iff_getElem.1 ha 0 i e3 e1 (by omega)
   rw [e2, e4] at this
   exact this
  omega
 rw [links_q hv hq hn]
 split
 ·rename_i hk
  obtain ⟨p, hp, hpi, e, he, hei⟩ := hd.par n hn h1 hk
  rw [if_neg (by rw [hd.one n hn h1 hk]; simp)]
  have hnd := node_q hv hq hp
  rw [hpi] at hnd
  have hh : hasG f ((q : Int), n.parent) = true := by unfold hasG; rw [hnd]; rfl
  have hg : nodG f ((q : Int), n.parent) = p := by unfold nodG; rw [hnd]; rfl
  rw [if_neg (by rw [hh]; simp), hg]
  unfold holdsL
  exact List.any_eq_true.2 ⟨e, he, by rw [hei]; simp⟩
 rw [if_neg (by have := hd.link n hn h1; omega)]
end
end Go.Proofs.Ythcbdkmhamhciaa
namespace Go.Proofs.Ythcbdkmhamhciaa
theorem vldR_true {f : Fls} (hv : FlsV f) (h0 : 0 < f.length) : vldR f = true := by
 unfold vldR
 rw [if_neg (by omega), if_neg (by have := hv.few; omega)]
 refine range_yes fun i hi => ?_
 unfold vldAt
 rw [List.getElem?_eq_getElem hi]
 exact dev_true hv (List.getElem?_eq_getElem hi)
end Go.Proofs.Ythcbdkmhamhciaa
