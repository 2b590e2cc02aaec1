/-
  Part 16 of the proof of FilesThereP: what the statement's proof uses of the texts in wip/tpl.
-/
import Derived.OpenShut
import Derived.ChangeArms
import Derived.ChangeOld
import Derived.DataReads
import Derived.DataElems
import Derived.Test.YthcbdkmhamhciaaQt15
namespace Go.Proofs.Ythcbdkmhamhciaa
open Go.RowKit

theorem Prename (f : Fls) (src : Fil) (name : Str) (to : Fil) (name2 : Str) (hv : FlsV f) : AFn Try.prog 47 [.agg (flsA f), .agg (filA src), .v (.string name), .agg (filA to), .v (.string name2)] (fun r => r = chgR (renameL f src name to name2)) := by
  by_cases hS0 : (srcL f src name to name2).2 = 0
  · obtain ⟨q, d, i, n1, j, n2, p, k, m, h⟩ := ren_of hv hS0
    have hS : srcL f src name to name2 = ((srcL f src name to name2).1, 0) := Prod.ext rfl hS0
    generalize (srcL f src name to name2).1 = A at h hS
    obtain ⟨O, b, hO⟩ : ∃ O b, entP f to name2 = (O, b) := ⟨_, _, rfl⟩
    cases b with
    | true =>
      by_cases hns : O = A
      · exact Pren_two f src name to name2 hv hS h hO (.inl ⟨rfl, hns⟩)
      by_cases h2 : ren2L f src to A O 0 = 0
      · by_cases hij : i = j
        · subst hij
          obtain rfl : n1 = n2 := Option.some.inj (h.hi.symm.trans h.hj)
          exact Pren_SA f src name to name2 hv hS h hO hns h2
        exact Pren_DA f src name to name2 hv hS h hO hns h2 hij
      exact Pren_two f src name to name2 hv hS h hO (.inr ⟨fun hh => hns hh.2, h2⟩)
    | false =>
      by_cases h2 : ren2L f src to A O 2 = 0
      · by_cases hij : i = j
        · subst hij
          obtain rfl : n1 = n2 := Option.some.inj (h.hi.symm.trans h.hj)
          exact Pren_SC f src name to name2 hv hS h hO h2
        by_cases hF0 : n2.entries = []
        · exact Pren_D0 f src name to name2 hv hS h hO h2 hij hF0
        exact Pren_DB f src name to name2 hv hS h hO h2 hij (List.length_pos_iff.2 hF0)
      exact Pren_two f src name to name2 hv hS h hO (.inr ⟨(fun hh => by cases hh.1), h2⟩)
  exact Pren_err f src name to name2 hv hS0
end Go.Proofs.Ythcbdkmhamhciaa
namespace Go.Proofs.Ythcbdkmhamhciaa
open Go.RowKit

theorem new_valid5 : FlsV (newL 1).1 := (new_valid (by decide) (by decide)).1
def aw5N : Nod := ⟨0, 1, 420, 0, 0, 0, ⟨#[]⟩, []⟩
def aw5F1 : Fls := (mkL (newL 1).1 (0, 1) ⟨#[97]⟩ aw5N).1
def aw5F2 : Fls := (linkL aw5F1 (0, 1) ⟨#[98]⟩ (0, 2)).1
set_option maxRecDepth 100000 in
theorem aw5_make : (mkL (newL 1).1 (0, 1) ⟨#[97]⟩ aw5N).2.2 = 0 ∧ (mkL (newL 1).1 (0, 1) ⟨#[97]⟩ aw5N).2.1 = [((0, 1), ⟨#[97]⟩, (0, 0), (0, 2))] := by decide +kernel
set_option maxRecDepth 100000 in
theorem aw5_link : (linkL aw5F1 (0, 1) ⟨#[98]⟩ (0, 2)).2.2 = 0 := by decide +kernel
set_option maxRecDepth 100000 in
theorem aw5_links : linksF aw5F2 (0, 2) = 2 := by decide +kernel
set_option maxRecDepth 100000 in
theorem aw5_e1 : (nodG (newL 1).1 (0, 1)).entries = [] := by decide +kernel
set_option maxRecDepth 100000 in
theorem aw5_e2 : 0 < (nodG aw5F1 (0, 1)).entries.length := by decide +kernel
theorem aw5_valid : FlsV aw5F1 ∧ FlsV aw5F2 := by
  have h1 : FlsV aw5F1 := (make_okay new_valid5 _ _ _ aw5_make.1).1
  exact ⟨h1, (link_okay h1 _ _ _ aw5_link).1⟩
section
set_option maxRecDepth 10000
set_option maxHeartbeats 1000000
theorem Lawake5 : AFn Try.prog 18 [] (fun r => r = .v (.bool true)) := by
  have hnew : AFn Try.prog 15 [.v (.int .i64 1)] (fun r => r = .tup [.agg (flsA (newL 1).1), .v (.int .i64 0)]) := Pnew 1
  have hmk : AFn Try.prog 24 [.agg (flsA (newL 1).1), .agg [.v (.int .i64 0), .v (.int .i64 1)], .v (.string ⟨#[97]⟩), .agg (nodA aw5N)] (fun r => r = .tup [.agg (flsA aw5F1), .sl 7 [chgA ((0, 1), ⟨#[97]⟩, (0, 0), (0, 2))] none, .v (.int .i64 0)]) :=
    (Pmake0 (newL 1).1 (0, 1) ⟨#[97]⟩ aw5N new_valid5 (by decide) aw5_e1).mono fun r hr => by rw [hr]; unfold chgR; rw [aw5_make.1, aw5_make.2]; rfl
  obtain ⟨c2, hlk⟩ : ∃ c2, AFn Try.prog 27 [.agg (flsA aw5F1), .agg [.v (.int .i64 0), .v (.int .i64 1)], .v (.string ⟨#[98]⟩), .agg [.v (.int .i64 0), .v (.int .i64 2)]] (fun r => r = .tup [.agg (flsA aw5F2), .sl 7 (List.map chgA c2) none, .v (.int .i64 0)]) :=
    ⟨_, (PlinkG aw5F1 (0, 1) ⟨#[98]⟩ (0, 2) aw5_valid.1 aw5_e2).mono fun r hr => by rw [hr]; unfold chgR; rw [aw5_link]; rfl⟩
  have hls : AFn Try.prog 37 [.agg (flsA aw5F2), .agg [.v (.int .i64 0), .v (.int .i64 2)]] (fun r => r = .v (.int .i64 2)) :=
    (Plinks aw5F2 (0, 2) aw5_valid.2.b).mono fun r hr => by rw [hr, aw5_links]; rfl
  refine enter Try.func18 rfl rfl rfl rfl rfl 0 rfl ?_
  refine w_ (a_ (h:=e_ (w_ (?_))))
  refine al_p rfl (q_call (hnew) ?_)
  rintro r rfl
  refine m_ (h:=x_ (h:=x_ (h:=al_ (h:=s_ (h:=a_ (h:=e_ (w_ (bd_ (h:=al_ (h:=s_ (h:=e_ (w_ (l_ (h:=l_ (h:=?_)))))))))))))))
  refine al_p rfl (st_le (y := .agg (nodA aw5N)) (st_build (by repeat (first | exact FillA.nil _ | (apply FillA.cons; (focus exact rfl); (focus exact rfl); (focus exact rfl); (focus exact rfl); (focus exact rfl); (focus (repeat constructor))))) ⟨rfl, rfl⟩) (by repeat (first | exact LeA.refl _ | exact LeA.nil _ | exact LeL.refl _ | refine LeA.agg ?_ | refine LeA.tup ?_ | exact LeL.nil | refine LeL.cons ?_ ?_ | exact LeA.any _)) ?_)
  refine al_p rfl (q_call (hmk) ?_)
  rintro r rfl
  refine m_ (h:=x_ (h:=x_ (h:=x_ (h:=s_ (h:=a_ (h:=a_ (h:=e_ (q_ (w_ (m_ (h:=nq_ (h:=m_ (h:=?_)))))))))))))
  refine al_gs false rfl rfl (fun hb1 => ?_) (fun hb1 => ?_)
  · have hc1 := bp hb1
    refine g0_ (h:=g0_ (h:=pt_ (h:=m_ (h:=g0_ (h:=g0_ (h:=g0_ (h:=pt_ (h:=e_ (cy_ (h:=w_ (a_ (h:=e_ (aw_ret (x_thenR (?_)))))))))))))))
    refine e_ret ?_
    first | rfl | (exfalso; simp_all)
  have hc1 := bp hb1
  refine m_ (h:=nq_ (h:=pf_ (h:=m_ (h:=?_))))
  refine al_gs false rfl rfl (fun hb2 => ?_) (fun hb2 => ?_)
  · have hc2 := bp hb2
    refine g0_ (h:=g0_ (h:=g0_ (h:=pt_ (h:=e_ (cy_ (h:=w_ (a_ (h:=e_ (aw_ret (x_thenR (?_)))))))))))
    refine e_ret ?_
    first | rfl | (exfalso; simp_all)
  have hc2 := bp hb2
  refine m_ (h:=n_ (h:=nq_ (h:=pf_ (h:=e_ (?_)))))
  refine aw_cond rfl (fun hb3 => ?_) (fun hb3 => ?_)
  · have hc3 := bp hb3
    refine w_ (a_ (h:=e_ (aw_ret (x_thenR (?_)))))
    refine e_ret ?_
    first | rfl | (exfalso; simp_all)
  have hc3 := bp hb3
  refine kt_ (q_ (yk_ ([(1, [.v (.int .i64 0), .v (.int .i64 1)])]) 14 (h:=dl_ 1 (h:=dm_ 2 (h:=di_ 3 (h:=df_ 4 (h:=dl_ 5 (h:=?_))))))))
  refine c_ 0 rfl (st_loadBW rfl rfl rfl ?_)
  refine o_ (h:=?_)
  refine c_ 6 rfl (q_call (hlk) ?_)
  rintro r rfl
  refine o_ (h:=dm_ 7 (h:=dx_ 8 (h:=dx_ 9 (h:=dx_ 10 (h:=?_)))))
  refine c0_ 11 rfl (s_store rfl rfl rfl rfl rfl rfl (by repeat constructor) (by repeat constructor) ?_)
  refine o_ (h:=da_ 12 (h:=da_ 13 (h:=z_ (h:=t_ (q_ (yr_ 12 (h:=dm_ 0 (h:=deq_ 1 (h:=dm_ 2 (h:=?_))))))))))
  refine aa_both (j := 2) rfl (fun hb4 => ?_) (fun hb4 => ?_)
  · have hc4 := bp hb4
    refine dl_ 3 (h:=dm_ 4 (h:=di_ 5 (h:=df_ 6 (h:=dl_ 7 (h:=?_)))))
    refine c_ 8 rfl (q_call (hls) ?_)
    rintro r rfl
    refine o_ (h:=deq_ 9 (h:=dpt_ 10 (h:=da_ 11 (h:=z_ (h:=t_ (aw_ret (?_)))))))
    refine e_ret ?_
    first | rfl | (exfalso; simp_all)
  have hc4 := bp hb4
  refine d0_ 3 (h:=d0_ 4 (h:=d0_ 5 (h:=d0_ 6 (h:=d0_ 7 (h:=d0_ 8 (h:=d0_ 9 (h:=dpf_ 10 (h:=da_ 11 (h:=z_ (h:=t_ (aw_ret (?_))))))))))))
  refine e_ret ?_
  first | rfl | (exfalso; simp_all)

end
end Go.Proofs.Ythcbdkmhamhciaa
namespace Go.Proofs.Ythcbdkmhamhciaa
open Go.RowKit

theorem sorted_perm {a b : List Ent} (ha : Sorted a) (hb : Sorted b) (h : a.Perm b) : a = b :=
  h.eq_of_pairwise (fun x y _ _ h1 h2 => absurd (lt_trans' h1 h2) (by rw [lt_irr]; decide)) ha hb
theorem put_out {es : List Ent} (hs : Sorted es) {name : Str} {a : Int} (h : entF es name = none) (ha : a ≠ 0) : entL (entL es name a) name 0 = es := by
  rw [entL_zero]
  refine sorted_perm (sorted_without (entL_sorted hs _ _) _) hs ?_
  have hp : (without name (entL es name a)).Perm (without name ((name, a) :: without name es)) := (entL_perm es name ha).filter _
  refine hp.trans ?_
  have : without name ((name, a) :: without name es) = es := by
    rw [without_none h]
    show List.filter _ ((name, a) :: es) = es
    rw [List.filter_cons_of_neg (by simp)]
    exact without_none h
  rw [this]
theorem out_put {es : List Ent} (hs : Sorted es) {name : Str} {e : Ent} (h : entF es name = some e) (ha : e.2 ≠ 0) : entL (entL es name 0) name e.2 = es := by
  rw [entL_zero]
  refine sorted_perm (entL_sorted (sorted_without hs _) _ _) hs ?_
  refine (entL_perm _ name ha).trans ?_
  have e1 : without name (without name es) = without name es := by
    unfold without
    rw [List.filter_filter]
    simp
  have e2 : ((name, e.2) : Ent) = e := by rw [← (entF_some h).2]
  rw [e1, e2]
  exact (without_some hs h).symm
theorem VD.one_par {d : Dvc} (h : VD d) {n m : Nod} (hn : n ∈ d.nodes) (hm : m ∈ d.nodes) (hk : m.kind = 2) {e : Ent} (he : e ∈ n.entries) (hi : e.2 = m.ino) : m.parent = n.ino := by
  have h1 : m.ino ≠ 1 := by have := (h.ent n hn e he).2.1; omega
  have hc := h.one m hm h1 hk
  obtain ⟨p, hp, hpi, e', he', hei⟩ := h.par m hm h1 hk
  obtain ⟨A, B, hs, hA, hB⟩ := asc_split h.asc hn
  have hpos : 0 < cntE m.ino n.entries := cntE_pos.2 ⟨e, he, hi⟩
  rw [hs, cntN_append, cntN_cons] at hc
  rw [hs] at hp
  rcases List.mem_append.1 hp with hp | hp
  · have : 0 < cntN m.ino A := cntN_pos.2 ⟨p, hp, e', he', hei⟩
    omega
  rcases List.mem_cons.1 hp with rfl | hp
  · omega
  have : 0 < cntN m.ino B := cntN_pos.2 ⟨p, hp, e', he', hei⟩
  omega
theorem VD.no_loop {d : Dvc} (h : VD d) {k : Nat} {x : Int} (hk : AncN d.nodes (k + 1) x x) : False := by
  obtain ⟨rk, hrk⟩ := h.rank
  obtain ⟨l, hl, _, hz⟩ := ancN_list hrk _ _ _ hk
  match l, hl with
  | z :: _, _ =>
    have := hz z (by simp)
    omega
theorem anc_back {ns : List Nod} {p1 p2 : Int} {name name2 : Str} {a : Int} : ∀ (k : Nat) (x : Int), AncN (renD ns p1 p2 name name2 a) k x a → ∃ k, AncN ns k x a
  | 0, x, h => ⟨0, h⟩
  | k + 1, x, ⟨n, hn, h1, h2, h3, h4⟩ => by
    obtain ⟨n0, hn0, rfl⟩ := List.mem_map.1 hn
    by_cases hx : x = a
    · exact ⟨0, hx⟩
    obtain ⟨k', hk'⟩ := anc_back k _ h4
    have hne : ¬ (n0.ino = a ∧ n0.kind = 2) := fun h => hx (h1.symm.trans h.1)
    have hp : (renN p1 p2 name name2 a n0).parent = n0.parent := if_neg hne
    rw [hp] at hk'
    exact ⟨k' + 1, n0, hn0, h1, h2, h3, hk'⟩
theorem ren_ns {ns : List Nod} {src to : Fil} {name name2 : Str} {A O : Fil} {e : Int} {b : Bool} (he : e ≠ 0) (hb : ∀ y ∈ ns, y.ino = A.2 → (b = true ↔ y.kind = 2)) : renPar (renNs ns src name to name2 A O e) A.2 to.2 b = renD ns src.2 to.2 name name2 A.2 := by
  unfold renNs
  rw [if_neg he, ← renD_eq]
  have hY : ∀ y ∈ entD (entD ns src.2 name 0) to.2 name2 A.2, y.ino = A.2 → (b = true ↔ y.kind = 2) := by
    intro y hy hyi
    obtain ⟨y1, h1, w1⟩ := mem_entD hy
    obtain ⟨y2, h2, w2⟩ := mem_entD h1
    rw [w1.kind, w2.kind]
    exact hb y2 h2 (by rw [← w2.ino, ← w1.ino]; exact hyi)
  unfold renPar
  split
  · rename_i hmv
    refine updI_congr fun y hy hyi => ?_
    unfold setPar
    rw [if_pos ((hY y hy hyi).1 hmv)]
  rename_i hmv
  refine (updI_same fun y hy hyi => ?_).symm
  unfold setPar
  rw [if_neg (fun h => hmv ((hY y hy hyi).2 h))]
theorem ren_back {d : Dvc} (h : VD d) {n1 n2 m : Nod} (hn1 : n1 ∈ d.nodes) (hn2 : n2 ∈ d.nodes) (hm : m ∈ d.nodes) {name name2 : Str} {e : Ent} (he : entF n1.entries name = some e) (hem : e.2 = m.ino) (hno : entF n2.entries name2 = none) : renD (renD d.nodes n1.ino n2.ino name name2 m.ino) n2.ino n1.ino name2 name m.ino = d.nodes := by
  unfold renD
  rw [List.map_map]
  refine (List.map_congr_left fun n hn => ?_).trans (List.map_id _)
  have hpos : m.ino ≠ 0 := by have := h.pos hm; omega
  have hent : renE n2.ino n1.ino name2 name m.ino (renN n1.ino n2.ino name name2 m.ino n) = n.entries := by
    unfold renE
    show (let es := if n.ino = n2.ino then entL (renE n1.ino n2.ino name name2 m.ino n) name2 0 else renE n1.ino n2.ino name name2 m.ino n; if n.ino = n1.ino then entL es name m.ino else es) = n.entries
    have hs := h.sorted n hn
    have h2 : (if n.ino = n2.ino then entL (renE n1.ino n2.ino name name2 m.ino n) name2 0 else renE n1.ino n2.ino name name2 m.ino n) = if n.ino = n1.ino then entL n.entries name 0 else n.entries := by
      unfold renE
      by_cases hi : n.ino = n2.ino
      · obtain rfl : n = n2 := asc_eq h.asc hn hn2 hi
        simp only [if_true]
        refine put_out ?_ ?_ hpos
        · split
          · exact entL_sorted hs _ _
          exact hs
        split
        · rw [entL_zero]
          unfold entF without
          rw [List.find?_eq_none]
          intro x hx
          have hx' := (List.mem_filter.1 hx).1
          simpa using entF_none hno x hx'
        exact hno
      simp only [if_neg hi]
    simp only [h2]
    split
    · rename_i hi
      obtain rfl : n = n1 := asc_eq h.asc hn hn1 hi
      rw [← hem]
      exact out_put hs he (by omega)
    rfl
  have hpar : (renN n2.ino n1.ino name2 name m.ino (renN n1.ino n2.ino name name2 m.ino n)).parent = n.parent := by
    show (if n.ino = m.ino ∧ n.kind = 2 then n1.ino else if n.ino = m.ino ∧ n.kind = 2 then n2.ino else n.parent) = n.parent
    split
    · rename_i hc
      obtain rfl : n = m := asc_eq h.asc hn hm hc.1
      exact (h.one_par hn1 hn hc.2 (entF_some he).1 hem).symm
    rfl
  show renN n2.ino n1.ino name2 name m.ino (renN n1.ino n2.ino name name2 m.ino n) = n
  obtain ⟨ino, kind, mode, uid, gid, parent, target, entries⟩ := n
  unfold renN at hpar hent ⊢
  simp only at hpar hent ⊢
  rw [hpar, hent]
theorem look_none {f : Fls} {dir : Fil} {name : Str} {n : Nod} (hn : nodeL f dir = some n) (hk : n.kind = 2) (h : entF n.entries name = none) : lookL f dir name = ((0, 0), 2) := by
  unfold lookL
  rw [hn]
  simp only [hk, if_true]
  unfold entF at h
  rw [h]
theorem look_some {f : Fls} {dir : Fil} {name : Str} {n : Nod} {e : Ent} (hn : nodeL f dir = some n) (hk : n.kind = 2) (h : entF n.entries name = some e) : lookL f dir name = ((dir.1, e.2), 0) := by
  unfold lookL
  rw [hn]
  simp only [hk, if_true]
  unfold entF at h
  rw [h]
theorem place_in {f : Fls} {dir : Fil} {name : Str} {n : Nod} (hn : nodeL f dir = some n) (hk : n.kind = 2) (h : nameL name = true) : placeL f dir name = 0 := by
  unfold placeL
  rw [hn]
  simp only [hk, h, if_true]
theorem there {f : Fls} (hv : FlsV f) {src : Fil} {name : Str} {to : Fil} {name2 : Str} (hE : (renameL f src name to name2).2.2 = 0) (hN : (lookL f to name2).2 ≠ 0) :
    ∃ A : Fil, FlsV (renameL f src name to name2).1 ∧ (renameL f src name to name2).2.1 = [(src, name, A, (0, 0)), (to, name2, (0, 0), A)] ∧ ∃ c1 c2, renameL (renameL f src name to name2).1 to name2 src name = (f, [c1, c2], 0) := by
  have hok := (rename_okay hv src name to name2 hE).1
  revert hok
  unfold renameL at hE ⊢
  split at hE
  · rename_i h; exact absurd hE h
  rename_i hord
  rw [if_neg hord]
  split at hE
  · rename_i h; exact absurd hE h
  rename_i hl1
  rw [if_neg hl1]
  split at hE
  · exact absurd hE (by decide)
  rename_i hdev
  rw [if_neg hdev]
  split at hE
  · exact absurd hE (by decide)
  rename_i hbel
  rw [if_neg hbel, if_neg (fun h => hN h.1)]
  split at hE
  · rename_i h; exact absurd h.1 hN
  split at hE
  · rename_i h; exact absurd hE h
  rename_i hr2
  rw [if_neg hr2]
  clear hE
  obtain ⟨hpl1, hpl2⟩ := ord_zero (f := f) (x := src) (y := to) (name := name) (name2 := name2) (by omega)
  obtain ⟨q, i, d, n1, hsq, hq, hn1, hn1i, hidx, hnode, hk1, hnm1⟩ := place_ok hpl1
  obtain ⟨q', i2, d', n2, htq, hq', hn2, hn2i, -, hnode2, hk2, hnm2⟩ := place_ok hpl2
  obtain rfl : q = q' := by omega
  obtain rfl : d = d' := Option.some.inj (hq.symm.trans hq')
  have hvd := hv.vd d (List.mem_of_getElem? hq)
  have hm1 := List.mem_of_getElem? hn1
  have hm2 := List.mem_of_getElem? hn2
  obtain ⟨e, m, he, hle, hm, hem, he1, hmn⟩ := look_node hv hsq hq hn1 hnode hk1 (name := name) (by omega)
  obtain ⟨hno, hO⟩ := look_no hnode2 hk2 hN
  have hpos : m.ino ≠ 0 := by have := hvd.pos hm; omega
  rw [hO]
  have hA : (lookL f src name).1 = (src.1, m.ino) := by rw [hle, hem]
  rw [hA] at hmn hbel hr2 ⊢
  have hdk := dir_kind hmn
  have hbd : ∀ y ∈ d.nodes, y.ino = m.ino → (dirL f (src.1, m.ino) = true ↔ y.kind = 2) := fun y hy hyi => by rw [hdk, asc_eq hvd.asc hy hm hyi]
  have hns : renPar (renNs d.nodes src name to name2 (src.1, m.ino) (0, 0) (lookL f to name2).2) (src.1, m.ino).2 to.2 (dirL f (src.1, m.ino)) = renD d.nodes n1.ino n2.ino name name2 m.ino := by
    rw [ren_ns hN hbd, hn1i, hn2i]
  have hset : (onD f to.1.toNat fun ns => renPar (renNs ns src name to name2 (src.1, m.ino) (0, 0) (lookL f to name2).2) (src.1, m.ino).2 to.2 (dirL f (src.1, m.ino))) = f.set q ⟨d.next, renD d.nodes n1.ino n2.ino name name2 m.ino⟩ := by
    rw [htq, Int.toNat_natCast, onD_set hq, hns]
  intro hok
  refine ⟨(src.1, m.ino), hok, rfl, ?_⟩
  dsimp only at hok ⊢
  rw [hset] at hok ⊢
  generalize hN1 : renD d.nodes n1.ino n2.ino name name2 m.ino = N1 at hok ⊢
  have hql := (List.getElem?_eq_some_iff.1 hq).1
  have hq1 : (f.set q ⟨d.next, N1⟩)[q]? = some ⟨d.next, N1⟩ := by simp [hql]
  have hvd1 := hok.vd _ (List.mem_of_getElem? hq1)
  generalize hf1 : f.set q ⟨d.next, N1⟩ = f1 at hok hq1 ⊢
  have hin : ∀ {n : Nod}, n ∈ d.nodes → renN n1.ino n2.ino name name2 m.ino n ∈ N1 := fun hn => by rw [← hN1]; exact List.mem_map_of_mem hn
  have hA1 : nodeL f1 (src.1, m.ino) = some (renN n1.ino n2.ino name name2 m.ino m) := node_asc (a := (src.1, m.ino)) hsq hq1 hvd1.asc (hin hm) rfl
  have hS1 : nodeL f1 src = some (renN n1.ino n2.ino name name2 m.ino n1) := node_asc hsq hq1 hvd1.asc (hin hm1) hn1i
  have hT1 : nodeL f1 to = some (renN n1.ino n2.ino name name2 m.ino n2) := node_asc htq hq1 hvd1.asc (hin hm2) hn2i
  have heT : entF (renN n1.ino n2.ino name name2 m.ino n2).entries name2 = some (name2, m.ino) := by
    have hmem : (name2, m.ino) ∈ (renN n1.ino n2.ino name name2 m.ino n2).entries := renE_new rfl hpos
    cases hx : entF (renN n1.ino n2.ino name name2 m.ino n2).entries name2 with
    | none => exact absurd rfl (entF_none hx _ hmem)
    | some x => rw [sorted_name (hvd1.sorted _ (hin hm2)) (entF_some hx).1 hmem (entF_some hx).2]
  have hdiff : n1.ino = n2.ino → name ≠ name2 := by
    rintro h rfl
    obtain rfl : n1 = n2 := asc_eq hvd.asc hm1 hm2 h
    rw [hno] at he
    cases he
  have heS : entF (renN n1.ino n2.ino name name2 m.ino n1).entries name = none := by
    unfold entF
    rw [List.find?_eq_none]
    intro x hx hxn
    have hxn : x.1 = name := by simpa using hxn
    have hx : x ∈ renE n1.ino n2.ino name name2 m.ino n1 := hx
    unfold renE at hx
    simp only [if_true] at hx
    rw [entL_zero] at hx
    have hw : ∀ y ∈ without name n1.entries, y.1 ≠ name := fun y hy => by simpa using (List.mem_filter.1 hy).2
    split at hx
    · rename_i h12
      rcases mem_entL hx with h | ⟨h, _⟩
      · exact hw x h hxn
      rw [h] at hxn; exact hdiff h12 hxn.symm
    exact hw x hx hxn
  have hl2 : lookL f1 to name2 = ((src.1, m.ino), 0) := by rw [look_some hT1 hk2 heT, htq, hsq]
  have hl3 : lookL f1 src name = ((0, 0), 2) := look_none hS1 hk1 heS
  have hbel1 : ¬ (dirL f1 (src.1, m.ino) = true ∧ belowF f1 src (src.1, m.ino) = true) := by
    rintro ⟨h1, h2⟩
    have hmk : m.kind = 2 := (dir_kind hA1).1 h1
    obtain ⟨-, k, hk⟩ := belF_anc hvd1 hq1 (top := (src.1, m.ino)) 17 src (renN n1.ino n2.ino name name2 m.ino n1) hsq (hin hm1) hn1i hk1 h2
    rw [← hN1] at hk
    obtain ⟨k', hk'⟩ := anc_back k _ hk
    have hp := hvd.one_par hm1 hm hmk (entF_some he).1 hem
    refine hvd.no_loop (k := k') (x := m.ino) ⟨m, hm, rfl, by omega, hmk, ?_⟩
    rw [hp, hn1i]
    exact hk'
  have hr3 : ren2L f1 to src (src.1, m.ino) (0, 0) 2 = 0 := by
    unfold ren2L
    rw [if_neg (by decide), if_neg]
    rintro ⟨h1, h2⟩
    have h12 : ¬ n1.ino = n2.ino := fun h => h2 (Prod.ext (by omega) (by omega))
    have hlen : (renN n1.ino n2.ino name name2 m.ino n1).entries.length + 1 = n1.entries.length := by
      show (renE n1.ino n2.ino name name2 m.ino n1).length + 1 = _
      unfold renE
      simp only [if_true, if_neg h12]
      rw [entL_zero]
      have := (without_some (hvd.sorted n1 hm1) he).length_eq
      simpa using this.symm
    unfold fullL at h1
    rw [hS1] at h1
    simp only [decide_eq_true_eq] at h1
    have := hvd.many n1 hm1
    omega
  have hbd1 : ∀ y ∈ N1, y.ino = m.ino → (dirL f1 (src.1, m.ino) = true ↔ y.kind = 2) := fun y hy hyi => by rw [dir_kind hA1, asc_eq hvd1.asc hy (hin hm) hyi]
  have hfin : (onD f1 src.1.toNat fun ns => renPar (renNs ns to name2 src name (src.1, m.ino) (0, 0) 2) (src.1, m.ino).2 src.2 (dirL f1 (src.1, m.ino))) = f := by
    rw [hsq, Int.toNat_natCast, onD_set hq1]
    simp only
    rw [ren_ns (A := ((q : Int), m.ino)) (by decide) (by rw [← hsq]; exact hbd1), ← hN1, ← hn1i, ← hn2i, ren_back hvd hm1 hm2 hm he hem hno, ← hf1, List.set_set]
    apply List.ext_getElem?
    intro k
    rw [List.getElem?_set]
    split
    · rename_i e; subst e; rw [hq]
    rfl
  rw [hl2, hl3, place_in hT1 hk2 hnm2, place_in hS1 hk1 hnm1]
  rw [if_neg (by decide), if_neg (not_not_intro rfl), if_neg (fun h => hdev h.symm), if_neg hbel1, if_neg (fun h => absurd h.1 (by decide)), if_neg (not_not_intro hr3), hfin]
  exact ⟨_, _, rfl⟩
end Go.Proofs.Ythcbdkmhamhciaa
namespace Go.Proofs.Ythcbdkmhamhciaa
open Go.RowKit

section
set_option maxRecDepth 20000
set_option maxHeartbeats 4000000
theorem Lthere (l : List Int) : AFn Try.prog 12 [.sl 1 (l.map intA) none] (fun r => r = .v (.bool true)) := by
  refine enter Try.func12 rfl rfl rfl rfl rfl 0 rfl ?_
  refine w_ (a_ (h:=e_ (w_ (m_ (h:=?_)))))
  refine al_p rfl (s_callN rfl (by repeat (first | exact Args.nil | refine Args.cons _ _ _ _ _ rfl (argOk_clean rfl) ?_ | refine Args.cons _ _ _ _ _ rfl (argOk_nil _) ?_ | refine Args.cons _ _ _ _ _ rfl (argOk_era _) ?_ | refine Args.cons _ _ _ _ _ rfl (argOk_le rfl (by repeat (first | exact LeA.refl _ | exact LeA.nil _ | exact LeL.refl _ | refine LeA.agg ?_ | refine LeA.tup ?_ | exact LeL.nil | refine LeL.cons ?_ ?_ | exact LeA.any _))) ?_)) rfl (Gnew l) (by repeat constructor) ?_)
  skip
  refine a_ (h:=e_ (w_ (m_ (h:=?_))))
  refine al_p rfl (s_gen 0 (hc := Gfiles l _ (by omega)) (hR := ?_))
  rintro r a1 ha1 ⟨f, rfl, hv, hp⟩
  refine ⟨rfl, _, (by repeat constructor), ?_⟩
  have hf := hv.b
  have hne := hv.ne
  refine al_ (h:=s_ (h:=e_ (?_)))
  refine aw_midI (fun t => ∃ (x y : Fil) (k k2 : Str) (b : Nat), t = ⟨look [(4, .bp 1 0), (5, .bp 2 0), (6, .v (.string k)), (7, .bp 3 0), (8, .v (.string k2))], ⟨[srcA l b, flsA f, filA x, filA y], []⟩⟩) ?_ ?_
  · skip
    refine yk_ ([(1, flsA f)]) 16 (h:=dm_ 0 (h:=dl_ 1 (h:=dm_ 3 (h:=dm_ 5 (h:=dl_ 6 (h:=dm_ 8 (h:=?_)))))))
    refine cm_ 2 (ao_ 2 rfl ?_ (ao_ 10 rfl ?_ (ao_ 11 rfl ?_ ao_n)))
    · refine s_gen 0 (hc := Gfile l _ f (by omega) hf hne) (hR := ?_)
      rintro r a2 ha2 ⟨x2, rfl⟩
      refine ⟨rfl, _, (by repeat constructor), ?_⟩
      refine o_ (h:=?_)
      refine cm_ 4 (ao_ 4 rfl ?_ (ao_ 10 rfl ?_ (ao_ 11 rfl ?_ ao_n)))
      · refine s_gen 0 (hc := Gname l _ (by omega)) (hR := ?_)
        rintro r a3 ha3 ⟨k3, rfl, hk3⟩
        refine ⟨rfl, _, (by repeat constructor), ?_⟩
        refine o_ (h:=?_)
        refine cm_ 7 (ao_ 7 rfl ?_ (ao_ 10 rfl ?_ (ao_ 11 rfl ?_ ao_n)))
        · refine s_gen 0 (hc := Gfile l _ f (by omega) hf hne) (hR := ?_)
          rintro r a4 ha4 ⟨x4, rfl⟩
          refine ⟨rfl, _, (by repeat constructor), ?_⟩
          refine o_ (h:=?_)
          refine cm_ 9 (ao_ 9 rfl ?_ (ao_ 10 rfl ?_ (ao_ 11 rfl ?_ ao_n)))
          · refine s_gen 0 (hc := Gname l _ (by omega)) (hR := ?_)
            rintro r a5 ha5 ⟨k5, rfl, hk5⟩
            refine ⟨rfl, _, (by repeat constructor), ?_⟩
            refine o_ (h:=?_)
            refine c2_ 10 11 rfl rfl ?_ ?_
            · refine s_alloc (by repeat constructor) ?_
              refine o_ (h:=?_)
              refine c_ 11 rfl (s_alloc (by repeat constructor) ?_)
              refine o_ (h:=?_)
              refine c0_ 12 rfl (s_store rfl rfl rfl rfl rfl rfl (by repeat constructor) (by repeat constructor) ?_)
              refine o_ (h:=da_ 13 (h:=?_))
              refine c0_ 14 rfl (s_store rfl rfl rfl rfl rfl rfl (by repeat constructor) (by repeat constructor) ?_)
              refine o_ (h:=da_ 15 (h:=z_ (h:=?_)))
              refine x_then ?_
              first
              | exact ⟨_, ⟨_, _, _, _, _, rfl⟩, wk 4 0⟩
              | exact ⟨_, ⟨_, _, _, _, _, rfl⟩, wr_ [0, 1, 3, 2]⟩
            refine s_alloc (by repeat constructor) ?_
            refine o_ (h:=?_)
            refine c_ 10 rfl (s_alloc (by repeat constructor) ?_)
            refine o_ (h:=?_)
            refine c0_ 12 rfl (s_store rfl rfl rfl rfl rfl rfl (by repeat constructor) (by repeat constructor) ?_)
            refine o_ (h:=da_ 13 (h:=?_))
            refine c0_ 14 rfl (s_store rfl rfl rfl rfl rfl rfl (by repeat constructor) (by repeat constructor) ?_)
            refine o_ (h:=da_ 15 (h:=z_ (h:=?_)))
            refine x_then ?_
            first
            | exact ⟨_, ⟨_, _, _, _, _, rfl⟩, wk 4 0⟩
            | exact ⟨_, ⟨_, _, _, _, _, rfl⟩, wr_ [0, 1, 3, 2]⟩
          · refine s_alloc (by repeat constructor) ?_
            refine o_ (h:=?_)
            refine c2_ 9 11 rfl rfl ?_ ?_
            · refine s_gen 0 (hc := Gname l _ (by omega)) (hR := ?_)
              rintro r a6 ha6 ⟨k6, rfl, hk6⟩
              refine ⟨rfl, _, (by repeat constructor), ?_⟩
              refine o_ (h:=?_)
              refine c_ 11 rfl (s_alloc (by repeat constructor) ?_)
              refine o_ (h:=?_)
              refine c0_ 12 rfl (s_store rfl rfl rfl rfl rfl rfl (by repeat constructor) (by repeat constructor) ?_)
              refine o_ (h:=da_ 13 (h:=?_))
              refine c0_ 14 rfl (s_store rfl rfl rfl rfl rfl rfl (by repeat constructor) (by repeat constructor) ?_)
              refine o_ (h:=da_ 15 (h:=z_ (h:=?_)))
              refine x_then ?_
              first
              | exact ⟨_, ⟨_, _, _, _, _, rfl⟩, wk 4 0⟩
              | exact ⟨_, ⟨_, _, _, _, _, rfl⟩, wr_ [0, 1, 3, 2]⟩
            refine s_alloc (by repeat constructor) ?_
            refine o_ (h:=?_)
            refine c_ 9 rfl (s_gen 0 (hc := Gname l _ (by omega)) (hR := ?_))
            rintro r a7 ha7 ⟨k7, rfl, hk7⟩
            refine ⟨rfl, _, (by repeat constructor), ?_⟩
            refine o_ (h:=?_)
            refine c0_ 12 rfl (s_store rfl rfl rfl rfl rfl rfl (by repeat constructor) (by repeat constructor) ?_)
            refine o_ (h:=da_ 13 (h:=?_))
            refine c0_ 14 rfl (s_store rfl rfl rfl rfl rfl rfl (by repeat constructor) (by repeat constructor) ?_)
            refine o_ (h:=da_ 15 (h:=z_ (h:=?_)))
            refine x_then ?_
            first
            | exact ⟨_, ⟨_, _, _, _, _, rfl⟩, wk 4 0⟩
            | exact ⟨_, ⟨_, _, _, _, _, rfl⟩, wr_ [0, 1, 3, 2]⟩
          refine s_alloc (by repeat constructor) ?_
          refine o_ (h:=?_)
          refine c2_ 9 10 rfl rfl ?_ ?_
          · refine s_gen 0 (hc := Gname l _ (by omega)) (hR := ?_)
            rintro r a8 ha8 ⟨k8, rfl, hk8⟩
            refine ⟨rfl, _, (by repeat constructor), ?_⟩
            refine o_ (h:=?_)
            refine c_ 10 rfl (s_alloc (by repeat constructor) ?_)
            refine o_ (h:=?_)
            refine c0_ 12 rfl (s_store rfl rfl rfl rfl rfl rfl (by repeat constructor) (by repeat constructor) ?_)
            refine o_ (h:=da_ 13 (h:=?_))
            refine c0_ 14 rfl (s_store rfl rfl rfl rfl rfl rfl (by repeat constructor) (by repeat constructor) ?_)
            refine o_ (h:=da_ 15 (h:=z_ (h:=?_)))
            refine x_then ?_
            first
            | exact ⟨_, ⟨_, _, _, _, _, rfl⟩, wk 4 0⟩
            | exact ⟨_, ⟨_, _, _, _, _, rfl⟩, wr_ [0, 1, 3, 2]⟩
          refine s_alloc (by repeat constructor) ?_
          refine o_ (h:=?_)
          refine c_ 9 rfl (s_gen 0 (hc := Gname l _ (by omega)) (hR := ?_))
          rintro r a9 ha9 ⟨k9, rfl, hk9⟩
          refine ⟨rfl, _, (by repeat constructor), ?_⟩
          refine o_ (h:=?_)
          refine c0_ 12 rfl (s_store rfl rfl rfl rfl rfl rfl (by repeat constructor) (by repeat constructor) ?_)
          refine o_ (h:=da_ 13 (h:=?_))
          refine c0_ 14 rfl (s_store rfl rfl rfl rfl rfl rfl (by repeat constructor) (by repeat constructor) ?_)
          refine o_ (h:=da_ 15 (h:=z_ (h:=?_)))
          refine x_then ?_
          first
          | exact ⟨_, ⟨_, _, _, _, _, rfl⟩, wk 4 0⟩
          | exact ⟨_, ⟨_, _, _, _, _, rfl⟩, wr_ [0, 1, 3, 2]⟩
        · refine s_alloc (by repeat constructor) ?_
          refine o_ (h:=?_)
          refine c2_ 7 11 rfl rfl ?_ ?_
          · refine s_gen 0 (hc := Gfile l _ f (by omega) hf hne) (hR := ?_)
            rintro r a10 ha10 ⟨x10, rfl⟩
            refine ⟨rfl, _, (by repeat constructor), ?_⟩
            refine o_ (h:=?_)
            refine c2_ 9 11 rfl rfl ?_ ?_
            · refine s_gen 0 (hc := Gname l _ (by omega)) (hR := ?_)
              rintro r a11 ha11 ⟨k11, rfl, hk11⟩
              refine ⟨rfl, _, (by repeat constructor), ?_⟩
              refine o_ (h:=?_)
              refine c_ 11 rfl (s_alloc (by repeat constructor) ?_)
              refine o_ (h:=?_)
              refine c0_ 12 rfl (s_store rfl rfl rfl rfl rfl rfl (by repeat constructor) (by repeat constructor) ?_)
              refine o_ (h:=da_ 13 (h:=?_))
              refine c0_ 14 rfl (s_store rfl rfl rfl rfl rfl rfl (by repeat constructor) (by repeat constructor) ?_)
              refine o_ (h:=da_ 15 (h:=z_ (h:=?_)))
              refine x_then ?_
              first
              | exact ⟨_, ⟨_, _, _, _, _, rfl⟩, wk 4 0⟩
              | exact ⟨_, ⟨_, _, _, _, _, rfl⟩, wr_ [0, 1, 3, 2]⟩
            refine s_alloc (by repeat constructor) ?_
            refine o_ (h:=?_)
            refine c_ 9 rfl (s_gen 0 (hc := Gname l _ (by omega)) (hR := ?_))
            rintro r a12 ha12 ⟨k12, rfl, hk12⟩
            refine ⟨rfl, _, (by repeat constructor), ?_⟩
            refine o_ (h:=?_)
            refine c0_ 12 rfl (s_store rfl rfl rfl rfl rfl rfl (by repeat constructor) (by repeat constructor) ?_)
            refine o_ (h:=da_ 13 (h:=?_))
            refine c0_ 14 rfl (s_store rfl rfl rfl rfl rfl rfl (by repeat constructor) (by repeat constructor) ?_)
            refine o_ (h:=da_ 15 (h:=z_ (h:=?_)))
            refine x_then ?_
            first
            | exact ⟨_, ⟨_, _, _, _, _, rfl⟩, wk 4 0⟩
            | exact ⟨_, ⟨_, _, _, _, _, rfl⟩, wr_ [0, 1, 3, 2]⟩
          refine s_alloc (by repeat constructor) ?_
          refine o_ (h:=?_)
          refine c_ 7 rfl (s_gen 0 (hc := Gfile l _ f (by omega) hf hne) (hR := ?_))
          rintro r a13 ha13 ⟨x13, rfl⟩
          refine ⟨rfl, _, (by repeat constructor), ?_⟩
          refine o_ (h:=?_)
          refine c_ 9 rfl (s_gen 0 (hc := Gname l _ (by omega)) (hR := ?_))
          rintro r a14 ha14 ⟨k14, rfl, hk14⟩
          refine ⟨rfl, _, (by repeat constructor), ?_⟩
          refine o_ (h:=?_)
          refine c0_ 12 rfl (s_store rfl rfl rfl rfl rfl rfl (by repeat constructor) (by repeat constructor) ?_)
          refine o_ (h:=da_ 13 (h:=?_))
          refine c0_ 14 rfl (s_store rfl rfl rfl rfl rfl rfl (by repeat constructor) (by repeat constructor) ?_)
          refine o_ (h:=da_ 15 (h:=z_ (h:=?_)))
          refine x_then ?_
          first
          | exact ⟨_, ⟨_, _, _, _, _, rfl⟩, wk 4 0⟩
          | exact ⟨_, ⟨_, _, _, _, _, rfl⟩, wr_ [0, 1, 3, 2]⟩
        refine s_alloc (by repeat constructor) ?_
        refine o_ (h:=?_)
        refine c2_ 7 10 rfl rfl ?_ ?_
        · refine s_gen 0 (hc := Gfile l _ f (by omega) hf hne) (hR := ?_)
          rintro r a15 ha15 ⟨x15, rfl⟩
          refine ⟨rfl, _, (by repeat constructor), ?_⟩
          refine o_ (h:=?_)
          refine c2_ 9 10 rfl rfl ?_ ?_
          · refine s_gen 0 (hc := Gname l _ (by omega)) (hR := ?_)
            rintro r a16 ha16 ⟨k16, rfl, hk16⟩
            refine ⟨rfl, _, (by repeat constructor), ?_⟩
            refine o_ (h:=?_)
            refine c_ 10 rfl (s_alloc (by repeat constructor) ?_)
            refine o_ (h:=?_)
            refine c0_ 12 rfl (s_store rfl rfl rfl rfl rfl rfl (by repeat constructor) (by repeat constructor) ?_)
            refine o_ (h:=da_ 13 (h:=?_))
            refine c0_ 14 rfl (s_store rfl rfl rfl rfl rfl rfl (by repeat constructor) (by repeat constructor) ?_)
            refine o_ (h:=da_ 15 (h:=z_ (h:=?_)))
            refine x_then ?_
            first
            | exact ⟨_, ⟨_, _, _, _, _, rfl⟩, wk 4 0⟩
            | exact ⟨_, ⟨_, _, _, _, _, rfl⟩, wr_ [0, 1, 3, 2]⟩
          refine s_alloc (by repeat constructor) ?_
          refine o_ (h:=?_)
          refine c_ 9 rfl (s_gen 0 (hc := Gname l _ (by omega)) (hR := ?_))
          rintro r a17 ha17 ⟨k17, rfl, hk17⟩
          refine ⟨rfl, _, (by repeat constructor), ?_⟩
          refine o_ (h:=?_)
          refine c0_ 12 rfl (s_store rfl rfl rfl rfl rfl rfl (by repeat constructor) (by repeat constructor) ?_)
          refine o_ (h:=da_ 13 (h:=?_))
          refine c0_ 14 rfl (s_store rfl rfl rfl rfl rfl rfl (by repeat constructor) (by repeat constructor) ?_)
          refine o_ (h:=da_ 15 (h:=z_ (h:=?_)))
          refine x_then ?_
          first
          | exact ⟨_, ⟨_, _, _, _, _, rfl⟩, wk 4 0⟩
          | exact ⟨_, ⟨_, _, _, _, _, rfl⟩, wr_ [0, 1, 3, 2]⟩
        refine s_alloc (by repeat constructor) ?_
        refine o_ (h:=?_)
        refine c_ 7 rfl (s_gen 0 (hc := Gfile l _ f (by omega) hf hne) (hR := ?_))
        rintro r a18 ha18 ⟨x18, rfl⟩
        refine ⟨rfl, _, (by repeat constructor), ?_⟩
        refine o_ (h:=?_)
        refine c_ 9 rfl (s_gen 0 (hc := Gname l _ (by omega)) (hR := ?_))
        rintro r a19 ha19 ⟨k19, rfl, hk19⟩
        refine ⟨rfl, _, (by repeat constructor), ?_⟩
        refine o_ (h:=?_)
        refine c0_ 12 rfl (s_store rfl rfl rfl rfl rfl rfl (by repeat constructor) (by repeat constructor) ?_)
        refine o_ (h:=da_ 13 (h:=?_))
        refine c0_ 14 rfl (s_store rfl rfl rfl rfl rfl rfl (by repeat constructor) (by repeat constructor) ?_)
        refine o_ (h:=da_ 15 (h:=z_ (h:=?_)))
        refine x_then ?_
        first
        | exact ⟨_, ⟨_, _, _, _, _, rfl⟩, wk 4 0⟩
        | exact ⟨_, ⟨_, _, _, _, _, rfl⟩, wr_ [0, 1, 3, 2]⟩
      · refine s_alloc (by repeat constructor) ?_
        refine o_ (h:=?_)
        refine c2_ 4 11 rfl rfl ?_ ?_
        · refine s_gen 0 (hc := Gname l _ (by omega)) (hR := ?_)
          rintro r a20 ha20 ⟨k20, rfl, hk20⟩
          refine ⟨rfl, _, (by repeat constructor), ?_⟩
          refine o_ (h:=?_)
          refine c2_ 7 11 rfl rfl ?_ ?_
          · refine s_gen 0 (hc := Gfile l _ f (by omega) hf hne) (hR := ?_)
            rintro r a21 ha21 ⟨x21, rfl⟩
            refine ⟨rfl, _, (by repeat constructor), ?_⟩
            refine o_ (h:=?_)
            refine c2_ 9 11 rfl rfl ?_ ?_
            · refine s_gen 0 (hc := Gname l _ (by omega)) (hR := ?_)
              rintro r a22 ha22 ⟨k22, rfl, hk22⟩
              refine ⟨rfl, _, (by repeat constructor), ?_⟩
              refine o_ (h:=?_)
              refine c_ 11 rfl (s_alloc (by repeat constructor) ?_)
              refine o_ (h:=?_)
              refine c0_ 12 rfl (s_store rfl rfl rfl rfl rfl rfl (by repeat constructor) (by repeat constructor) ?_)
              refine o_ (h:=da_ 13 (h:=?_))
              refine c0_ 14 rfl (s_store rfl rfl rfl rfl rfl rfl (by repeat constructor) (by repeat constructor) ?_)
              refine o_ (h:=da_ 15 (h:=z_ (h:=?_)))
              refine x_then ?_
              first
              | exact ⟨_, ⟨_, _, _, _, _, rfl⟩, wk 4 0⟩
              | exact ⟨_, ⟨_, _, _, _, _, rfl⟩, wr_ [0, 1, 3, 2]⟩
            refine s_alloc (by repeat constructor) ?_
            refine o_ (h:=?_)
            refine c_ 9 rfl (s_gen 0 (hc := Gname l _ (by omega)) (hR := ?_))
            rintro r a23 ha23 ⟨k23, rfl, hk23⟩
            refine ⟨rfl, _, (by repeat constructor), ?_⟩
            refine o_ (h:=?_)
            refine c0_ 12 rfl (s_store rfl rfl rfl rfl rfl rfl (by repeat constructor) (by repeat constructor) ?_)
            refine o_ (h:=da_ 13 (h:=?_))
            refine c0_ 14 rfl (s_store rfl rfl rfl rfl rfl rfl (by repeat constructor) (by repeat constructor) ?_)
            refine o_ (h:=da_ 15 (h:=z_ (h:=?_)))
            refine x_then ?_
            first
            | exact ⟨_, ⟨_, _, _, _, _, rfl⟩, wk 4 0⟩
            | exact ⟨_, ⟨_, _, _, _, _, rfl⟩, wr_ [0, 1, 3, 2]⟩
          refine s_alloc (by repeat constructor) ?_
          refine o_ (h:=?_)
          refine c_ 7 rfl (s_gen 0 (hc := Gfile l _ f (by omega) hf hne) (hR := ?_))
          rintro r a24 ha24 ⟨x24, rfl⟩
          refine ⟨rfl, _, (by repeat constructor), ?_⟩
          refine o_ (h:=?_)
          refine c_ 9 rfl (s_gen 0 (hc := Gname l _ (by omega)) (hR := ?_))
          rintro r a25 ha25 ⟨k25, rfl, hk25⟩
          refine ⟨rfl, _, (by repeat constructor), ?_⟩
          refine o_ (h:=?_)
          refine c0_ 12 rfl (s_store rfl rfl rfl rfl rfl rfl (by repeat constructor) (by repeat constructor) ?_)
          refine o_ (h:=da_ 13 (h:=?_))
          refine c0_ 14 rfl (s_store rfl rfl rfl rfl rfl rfl (by repeat constructor) (by repeat constructor) ?_)
          refine o_ (h:=da_ 15 (h:=z_ (h:=?_)))
          refine x_then ?_
          first
          | exact ⟨_, ⟨_, _, _, _, _, rfl⟩, wk 4 0⟩
          | exact ⟨_, ⟨_, _, _, _, _, rfl⟩, wr_ [0, 1, 3, 2]⟩
        refine s_alloc (by repeat constructor) ?_
        refine o_ (h:=?_)
        refine c_ 4 rfl (s_gen 0 (hc := Gname l _ (by omega)) (hR := ?_))
        rintro r a26 ha26 ⟨k26, rfl, hk26⟩
        refine ⟨rfl, _, (by repeat constructor), ?_⟩
        refine o_ (h:=?_)
        refine c_ 7 rfl (s_gen 0 (hc := Gfile l _ f (by omega) hf hne) (hR := ?_))
        rintro r a27 ha27 ⟨x27, rfl⟩
        refine ⟨rfl, _, (by repeat constructor), ?_⟩
        refine o_ (h:=?_)
        refine c_ 9 rfl (s_gen 0 (hc := Gname l _ (by omega)) (hR := ?_))
        rintro r a28 ha28 ⟨k28, rfl, hk28⟩
        refine ⟨rfl, _, (by repeat constructor), ?_⟩
        refine o_ (h:=?_)
        refine c0_ 12 rfl (s_store rfl rfl rfl rfl rfl rfl (by repeat constructor) (by repeat constructor) ?_)
        refine o_ (h:=da_ 13 (h:=?_))
        refine c0_ 14 rfl (s_store rfl rfl rfl rfl rfl rfl (by repeat constructor) (by repeat constructor) ?_)
        refine o_ (h:=da_ 15 (h:=z_ (h:=?_)))
        refine x_then ?_
        first
        | exact ⟨_, ⟨_, _, _, _, _, rfl⟩, wk 4 0⟩
        | exact ⟨_, ⟨_, _, _, _, _, rfl⟩, wr_ [0, 1, 3, 2]⟩
      refine s_alloc (by repeat constructor) ?_
      refine o_ (h:=?_)
      refine c2_ 4 10 rfl rfl ?_ ?_
      · refine s_gen 0 (hc := Gname l _ (by omega)) (hR := ?_)
        rintro r a29 ha29 ⟨k29, rfl, hk29⟩
        refine ⟨rfl, _, (by repeat constructor), ?_⟩
        refine o_ (h:=?_)
        refine c2_ 7 10 rfl rfl ?_ ?_
        · refine s_gen 0 (hc := Gfile l _ f (by omega) hf hne) (hR := ?_)
          rintro r a30 ha30 ⟨x30, rfl⟩
          refine ⟨rfl, _, (by repeat constructor), ?_⟩
          refine o_ (h:=?_)
          refine c2_ 9 10 rfl rfl ?_ ?_
          · refine s_gen 0 (hc := Gname l _ (by omega)) (hR := ?_)
            rintro r a31 ha31 ⟨k31, rfl, hk31⟩
            refine ⟨rfl, _, (by repeat constructor), ?_⟩
            refine o_ (h:=?_)
            refine c_ 10 rfl (s_alloc (by repeat constructor) ?_)
            refine o_ (h:=?_)
            refine c0_ 12 rfl (s_store rfl rfl rfl rfl rfl rfl (by repeat constructor) (by repeat constructor) ?_)
            refine o_ (h:=da_ 13 (h:=?_))
            refine c0_ 14 rfl (s_store rfl rfl rfl rfl rfl rfl (by repeat constructor) (by repeat constructor) ?_)
            refine o_ (h:=da_ 15 (h:=z_ (h:=?_)))
            refine x_then ?_
            first
            | exact ⟨_, ⟨_, _, _, _, _, rfl⟩, wk 4 0⟩
            | exact ⟨_, ⟨_, _, _, _, _, rfl⟩, wr_ [0, 1, 3, 2]⟩
          refine s_alloc (by repeat constructor) ?_
          refine o_ (h:=?_)
          refine c_ 9 rfl (s_gen 0 (hc := Gname l _ (by omega)) (hR := ?_))
          rintro r a32 ha32 ⟨k32, rfl, hk32⟩
          refine ⟨rfl, _, (by repeat constructor), ?_⟩
          refine o_ (h:=?_)
          refine c0_ 12 rfl (s_store rfl rfl rfl rfl rfl rfl (by repeat constructor) (by repeat constructor) ?_)
          refine o_ (h:=da_ 13 (h:=?_))
          refine c0_ 14 rfl (s_store rfl rfl rfl rfl rfl rfl (by repeat constructor) (by repeat constructor) ?_)
          refine o_ (h:=da_ 15 (h:=z_ (h:=?_)))
          refine x_then ?_
          first
          | exact ⟨_, ⟨_, _, _, _, _, rfl⟩, wk 4 0⟩
          | exact ⟨_, ⟨_, _, _, _, _, rfl⟩, wr_ [0, 1, 3, 2]⟩
        refine s_alloc (by repeat constructor) ?_
        refine o_ (h:=?_)
        refine c_ 7 rfl (s_gen 0 (hc := Gfile l _ f (by omega) hf hne) (hR := ?_))
        rintro r a33 ha33 ⟨x33, rfl⟩
        refine ⟨rfl, _, (by repeat constructor), ?_⟩
        refine o_ (h:=?_)
        refine c_ 9 rfl (s_gen 0 (hc := Gname l _ (by omega)) (hR := ?_))
        rintro r a34 ha34 ⟨k34, rfl, hk34⟩
        refine ⟨rfl, _, (by repeat constructor), ?_⟩
        refine o_ (h:=?_)
        refine c0_ 12 rfl (s_store rfl rfl rfl rfl rfl rfl (by repeat constructor) (by repeat constructor) ?_)
        refine o_ (h:=da_ 13 (h:=?_))
        refine c0_ 14 rfl (s_store rfl rfl rfl rfl rfl rfl (by repeat constructor) (by repeat constructor) ?_)
        refine o_ (h:=da_ 15 (h:=z_ (h:=?_)))
        refine x_then ?_
        first
        | exact ⟨_, ⟨_, _, _, _, _, rfl⟩, wk 4 0⟩
        | exact ⟨_, ⟨_, _, _, _, _, rfl⟩, wr_ [0, 1, 3, 2]⟩
      refine s_alloc (by repeat constructor) ?_
      refine o_ (h:=?_)
      refine c_ 4 rfl (s_gen 0 (hc := Gname l _ (by omega)) (hR := ?_))
      rintro r a35 ha35 ⟨k35, rfl, hk35⟩
      refine ⟨rfl, _, (by repeat constructor), ?_⟩
      refine o_ (h:=?_)
      refine c_ 7 rfl (s_gen 0 (hc := Gfile l _ f (by omega) hf hne) (hR := ?_))
      rintro r a36 ha36 ⟨x36, rfl⟩
      refine ⟨rfl, _, (by repeat constructor), ?_⟩
      refine o_ (h:=?_)
      refine c_ 9 rfl (s_gen 0 (hc := Gname l _ (by omega)) (hR := ?_))
      rintro r a37 ha37 ⟨k37, rfl, hk37⟩
      refine ⟨rfl, _, (by repeat constructor), ?_⟩
      refine o_ (h:=?_)
      refine c0_ 12 rfl (s_store rfl rfl rfl rfl rfl rfl (by repeat constructor) (by repeat constructor) ?_)
      refine o_ (h:=da_ 13 (h:=?_))
      refine c0_ 14 rfl (s_store rfl rfl rfl rfl rfl rfl (by repeat constructor) (by repeat constructor) ?_)
      refine o_ (h:=da_ 15 (h:=z_ (h:=?_)))
      refine x_then ?_
      first
      | exact ⟨_, ⟨_, _, _, _, _, rfl⟩, wk 4 0⟩
      | exact ⟨_, ⟨_, _, _, _, _, rfl⟩, wr_ [0, 1, 3, 2]⟩
    · refine s_alloc (by repeat constructor) ?_
      refine o_ (h:=?_)
      refine c2_ 2 11 rfl rfl ?_ ?_
      · refine s_gen 0 (hc := Gfile l _ f (by omega) hf hne) (hR := ?_)
        rintro r a38 ha38 ⟨x38, rfl⟩
        refine ⟨rfl, _, (by repeat constructor), ?_⟩
        refine o_ (h:=?_)
        refine c2_ 4 11 rfl rfl ?_ ?_
        · refine s_gen 0 (hc := Gname l _ (by omega)) (hR := ?_)
          rintro r a39 ha39 ⟨k39, rfl, hk39⟩
          refine ⟨rfl, _, (by repeat constructor), ?_⟩
          refine o_ (h:=?_)
          refine c2_ 7 11 rfl rfl ?_ ?_
          · refine s_gen 0 (hc := Gfile l _ f (by omega) hf hne) (hR := ?_)
            rintro r a40 ha40 ⟨x40, rfl⟩
            refine ⟨rfl, _, (by repeat constructor), ?_⟩
            refine o_ (h:=?_)
            refine c2_ 9 11 rfl rfl ?_ ?_
            · refine s_gen 0 (hc := Gname l _ (by omega)) (hR := ?_)
              rintro r a41 ha41 ⟨k41, rfl, hk41⟩
              refine ⟨rfl, _, (by repeat constructor), ?_⟩
              refine o_ (h:=?_)
              refine c_ 11 rfl (s_alloc (by repeat constructor) ?_)
              refine o_ (h:=?_)
              refine c0_ 12 rfl (s_store rfl rfl rfl rfl rfl rfl (by repeat constructor) (by repeat constructor) ?_)
              refine o_ (h:=da_ 13 (h:=?_))
              refine c0_ 14 rfl (s_store rfl rfl rfl rfl rfl rfl (by repeat constructor) (by repeat constructor) ?_)
              refine o_ (h:=da_ 15 (h:=z_ (h:=?_)))
              refine x_then ?_
              first
              | exact ⟨_, ⟨_, _, _, _, _, rfl⟩, wk 4 0⟩
              | exact ⟨_, ⟨_, _, _, _, _, rfl⟩, wr_ [0, 1, 3, 2]⟩
            refine s_alloc (by repeat constructor) ?_
            refine o_ (h:=?_)
            refine c_ 9 rfl (s_gen 0 (hc := Gname l _ (by omega)) (hR := ?_))
            rintro r a42 ha42 ⟨k42, rfl, hk42⟩
            refine ⟨rfl, _, (by repeat constructor), ?_⟩
            refine o_ (h:=?_)
            refine c0_ 12 rfl (s_store rfl rfl rfl rfl rfl rfl (by repeat constructor) (by repeat constructor) ?_)
            refine o_ (h:=da_ 13 (h:=?_))
            refine c0_ 14 rfl (s_store rfl rfl rfl rfl rfl rfl (by repeat constructor) (by repeat constructor) ?_)
            refine o_ (h:=da_ 15 (h:=z_ (h:=?_)))
            refine x_then ?_
            first
            | exact ⟨_, ⟨_, _, _, _, _, rfl⟩, wk 4 0⟩
            | exact ⟨_, ⟨_, _, _, _, _, rfl⟩, wr_ [0, 1, 3, 2]⟩
          refine s_alloc (by repeat constructor) ?_
          refine o_ (h:=?_)
          refine c_ 7 rfl (s_gen 0 (hc := Gfile l _ f (by omega) hf hne) (hR := ?_))
          rintro r a43 ha43 ⟨x43, rfl⟩
          refine ⟨rfl, _, (by repeat constructor), ?_⟩
          refine o_ (h:=?_)
          refine c_ 9 rfl (s_gen 0 (hc := Gname l _ (by omega)) (hR := ?_))
          rintro r a44 ha44 ⟨k44, rfl, hk44⟩
          refine ⟨rfl, _, (by repeat constructor), ?_⟩
          refine o_ (h:=?_)
          refine c0_ 12 rfl (s_store rfl rfl rfl rfl rfl rfl (by repeat constructor) (by repeat constructor) ?_)
          refine o_ (h:=da_ 13 (h:=?_))
          refine c0_ 14 rfl (s_store rfl rfl rfl rfl rfl rfl (by repeat constructor) (by repeat constructor) ?_)
          refine o_ (h:=da_ 15 (h:=z_ (h:=?_)))
          refine x_then ?_
          first
          | exact ⟨_, ⟨_, _, _, _, _, rfl⟩, wk 4 0⟩
          | exact ⟨_, ⟨_, _, _, _, _, rfl⟩, wr_ [0, 1, 3, 2]⟩
        refine s_alloc (by repeat constructor) ?_
        refine o_ (h:=?_)
        refine c_ 4 rfl (s_gen 0 (hc := Gname l _ (by omega)) (hR := ?_))
        rintro r a45 ha45 ⟨k45, rfl, hk45⟩
        refine ⟨rfl, _, (by repeat constructor), ?_⟩
        refine o_ (h:=?_)
        refine c_ 7 rfl (s_gen 0 (hc := Gfile l _ f (by omega) hf hne) (hR := ?_))
        rintro r a46 ha46 ⟨x46, rfl⟩
        refine ⟨rfl, _, (by repeat constructor), ?_⟩
        refine o_ (h:=?_)
        refine c_ 9 rfl (s_gen 0 (hc := Gname l _ (by omega)) (hR := ?_))
        rintro r a47 ha47 ⟨k47, rfl, hk47⟩
        refine ⟨rfl, _, (by repeat constructor), ?_⟩
        refine o_ (h:=?_)
        refine c0_ 12 rfl (s_store rfl rfl rfl rfl rfl rfl (by repeat constructor) (by repeat constructor) ?_)
        refine o_ (h:=da_ 13 (h:=?_))
        refine c0_ 14 rfl (s_store rfl rfl rfl rfl rfl rfl (by repeat constructor) (by repeat constructor) ?_)
        refine o_ (h:=da_ 15 (h:=z_ (h:=?_)))
        refine x_then ?_
        first
        | exact ⟨_, ⟨_, _, _, _, _, rfl⟩, wk 4 0⟩
        | exact ⟨_, ⟨_, _, _, _, _, rfl⟩, wr_ [0, 1, 3, 2]⟩
      refine s_alloc (by repeat constructor) ?_
      refine o_ (h:=?_)
      refine c_ 2 rfl (s_gen 0 (hc := Gfile l _ f (by omega) hf hne) (hR := ?_))
      rintro r a48 ha48 ⟨x48, rfl⟩
      refine ⟨rfl, _, (by repeat constructor), ?_⟩
      refine o_ (h:=?_)
      refine c_ 4 rfl (s_gen 0 (hc := Gname l _ (by omega)) (hR := ?_))
      rintro r a49 ha49 ⟨k49, rfl, hk49⟩
      refine ⟨rfl, _, (by repeat constructor), ?_⟩
      refine o_ (h:=?_)
      refine c_ 7 rfl (s_gen 0 (hc := Gfile l _ f (by omega) hf hne) (hR := ?_))
      rintro r a50 ha50 ⟨x50, rfl⟩
      refine ⟨rfl, _, (by repeat constructor), ?_⟩
      refine o_ (h:=?_)
      refine c_ 9 rfl (s_gen 0 (hc := Gname l _ (by omega)) (hR := ?_))
      rintro r a51 ha51 ⟨k51, rfl, hk51⟩
      refine ⟨rfl, _, (by repeat constructor), ?_⟩
      refine o_ (h:=?_)
      refine c0_ 12 rfl (s_store rfl rfl rfl rfl rfl rfl (by repeat constructor) (by repeat constructor) ?_)
      refine o_ (h:=da_ 13 (h:=?_))
      refine c0_ 14 rfl (s_store rfl rfl rfl rfl rfl rfl (by repeat constructor) (by repeat constructor) ?_)
      refine o_ (h:=da_ 15 (h:=z_ (h:=?_)))
      refine x_then ?_
      first
      | exact ⟨_, ⟨_, _, _, _, _, rfl⟩, wk 4 0⟩
      | exact ⟨_, ⟨_, _, _, _, _, rfl⟩, wr_ [0, 1, 3, 2]⟩
    refine s_alloc (by repeat constructor) ?_
    refine o_ (h:=?_)
    refine c2_ 2 10 rfl rfl ?_ ?_
    · refine s_gen 0 (hc := Gfile l _ f (by omega) hf hne) (hR := ?_)
      rintro r a52 ha52 ⟨x52, rfl⟩
      refine ⟨rfl, _, (by repeat constructor), ?_⟩
      refine o_ (h:=?_)
      refine c2_ 4 10 rfl rfl ?_ ?_
      · refine s_gen 0 (hc := Gname l _ (by omega)) (hR := ?_)
        rintro r a53 ha53 ⟨k53, rfl, hk53⟩
        refine ⟨rfl, _, (by repeat constructor), ?_⟩
        refine o_ (h:=?_)
        refine c2_ 7 10 rfl rfl ?_ ?_
        · refine s_gen 0 (hc := Gfile l _ f (by omega) hf hne) (hR := ?_)
          rintro r a54 ha54 ⟨x54, rfl⟩
          refine ⟨rfl, _, (by repeat constructor), ?_⟩
          refine o_ (h:=?_)
          refine c2_ 9 10 rfl rfl ?_ ?_
          · refine s_gen 0 (hc := Gname l _ (by omega)) (hR := ?_)
            rintro r a55 ha55 ⟨k55, rfl, hk55⟩
            refine ⟨rfl, _, (by repeat constructor), ?_⟩
            refine o_ (h:=?_)
            refine c_ 10 rfl (s_alloc (by repeat constructor) ?_)
            refine o_ (h:=?_)
            refine c0_ 12 rfl (s_store rfl rfl rfl rfl rfl rfl (by repeat constructor) (by repeat constructor) ?_)
            refine o_ (h:=da_ 13 (h:=?_))
            refine c0_ 14 rfl (s_store rfl rfl rfl rfl rfl rfl (by repeat constructor) (by repeat constructor) ?_)
            refine o_ (h:=da_ 15 (h:=z_ (h:=?_)))
            refine x_then ?_
            first
            | exact ⟨_, ⟨_, _, _, _, _, rfl⟩, wk 4 0⟩
            | exact ⟨_, ⟨_, _, _, _, _, rfl⟩, wr_ [0, 1, 3, 2]⟩
          refine s_alloc (by repeat constructor) ?_
          refine o_ (h:=?_)
          refine c_ 9 rfl (s_gen 0 (hc := Gname l _ (by omega)) (hR := ?_))
          rintro r a56 ha56 ⟨k56, rfl, hk56⟩
          refine ⟨rfl, _, (by repeat constructor), ?_⟩
          refine o_ (h:=?_)
          refine c0_ 12 rfl (s_store rfl rfl rfl rfl rfl rfl (by repeat constructor) (by repeat constructor) ?_)
          refine o_ (h:=da_ 13 (h:=?_))
          refine c0_ 14 rfl (s_store rfl rfl rfl rfl rfl rfl (by repeat constructor) (by repeat constructor) ?_)
          refine o_ (h:=da_ 15 (h:=z_ (h:=?_)))
          refine x_then ?_
          first
          | exact ⟨_, ⟨_, _, _, _, _, rfl⟩, wk 4 0⟩
          | exact ⟨_, ⟨_, _, _, _, _, rfl⟩, wr_ [0, 1, 3, 2]⟩
        refine s_alloc (by repeat constructor) ?_
        refine o_ (h:=?_)
        refine c_ 7 rfl (s_gen 0 (hc := Gfile l _ f (by omega) hf hne) (hR := ?_))
        rintro r a57 ha57 ⟨x57, rfl⟩
        refine ⟨rfl, _, (by repeat constructor), ?_⟩
        refine o_ (h:=?_)
        refine c_ 9 rfl (s_gen 0 (hc := Gname l _ (by omega)) (hR := ?_))
        rintro r a58 ha58 ⟨k58, rfl, hk58⟩
        refine ⟨rfl, _, (by repeat constructor), ?_⟩
        refine o_ (h:=?_)
        refine c0_ 12 rfl (s_store rfl rfl rfl rfl rfl rfl (by repeat constructor) (by repeat constructor) ?_)
        refine o_ (h:=da_ 13 (h:=?_))
        refine c0_ 14 rfl (s_store rfl rfl rfl rfl rfl rfl (by repeat constructor) (by repeat constructor) ?_)
        refine o_ (h:=da_ 15 (h:=z_ (h:=?_)))
        refine x_then ?_
        first
        | exact ⟨_, ⟨_, _, _, _, _, rfl⟩, wk 4 0⟩
        | exact ⟨_, ⟨_, _, _, _, _, rfl⟩, wr_ [0, 1, 3, 2]⟩
      refine s_alloc (by repeat constructor) ?_
      refine o_ (h:=?_)
      refine c_ 4 rfl (s_gen 0 (hc := Gname l _ (by omega)) (hR := ?_))
      rintro r a59 ha59 ⟨k59, rfl, hk59⟩
      refine ⟨rfl, _, (by repeat constructor), ?_⟩
      refine o_ (h:=?_)
      refine c_ 7 rfl (s_gen 0 (hc := Gfile l _ f (by omega) hf hne) (hR := ?_))
      rintro r a60 ha60 ⟨x60, rfl⟩
      refine ⟨rfl, _, (by repeat constructor), ?_⟩
      refine o_ (h:=?_)
      refine c_ 9 rfl (s_gen 0 (hc := Gname l _ (by omega)) (hR := ?_))
      rintro r a61 ha61 ⟨k61, rfl, hk61⟩
      refine ⟨rfl, _, (by repeat constructor), ?_⟩
      refine o_ (h:=?_)
      refine c0_ 12 rfl (s_store rfl rfl rfl rfl rfl rfl (by repeat constructor) (by repeat constructor) ?_)
      refine o_ (h:=da_ 13 (h:=?_))
      refine c0_ 14 rfl (s_store rfl rfl rfl rfl rfl rfl (by repeat constructor) (by repeat constructor) ?_)
      refine o_ (h:=da_ 15 (h:=z_ (h:=?_)))
      refine x_then ?_
      first
      | exact ⟨_, ⟨_, _, _, _, _, rfl⟩, wk 4 0⟩
      | exact ⟨_, ⟨_, _, _, _, _, rfl⟩, wr_ [0, 1, 3, 2]⟩
    refine s_alloc (by repeat constructor) ?_
    refine o_ (h:=?_)
    refine c_ 2 rfl (s_gen 0 (hc := Gfile l _ f (by omega) hf hne) (hR := ?_))
    rintro r a62 ha62 ⟨x62, rfl⟩
    refine ⟨rfl, _, (by repeat constructor), ?_⟩
    refine o_ (h:=?_)
    refine c_ 4 rfl (s_gen 0 (hc := Gname l _ (by omega)) (hR := ?_))
    rintro r a63 ha63 ⟨k63, rfl, hk63⟩
    refine ⟨rfl, _, (by repeat constructor), ?_⟩
    refine o_ (h:=?_)
    refine c_ 7 rfl (s_gen 0 (hc := Gfile l _ f (by omega) hf hne) (hR := ?_))
    rintro r a64 ha64 ⟨x64, rfl⟩
    refine ⟨rfl, _, (by repeat constructor), ?_⟩
    refine o_ (h:=?_)
    refine c_ 9 rfl (s_gen 0 (hc := Gname l _ (by omega)) (hR := ?_))
    rintro r a65 ha65 ⟨k65, rfl, hk65⟩
    refine ⟨rfl, _, (by repeat constructor), ?_⟩
    refine o_ (h:=?_)
    refine c0_ 12 rfl (s_store rfl rfl rfl rfl rfl rfl (by repeat constructor) (by repeat constructor) ?_)
    refine o_ (h:=da_ 13 (h:=?_))
    refine c0_ 14 rfl (s_store rfl rfl rfl rfl rfl rfl (by repeat constructor) (by repeat constructor) ?_)
    refine o_ (h:=da_ 15 (h:=z_ (h:=?_)))
    refine x_then ?_
    first
    | exact ⟨_, ⟨_, _, _, _, _, rfl⟩, wk 4 0⟩
    | exact ⟨_, ⟨_, _, _, _, _, rfl⟩, wr_ [0, 1, 3, 2]⟩
  rintro t ⟨x, y, k, k2, b, rfl⟩
  refine w_ (l_ (h:=l_ (h:=m_ (h:=?_))))
  refine al_p rfl (q_call (Rlook f y k2 hf) ?_)
  rintro r rfl
  refine m_ (h:=x_ (h:=x_ (h:=al_ (h:=s_ (h:=a_ (h:=e_ (w_ (l_ (h:=l_ (h:=m_ (h:=l_ (h:=m_ (h:=?_)))))))))))))
  refine al_p rfl (q_call (Prename f x k y k2 hv) ?_)
  rintro r rfl
  refine m_ (h:=x_ (h:=x_ (h:=x_ (h:=al_ (h:=s_ (h:=a_ (h:=a_ (h:=e_ (q_ (w_ (m_ (h:=nq_ (h:=m_ (h:=?_))))))))))))))
  refine al_gs false rfl rfl (fun hb1 => ?_) (fun hb1 => ?_)
  · have hc1 := bp hb1
    refine g0_ (h:=g0_ (h:=pt_ (h:=e_ (cy_ (h:=w_ (?_))))))
    refine al_p rfl (q_call (Lawake5) ?_)
    rintro r rfl
    refine a_ (h:=e_ (aw_ret (x_thenR (?_))))
    refine e_ret ?_
    rfl
  have hc1 := bp hb1
  refine m_ (h:=eq_ (h:=pf_ (h:=e_ (?_))))
  refine aw_cond rfl (fun hb2 => ?_) (fun hb2 => ?_)
  · have hc2 := bp hb2
    refine w_ (?_)
    refine al_p rfl (q_call (Lawake5) ?_)
    rintro r rfl
    refine a_ (h:=e_ (aw_ret (x_thenR (?_))))
    refine e_ret ?_
    rfl
  have hc2 := bp hb2
  obtain ⟨A, hv1, hcs, ch1, ch2, hbk⟩ := there hv hc1 hc2
  have hback : AFn Try.prog 47 [.agg (flsA (renameL f x k y k2).1), .agg (filA y), .v (.string k2), .agg (filA x), .v (.string k)] (fun r => r = .tup [.agg (flsA f), .sl 7 [chgA ch1, chgA ch2] none, .v (.int .i64 0)]) := (Prename _ y k2 x k hv1).mono fun r hr => by rw [hr, hbk]; rfl
  rw [hcs]
  refine kt_ (w_ (l_ (h:=l_ (h:=m_ (h:=l_ (h:=m_ (h:=?_)))))))
  refine al_p rfl (q_call (hback) ?_)
  rintro r rfl
  refine m_ (h:=x_ (h:=x_ (h:=x_ (h:=al_ (h:=s_ (h:=a_ (h:=a_ (h:=e_ (q_ (yr_ 32 (h:=dm_ 0 (h:=deq_ 1 (h:=dm_ 2 (h:=?_))))))))))))))
  refine aa_both (j := 2) rfl (fun hb3 => ?_) (fun hb3 => ?_)
  · have hc3 := bp hb3
    refine dm_ 3 (h:=dn_ 4 (h:=deq_ 5 (h:=dpt_ 6 (h:=dm_ 7 (h:=?_)))))
    refine aa_both (j := 7) rfl (fun hb4 => ?_) (fun hb4 => ?_)
    · have hc4 := bp hb4
      refine dm_ 8 (h:=dn_ 9 (h:=deq_ 10 (h:=dpt_ 11 (h:=dm_ 12 (h:=?_)))))
      refine aa_both (j := 12) rfl (fun hb5 => ?_) (fun hb5 => ?_)
      · have hc5 := bp hb5
        refine dm_ 13 (h:=di_ 14 (h:=df_ 15 (h:=dl_ 16 (h:=dm_ 17 (h:=di_ 18 (h:=df_ 19 (h:=dl_ 20 (h:=?_))))))))
        refine r_y (i := 21) rfl (st_binA rfl rfl (by repeat constructor) (by repeat constructor) (fun w => eqlFil A.1 A.2 A.1 A.2 w) (by kernel_rfl) ⟨rfl, rfl⟩) ?_
        refine dpt_ 22 (h:=dm_ 23 (h:=?_))
        refine aa_both (j := 23) rfl (fun hb6 => ?_) (fun hb6 => ?_)
        · have hc6 := bp hb6
          refine dl_ 24 (h:=dl_ 25 (h:=?_))
          refine c_ 26 rfl (q_call (RsameF f hf) ?_)
          rintro r rfl
          refine o_ (h:=dpt_ 27 (h:=dm_ 28 (h:=?_)))
          refine aa_both (j := 28) rfl (fun hb7 => ?_) (fun hb7 => ?_)
          · have hc7 := bp hb7
            refine c_ 29 rfl (q_call (Lawake5) ?_)
            rintro r rfl
            refine o_ (h:=dpt_ 30 (h:=da_ 31 (h:=z_ (h:=t_ (aw_ret (?_))))))
            refine e_ret ?_
            rfl
          have hc7 := bp hb7
          exact Bool.noConfusion hc7
        have hc6 := bp hb6
        exact absurd rfl hc6
      have hc5 := bp hb5
      exact absurd rfl hc5
    have hc4 := bp hb4
    exact absurd rfl hc4
  have hc3 := bp hb3
  exact absurd rfl hc3

end
end Go.Proofs.Ythcbdkmhamhciaa
namespace Go.Proofs.Ythcbdkmhamhciaa
open Go.RowKit

def StAll (w : World) : Nat → Nat → Prop := fun b _ => b < w.heap.size
def Opens (P : Program) (t : TypeId) (R : List AV → Prop) : Prop :=
  ∀ (H : Type) (enc : TypeId × Value → H) (w : World) (base : Nat) (spare : Nat → Bool) (held : Bool) (fuel : Nat) (cs : List Value) (x : DataW H × List MemPlace), DataW.trod enc P w base spare held fuel t cs = some x →
    ∃ row, R row ∧ froL (StAll w) w row cs ∧ ∀ u ∈ cs, u.oneCell' = true
section
variable {P : Program} {t : TypeId}
theorem Opens.mono {R R' : List AV → Prop} (h : Opens P t R) (hR : ∀ r, R r → R' r) : Opens P t R' := by
  intro H enc w base spare held fuel cs x hx
  obtain ⟨row, h1, h2⟩ := h H enc w base spare held fuel cs x hx
  exact ⟨row, hR _ h1, h2⟩
theorem opens_int {k : IntKind} (ht : P.underlying t = some (.int k)) : Opens P t fun r => ∃ n, r = [.v (.int k n)] ∧ (Lit.int k n).wf = true := by
  intro H enc w base spare held fuel cs x hx
  obtain ⟨b, rfl, _, hw⟩ := DataW.trod_int ht hx
  exact ⟨_, ⟨b, rfl, hw⟩, ⟨_, _, rfl, by simp only [fro], by simp only [froL]⟩, by simp [Value.oneCell']⟩
theorem cell_lt' {w : World} {b o : Nat} {v : Value} (h : w.cell? ⟨b, o, none⟩ = some v) : b < w.heap.size := by
  rcases Nat.lt_or_ge b w.heap.size with hlt | hge
  · exact hlt
  simp [World.cell?, Array.getElem?_eq_none hge] at h
theorem froL_length' {St : Nat → Nat → Prop} {w : World} {xs : List AV} {ys : List Value} (h : froL St w xs ys) : ys.length = xs.length := repL_length (G := ⟨St, [], []⟩) (repL_fro (G := ⟨St, [], []⟩) _ _ h)
theorem opens_slice {e : TypeId} {n : Nat} {R : List AV → Prop} (ht : P.underlying t = some (.slice e)) (hc : P.cellsOf e = n) (hn : 0 < n) (h : Opens P e R) : Opens P t fun r => ∃ rows, r = [.sl n rows none] ∧ rows.length ≤ maxLen ∧ ∀ x ∈ rows, R x := by
  intro H enc w base spare held fuel cs x hx
  rcases DataW.trod_slice ht hx with ⟨rfl, _⟩ | ⟨⟨b, off, spot⟩, len, cap, elems, rest, m, rfl, rfl, _, hb, hl, hm, hlen, hel, _, _⟩
  · exact ⟨_, ⟨[], rfl, Nat.zero_le _, by simp⟩, ⟨_, _, rfl, by simp only [fro]; exact ⟨trivial, none, 0, rfl, Nat.le_refl _, Nat.zero_le _, .inl trivial⟩, by simp only [froL]⟩, by simp [Value.oneCell']⟩
  have each : ∀ i, i < len → ∃ row cs', R row ∧ row.length = n ∧ froL (StAll w) w row cs' ∧ (∀ u ∈ cs', u.oneCell' = true) ∧ cs'.length = n ∧ ∀ j, j < n → w.cell? (Addr.add ⟨b, off, spot⟩ (i * n + j)) = cs'[j]? := by
    intro i hi
    have h1 := hel i hi
    rw [hc, List.getElem?_eq_getElem (by omega), Option.bind_eq_some_iff] at h1
    obtain ⟨cs', h2, h3⟩ := h1
    obtain ⟨row, r1, r2, r3⟩ := h _ _ _ _ _ _ _ _ _ h3
    obtain ⟨_, c1, c2⟩ := World.cells?_some h2
    refine ⟨row, cs', r1, by rw [← froL_length' r2, c1], r2, r3, c1, fun j hj => ?_⟩
    have := c2 j hj
    rwa [Addr.add_add] at this
  have hrows : ∃ rows : List (List AV), rows.length = len ∧ (∀ i, i < len → ∃ row cs', rows[i]? = some row ∧ R row ∧ row.length = n ∧ froL (StAll w) w row cs' ∧ (∀ u ∈ cs', u.oneCell' = true) ∧ cs'.length = n ∧ ∀ j, j < n → w.cell? (Addr.add ⟨b, off, spot⟩ (i * n + j)) = cs'[j]?) := by
    clear hel
    have : ∀ k, k ≤ len → ∃ rows : List (List AV), rows.length = k ∧ (∀ i, i < k → ∃ row cs', rows[i]? = some row ∧ R row ∧ row.length = n ∧ froL (StAll w) w row cs' ∧ (∀ u ∈ cs', u.oneCell' = true) ∧ cs'.length = n ∧ ∀ j, j < n → w.cell? (Addr.add ⟨b, off, spot⟩ (i * n + j)) = cs'[j]?) := by
      intro k
      induction k with
      | zero => intro _; exact ⟨[], rfl, fun i hi => by omega⟩
      | succ k ih =>
        intro hk
        obtain ⟨rows, e1, e2⟩ := ih (by omega)
        obtain ⟨row, cs', q⟩ := each k (by omega)
        refine ⟨rows ++ [row], by simp [e1], fun i hi => ?_⟩
        rcases Nat.lt_or_ge i k with hlt | hge
        · obtain ⟨row', cs'', q1, q2⟩ := e2 i hlt
          exact ⟨row', cs'', by rw [List.getElem?_append_left (by omega)]; exact q1, q2⟩
        obtain rfl : i = k := by omega
        exact ⟨row, cs', by rw [List.getElem?_append_right (by omega), e1]; simp, q⟩
    exact this len (Nat.le_refl _)
  obtain ⟨rows, e1, e2⟩ := hrows
  refine ⟨_, ⟨rows, rfl, by omega, fun x hx => ?_⟩, ⟨_, _, rfl, ?_, by simp only [froL]⟩, by simp [Value.oneCell']⟩
  · obtain ⟨i, hi⟩ := List.getElem?_of_mem hx
    obtain ⟨row, _, q1, q2, _⟩ := e2 i (by rw [← e1]; exact (List.getElem?_eq_some_iff.1 hi).1)
    rw [hi] at q1
    injection q1 with q1
    subst q1
    exact q2
  simp only [fro]
  refine ⟨trivial, some ⟨b, off, spot⟩, cap, by rw [e1], by omega, hm, ?_⟩
  rcases Nat.eq_zero_or_pos len with h0 | h0
  · left; exact List.eq_nil_of_length_eq_zero (by omega)
  right
  have hspot : spot = none := by
    obtain ⟨_, cs', _, _, _, _, _, c3, c4⟩ := e2 0 h0
    have := c4 0 hn
    rw [List.getElem?_eq_getElem (by omega)] at this
    simpa [Addr.add] using World.cell?_spot this
  subst hspot
  refine ⟨b, off, rfl, ?_⟩
  have : ∀ (rs : List (List AV)) (k : Nat), (∀ i r, rs[i]? = some r → rows[k + i]? = some r) → froR (StAll w) w b n rs (off + k * n) := by
    intro rs
    induction rs with
    | nil => intro k _; simp only [froR]
    | cons r rs ih =>
      intro k hk
      simp only [froR]
      have h1 := hk 0 r rfl
      rw [Nat.add_zero] at h1
      obtain ⟨row, cs', q1, _, q3, q4, q5, q6, q7⟩ := e2 k (by rw [← e1]; exact (List.getElem?_eq_some_iff.1 h1).1)
      rw [h1] at q1
      injection q1 with q1
      subst q1
      refine ⟨⟨q3, froC_of fun i x hi => ?_⟩, ?_⟩
      · obtain ⟨u, u1, u2⟩ := froL_get q4 hi
        have hin : i < n := by rw [← q3]; exact (List.getElem?_eq_some_iff.1 hi).1
        have hc := q7 i hin
        rw [u1] at hc
        have hc' : w.cell? ⟨b, off + k * n + i, none⟩ = some u := by rw [Addr.add_mid] at hc; rwa [Nat.add_assoc]
        exact ⟨cell_lt' hc', u, hc', q5 u (List.mem_of_getElem? u1), u2⟩
      have := ih (k + 1) (fun i r' hi => by
        have := hk (i + 1) r' (by simpa using hi)
        rwa [show k + 1 + i = k + (i + 1) by omega])
      rwa [show off + (k + 1) * n = off + k * n + n by rw [Nat.add_mul]; omega] at this
  simpa using this rows 0 (fun i r hi => by simpa using hi)
theorem rows_map {α : Type} {enc : α → List AV} {Q : α → Prop} : ∀ {rows : List (List AV)}, (∀ x ∈ rows, ∃ a, x = enc a ∧ Q a) → ∃ l : List α, rows = l.map enc ∧ ∀ a ∈ l, Q a
  | [], _ => ⟨[], rfl, by simp⟩
  | r :: rs, h => by
    obtain ⟨a, rfl, ha⟩ := h r (by simp)
    obtain ⟨l, rfl, hl⟩ := rows_map (rows := rs) fun x hx => h x (by simp [hx])
    exact ⟨a :: l, rfl, by simpa using ⟨ha, hl⟩⟩
theorem Opens.one {R : List AV → Prop} (h : Opens P t R) {H : Type} {enc : TypeId × Value → H} {w : World} {base : Nat} {spare : Nat → Bool} {held : Bool} {v : Value} {d : DataW H} {ps : List MemPlace} (hv : v.cells = #[v]) (hd : DataW.Trod enc P w base spare held t v d ps) :
    ∃ row, R row ∧ froL (StAll w) w row [v] := by
  obtain ⟨fuel, hf⟩ := hd
  rw [hv] at hf
  obtain ⟨row, h1, h2, _⟩ := h _ _ _ _ _ _ _ _ _ hf
  exact ⟨row, h1, h2⟩
end
end Go.Proofs.Ythcbdkmhamhciaa
namespace Go.Proofs.Ythcbdkmhamhciaa
open Go.RowKit

theorem opInts : Opens Try.prog 31 (fun r => ∃ l : List Int, r = [.sl 1 (l.map intA) none]) :=
  (opens_slice (n := 1) Try.underlying31 (by kernel_rfl) (by omega) (opens_int Try.underlying3)).mono (by
    rintro r ⟨rows, rfl, _, hr⟩
    obtain ⟨l, rfl, _⟩ := rows_map (enc := intA) (Q := fun _ => True) (fun x hx => by obtain ⟨t, rfl, _⟩ := hr x hx; exact ⟨t, rfl, trivial⟩)
    exact ⟨l, rfl⟩)
theorem ints_one {H : Type} {enc : TypeId × Value → H} {sp : Nat → Bool} {held : Bool} {base : Nat} {w : World} {a : Option Addr} {n c : Nat} {d : DataW H} {p : List MemPlace} (h : DataW.Trod enc Try.prog w base sp held 31 (.slice a n c) d p) :
    ∃ l : List Int, rep ⟨StAll w, [], []⟩ w (.sl 1 (l.map intA) none) (.slice a n c) := by
  obtain ⟨r0, ⟨l, rfl⟩, k0⟩ := opInts.one rfl h
  simp only [froL] at k0
  obtain ⟨_, _, e0, k0, rfl⟩ := k0
  injection e0 with e0
  subst e0
  exact ⟨l, rep_fro (G := ⟨StAll w, [], []⟩) _ _ k0⟩
theorem walk_ints {f : FuncId} (hf : ∀ l : List Int, AFn Try.prog f [.sl 1 (l.map intA) none] (fun x => x = .v (.bool true))) {H : Type} {enc : TypeId × Value → H} {sp : Nat → Bool} {held : Bool} {base : Nat} (a : Option Addr) (n c : Nat) (w : World) {d : DataW H} {p : List MemPlace}
    (h : DataW.Trod enc Try.prog w base sp held 31 (.slice a n c) d p) : Calls Try.prog f #[.slice a n c] w fun e w' => e = .returned (.bool true) ∧ Below w.heap.size w w' := by
  obtain ⟨l, k⟩ := ints_one h
  refine calls_of (vs := [.slice a n c]) (hf l) (StAll w) (fun b o h => h) ?_
  simp only [repL]
  exact ⟨_, _, rfl, k, rfl⟩
end Go.Proofs.Ythcbdkmhamhciaa
namespace Go.Proofs.Ythcbdkmhamhciaa
open Go.RowKit
theorem FilesThere_walk {H : Type} {enc : TypeId × Value → H} {sp : Nat → Bool} {held : Bool} {base : Nat} (a : Option Addr) (n c : Nat) (w : World) {d : DataW H} {p : List MemPlace} (h : DataW.Trod enc Try.prog w base sp held 31 (.slice a n c) d p) :
    Calls Try.prog 12 #[.slice a n c] w fun e w' => e = .returned (.bool true) ∧ Below w.heap.size w w' := walk_ints Lthere a n c w h
end Go.Proofs.Ythcbdkmhamhciaa
