/-
  Part 15 of the proof of FilesSpoiledP: what the statement's proof uses of the texts in wip/tpl.
-/
import Derived.Test.YthcbdkmhamhciaaQs14
namespace Go.Proofs.Ythcbdkmhamhciaa
open Go.RowKit
section
set_option maxRecDepth 20000
set_option maxHeartbeats 4000000
theorem LspoilA (l : List Int) (a m : Nat) (f : Fls) (q : Nat) (d : Dvc) (ha : a ≤ 1000000000) (hm : m ≤ 900) (hs : FlsS m f) (hqv : nV l a (f.length : Int) = (q : Int)) (hq : f[q]? = some d) (h0 : d.nodes = []) : GenF Try.prog 39 l a [.agg (flsA f)] 60 (fun r => ∃ g, FlsS (m + 1) g ∧ r = .agg (flsA g)) := by
 have hql := (List.getElem?_eq_some_iff.1 hq).1
 have hfw := hs.few
 have hb := (hs.t (by omega)).b
 have hrow : (f.map dvcA)[q]? = some (dvcA d) := by rw [List.getElem?_map, hq]; rfl
 have hfl : (f.map dvcA).length = f.length := by simp
 have hd0 : (d.nodes.map nodA).length = 0 := by rw [h0]; rfl
 have hgn := GnD l a (f.length : Int) (by omega) (by omega) (by omega)
 rw [← hfl] at hgn
 refine enter Try.func39 rfl rfl rfl rfl rfl 1 rfl ?_
 refine w_ (b_ (h:=al_ (h:=e_ (w_ (l_ (h:=?_))))))
 refine al_p rfl (q_call (RcopyF f hb) ?_)
 rintro r rfl
 refine s_ (h:=e_ (q_ (yk_ ([(1, flsA f)]) 9 (h:=df_ 0 (h:=dl_ 1 (h:=dm_ 2 (h:=df_ 3 (h:=dl_ 4 (h:=dn_ 5 (h:=?_))))))))))
 refine c_ 6 rfl (s_callB 0 rfl (by repeat (first | exact ArgsB.nil | refine ArgsB.cons _ _ _ _ _ rfl rfl ?_)) rfl rfl hgn ?_)
 rintro r row ⟨rfl, rfl⟩
 rw [hfl, hqv]
 refine ⟨rfl, rfl, _, (by repeat constructor), ?_⟩
 refine o_ (h:=?_)
 refine tk_ 7 rfl (fun _ hS => st_index (n := q) rfl rfl rfl hrow ⟨rfl, rfl⟩) ?_
 refine da_ 8 (h:=z_ (h:=t_ (q_ (w_ (m_ (h:=k_ (h:=f_ (h:=l_ (h:=n_ (h:=eq_ (h:=e_ (?_))))))))))))
 refine aw_cond rfl (fun hb1 => ?_) (fun hb1 => ?_)
 ·have hc1 := bp hb1
  refine w_ (l_ (h:=s_ (h:=e_ (aw_ret (x_thenR (?_))))))
  refine rt_ (r := .agg (flsA f)) none (h5 := (LeA.refl _)) (h6 := ⟨_, rfl, rfl, a + 1, by omega, rfl, f, hs.up, rfl⟩)
 have hc1 := bp hb1
 exfalso; omega
end
theorem new_valid5 : FlsV (newL 1).1 := (new_valid (by decide) (by decide)).1
def aw5N : Nod := ⟨0, 1, 420, 0, 0, 0, ⟨#[]⟩, []⟩
def aw5F1 : Fls := (mkL (newL 1).1 (0, 1) ⟨#[97]⟩ aw5N).1
def aw5F2 : Fls := (linkL aw5F1 (0, 1) ⟨#[98]⟩ (0, 2)).1
set_option maxRecDepth 100000 in
theorem aw5_make : (mkL (newL 1).1 (0, 1) ⟨#[97]⟩ aw5N).2.2 = 0 ∧ (mkL (newL 1).1 (0, 1) ⟨#[97]⟩ aw5N).2.1 = [((0, 1), ⟨#[97]⟩, (0, 0), (0, 2))] := by decide +kernel
set_option maxRecDepth 100000 in
theorem aw5_link : (linkL aw5F1 (0, 1) ⟨#[98]⟩ (0, 2)).2.2 = 0 := by decide +kernel
set_option maxRecDepth 100000 in
theorem aw5_links : linksF aw5F2 (0, 2) = 2 := by decide +kernel
set_option maxRecDepth 100000 in
theorem aw5_e1 : (nodG (newL 1).1 (0, 1)).entries = [] := by decide +kernel
set_option maxRecDepth 100000 in
theorem aw5_e2 : 0 < (nodG aw5F1 (0, 1)).entries.length := by decide +kernel
theorem aw5_valid : FlsV aw5F1 ∧ FlsV aw5F2 := by
 have h1 : FlsV aw5F1 := (make_okay new_valid5 _ _ _ aw5_make.1).1
 exact ⟨h1, (link_okay h1 _ _ _ aw5_link).1⟩
section
set_option maxRecDepth 10000
set_option maxHeartbeats 1000000
theorem Lawake5 : AFn Try.prog 18 [] (fun r => r = .v (.bool true)) := by
 have hnew : AFn Try.prog 15 [.v (.int .i64 1)] (fun r => r = .tup [.agg (flsA (newL 1).1), .v (.int .i64 0)]) := Pnew 1
 have hmk : AFn Try.prog 24 [.agg (flsA (newL 1).1), .agg [.v (.int .i64 0), .v (.int .i64 1)], .v (.string ⟨#[97]⟩), .agg (nodA aw5N)] (fun r => r = .tup [.agg (flsA aw5F1), .sl 7 [chgA ((0, 1), ⟨#[97]⟩, (0, 0), (0, 2))] none, .v (.int .i64 0)]) :=
  (Pmake0 (newL 1).1 (0, 1) ⟨#[97]⟩ aw5N new_valid5 (by decide) aw5_e1).mono fun r hr => by rw [hr]; unfold chgR; rw [aw5_make.1, aw5_make.2]; rfl
 obtain ⟨c2, hlk⟩ : ∃ c2, AFn Try.prog 27 [.agg (flsA aw5F1), .agg [.v (.int .i64 0), .v (.int .i64 1)], .v (.string ⟨#[98]⟩), .agg [.v (.int .i64 0), .v (.int .i64 2)]] (fun r => r = .tup [.agg (flsA aw5F2), .sl 7 (List.map chgA c2) none, .v (.int .i64 0)]) :=
  ⟨_, (PlinkG aw5F1 (0, 1) ⟨#[98]⟩ (0, 2) aw5_valid.1 aw5_e2).mono fun r hr => by rw [hr]; unfold chgR; rw [aw5_link]; rfl⟩
 have hls : AFn Try.prog 37 [.agg (flsA aw5F2), .agg [.v (.int .i64 0), .v (.int .i64 2)]] (fun r => r = .v (.int .i64 2)) :=
  (Plinks aw5F2 (0, 2) aw5_valid.2.b).mono fun r hr => by rw [hr, aw5_links]; rfl
 refine enter Try.func18 rfl rfl rfl rfl rfl 0 rfl ?_
 refine w_ (a_ (h:=e_ (w_ (?_))))
 refine al_p rfl (q_call (hnew) ?_)
 rintro r rfl
 refine m_ (h:=x_ (h:=x_ (h:=al_ (h:=s_ (h:=a_ (h:=e_ (w_ (bd_ (h:=al_ (h:=s_ (h:=e_ (w_ (l_ (h:=l_ (h:=?_)))))))))))))))
 refine al_p rfl (st_le (y := .agg (nodA aw5N)) (st_build (by repeat (first | exact FillA.nil _ | (apply FillA.cons; (focus exact rfl); (focus exact rfl); (focus exact rfl); (focus exact rfl); (focus exact rfl); (focus (repeat constructor))))) ⟨rfl, rfl⟩) (by repeat (first | exact LeA.refl _ | exact LeA.nil _ | exact LeL.refl _ | refine LeA.agg ?_ | refine LeA.tup ?_ | exact LeL.nil | refine LeL.cons ?_ ?_ | exact LeA.any _)) ?_)
 refine al_p rfl (q_call (hmk) ?_)
 rintro r rfl
 refine m_ (h:=x_ (h:=x_ (h:=x_ (h:=s_ (h:=a_ (h:=a_ (h:=e_ (q_ (w_ (m_ (h:=nq_ (h:=m_ (h:=?_)))))))))))))
 refine al_gs false rfl rfl (fun hb1 => ?_) (fun hb1 => ?_)
 ·have hc1 := bp hb1
  refine g0_ (h:=g0_ (h:=pt_ (h:=m_ (h:=g0_ (h:=g0_ (h:=g0_ (h:=pt_ (h:=e_ (cy_ (h:=w_ (a_ (h:=e_ (aw_ret (x_thenR (?_)))))))))))))))
  refine e_ret ?_
  first | rfl | (exfalso; simp_all)
 have hc1 := bp hb1
 refine m_ (h:=nq_ (h:=pf_ (h:=m_ (h:=?_))))
 refine al_gs false rfl rfl (fun hb2 => ?_) (fun hb2 => ?_)
 ·have hc2 := bp hb2
  refine g0_ (h:=g0_ (h:=g0_ (h:=pt_ (h:=e_ (cy_ (h:=w_ (a_ (h:=e_ (aw_ret (x_thenR (?_)))))))))))
  refine e_ret ?_
  first | rfl | (exfalso; simp_all)
 have hc2 := bp hb2
 refine m_ (h:=n_ (h:=nq_ (h:=pf_ (h:=e_ (?_)))))
 refine aw_cond rfl (fun hb3 => ?_) (fun hb3 => ?_)
 ·have hc3 := bp hb3
  refine w_ (a_ (h:=e_ (aw_ret (x_thenR (?_)))))
  refine e_ret ?_
  first | rfl | (exfalso; simp_all)
 have hc3 := bp hb3
 refine kt_ (q_ (yk_ ([(1, [.v (.int .i64 0), .v (.int .i64 1)])]) 14 (h:=dl_ 1 (h:=dm_ 2 (h:=di_ 3 (h:=df_ 4 (h:=dl_ 5 (h:=?_))))))))
 refine c_ 0 rfl (st_loadBW rfl rfl rfl ?_)
 refine o_ (h:=?_)
 refine c_ 6 rfl (q_call (hlk) ?_)
 rintro r rfl
 refine o_ (h:=dm_ 7 (h:=dx_ 8 (h:=dx_ 9 (h:=dx_ 10 (h:=?_)))))
 refine c0_ 11 rfl (s_store rfl rfl rfl rfl rfl rfl (by repeat constructor) (by repeat constructor) ?_)
 refine o_ (h:=da_ 12 (h:=da_ 13 (h:=z_ (h:=t_ (q_ (yr_ 12 (h:=dm_ 0 (h:=deq_ 1 (h:=dm_ 2 (h:=?_))))))))))
 refine aa_both (j := 2) rfl (fun hb4 => ?_) (fun hb4 => ?_)
 ·have hc4 := bp hb4
  refine dl_ 3 (h:=dm_ 4 (h:=di_ 5 (h:=df_ 6 (h:=dl_ 7 (h:=?_)))))
  refine c_ 8 rfl (q_call (hls) ?_)
  rintro r rfl
  refine o_ (h:=deq_ 9 (h:=dpt_ 10 (h:=da_ 11 (h:=z_ (h:=t_ (aw_ret (?_)))))))
  refine e_ret ?_
  first | rfl | (exfalso; simp_all)
 have hc4 := bp hb4
 refine d0_ 3 (h:=d0_ 4 (h:=d0_ 5 (h:=d0_ 6 (h:=d0_ 7 (h:=d0_ 8 (h:=d0_ 9 (h:=dpf_ 10 (h:=da_ 11 (h:=z_ (h:=t_ (aw_ret (?_))))))))))))
 refine e_ret ?_
 first | rfl | (exfalso; simp_all)
end
end Go.Proofs.Ythcbdkmhamhciaa
namespace Go.Proofs.Ythcbdkmhamhciaa
theorem cnt_two {i : Int} {n p : Nod} (hne : n ≠ p) (h1 : 0 < cntE i n.entries) (h2 : 0 < cntE i p.entries) : ∀ {ns : List Nod}, n ∈ ns → p ∈ ns → 2 ≤ cntN i ns
 | [], hn, _ => by cases hn
 | x :: ns, hn, hp => by
   have pos : ∀ {m : Nod}, m ∈ ns → 0 < cntE i m.entries → 0 < cntN i ns := fun {m} hm h => by
    have : 0 < m.entries.countP (fun e : Ent => e.2 == i) := h
    obtain ⟨e, he, hi⟩ := List.countP_pos_iff.1 this
    exact cntN_pos.2 ⟨m, hm, e, he, by simpa using hi⟩
   rw [cntN_cons]
   rcases List.mem_cons.1 hn with e1 | hn'
   ·subst e1
    rcases List.mem_cons.1 hp with e2 | hp
    ·exact absurd e2.symm hne
    have := pos hp h2
    omega
   rcases List.mem_cons.1 hp with e2 | hp
   ·subst e2
    have := pos hn' h1
    omega
   have := cnt_two hne h1 h2 hn' hp
   omega
theorem cntE_at {i : Int} {es : List Ent} {e : Ent} (he : e ∈ es) (hi : e.2 = i) : 0 < cntE i es := List.countP_pos_iff.2 ⟨e, he, by rw [hi]; simp⟩
section
variable {f : Fls} (hv : FlsV f) {q : Nat} {d : Dvc} (hq : f[q]? = some d)
include hv hq
theorem below_end (rk : Int → Nat) (hrk : ∀ n ∈ d.nodes, n.ino ≠ 1 → n.kind = 2 → rk n.parent < rk n.ino) : ∀ (k : Nat) (n : Nod), n ∈ d.nodes → n.kind = 2 → d.nodes.countP (fun m => decide (m.ino ≠ 1 ∧ rk m.ino ≤ rk n.ino)) + 1 ≤ k → belowP f ((q : Int), 1) k ((q : Int), n.ino) = true := by
 have hd := vdq hv hq
 intro k
 induction k with
 | zero => intro n _ _ hc; omega
 | succ k ih =>
   intro n hn hk hc
   rw [below_succ]
   by_cases h1 : n.ino = 1
   ·rw [if_pos (by rw [h1])]
   rw [if_neg (fun e => h1 (Prod.mk.inj e).2), node_q hv hq hn]
   simp only
   rw [if_neg h1]
   obtain ⟨p, hp, hpi, e, he, _⟩ := hd.par n hn h1 hk
   have hpk : p.kind = 2 := by
    by_cases h : p.kind = 2
    ·exact h
    rw [(hd.leaf p hp h).2] at he; cases he
   rw [← hpi]
   refine ih p hp hpk ?_
   have hlt := hrk n hn h1 hk
   rw [← hpi] at hlt
   have : d.nodes.countP (fun m => decide (m.ino ≠ 1 ∧ rk m.ino ≤ rk p.ino)) < d.nodes.countP (fun m => decide (m.ino ≠ 1 ∧ rk m.ino ≤ rk n.ino)) := by
    refine countP_lt (fun x _ hx => ?_) hn (by simp [h1]) (decide_eq_false fun h => by omega)
    have := of_decide_eq_true hx
    exact decide_eq_true ⟨this.1, by omega⟩
   omega
theorem lnk_true : lnkP f (q : Int) d = true := by
 have hd := vdq hv hq
 obtain ⟨rk, hrk⟩ := hd.rank
 obtain ⟨r, rest, hr, r1, r2, r3⟩ := hd.root
 refine lnk_yes (fun j hj => ?_) fun j hj => ?_
 ·have hx : d.nodes[j]? = some d.nodes[j] := List.getElem?_eq_getElem hj
  generalize d.nodes[j] = n at hx
  have hn := List.mem_of_getElem? hx
  unfold lnksAt
  rw [hx]
  refine range_yes fun i hi => ?_
  have he : n.entries[i]? = some n.entries[i] := List.getElem?_eq_getElem hi
  generalize n.entries[i] = x at he
  have hxm := List.mem_of_getElem? he
  obtain ⟨_, h2, m, hm, h3⟩ := hd.ent n hn x hxm
  unfold lnkAt
  rw [he]
  simp only
  rw [← h3, node_q hv hq hm]
  simp only
  rw [if_neg (by rw [h3]; exact h2), if_neg]
  rintro ⟨hk, hpar⟩
  have hm1 : m.ino ≠ 1 := by rw [h3]; exact h2
  obtain ⟨p, hp, hpi, e, hep, hei⟩ := hd.par m hm hm1 hk
  have hne : n ≠ p := fun h => hpar (by rw [← hpi, h])
  have h4 := cnt_two hne (cntE_at hxm h3.symm) (cntE_at hep hei) hn hp
  have h5 := hd.one m hm hm1 hk
  omega
 have hx : d.nodes[j]? = some d.nodes[j] := List.getElem?_eq_getElem hj
 generalize d.nodes[j] = n at hx
 have hn := List.mem_of_getElem? hx
 unfold upAt
 rw [hx]
 simp only
 by_cases h1 : n.ino = 1
 ·rw [if_pos h1]
  have hrm : r ∈ d.nodes := by rw [hr]; exact List.mem_cons_self ..
  rw [asc_eq hd.asc hn hrm (h1.trans r1.symm)]
  exact decide_eq_true r3
 rw [if_neg h1, links_q hv hq hn, if_neg (by have := hd.link n hn h1; omega), if_neg]
 rintro ⟨hk, h⟩
 have h5 := hd.one n hn h1 hk
 rcases h with h | h
 ·omega
 have hlt : d.nodes.countP (fun m => decide (m.ino ≠ 1 ∧ rk m.ino ≤ rk n.ino)) < d.nodes.countP (fun _ => true) :=
  countP_lt (fun _ _ _ => rfl) (a := r) (by rw [hr]; exact List.mem_cons_self ..) rfl (by simp [r1])
 rw [List.countP_true] at hlt
 rw [below_end hv hq rk hrk _ n hn hk (by omega)] at h
 cases h
end
theorem vldR_true {f : Fls} (hv : FlsV f) (h0 : 0 < f.length) : vldR f = true := by
 unfold vldR
 rw [if_neg (by omega), if_neg (by have := hv.few; omega)]
 refine range_yes fun i hi => ?_
 unfold vldAt
 rw [List.getElem?_eq_getElem hi]
 exact dev_true hv (List.getElem?_eq_getElem hi)
theorem vldP_true {f : Fls} (hv : FlsV f) (h0 : 0 < f.length) : vldP f = true := by
 unfold vldP
 rw [if_neg (by omega), if_neg (by have := hv.few; omega)]
 refine range_yes fun i hi => ?_
 unfold vldPAt
 rw [List.getElem?_eq_getElem hi]
 simp only
 rw [nods_true hv (List.getElem?_eq_getElem hi), lnk_true hv (List.getElem?_eq_getElem hi)]
 rfl
end Go.Proofs.Ythcbdkmhamhciaa
namespace Go.Proofs.Ythcbdkmhamhciaa
theorem pw_of {α : Type} {R : α → α → Prop} (ht : ∀ a b c, R a b → R b c → R a c) {l : List α} (h : ∀ (i : Nat) (a b : α), l[i]? = some a → l[i + 1]? = some b → R a b) : l.Pairwise R := by
 rw [List.pairwise_iff_getElem]
 have key : ∀ (k i : Nat) (a b : α), l[i]? = some a → l[i + k + 1]? = some b → R a b := by
  intro k
  induction k with
  | zero => intro i a b; exact h i a b
  | succ k ih =>
    intro i a b ha hb
    have hl := (List.getElem?_eq_some_iff.1 hb).1
    have hc : l[i + k + 1]? = some l[i + k + 1] := List.getElem?_eq_getElem (by omega)
    exact ht _ _ _ (ih i a _ ha hc) (h _ _ _ hc hb)
 intro i j hi hj hij
 obtain ⟨k, rfl⟩ : ∃ k, j = i + k + 1 := ⟨j - i - 1, by omega⟩
 exact key k i _ _ (List.getElem?_eq_getElem hi) (List.getElem?_eq_getElem hj)
theorem range_get {p : Nat → Bool} {n i : Nat} (h : (List.range n).all p = true) (hi : i < n) : p i = true := List.all_eq_true.1 h i (List.mem_range.2 hi)
theorem get_lt {α : Type} {l : List α} {i : Nat} {x : α} (h : l[i]? = some x) : i < l.length := (List.getElem?_eq_some_iff.1 h).1
theorem pre_lt {es : List Ent} {i : Nat} {x y : Ent} (hy : es[i]? = some y) (h : preE es (i + 1) x = false) : strLt y.1 x.1 = true := by
 unfold preE at h
 rw [show i + 1 - 1 = i from rfl, hy] at h
 simpa using h
theorem entsP_facts {es : List Ent} (h : entsP es = true) : es.length ≤ 12 ∧ Sorted es ∧ ∀ e ∈ es, nameL e.1 = true := by
 unfold entsP at h
 split at h
 ·cases h
 rename_i hl
 have at_ : ∀ (i : Nat) (x : Ent), es[i]? = some x → nameL x.1 = true ∧ (0 < i → preE es i x = false) := by
  intro i x hx
  have h1 := range_get h (get_lt hx)
  unfold entPAt at h1
  rw [hx] at h1
  simp only at h1
  split at h1
  ·cases h1
  rename_i c1
  split at h1
  ·cases h1
  rename_i c2
  refine ⟨by simpa using c1, fun h0 => ?_⟩
  cases hp : preE es i x with
  | false => rfl
  | true => exact absurd ⟨h0, hp⟩ c2
 refine ⟨by omega, pw_of (R := fun a b : Ent => strLt a.1 b.1 = true) (fun a b c => lt_trans') (fun i a b ha hb => pre_lt ha ((at_ _ b hb).2 (by omega))), fun e he => ?_⟩
 obtain ⟨i, hi⟩ := List.getElem?_of_mem he
 exact (at_ i e hi).1
section
variable {f : Fls} {q : Nat} {d : Dvc} (hq : f[q]? = some d)
include hq
theorem nodeL_mem {x : Int} {m : Nod} (h : nodeL f ((q : Int), x) = some m) : m ∈ d.nodes ∧ m.ino = x := by
 rw [nodeL_at (a := ((q : Int), x)) rfl hq] at h
 refine ⟨List.mem_of_find?_eq_some h, ?_⟩
 have := List.find?_some h
 simpa using this
theorem entsR_facts {es : List Ent} (h : entsR f (q : Int) es = true) : entsP es = true ∧ ∀ e ∈ es, e.2 ≠ 1 ∧ ∃ m ∈ d.nodes, m.ino = e.2 := by
 unfold entsR at h
 split at h
 ·cases h
 rename_i hl
 have at_ : ∀ (i : Nat) (x : Ent), es[i]? = some x → entPAt es i = true ∧ x.2 ≠ 1 ∧ ∃ m ∈ d.nodes, m.ino = x.2 := by
  intro i x hx
  have h1 := range_get h (get_lt hx)
  unfold entAt at h1
  unfold entPAt
  rw [hx] at h1 ⊢
  simp only at h1 ⊢
  split at h1
  ·cases h1
  rename_i c1
  rw [if_neg c1]
  split at h1
  ·cases h1
  rename_i c2
  rw [if_neg c2]
  split at h1
  ·cases h1
  rename_i c3
  split at h1
  ·cases h1
  rename_i c4
  refine ⟨rfl, c3, ?_⟩
  rcases index_node f ((q : Int), x.2) with ⟨h, _⟩ | ⟨k, j, d', n, _, _, _, _, _, h⟩
  ·omega
  exact ⟨n, nodeL_mem hq h⟩
 refine ⟨?_, fun e he => ?_⟩
 ·unfold entsP
  rw [if_neg hl]
  exact range_yes fun i hi => (at_ i _ (List.getElem?_eq_getElem hi)).1
 obtain ⟨i, hi⟩ := List.getElem?_of_mem he
 exact (at_ i e hi).2
end
def rkF (d : Dvc) : Nat → Int → Nat
 | 0, _ => 0
 | k + 1, x => if x = 1 then 0 else rkF d k (parentL d x) + 1
theorem rkF_stop (d : Dvc) : ∀ (k : Nat) (x : Int), itP d k x = 1 → rkF d (k + 1) x = rkF d k x
 | 0, x, h => by
   rw [show itP d 0 x = x from rfl] at h
   unfold rkF
   rw [if_pos h]
 | k + 1, x, h => by
   have e : rkF d (k + 2) x = if x = 1 then 0 else rkF d (k + 1) (parentL d x) + 1 := rfl
   have e2 : rkF d (k + 1) x = if x = 1 then 0 else rkF d k (parentL d x) + 1 := rfl
   rw [e, e2, rkF_stop d k (parentL d x) h]
theorem rank_of {d : Dvc} (hp : ∀ n ∈ d.nodes, parentL d n.ino = n.parent) (hup : ∀ n ∈ d.nodes, n.kind = 2 → itP d d.nodes.length n.ino = 1) : ∃ rk : Int → Nat, ∀ n ∈ d.nodes, n.ino ≠ 1 → n.kind = 2 → rk n.parent < rk n.ino := by
 refine ⟨rkF d d.nodes.length, fun n hn h1 hk => ?_⟩
 obtain ⟨L, hL⟩ : ∃ L, d.nodes.length = L + 1 := ⟨d.nodes.length - 1, by have := List.length_pos_of_mem hn; omega⟩
 have hu := hup n hn hk
 rw [hL] at hu ⊢
 rw [itP, hp n hn] at hu
 rw [rkF_stop d L n.parent hu]
 show _ < if n.ino = 1 then 0 else rkF d L (parentL d n.ino) + 1
 rw [if_neg h1, hp n hn]
 omega
theorem par_asc {d : Dvc} (h : Asc d.nodes) {n : Nod} (hn : n ∈ d.nodes) : parentL d n.ino = n.parent := by
 have h := node_asc (f := [d]) (a := (0, n.ino)) (q := 0) rfl rfl h hn rfl
 rw [nodeL_at (f := [d]) (a := (0, n.ino)) (k := 0) rfl rfl] at h
 unfold parentL
 rw [h]
theorem root_list {d : Dvc} {r : Nod} (h : d.nodes[0]? = some r) : ∃ rest, d.nodes = r :: rest := by
 cases hd : d.nodes with
 | nil => rw [hd] at h; cases h
 | cons a l => rw [hd] at h; injection h with h; exact ⟨l, by rw [h]⟩
theorem not_first {d : Dvc} {r : Nod} (h : d.nodes[0]? = some r) (h1 : r.ino = 1) {i : Nat} {n : Nod} (hi : d.nodes[i]? = some n) (hn : n.ino ≠ 1) : 0 < i := by
 cases i with
 | zero => rw [h] at hi; injection hi with hi; rw [← hi] at hn; exact absurd h1 hn
 | succ i => omega
theorem R_vd {f : Fls} {q : Nat} {d : Dvc} (hq : f[q]? = some d) (h : devR5 f (q : Int) d = true) : VD d := by
 unfold devR5 at h
 rw [Bool.and_eq_true, Bool.and_eq_true] at h
 obtain ⟨hh, ha, hr⟩ := h
 have hhead : 1 ≤ d.nodes.length ∧ d.nodes.length ≤ 16 ∧ 2 ≤ d.next ∧ d.next ≤ 1073741824 ∧ ∃ r, d.nodes[0]? = some r ∧ r.ino = 1 ∧ r.kind = 2 ∧ r.parent = 1 := by
  unfold headR at hh
  split at hh
  ·cases hh
  split at hh
  ·cases hh
  split at hh
  ·cases hh
  split at hh
  ·cases hh
  refine ⟨by omega, by omega, by omega, by omega, ?_⟩
  split at hh
  ·cases hh
  rename_i r hr0
  refine ⟨r, hr0, ?_⟩
  split at hh
  ·cases hh
  split at hh
  ·cases hh
  split at hh
  ·cases hh
  exact ⟨by omega, by omega, by omega⟩
 obtain ⟨g1, g2, g3, g4, r, hr0, r1, r2, r3⟩ := hhead
 have at_ : ∀ (i : Nat) (n : Nod), d.nodes[i]? = some n → n.ino < d.next ∧ (0 < i → preN d.nodes i n = false) ∧ plainL n = true ∧ (n.kind ≠ 2 → n.parent = 0 ∧ n.entries = []) ∧ entsR f (q : Int) n.entries = true ∧
     (0 < i → (n.kind = 2 → linksF f ((q : Int), n.ino) = 1 ∧ hasG f ((q : Int), n.parent) = true ∧ holdsL (nodG f ((q : Int), n.parent)) n.ino = true) ∧ 1 ≤ linksF f ((q : Int), n.ino)) := by
  intro i n hx
  have h1 := range_get ha (get_lt hx)
  unfold devAt at h1
  rw [hx] at h1
  simp only at h1
  split at h1
  ·cases h1
  rename_i c1
  split at h1
  ·cases h1
  rename_i c2
  split at h1
  ·cases h1
  rename_i c3
  split at h1
  ·cases h1
  rename_i c4
  split at h1
  ·cases h1
  rename_i c5
  refine ⟨by omega, fun h0 => ?_, by simpa using c3, fun hk => ?_, by simpa using c5, fun h0 => ?_⟩
  ·cases hp : preN d.nodes i n with
   | false => rfl
   | true => exact absurd ⟨h0, hp⟩ c2
  ·refine ⟨Decidable.byContradiction fun hp => c4 ⟨hk, .inl hp⟩, ?_⟩
   exact List.eq_nil_of_length_eq_zero (Nat.eq_zero_of_not_pos fun hp => c4 ⟨hk, .inr hp⟩)
  rw [if_neg (by omega)] at h1
  split at h1
  ·rename_i hk
   split at h1
   ·cases h1
   rename_i c6
   split at h1
   ·cases h1
   rename_i c7
   exact ⟨fun _ => ⟨by omega, by simpa using c7, h1⟩, by omega⟩
  rename_i hk
  split at h1
  ·cases h1
  exact ⟨fun c => absurd c hk, by omega⟩
 have mem : ∀ n ∈ d.nodes, ∃ i : Nat, d.nodes[i]? = some n := fun n hn => List.getElem?_of_mem hn
 have hasc : Asc d.nodes := pw_of (R := fun a b : Nod => a.ino < b.ino) (fun a b c h1 h2 => Int.lt_trans h1 h2) fun i a b ha hb => by
  have := (at_ _ b hb).2.1 (by omega)
  rw [preN_at (i := i + 1) (y := a) ha] at this
  have := of_decide_eq_false this
  show a.ino < b.ino
  omega
 have hlk : ∀ n ∈ d.nodes, linksF f ((q : Int), n.ino) = cntN n.ino d.nodes := fun n hn => linksF_at (a := ((q : Int), n.ino)) rfl hq (node_asc (a := ((q : Int), n.ino)) rfl hq hasc hn rfl)
 obtain ⟨rest, hrest⟩ := root_list hr0
 refine ⟨g2, g3, g4, ⟨r, rest, hrest, r1, r2, r3⟩, hasc, ?_, ?_, ?_, ?_, ?_, ?_, ?_, ?_, ?_, ?_⟩
 ·intro n hn; obtain ⟨i, hi⟩ := mem n hn; exact (at_ i n hi).1
 ·intro n hn; obtain ⟨i, hi⟩ := mem n hn; exact (at_ i n hi).2.2.1
 ·intro n hn; obtain ⟨i, hi⟩ := mem n hn; exact (at_ i n hi).2.2.2.1
 ·intro n hn; obtain ⟨i, hi⟩ := mem n hn; exact (entsP_facts (entsR_facts hq (at_ i n hi).2.2.2.2.1).1).1
 ·intro n hn; obtain ⟨i, hi⟩ := mem n hn; exact (entsP_facts (entsR_facts hq (at_ i n hi).2.2.2.2.1).1).2.1
 ·intro n hn e he
  obtain ⟨i, hi⟩ := mem n hn
  have h1 := entsR_facts hq (at_ i n hi).2.2.2.2.1
  exact ⟨(entsP_facts h1.1).2.2 e he, h1.2 e he⟩
 ·intro n hn h1
  obtain ⟨i, hi⟩ := mem n hn
  have := ((at_ i n hi).2.2.2.2.2 (not_first hr0 r1 hi h1)).2
  rw [hlk n hn] at this
  omega
 ·intro n hn h1 hk
  obtain ⟨i, hi⟩ := mem n hn
  have := (((at_ i n hi).2.2.2.2.2 (not_first hr0 r1 hi h1)).1 hk).1
  rw [hlk n hn] at this
  exact this
 ·intro n hn h1 hk
  obtain ⟨i, hi⟩ := mem n hn
  obtain ⟨_, h2, h3⟩ := ((at_ i n hi).2.2.2.2.2 (not_first hr0 r1 hi h1)).1 hk
  unfold hasG at h2
  cases hp : nodeL f ((q : Int), n.parent) with
  | none => rw [hp] at h2; cases h2
  | some p =>
    obtain ⟨p1, p2⟩ := nodeL_mem hq hp
    have e : nodG f ((q : Int), n.parent) = p := by unfold nodG; rw [hp]; rfl
    rw [e] at h3
    unfold holdsL at h3
    obtain ⟨e, he, hee⟩ := List.any_eq_true.1 h3
    exact ⟨p, p1, p2, e, he, by simpa using hee⟩
 refine rank_of (fun n hn => par_asc hasc hn) fun n hn hk => ?_
 obtain ⟨i, hi⟩ := mem n hn
 unfold rchR at hr
 have h1 := range_get hr (get_lt hi)
 unfold rchAt at h1
 rw [hi] at h1
 simp only at h1
 rw [if_pos hk] at h1
 exact of_decide_eq_true h1
theorem nodP_facts {n : Nod} (h : nodP n = true) : plainL n = true ∧ (n.kind ≠ 2 → n.parent = 0 ∧ n.entries = []) ∧ entsP n.entries = true := by
 unfold nodP at h
 split at h
 ·cases h
 rename_i c
 have ha : 0 ≤ n.mode ∧ n.mode ≤ 511 ∧ 0 ≤ n.uid ∧ n.uid ≤ 4294967295 ∧ 0 ≤ n.gid ∧ n.gid ≤ 4294967295 := by
  have : attrP n.mode n.uid n.gid = true := by simpa using c
  exact of_decide_eq_true this
 have he0 : entsP [] = true := rfl
 have hnil : (⟨#[]⟩ : ByteArray).toList = [] := by rw [ByteArray.toList_eq]
 unfold plainL
 split at h
 ·rename_i hk
  simp only [Bool.and_eq_true, decide_eq_true_eq] at h
  obtain ⟨h1, h2, h3⟩ := h
  rw [if_neg (by omega), if_neg (by omega), h2, h3, hnil]
  exact ⟨rfl, fun _ => ⟨h1, rfl⟩, he0⟩
 split at h
 ·rename_i hk
  simp only [Bool.and_eq_true, decide_eq_true_eq] at h
  obtain ⟨h1, h2, h3⟩ := h
  rw [if_neg (by omega), if_pos hk, h3]
  exact ⟨h2, fun _ => ⟨h1, rfl⟩, he0⟩
 split at h
 ·rename_i hk
  simp only [Bool.and_eq_true, decide_eq_true_eq] at h
  obtain ⟨h1, h2⟩ := h
  rw [if_neg (by omega), if_neg (by omega), h1, hnil]
  exact ⟨rfl, fun c => absurd hk c, h2⟩
 cases h
theorem itP_stay {d : Dvc} (h1 : parentL d 1 = 1) : ∀ (j i : Nat) (x : Int), itP d j x = 1 → itP d (j + i) x = 1 := by
 have one : ∀ i, itP d i 1 = 1 := by
  intro i
  induction i with
  | zero => rfl
  | succ i ih => rw [itP, h1, ih]
 intro j
 induction j with
 | zero => intro i x h; rw [show itP d 0 x = x from rfl] at h; rw [h]; exact one _
 | succ j ih => intro i x h; rw [show j + 1 + i = (j + i) + 1 by omega, itP]; exact ih i _ h
theorem below_it {f : Fls} {q : Nat} {d : Dvc} (hq : f[q]? = some d) : ∀ (k : Nat) (x : Int), belowP f ((q : Int), 1) k ((q : Int), x) = true → ∃ j, j < k ∧ itP d j x = 1 := by
 intro k
 induction k with
 | zero => intro x h; cases h
 | succ k ih =>
   intro x h
   rw [below_succ] at h
   split at h
   ·rename_i e
    injection e with _ e
    exact ⟨0, by omega, e⟩
   cases hn : nodeL f ((q : Int), x) with
   | none => rw [hn] at h; cases h
   | some n =>
     rw [hn] at h
     simp only at h
     split at h
     ·cases h
     obtain ⟨j, hj, e⟩ := ih _ h
     refine ⟨j + 1, by omega, ?_⟩
     rw [itP]
     rw [nodeL_at (a := ((q : Int), x)) rfl hq] at hn
     have : parentL d x = n.parent := by unfold parentL; rw [hn]
     rw [this]
     exact e
theorem P_vd {f : Fls} {q : Nat} {d : Dvc} (hq : f[q]? = some d) (h1 : nodsP d = true) (h2 : lnkP f (q : Int) d = true) : VD d := by
 unfold nodsP at h1
 unfold lnkP at h2
 rw [Bool.and_eq_true] at h1 h2
 obtain ⟨hh, ha⟩ := h1
 obtain ⟨hl, hu⟩ := h2
 have hhead : 1 ≤ d.nodes.length ∧ d.nodes.length ≤ 16 ∧ 2 ≤ d.next ∧ d.next ≤ 1073741824 ∧ ∃ r, d.nodes[0]? = some r ∧ r.ino = 1 ∧ r.kind = 2 := by
  unfold headP at hh
  split at hh
  ·cases hh
  split at hh
  ·cases hh
  split at hh
  ·cases hh
  split at hh
  ·cases hh
  refine ⟨by omega, by omega, by omega, by omega, ?_⟩
  split at hh
  ·cases hh
  rename_i r hr0
  refine ⟨r, hr0, ?_⟩
  split at hh
  ·cases hh
  split at hh
  ·cases hh
  exact ⟨by omega, by omega⟩
 obtain ⟨g1, g2, g3, g4, r, hr0, r1, r2⟩ := hhead
 have at_ : ∀ (i : Nat) (n : Nod), d.nodes[i]? = some n → lastI d.nodes i < n.ino ∧ n.ino < d.next ∧ nodP n = true := by
  intro i n hx
  have h1 := range_get ha (get_lt hx)
  unfold nodPAt at h1
  rw [hx] at h1
  simp only at h1
  split at h1
  ·cases h1
  split at h1
  ·cases h1
  split at h1
  ·cases h1
  rename_i c3
  exact ⟨by omega, by omega, by simpa using c3⟩
 have lnk : ∀ n ∈ d.nodes, ∀ x ∈ n.entries, ∃ m, nodeL f ((q : Int), x.2) = some m ∧ m.ino ≠ 1 ∧ (m.kind = 2 → m.parent = n.ino) := by
  intro n hn x hx
  obtain ⟨i, hi⟩ := List.getElem?_of_mem hn
  have h1 := range_get hl (get_lt hi)
  unfold lnksAt at h1
  rw [hi] at h1
  obtain ⟨j, hj⟩ := List.getElem?_of_mem hx
  have h2 := range_get h1 (get_lt hj)
  unfold lnkAt at h2
  rw [hj] at h2
  simp only at h2
  cases hm : nodeL f ((q : Int), x.2) with
  | none => rw [hm] at h2; cases h2
  | some m =>
    rw [hm] at h2
    simp only at h2
    split at h2
    ·cases h2
    rename_i c1
    split at h2
    ·cases h2
    rename_i c2
    exact ⟨m, rfl, c1, fun hk => Decidable.byContradiction fun hp => c2 ⟨hk, hp⟩⟩
 have up : ∀ n ∈ d.nodes, (n.ino = 1 → n.parent = 1) ∧ (n.ino ≠ 1 → 1 ≤ linksF f ((q : Int), n.ino) ∧ (n.kind = 2 → linksF f ((q : Int), n.ino) ≤ 1 ∧ belowP f ((q : Int), 1) d.nodes.length ((q : Int), n.ino) = true)) := by
  intro n hn
  obtain ⟨i, hi⟩ := List.getElem?_of_mem hn
  have h1 := range_get hu (get_lt hi)
  unfold upAt at h1
  rw [hi] at h1
  simp only at h1
  split at h1
  ·rename_i c
   exact ⟨fun _ => of_decide_eq_true h1, fun c' => absurd c c'⟩
  rename_i c
  refine ⟨fun c' => absurd c' c, fun _ => ?_⟩
  split at h1
  ·cases h1
  split at h1
  ·cases h1
  rename_i c2
  refine ⟨by omega, fun hk => ⟨?_, ?_⟩⟩
  ·exact Nat.le_of_not_lt fun hp => c2 ⟨hk, .inl (by omega)⟩
  cases hb : belowP f ((q : Int), 1) d.nodes.length ((q : Int), n.ino) with
  | true => rfl
  | false => exact absurd ⟨hk, .inr hb⟩ c2
 have mem : ∀ n ∈ d.nodes, ∃ i : Nat, d.nodes[i]? = some n := fun n hn => List.getElem?_of_mem hn
 have hasc : Asc d.nodes := pw_of (R := fun a b : Nod => a.ino < b.ino) (fun a b c h1 h2 => Int.lt_trans h1 h2) fun i a b ha hb => by
  have := (at_ _ b hb).1
  rw [last_at ha] at this
  exact this
 have hlk : ∀ n ∈ d.nodes, linksF f ((q : Int), n.ino) = cntN n.ino d.nodes := fun n hn => linksF_at (a := ((q : Int), n.ino)) rfl hq (node_asc (a := ((q : Int), n.ino)) rfl hq hasc hn rfl)
 obtain ⟨rest, hrest⟩ := root_list hr0
 have hrm : r ∈ d.nodes := List.mem_of_getElem? hr0
 have r3 := (up r hrm).1 r1
 refine ⟨g2, g3, g4, ⟨r, rest, hrest, r1, r2, r3⟩, hasc, ?_, ?_, ?_, ?_, ?_, ?_, ?_, ?_, ?_, ?_⟩
 ·intro n hn; obtain ⟨i, hi⟩ := mem n hn; exact (at_ i n hi).2.1
 ·intro n hn; obtain ⟨i, hi⟩ := mem n hn; exact (nodP_facts (at_ i n hi).2.2).1
 ·intro n hn; obtain ⟨i, hi⟩ := mem n hn; exact (nodP_facts (at_ i n hi).2.2).2.1
 ·intro n hn; obtain ⟨i, hi⟩ := mem n hn; exact (entsP_facts (nodP_facts (at_ i n hi).2.2).2.2).1
 ·intro n hn; obtain ⟨i, hi⟩ := mem n hn; exact (entsP_facts (nodP_facts (at_ i n hi).2.2).2.2).2.1
 ·intro n hn e he
  obtain ⟨i, hi⟩ := mem n hn
  obtain ⟨m, hm, m1, _⟩ := lnk n hn e he
  obtain ⟨m2, m3⟩ := nodeL_mem hq hm
  exact ⟨(entsP_facts (nodP_facts (at_ i n hi).2.2).2.2).2.2 e he, by rw [← m3]; exact m1, m, m2, m3⟩
 ·intro n hn h1
  have := ((up n hn).2 h1).1
  rw [hlk n hn] at this
  omega
 ·intro n hn h1 hk
  obtain ⟨k1, k2⟩ := (up n hn).2 h1
  have k3 := (k2 hk).1
  rw [hlk n hn] at k1 k3
  omega
 ·intro n hn h1 hk
  have k1 := ((up n hn).2 h1).1
  rw [hlk n hn] at k1
  obtain ⟨p, hp, e, he, hee⟩ := cntN_pos.1 (show 0 < cntN n.ino d.nodes by omega)
  obtain ⟨m, hm, m1, m2⟩ := lnk p hp e he
  obtain ⟨m3, m4⟩ := nodeL_mem hq hm
  have hmn : m = n := asc_eq hasc m3 hn (by rw [m4, hee])
  rw [hmn] at m2
  exact ⟨p, hp, (m2 hk).symm, e, he, hee⟩
 have hp1 : parentL d 1 = 1 := by
  have := par_asc hasc hrm
  rw [r1, r3] at this
  exact this
 refine rank_of (fun n hn => par_asc hasc hn) fun n hn hk => ?_
 by_cases h1 : n.ino = 1
 ·rw [h1]
  have := itP_stay hp1 0 d.nodes.length 1 rfl
  rwa [Nat.zero_add] at this
 obtain ⟨j, hj, e⟩ := below_it hq _ _ (((up n hn).2 h1).2 hk).2
 have := itP_stay hp1 j (d.nodes.length - j) n.ino e
 rwa [show j + (d.nodes.length - j) = d.nodes.length by omega] at this
theorem vld_agree (f : Fls) : vldP f = vldR f := by
 have len_ : ∀ {b : Bool}, (if f.length < 1 then false else if 3 < f.length then false else b) = true → 0 < f.length ∧ f.length ≤ 3 ∧ b = true := by
  intro b h
  split at h
  ·cases h
  split at h
  ·cases h
  exact ⟨by omega, by omega, h⟩
 rw [Bool.eq_iff_iff]
 constructor
 ·intro h
  obtain ⟨h1, h2, h3⟩ := len_ (show (if f.length < 1 then false else if 3 < f.length then false else (List.range f.length).all (vldPAt f)) = true from h)
  refine vldR_true ⟨h2, fun d hd => ?_⟩ h1
  obtain ⟨q, hq⟩ := List.getElem?_of_mem hd
  have h4 := range_get h3 (get_lt hq)
  unfold vldPAt at h4
  rw [hq] at h4
  simp only [Bool.and_eq_true] at h4
  exact P_vd hq h4.1 h4.2
 intro h
 obtain ⟨h1, h2, h3⟩ := len_ (show (if f.length < 1 then false else if 3 < f.length then false else (List.range f.length).all (vldAt f)) = true from h)
 refine vldP_true ⟨h2, fun d hd => ?_⟩ h1
 obtain ⟨q, hq⟩ := List.getElem?_of_mem hd
 have h4 := range_get h3 (get_lt hq)
 unfold vldAt at h4
 rw [hq] at h4
 exact R_vd hq h4
end Go.Proofs.Ythcbdkmhamhciaa
namespace Go.Proofs.Ythcbdkmhamhciaa
open Go.RowKit
theorem Lspoil (l : List Int) (a m : Nat) (f : Fls) (ha : a ≤ 1000000000) (hm : m ≤ 900) (hs : FlsS m f) : GenF Try.prog 39 l a [.agg (flsA f)] 60 (fun r => ∃ g, FlsS (m + 1) g ∧ r = .agg (flsA g)) := by
 have h1 := nV_rng l a (n := (f.length : Int)) (by have := hs.pos; omega)
 obtain ⟨q, hq⟩ := Int.eq_ofNat_of_zero_le h1.1
 have hql : q < f.length := by omega
 have hd : f[q]? = some f[q] := List.getElem?_eq_getElem hql
 by_cases h0 : f[q].nodes = []
 ·exact LspoilA l a m f q f[q] ha hm hs hq hd h0
 have hp : 0 < f[q].nodes.length := List.length_pos_iff.2 h0
 have h2 := nV_rng l (a + 1) (n := (f[q].nodes.length : Int)) (by omega)
 obtain ⟨P, hP⟩ := Int.eq_ofNat_of_zero_le h2.1
 have hPl : P < f[q].nodes.length := by omega
 exact LspoilB l a m f q P f[q] f[q].nodes[P] ha hm hs hq hd hP (List.getElem?_eq_getElem hPl)
section
set_option maxRecDepth 20000
set_option maxHeartbeats 4000000
theorem Lspoiled (l : List Int) : AFn Try.prog 8 [.sl 1 (l.map intA) none] (fun r => r = .v (.bool true)) := by
 refine enter Try.func8 rfl rfl rfl rfl rfl 0 rfl ?_
 refine w_ (a_ (h:=e_ (w_ (m_ (h:=?_)))))
 refine al_p rfl (s_callN rfl (by repeat (first | exact Args.nil | refine Args.cons _ _ _ _ _ rfl (argOk_clean rfl) ?_ | refine Args.cons _ _ _ _ _ rfl (argOk_nil _) ?_ | refine Args.cons _ _ _ _ _ rfl (argOk_era _) ?_ | refine Args.cons _ _ _ _ _ rfl (argOk_le rfl (by repeat (first | exact LeA.refl _ | exact LeA.nil _ | exact LeL.refl _ | refine LeA.agg ?_ | refine LeA.tup ?_ | exact LeL.nil | refine LeL.cons ?_ ?_ | exact LeA.any _))) ?_)) rfl (Gnew l) (by repeat constructor) ?_)
 skip
 refine a_ (h:=e_ (w_ (m_ (h:=?_))))
 refine al_p rfl (s_gen 0 (hc := Gfiles l _ (by omega)) (hR := ?_))
 rintro r a1 ha1 ⟨f, rfl, hv, hp⟩
 refine ⟨rfl, _, (by repeat constructor), ?_⟩
 have hf := hv.s hp
 refine al_ (h:=s_ (h:=e_ (w_ (m_ (h:=l_ (h:=?_))))))
 refine al_p rfl (s_gen 0 (hc := Lspoil l _ 16 f (by omega) (by omega) hf) (hR := ?_))
 rintro r a2 ha2 ⟨g, hg, rfl⟩
 refine ⟨rfl, _, (by repeat constructor), ?_⟩
 refine al_ (h:=s_ (h:=e_ (w_ (m_ (h:=l_ (h:=?_))))))
 refine al_p rfl (s_gen 0 (hc := Lspoil l _ 17 g (by omega) (by omega) hg) (hR := ?_))
 rintro r a3 ha3 ⟨g2, hg2, rfl⟩
 refine ⟨rfl, _, (by repeat constructor), ?_⟩
 have hval : ∀ x, FlsT x → AFn Try.prog 41 [.agg (flsA x)] (fun r => r = .v (.bool (vldP x))) := fun x hx => (Rvalid5 x hx).mono fun r hr => by rw [hr, vld_agree]
 have hvf := vldP_true hv hp
 refine al_ (h:=s_ (h:=e_ (q_ (yr_ 20 (h:=dl_ 0 (h:=?_))))))
 refine c_ 1 rfl (q_call (Pvalid5 f (hf.t (by omega))) ?_)
 rintro r rfl
 refine o_ (h:=dm_ 2 (h:=?_))
 refine aa_both (j := 2) rfl (fun hb1 => ?_) (fun hb1 => ?_)
 ·have hc1 := bp hb1
  refine dl_ 3 (h:=dl_ 5 (h:=?_))
  refine c_ 4 rfl (q_call (Pvalid5 g (hg.t (by omega))) ?_)
  rintro r rfl
  refine o_ (h:=?_)
  refine c_ 6 rfl (q_call (hval g (hg.t (by omega))) ?_)
  rintro r rfl
  refine o_ (h:=deq_ 7 (h:=dpt_ 8 (h:=dm_ 9 (h:=?_))))
  refine aa_both (j := 9) rfl (fun hb2 => ?_) (fun hb2 => ?_)
  ·have hc2 := bp hb2
   refine dl_ 10 (h:=dl_ 12 (h:=?_))
   refine c_ 11 rfl (q_call (Pvalid5 g2 (hg2.t (by omega))) ?_)
   rintro r rfl
   refine o_ (h:=?_)
   refine c_ 13 rfl (q_call (hval g2 (hg2.t (by omega))) ?_)
   rintro r rfl
   refine o_ (h:=deq_ 14 (h:=dpt_ 15 (h:=dm_ 16 (h:=?_))))
   refine aa_both (j := 16) rfl (fun hb3 => ?_) (fun hb3 => ?_)
   ·have hc3 := bp hb3
    refine c_ 17 rfl (q_call (Lawake5) ?_)
    rintro r rfl
    refine o_ (h:=dpt_ 18 (h:=da_ 19 (h:=z_ (h:=t_ (aw_ret (?_))))))
    refine e_ret ?_
    first | rfl | (exfalso; simp_all; done)
   have hc3 := bp hb3
   refine d0_ 17 (h:=dpf_ 18 (h:=da_ 19 (h:=z_ (h:=t_ (aw_ret (?_))))))
   refine e_ret ?_
   first | rfl | (exfalso; simp_all; done)
  have hc2 := bp hb2
  refine d0_ 10 (h:=d0_ 11 (h:=d0_ 12 (h:=d0_ 13 (h:=d0_ 14 (h:=dpf_ 15 (h:=dm_ 16 (h:=d0_ 17 (h:=dpf_ 18 (h:=da_ 19 (h:=z_ (h:=t_ (aw_ret (?_)))))))))))))
  refine e_ret ?_
  first | rfl | (exfalso; simp_all; done)
 have hc1 := bp hb1
 refine d0_ 3 (h:=d0_ 4 (h:=d0_ 5 (h:=d0_ 6 (h:=d0_ 7 (h:=dpf_ 8 (h:=dm_ 9 (h:=d0_ 10 (h:=d0_ 11 (h:=d0_ 12 (h:=d0_ 13 (h:=d0_ 14 (h:=dpf_ 15 (h:=dm_ 16 (h:=d0_ 17 (h:=dpf_ 18 (h:=da_ 19 (h:=z_ (h:=t_ (aw_ret (?_))))))))))))))))))))
 refine e_ret ?_
 first | rfl | (exfalso; simp_all; done)
end
theorem FilesSpoiled_walk {H : Type} {enc : TypeId × Value → H} {sp : Nat → Bool} {held : Bool} {base : Nat} (a : Option Addr) (n c : Nat) (w : World) {d : DataW H} {p : List MemPlace} (h : DataW.Trod enc Try.prog w base sp held 31 (.slice a n c) d p) :
    Calls Try.prog 8 #[.slice a n c] w fun e w' => e = .returned (.bool true) ∧ Below w.heap.size w w' := walk_ints Lspoiled a n c w h
end Go.Proofs.Ythcbdkmhamhciaa
