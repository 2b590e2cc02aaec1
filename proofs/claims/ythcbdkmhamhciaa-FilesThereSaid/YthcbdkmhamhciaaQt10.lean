/-
  Part 10 of the proof of FilesThereP: what the statement's proof uses of the texts in wip/tpl.
-/
import Derived.Test.YthcbdkmhamhciaaQt9
namespace Go.Proofs.Ythcbdkmhamhciaa

theorem FlsV.set_ {f : Fls} (h : FlsV f) {q : Nat} {d' : Dvc} (hd : VD d') : FlsV (f.set q d') := by
  refine ⟨by simpa using h.few, fun d hm => ?_⟩
  rcases List.mem_or_eq_of_mem_set hm with h1 | h1
  · exact h.vd d h1
  rw [h1]; exact hd
theorem at_ok {f : Fls} {a : Fil} (h : hasG f a = true) : ∃ (q i : Nat) (d : Dvc) (m : Nod), a.1 = (q : Int) ∧ f[q]? = some d ∧ d.nodes[i]? = some m ∧ m.ino = a.2 ∧ nodeL f a = some m ∧ nodG f a = m := by
  rcases index_node f a with ⟨_, h2⟩ | ⟨q, i, d, n, h1, h2, h3, h4, h5, h6⟩
  · simp [hasG, h2] at h
  exact ⟨q, i, d, n, h1, h2, h3, h4, h6, by simp [nodG, h6]⟩
theorem node_asc {f : Fls} {a : Fil} {q : Nat} {d : Dvc} {m : Nod} (ha : a.1 = (q : Int)) (hq : f[q]? = some d) (hd : Asc d.nodes) (hm : m ∈ d.nodes) (hi : m.ino = a.2) : nodeL f a = some m := by
  unfold nodeL
  rw [ha, atI_nat, hq]
  simp only
  cases h : d.nodes.find? (fun n => n.ino == a.2) with
  | none =>
    have := List.find?_eq_none.1 h m hm
    simp [hi] at this
  | some n =>
    have h1 := List.mem_of_find?_eq_some h
    have h2 := List.find?_some h
    simp only [beq_iff_eq] at h2
    rw [asc_eq hd h1 hm (by omega)]
theorem look_no {f : Fls} {dir : Fil} {name : Str} {n0 : Nod} (hn : nodeL f dir = some n0) (hk : n0.kind = 2) (h : (lookL f dir name).2 ≠ 0) : entF n0.entries name = none ∧ (lookL f dir name).1 = (0, 0) := by
  unfold lookL at h ⊢
  rw [hn] at h ⊢
  simp only [hk, if_true] at h ⊢
  unfold entF
  split at h
  · rename_i he
    exact ⟨he, rfl⟩
  exact absurd rfl h
theorem full_no {f : Fls} {dir : Fil} {n0 : Nod} (hn : nodeL f dir = some n0) (h : ¬ fullL f dir = true) : n0.entries.length < 12 := by
  unfold fullL at h
  rw [hn] at h
  simp at h
  omega
theorem onD_len (f : Fls) (q : Nat) (g : List Nod → List Nod) : (onD f q g).length = f.length := by simp [onD]
def Okay (f : Fls) (R : ChgRes) : Prop := R.2.2 = 0 → FlsV R.1 ∧ R.1.length = f.length
theorem okay_err {f : Fls} {e : Int} (h : e ≠ 0) : Okay f ([], [], e) := fun h0 => absurd h0 h
theorem link_okay {f : Fls} (hv : FlsV f) (dir : Fil) (name : Str) (a : Fil) : Okay f (linkL f dir name a) := by
  unfold linkL
  split
  · rename_i h; exact okay_err h
  rename_i hp
  split
  · exact okay_err (by decide)
  rename_i hh
  split
  · exact okay_err (by decide)
  rename_i hdev
  split
  · exact okay_err (by decide)
  rename_i hk
  split
  · exact okay_err (by decide)
  rename_i hl
  split
  · exact okay_err (by decide)
  rename_i hfl
  intro _
  obtain ⟨q, i, d, n0, hdq, hq, hn0, hino, hidx, hnode, hk0, hnm⟩ := place_ok (name := name) (dir := dir) (f := f) (by omega)
  obtain ⟨q', i', d', m, haq, hq', hm, hmi, hnm2, hng⟩ := at_ok (f := f) (a := a) (by simpa using hh)
  obtain rfl : q = q' := by omega
  obtain rfl : d = d' := Option.some.inj (hq.symm.trans hq')
  have hvd := hv.vd d (List.mem_of_getElem? hq)
  have key := hvd.linked (List.mem_of_getElem? hn0) hk0 (List.mem_of_getElem? hm) (by rw [← hng]; exact hk) hnm (look_no hnode hk0 hl).1 (full_no hnode hfl)
  rw [hino, hmi] at key
  refine ⟨?_, by dsimp only; exact onD_len _ _ _⟩
  dsimp only
  rw [hdq, Int.toNat_natCast, onD_set hq]
  exact hv.set_ key
theorem dir_kind {f : Fls} {a : Fil} {m : Nod} (h : nodeL f a = some m) : dirL f a = true ↔ m.kind = 2 := by
  unfold dirL; rw [h]; simp
theorem empty_len {f : Fls} {a : Fil} {m : Nod} (h : nodeL f a = some m) : emptyL f a = true ↔ m.entries = [] := by
  unfold emptyL; rw [h]; simp
theorem look_node {f : Fls} (hv : FlsV f) {dir : Fil} {name : Str} {q i : Nat} {d : Dvc} {n0 : Nod} (hdq : dir.1 = (q : Int)) (hq : f[q]? = some d) (hn0 : d.nodes[i]? = some n0) (hnode : nodeL f dir = some n0) (hk0 : n0.kind = 2) (hl : (lookL f dir name).2 = 0) :
    ∃ e m, entF n0.entries name = some e ∧ lookL f dir name = ((dir.1, e.2), 0) ∧ m ∈ d.nodes ∧ e.2 = m.ino ∧ e.2 ≠ 1 ∧ nodeL f (lookL f dir name).1 = some m := by
  obtain ⟨e, he, hle⟩ := look_ok hnode hk0 hl
  have hvd := hv.vd d (List.mem_of_getElem? hq)
  obtain ⟨_, h1, m, hm, h2⟩ := hvd.ent n0 (List.mem_of_getElem? hn0) e (entF_some he).1
  refine ⟨e, m, he, hle, hm, h2.symm, h1, ?_⟩
  rw [hle]
  exact node_asc hdq hq hvd.asc hm h2
theorem unlink_okay {f : Fls} (hv : FlsV f) (dir : Fil) (name : Str) : Okay f (unlinkL f dir name) := by
  unfold unlinkL
  split
  · rename_i h; exact okay_err h
  rename_i hp
  split
  · rename_i h; exact okay_err h
  rename_i hl
  split
  · exact okay_err (by decide)
  rename_i hk
  intro _
  obtain ⟨q, i, d, n0, hdq, hq, hn0, hino, hidx, hnode, hk0, hnm⟩ := place_ok (name := name) (dir := dir) (f := f) (by omega)
  obtain ⟨e, m, he, hle, hm, h1, h2, h3⟩ := look_node hv hdq hq hn0 hnode hk0 (name := name) (by omega)
  have hvd := hv.vd d (List.mem_of_getElem? hq)
  have key := hvd.removed (List.mem_of_getElem? hn0) hm (hvd.leaf m hm fun h => hk ((dir_kind h3).2 h)).2 he h1
  refine ⟨?_, by dsimp only; exact onD_len _ _ _⟩
  dsimp only
  rw [hdq, Int.toNat_natCast, onD_set hq, show (lookL f dir name).1.2 = m.ino by rw [hle]; exact h1, ← hino]
  exact hv.set_ key
theorem rmdir_okay {f : Fls} (hv : FlsV f) (dir : Fil) (name : Str) : Okay f (rmdirL f dir name) := by
  unfold rmdirL
  split
  · rename_i h; exact okay_err h
  rename_i hp
  split
  · rename_i h; exact okay_err h
  rename_i hl
  split
  · exact okay_err (by decide)
  rename_i hk
  split
  · exact okay_err (by decide)
  rename_i hem
  intro _
  obtain ⟨q, i, d, n0, hdq, hq, hn0, hino, hidx, hnode, hk0, hnm⟩ := place_ok (name := name) (dir := dir) (f := f) (by omega)
  obtain ⟨e, m, he, hle, hm, h1, h2, h3⟩ := look_node hv hdq hq hn0 hnode hk0 (name := name) (by omega)
  have hvd := hv.vd d (List.mem_of_getElem? hq)
  have key := hvd.removed (List.mem_of_getElem? hn0) hm ((empty_len h3).1 (by simpa using hem)) he h1
  refine ⟨?_, by dsimp only; exact onD_len _ _ _⟩
  dsimp only
  rw [hdq, Int.toNat_natCast, onD_set hq, show (lookL f dir name).1.2 = m.ino by rw [hle]; exact h1, ← hino]
  exact hv.set_ key
theorem set_okay {f : Fls} (hv : FlsV f) (a : Fil) (mode uid gid : Int) : (setL05 f a mode uid gid).2 = 0 → FlsV (setL05 f a mode uid gid).1 ∧ (setL05 f a mode uid gid).1.length = f.length := by
  unfold setL05
  split
  · intro h; exact absurd h (by decide)
  rename_i hh
  split
  · intro h; exact absurd h (by decide)
  rename_i hp
  intro _
  obtain ⟨q, i, d, m, haq, hq, hm, hmi, hnm2, hng⟩ := at_ok (f := f) (a := a) (by simpa using hh)
  have hvd := hv.vd d (List.mem_of_getElem? hq)
  have key := hvd.attrs (List.mem_of_getElem? hm) mode uid gid (by rw [← hng]; simpa using hp)
  refine ⟨?_, by dsimp only; exact onD_len _ _ _⟩
  dsimp only
  rw [haq, Int.toNat_natCast, onD_set hq, ← hmi]
  exact hv.set_ key
theorem make_okay {f : Fls} (hv : FlsV f) (dir : Fil) (name : Str) (n : Nod) : Okay f (mkL f dir name n) := by
  unfold mkL
  split
  · rename_i h; exact okay_err h
  rename_i hp
  split
  · exact okay_err (by decide)
  rename_i hpl
  split
  · exact okay_err (by decide)
  rename_i hl
  obtain ⟨q, i, d, n0, hdq, hq, hn0, hino, hidx, hnode, hk0, hnm⟩ := place_ok (name := name) (dir := dir) (f := f) (by omega)
  have hat : atI f dir.1 = some d := by rw [hdq, atI_nat, hq]
  rw [hat]
  simp only
  split
  · exact okay_err (by decide)
  rename_i hc
  intro _
  have hvd := hv.vd d (List.mem_of_getElem? hq)
  have hnm2 := hvd.nextM
  have key := hvd.make (List.mem_of_getElem? hn0) hk0 hnm (look_no hnode hk0 hl).1 (n := n) (by simpa using hpl) (by omega) (by omega) (full_no hnode (fun h => hc (.inr (.inr h))))
  refine ⟨?_, by simp⟩
  dsimp only
  rw [hdq, Int.toNat_natCast, ← hino]
  exact hv.set_ key
theorem dropI_updI {ns : List Nod} {a o : Int} {g : Nod → Nod} (hi : ∀ n, (g n).ino = n.ino) (he : ∀ n, (g n).entries = n.entries) : dropI (updI ns a g) o = updI (dropI ns o) a g := by
  have hc : cntN o (updI ns a g) = cntN o ns := by
    unfold cntN
    congr 1
    unfold updI
    rw [List.flatMap_map]
    congr 1
    funext n
    split
    · rw [he]
    rfl
  unfold dropI
  rw [hc]
  unfold updI
  rw [List.filter_map]
  congr 1
  apply List.filter_congr
  intro n _
  simp only [Function.comp]
  split
  · rw [hi]
  rfl
theorem updI_same {ns : List Nod} {a : Int} {g : Nod → Nod} (h : ∀ n ∈ ns, n.ino = a → g n = n) : updI ns a g = ns := by
  unfold updI
  conv => rhs; rw [← List.map_id ns]
  apply List.map_congr_left
  intro n hn
  split
  · rename_i e; rw [h n hn e]; rfl
  rfl
theorem updI_congr {ns : List Nod} {a : Int} {g g' : Nod → Nod} (h : ∀ n ∈ ns, n.ino = a → g n = g' n) : updI ns a g = updI ns a g' := by
  unfold updI
  apply List.map_congr_left
  intro n hn
  split
  · rename_i e; rw [h n hn e]
  rfl
theorem bel_anc {f : Fls} {q : Nat} {d : Dvc} (hq : f[q]? = some d) (hd : Asc d.nodes) {top : Fil} (ht : top.1 = (q : Int)) : ∀ (k n : Nat) (a : Fil), k < n → a.1 = (q : Int) → AncN d.nodes k a.2 top.2 → belF f top n a = true
  | _, 0, _, h, _, _ => by omega
  | 0, n + 1, a, _, ha, hk => by
    have e : a.2 = top.2 := hk
    unfold belF
    rw [if_neg (by omega), if_pos (Prod.ext (by omega) e)]
  | k + 1, n + 1, a, h, ha, hk => by
    obtain ⟨m, hm, h1, h2, h3, h4⟩ := hk
    unfold belF
    rw [if_neg (by omega)]
    split
    · rfl
    have hn := node_asc ha hq hd hm h1
    refine bel_anc hq hd ht k n _ (by omega) ha ?_
    simp only [nodG, hn, Option.getD_some]
    exact h4
theorem rename_okay {f : Fls} (hv : FlsV f) (src : Fil) (name : Str) (to : Fil) (name2 : Str) : Okay f (renameL f src name to name2) := by
  unfold renameL
  split
  · rename_i h; exact okay_err h
  rename_i hord
  obtain ⟨hpl1, hpl2⟩ := ord_zero (f := f) (x := src) (y := to) (name := name) (name2 := name2) (by omega)
  split
  · rename_i h; exact okay_err h
  rename_i hl1
  split
  · exact okay_err (by decide)
  rename_i hdev
  split
  · exact okay_err (by decide)
  rename_i hbel
  split
  · intro _; exact ⟨hv, rfl⟩
  rename_i hsame
  split
  · rename_i h; exact okay_err h
  rename_i hr2
  intro _
  obtain ⟨q, i, d, n1, hsq, hq, hn1, hn1i, hidx, hnode, hk1, hnm1⟩ := place_ok hpl1
  obtain ⟨q', i2, d', n2, htq, hq', hn2, hn2i, -, hnode2, hk2, hnm2⟩ := place_ok hpl2
  obtain rfl : q = q' := by omega
  obtain rfl : d = d' := Option.some.inj (hq.symm.trans hq')
  have hvd := hv.vd d (List.mem_of_getElem? hq)
  obtain ⟨e, m, he, hle, hm, hem, he1, hmn⟩ := look_node hv hsq hq hn1 hnode hk1 (name := name) (by omega)
  have hA2 : (lookL f src name).1.2 = m.ino := by rw [hle]; exact hem
  have hmoves : dirL f (lookL f src name).1 = true ↔ m.kind = 2 := dir_kind hmn
  have hanc : m.kind = 2 → ¬ Anc d.nodes n2.ino m.ino := by
    rintro hmk ⟨k, hk⟩
    have hlen := hvd.anc_len hm hk
    have := hvd.len
    refine hbel ⟨hmoves.2 hmk, bel_anc hq hvd.asc (top := (lookL f src name).1) (by rw [hle]; exact hsq) k 17 to (by omega) htq ?_⟩
    rw [hA2, ← hn2i]
    exact hk
  have hdiff : n1.ino = n2.ino → name ≠ name2 := by
    rintro h rfl
    have est : to = src := Prod.ext (by omega) (by omega)
    subst est
    exact hsame ⟨by omega, rfl⟩
  have ho : (entF n2.entries name2 = none ∧ (n2.entries.length < 12 ∨ n1.ino = n2.ino) ∧ (lookL f to name2).1.2 = 0) ∨ (∃ eo o, entF n2.entries name2 = some eo ∧ o ∈ d.nodes ∧ eo.2 = (lookL f to name2).1.2 ∧ o.ino = (lookL f to name2).1.2 ∧ (lookL f to name2).1.2 ≠ m.ino ∧ o.entries = []) := by
    have hr3 : ren2L f src to (lookL f src name).1 (lookL f to name2).1 (lookL f to name2).2 = 0 := by omega
    unfold ren2L at hr3
    by_cases h0 : (lookL f to name2).2 = 0
    · right
      rw [if_pos h0] at hr3
      obtain ⟨eo, o, heo, hleo, hom, heoi, heo1, hon⟩ := look_node hv htq hq hn2 hnode2 hk2 (name := name2) h0
      have hO2 : (lookL f to name2).1.2 = eo.2 := by rw [hleo]
      refine ⟨eo, o, heo, hom, hO2.symm, by rw [hO2, heoi], ?_, ?_⟩
      · intro h
        refine hsame ⟨h0, Prod.ext ?_ (h.trans hA2.symm)⟩
        rw [hleo, hle]; exact htq.trans hsq.symm
      have hdo := dir_kind hon
      by_cases hok : o.kind = 2
      · rw [if_neg (fun h => by
          rw [if_pos h] at hr3; exact absurd hr3 (by decide))] at hr3
        rw [if_neg (fun h => by rw [hdo.2 hok] at h; exact absurd h.1 (by decide))] at hr3
        split at hr3
        · exact absurd hr3 (by decide)
        rename_i h5
        refine (empty_len hon).1 ?_
        cases hem2 : emptyL f (lookL f to name2).1 with
        | true => rfl
        | false => exact absurd ⟨hdo.2 hok, hem2⟩ h5
      exact (hvd.leaf o hom hok).2
    left
    rw [if_neg h0] at hr3
    obtain ⟨h1, h2⟩ := look_no hnode2 hk2 h0
    refine ⟨h1, ?_, by rw [h2]⟩
    split at hr3
    · exact absurd hr3 (by decide)
    rename_i h3
    by_cases hfl : fullL f to = true
    · right
      have : src = to := Classical.byContradiction fun h => h3 ⟨hfl, h⟩
      rw [hn1i, hn2i, this]
    left; exact full_no hnode2 hfl
  have key := hvd.renamed (List.mem_of_getElem? hn1) (List.mem_of_getElem? hn2) hm hk2 he hem hnm2 hdiff hanc ho
  refine ⟨?_, by dsimp only; exact onD_len _ _ _⟩
  dsimp only
  rw [htq, Int.toNat_natCast, onD_set hq]
  have hns : renPar (renNs d.nodes src name to name2 (lookL f src name).1 (lookL f to name2).1 (lookL f to name2).2) (lookL f src name).1.2 to.2 (dirL f (lookL f src name).1) = dropI (renD d.nodes n1.ino n2.ino name name2 m.ino) (lookL f to name2).1.2 := by
    rw [← renD_eq, hA2, ← hn2i]
    have hY : ∀ y ∈ entD (entD d.nodes n1.ino name 0) n2.ino name2 m.ino, y.ino = m.ino → y.kind = m.kind := by
      intro y hy hyi
      obtain ⟨y1, h1, w1⟩ := mem_entD hy
      obtain ⟨y2, h2, w2⟩ := mem_entD h1
      have : y2 = m := asc_eq hvd.asc h2 hm (by rw [← w2.ino, ← w1.ino]; exact hyi)
      rw [w1.kind, w2.kind, this]
    have hpos : ∀ y ∈ entD (entD d.nodes n1.ino name 0) n2.ino name2 m.ino, 1 ≤ y.ino := by
      intro y hy
      obtain ⟨y1, h1, w1⟩ := mem_entD hy
      obtain ⟨y2, h2, w2⟩ := mem_entD h1
      rw [w1.ino, w2.ino]
      exact hvd.pos h2
    have hset : dropI (updI (entD (entD d.nodes n1.ino name 0) n2.ino name2 m.ino) m.ino (setPar n2.ino)) (lookL f to name2).1.2 = updI (dropI (entD (entD d.nodes n1.ino name 0) n2.ino name2 m.ino) (lookL f to name2).1.2) m.ino (setPar n2.ino) := dropI_updI (fun n => by unfold setPar; split <;> rfl) (fun n => by unfold setPar; split <;> rfl)
    rw [hset]
    have hN : renNs d.nodes src name to name2 (lookL f src name).1 (lookL f to name2).1 (lookL f to name2).2 = dropI (entD (entD d.nodes n1.ino name 0) n2.ino name2 m.ino) (lookL f to name2).1.2 := by
      unfold renNs
      rw [hA2, ← hn1i, ← hn2i]
      split
      · rfl
      rename_i h0
      rw [(look_no hnode2 hk2 h0).2]
      unfold dropI
      symm
      rw [List.filter_eq_self]
      intro y hy
      have := hpos y hy
      exact decide_eq_true (.inl (by show y.ino ≠ 0; omega))
    rw [hN]
    have hsub : ∀ y ∈ dropI (entD (entD d.nodes n1.ino name 0) n2.ino name2 m.ino) (lookL f to name2).1.2, y ∈ entD (entD d.nodes n1.ino name 0) n2.ino name2 m.ino := fun y hy => (mem_dropI.1 hy).1
    unfold renPar
    split
    · rename_i hmv
      refine updI_congr fun y hy hyi => ?_
      unfold setPar
      rw [if_pos ((hY y (hsub y hy) hyi).trans (hmoves.1 hmv))]
    rename_i hmv
    refine (updI_same fun y hy hyi => ?_).symm
    unfold setPar
    rw [if_neg (fun h => hmv (hmoves.2 ((hY y (hsub y hy) hyi).symm.trans h)))]
  rw [hns]
  exact hv.set_ key
end Go.Proofs.Ythcbdkmhamhciaa
namespace Go.Proofs.Ythcbdkmhamhciaa
open Go.RowKit

theorem tmod_rng (z : Int) {n : Int} (h : 1 ≤ n) : -n < z.tmod n ∧ z.tmod n < n := ⟨Int.lt_tmod_of_pos z (by omega), Int.tmod_lt_of_pos z (by omega)⟩
theorem size_app (a b : ByteArray) : (a ++ b).size = a.size + b.size := ByteArray.size_append
section
set_option maxRecDepth 10000
set_option maxHeartbeats 1000000
theorem Gnew (l : List Int) : ACall Try.prog 19 [.sl 1 (l.map intA) none] [] (fun r b t => r = .bp 0 0 ∧ b = [srcA l 0] ∧ t = []) := by
  refine enter Try.func19 rfl rfl rfl rfl rfl 1 rfl ?_
  refine w_ (a_ (h:=e_ (w_ (m_ (h:=bd_ (h:=b_ (h:=a_ (h:=e_ (aw_ret (?_))))))))))
  refine rt_ none (h5 := (LeA.refl _)) (h6 := ⟨rfl, rfl, rfl⟩)

theorem Gn (l : List Int) (a : Nat) (n : Int) (ha : a ≤ 1000000000000) (hn : n ≤ 1000000000000) : GenF Try.prog 42 l a [.v (.int .i64 n)] 1 (fun r => ∃ k : Int, r = .v (.int .i64 k) ∧ 0 ≤ k ∧ (1 ≤ n → k < n) ∧ (n < 1 → k = 0)) := by
  refine enter Try.func42 rfl rfl rfl rfl rfl 1 rfl ?_
  refine w_ (a_ (h:=e_ (q_ (w_ (m_ (h:=lt_ (h:=e_ (?_))))))))
  refine aw_cond rfl (fun hb1 => ?_) (fun hb1 => ?_)
  · have hc1 := bp hb1
    refine w_ (a_ (h:=e_ (aw_ret (x_thenR (?_)))))
    refine rt_ none (h5 := (LeA.refl _)) (h6 := ⟨_, rfl, rfl, a, by omega, rfl, 0, rfl, by omega, by omega, by omega⟩)
  have hc1 := bp hb1
  refine kt_ (w_ (m_ (h:=k_ (h:=f_ (h:=l_ (h:=ad_ (h:=k_ (h:=f_ (h:=s_ (h:=e_ (w_ (m_ (h:=k_ (h:=f_ (h:=l_ (h:=ml_ (h:=a_ (h:=e_ (q_ (q_ (yr_ 10 (h:=dm_ 0 (h:=dk_ 1 (h:=?_))))))))))))))))))))))))
  refine df_ 2 (h:=dl_ 3 (h:=dm_ 4 (h:=dk_ 5 (h:=df_ 6 (h:=dl_ 7 (h:=dn_ 8 (h:=dle_ 9 (h:=z_ (h:=t_ (?_))))))))))
  refine aw_cond rfl (fun hb2 => ?_) (fun hb2 => ?_)
  · have hc2 := bp hb2
    have hlt : a < l.length := by simp at hc2; omega
    obtain ⟨z, hz⟩ : ∃ z, (l.map intA)[a]? = some (intA z) := ⟨l[a], by simp [hlt]⟩
    have tz := tmod_rng z (n := n) (by omega)
    refine yr_ 12 (h:=dm_ 0 (h:=dk_ 1 (h:=df_ 2 (h:=dl_ 3 (h:=dm_ 4 (h:=dk_ 5 (h:=df_ 6 (h:=dl_ 7 (h:=dsb_ 8 (h:=?_))))))))))
    refine r_y (i := 9) rfl (st_index (n := a) rfl rfl (by omega) hz ⟨rfl, rfl⟩) ?_
    refine dl_ 10 (h:=da_ 11 (h:=z_ (h:=t_ (w_ (m_ (h:=m_ (h:=?_)))))))
    refine al_p rfl (st_rem rfl rfl (by omega) ?_)
    refine a_ (h:=e_ (q_ (w_ (m_ (h:=lt_ (h:=e_ (?_)))))))
    refine aw_cond rfl (fun hb3 => ?_) (fun hb3 => ?_)
    · have hc3 := bp hb3
      refine aw_region (m_ (h:=m_ (h:=?_)))
      refine al_p rfl (st_add64 rfl rfl (by omega) ?_)
      refine a_ (h:=e_ (w_ (m_ (h:=a_ (h:=e_ (aw_ret (?_)))))))
      refine rt_ none (h5 := (LeA.refl _)) (h6 := ⟨_, rfl, rfl, a + 1, by omega, rfl, _, rfl, by omega, by omega, by omega⟩)
    have hc3 := bp hb3
    refine kt_ (w_ (m_ (h:=a_ (h:=e_ (aw_ret (?_))))))
    refine rt_ none (h5 := (LeA.refl _)) (h6 := ⟨_, rfl, rfl, a + 1, by omega, rfl, _, rfl, by omega, by omega, by omega⟩)
  have hc2 := bp hb2
  have tz := tmod_rng (IntKind.i64.wrap (((a : Int) + 1) * 7)) (n := n) (by omega)
  refine kt_ (w_ (m_ (h:=m_ (h:=?_))))
  refine al_p rfl (st_rem rfl rfl (by omega) ?_)
  refine a_ (h:=e_ (q_ (w_ (m_ (h:=lt_ (h:=e_ (?_)))))))
  refine aw_cond rfl (fun hb4 => ?_) (fun hb4 => ?_)
  · have hc4 := bp hb4
    refine aw_region (m_ (h:=m_ (h:=?_)))
    refine al_p rfl (st_add64 rfl rfl (by omega) ?_)
    refine a_ (h:=e_ (w_ (m_ (h:=a_ (h:=e_ (aw_ret (?_)))))))
    refine rt_ none (h5 := (LeA.refl _)) (h6 := ⟨_, rfl, rfl, a + 1, by omega, rfl, _, rfl, by omega, by omega, by omega⟩)
  have hc4 := bp hb4
  refine kt_ (w_ (m_ (h:=a_ (h:=e_ (aw_ret (?_))))))
  refine rt_ none (h5 := (LeA.refl _)) (h6 := ⟨_, rfl, rfl, a + 1, by omega, rfl, _, rfl, by omega, by omega, by omega⟩)

theorem Grange (l : List Int) (a : Nat) (lo hi : Int) (ha : a ≤ 1000000000000) (h1 : -1000000 ≤ lo) (h2 : lo ≤ hi) (h3 : hi ≤ 1000000) : GenF Try.prog 54 l a [.v (.int .i64 lo), .v (.int .i64 hi)] 1 (fun r => ∃ k : Int, r = .v (.int .i64 k) ∧ lo ≤ k ∧ k ≤ hi) := by
  refine enter Try.func54 rfl rfl rfl rfl rfl 1 rfl ?_
  refine w_ (a_ (h:=e_ (w_ (m_ (h:=m_ (h:=m_ (h:=m_ (h:=sb_ (h:=ad_ (h:=?_))))))))))
  refine al_p rfl (s_gen 0 (hc := Gn l a (hi - lo + 1) ha (by omega)) (hR := ?_))
  rintro r a1 ha1 ⟨k, rfl, k1, k2, k3⟩
  refine ⟨rfl, _, (by repeat constructor), ?_⟩
  refine ad_ (h:=a_ (h:=e_ (aw_ret (?_))))
  refine rt_ none (h5 := (LeA.refl _)) (h6 := ⟨_, rfl, rfl, a1, by omega, rfl, _, rfl, by omega, by omega⟩)

theorem Gpick (l : List Int) (a : Nat) (rows : List (List AV)) (p : Int → Bool) (ha : a ≤ 1000000000000) (h0 : Nat.blt 0 rows.length = true) (h1 : Nat.ble rows.length 1000 = true) (hp : allI p rows = true) : GenF Try.prog 29 l a [.sl 1 rows none] 1 (fun r => ∃ z : Int, r = .v (.int .i64 z) ∧ p z = true) := by
  have h0' : 0 < rows.length := Nat.le_of_ble_eq_true h0
  have h1' : rows.length ≤ 1000 := Nat.le_of_ble_eq_true h1
  refine enter Try.func29 rfl rfl rfl rfl rfl 1 rfl ?_
  refine w_ (a_ (h:=e_ (w_ (m_ (h:=m_ (h:=m_ (h:=n_ (h:=?_))))))))
  refine al_p rfl (s_gen 0 (hc := Gn l a rows.length ha (by omega)) (hR := ?_))
  rintro r a1 ha1 ⟨k, rfl, k1, k2, k3⟩
  refine ⟨rfl, _, (by repeat constructor), ?_⟩
  obtain ⟨m, rfl⟩ := Int.eq_ofNat_of_zero_le k1
  obtain ⟨z, hz, pz⟩ := allI_get hp (i := m) (by omega)
  refine al_p rfl (st_index (n := m) rfl rfl rfl hz ?_)
  refine l_ (h:=a_ (h:=e_ (aw_ret (?_))))
  refine rt_ none (h5 := (LeA.refl _)) (h6 := ⟨_, rfl, rfl, a1, by omega, rfl, z, rfl, pz⟩)

theorem Gword (l : List Int) (a : Nat) (rows : List (List AV)) (p : ByteArray → Bool) (ha : a ≤ 1000000000000) (h0 : Nat.blt 0 rows.length = true) (h1 : Nat.ble rows.length 1000 = true) (hp : allS p rows = true) : GenF Try.prog 56 l a [.sl 1 rows none] 1 (fun r => ∃ z : ByteArray, r = .v (.string z) ∧ p z = true) := by
  have h0' : 0 < rows.length := Nat.le_of_ble_eq_true h0
  have h1' : rows.length ≤ 1000 := Nat.le_of_ble_eq_true h1
  refine enter Try.func56 rfl rfl rfl rfl rfl 1 rfl ?_
  refine w_ (a_ (h:=e_ (w_ (m_ (h:=m_ (h:=m_ (h:=n_ (h:=?_))))))))
  refine al_p rfl (s_gen 0 (hc := Gn l a rows.length ha (by omega)) (hR := ?_))
  rintro r a1 ha1 ⟨k, rfl, k1, k2, k3⟩
  refine ⟨rfl, _, (by repeat constructor), ?_⟩
  obtain ⟨m, rfl⟩ := Int.eq_ofNat_of_zero_le k1
  obtain ⟨z, hz, pz⟩ := allS_get hp (i := m) (by omega)
  refine al_p rfl (st_index (n := m) rfl rfl rfl hz ?_)
  refine l_ (h:=a_ (h:=e_ (aw_ret (?_))))
  refine rt_ none (h5 := (LeA.refl _)) (h6 := ⟨_, rfl, rfl, a1, by omega, rfl, z, rfl, pz⟩)

theorem Gname (l : List Int) (a : Nat) (ha : a ≤ 100000000000) : GenF Try.prog 22 l a [] 2 (fun r => ∃ s : ByteArray, r = .v (.string s) ∧ s.size ≤ 13) := by
  refine enter Try.func22 rfl rfl rfl rfl rfl 1 rfl ?_
  refine w_ (a_ (h:=e_ (q_ (w_ (m_ (h:=?_))))))
  refine al_p rfl (s_gen 0 (hc := Gn l _ (20) (by omega) (by omega)) (hR := ?_))
  rintro r a1 ha1 ⟨k1, rfl, p1, q1, o1⟩
  refine ⟨rfl, _, (by repeat constructor), ?_⟩
  refine eq_ (h:=e_ (?_))
  refine aw_cond rfl (fun hb1 => ?_) (fun hb1 => ?_)
  · have hc1 := bp hb1
    refine w_ (m_ (h:=bs_ (h:=?_)))
    refine al_p rfl (s_gen 0 (hc := Gword l _ _ (fun s => decide (s.size ≤ 13)) (by omega) (by rfl) (by rfl) (by rfl)) (hR := ?_))
    rintro r a2 ha2 ⟨k2, rfl, p2⟩
    refine ⟨rfl, _, (by repeat constructor), ?_⟩
    refine a_ (h:=e_ (aw_ret (x_thenR (?_))))
    refine rt_ none (h5 := (LeA.refl _)) (h6 := ⟨_, rfl, rfl, _, ?_, rfl, _, rfl, of_decide_eq_true ‹_›⟩) <;> omega
  have hc1 := bp hb1
  refine kt_ (w_ (m_ (h:=bs_ (h:=?_))))
  refine al_p rfl (s_gen 0 (hc := Gword l _ _ (fun s => decide (s.size ≤ 13)) (by omega) (by rfl) (by rfl) (by rfl)) (hR := ?_))
  rintro r a3 ha3 ⟨k3, rfl, p3⟩
  refine ⟨rfl, _, (by repeat constructor), ?_⟩
  refine a_ (h:=e_ (aw_ret (?_)))
  refine rt_ none (h5 := (LeA.refl _)) (h6 := ⟨_, rfl, rfl, _, ?_, rfl, _, rfl, of_decide_eq_true ‹_›⟩) <;> omega

theorem Gpath (l : List Int) (a : Nat) (ha : a ≤ 50000000000) : GenF Try.prog 57 l a [] 20 (fun r => ∃ s : ByteArray, r = .v (.string s) ∧ s.size ≤ 58) := by
  have e1 : (⟨#[47]⟩ : ByteArray).size = 1 := rfl
  have e0 : (⟨#[]⟩ : ByteArray).size = 0 := rfl
  refine enter Try.func57 rfl rfl rfl rfl rfl 1 rfl ?_
  refine w_ (a_ (h:=e_ (w_ (a_ (h:=e_ (?_))))))
  refine aw_midI (fun s => ∃ (b : Nat) (t : ByteArray), b ≤ a + 1 ∧ t.size ≤ 1 ∧ s = ⟨look [(0, .bp 0 0), (3, .v (.string t))], ⟨[srcA l b], []⟩⟩) ?_ ?_
  · skip
    refine w_ (m_ (h:=?_))
    refine al_p rfl (s_gen 0 (hc := Gn l _ (6) (by omega) (by omega)) (hR := ?_))
    rintro r a1 ha1 ⟨k1, rfl, p1, q1, o1⟩
    refine ⟨rfl, _, (by repeat constructor), ?_⟩
    refine gt_ (h:=e_ (?_))
    refine aw_cond rfl (fun hb1 => ?_) (fun hb1 => ?_)
    · have hc1 := bp hb1
      refine aw_region (a_ (h:=al_nil (?_)))
      refine x_then ?_
      refine ⟨_, ⟨_, _, ?_, ?_, rfl⟩, (wk 1 0)⟩ <;> first | omega | exact Nat.le_of_ble_eq_true rfl
    have hc1 := bp hb1
    refine aw_skip (?_)
    refine x_then ?_
    refine ⟨_, ⟨_, _, ?_, ?_, rfl⟩, (wk 1 0)⟩ <;> first | omega | exact Nat.le_of_ble_eq_true rfl
  rintro s ⟨b, t0, hb, ht0, rfl⟩
  refine w_ (m_ (h:=bs_ (h:=?_)))
  refine al_p rfl (s_gen 0 (hc := Gpick l _ _ (fun z => decide (0 ≤ z ∧ z ≤ 4)) (by omega) (by rfl) (by rfl) (by rfl)) (hR := ?_))
  rintro r a2 ha2 ⟨k2, rfl, p2⟩
  refine ⟨rfl, _, (by repeat constructor), ?_⟩
  obtain ⟨hz1, hz2⟩ := of_decide_eq_true p2
  obtain ⟨m, rfl⟩ := Int.eq_ofNat_of_zero_le hz1
  refine a_ (h:=e_ (q_ (w_ (a_ (h:=e_ (aw_block (?_)))))))
  refine aw_loopW (fun n s => ∃ (j b1 : Nat) (t : ByteArray), j ≤ m ∧ n = m - j ∧ b1 ≤ b + 1 + 4 * j ∧ t.size ≤ 1 + 14 * j ∧ s = ⟨look [(0, .bp 0 0), (3, .v (.string t)), (4, .v (.int .i64 (m : Int))), (5, .v (.int .i64 (j : Int)))], ⟨[srcA l b1], []⟩⟩) (m) ((wk 1 0)) (⟨0, _, t0, by omega, rfl, by omega, by omega, rfl⟩) ?_
  rintro n s ⟨j, b1, t, hj, rfl, hb1, ht, rfl⟩
  refine q_ (w_ (m_ (h:=m_ (h:=lt_ (h:=e_ (?_))))))
  refine aw_cond rfl (fun hb2 => ?_) (fun hb2 => ?_)
  · have hc2 := bp hb2
    refine kt_ (?_)
    refine aw_midI (fun s => ∃ (b3 : Nat) (t1 : ByteArray), b3 ≤ b1 + 4 ∧ t1.size ≤ 1 + 14 * (j + 1) ∧ s = ⟨look [(0, .bp 0 0), (3, .v (.string t1)), (4, .v (.int .i64 (m : Int))), (5, .v (.int .i64 (j : Int)))], ⟨[srcA l b3], []⟩⟩) ?_ ?_
    · skip
      refine aw_block (q_ (w_ (m_ (h:=gt_ (h:=e_ (?_))))))
      refine aw_cond rfl (fun hb3 => ?_) (fun hb3 => ?_)
      · have hc3 := bp hb3
        refine aw_region (m_ (h:=?_))
        refine al_p rfl (st_addS rfl rfl (by (try simp only [size_app]); omega) ?_)
        refine a_ (h:=e_ (w_ (m_ (h:=?_))))
        refine al_p rfl (s_gen 0 (hc := Gn l _ (8) (by omega) (by omega)) (hR := ?_))
        rintro r a3 ha3 ⟨k3, rfl, p3, q3, o3⟩
        refine ⟨rfl, _, (by repeat constructor), ?_⟩
        refine eq_ (h:=e_ (?_))
        refine aw_cond rfl (fun hb4 => ?_) (fun hb4 => ?_)
        · have hc4 := bp hb4
          refine aw_region (m_ (h:=m_ (h:=bs_ (h:=?_))))
          refine al_p rfl (s_gen 0 (hc := Gword l _ _ (fun s => decide (s.size ≤ 13)) (by omega) (by rfl) (by rfl) (by rfl)) (hR := ?_))
          rintro r a4 ha4 ⟨k4, rfl, p4⟩
          refine ⟨rfl, _, (by repeat constructor), ?_⟩
          have hw := of_decide_eq_true p4
          refine al_p rfl (st_addS rfl rfl (by (try simp only [size_app]); omega) ?_)
          refine a_ (h:=al_nil (x_blockN (?_)))
          refine x_then ?_
          refine ⟨_, ⟨_, _, ?_, ?_, rfl⟩, (wk 1 0)⟩ <;> (try simp only [size_app]) <;> omega
        have hc4 := bp hb4
        refine aw_region (m_ (h:=m_ (h:=?_)))
        refine al_p rfl (s_gen 0 (hc := Gname l _ (by omega)) (hR := ?_))
        rintro r a5 ha5 ⟨k5, rfl, hw⟩
        refine ⟨rfl, _, (by repeat constructor), ?_⟩
        refine al_p rfl (st_addS rfl rfl (by (try simp only [size_app]); omega) ?_)
        refine a_ (h:=al_nil (x_blockN (?_)))
        refine x_then ?_
        refine ⟨_, ⟨_, _, ?_, ?_, rfl⟩, (wk 1 0)⟩ <;> (try simp only [size_app]) <;> omega
      have hc3 := bp hb3
      refine kt_ (w_ (m_ (h:=?_)))
      refine al_p rfl (s_gen 0 (hc := Gn l _ (8) (by omega) (by omega)) (hR := ?_))
      rintro r a6 ha6 ⟨k6, rfl, p6, q6, o6⟩
      refine ⟨rfl, _, (by repeat constructor), ?_⟩
      refine eq_ (h:=e_ (?_))
      refine aw_cond rfl (fun hb5 => ?_) (fun hb5 => ?_)
      · have hc5 := bp hb5
        refine aw_region (m_ (h:=m_ (h:=bs_ (h:=?_))))
        refine al_p rfl (s_gen 0 (hc := Gword l _ _ (fun s => decide (s.size ≤ 13)) (by omega) (by rfl) (by rfl) (by rfl)) (hR := ?_))
        rintro r a7 ha7 ⟨k7, rfl, p7⟩
        refine ⟨rfl, _, (by repeat constructor), ?_⟩
        have hw := of_decide_eq_true p7
        refine al_p rfl (st_addS rfl rfl (by (try simp only [size_app]); omega) ?_)
        refine a_ (h:=al_nil (x_blockN (?_)))
        refine x_then ?_
        refine ⟨_, ⟨_, _, ?_, ?_, rfl⟩, (wk 1 0)⟩ <;> (try simp only [size_app]) <;> omega
      have hc5 := bp hb5
      refine aw_region (m_ (h:=m_ (h:=?_)))
      refine al_p rfl (s_gen 0 (hc := Gname l _ (by omega)) (hR := ?_))
      rintro r a8 ha8 ⟨k8, rfl, hw⟩
      refine ⟨rfl, _, (by repeat constructor), ?_⟩
      refine al_p rfl (st_addS rfl rfl (by (try simp only [size_app]); omega) ?_)
      refine a_ (h:=al_nil (x_blockN (?_)))
      refine x_then ?_
      refine ⟨_, ⟨_, _, ?_, ?_, rfl⟩, (wk 1 0)⟩ <;> (try simp only [size_app]) <;> omega
    rintro s ⟨b3, t1, hb3, ht1, rfl⟩
    refine aw_region (m_ (h:=ad_ (h:=a_ (h:=al_nil (?_)))))
    refine x_then ?_
    refine ⟨_, _, ?_, ⟨j + 1, _, _, by omega, rfl, ?_, ?_, rfl⟩, (wk 1 0)⟩ <;> omega
  have hc2 := bp hb2
  refine aw_exit (x_thenE (x_thenE (ABlock_out (t_ (q_ (w_ (m_ (h:=?_))))))))
  refine al_p rfl (s_gen 0 (hc := Gn l _ (8) (by omega) (by omega)) (hR := ?_))
  rintro r a9 ha9 ⟨k9, rfl, p9, q9, o9⟩
  refine ⟨rfl, _, (by repeat constructor), ?_⟩
  refine eq_ (h:=e_ (?_))
  refine aw_cond rfl (fun hb6 => ?_) (fun hb6 => ?_)
  · have hc6 := bp hb6
    refine aw_region (m_ (h:=?_))
    refine al_p rfl (st_addS rfl rfl (by (try simp only [size_app]); omega) ?_)
    refine a_ (h:=e_ (w_ (m_ (h:=a_ (h:=e_ (aw_ret (?_)))))))
    refine rt_ none (h5 := (LeA.refl _)) (h6 := ⟨_, rfl, rfl, _, ?_, rfl, _, rfl, ?_⟩) <;> (try simp only [size_app]) <;> omega
  have hc6 := bp hb6
  refine kt_ (w_ (m_ (h:=a_ (h:=e_ (aw_ret (?_))))))
  refine rt_ none (h5 := (LeA.refl _)) (h6 := ⟨_, rfl, rfl, _, ?_, rfl, _, rfl, ?_⟩) <;> (try simp only [size_app]) <;> omega

end
end Go.Proofs.Ythcbdkmhamhciaa
namespace Go.Proofs.Ythcbdkmhamhciaa
open Go.RowKit

section
set_option maxRecDepth 10000
set_option maxHeartbeats 1000000
theorem Gfile (l : List Int) (a : Nat) (f : Fls) (ha : a ≤ 100000000000) (hf : FlsB f) (hne : ∀ d ∈ f, 0 < d.nodes.length) : GenF Try.prog 21 l a [.agg (flsA f)] 4 (fun r => ∃ x : Fil, r = .agg (filA x)) := by
  have hfew := hf.few
  have hml : (f.map dvcA).length = f.length := by simp
  refine enter Try.func21 rfl rfl rfl rfl rfl 1 rfl ?_
  refine w_ (b_ (h:=al_ (h:=e_ (w_ (m_ (h:=f_ (h:=l_ (h:=n_ (h:=?_)))))))))
  refine al_p rfl (s_gen 0 (hc := Gn l _ ((f.map dvcA).length : Int) (by omega) (by omega)) (hR := ?_))
  rintro r a1 ha1 ⟨k1, rfl, p1, q1, o1⟩
  refine ⟨rfl, _, (by repeat constructor), ?_⟩
  obtain ⟨m, rfl⟩ := Int.eq_ofNat_of_zero_le p1
  refine a_ (h:=e_ (q_ (w_ (f_ (h:=l_ (h:=n_ (h:=eq_ (h:=m_ (h:=?_)))))))))
  refine al_gs false rfl rfl (fun hb1 => ?_) (fun hb1 => ?_)
  · have hc1 := bp hb1
    refine g0_ (h:=g0_ (h:=g0_ (h:=pt_ (h:=e_ (cy_ (h:=w_ (m_ (h:=?_))))))))
    refine al_p rfl (s_gen 0 (hc := Grange l _ (-1) (3) (by omega) (by omega) (by omega) (by omega)) (hR := ?_))
    rintro r a2 ha2 ⟨k2, rfl, p2, q2⟩
    refine ⟨rfl, _, (by repeat constructor), ?_⟩
    refine m_ (h:=?_)
    refine al_p rfl (s_gen 0 (hc := Grange l _ (-1) (9) (by omega) (by omega) (by omega) (by omega)) (hR := ?_))
    rintro r a3 ha3 ⟨k3, rfl, p3, q3⟩
    refine ⟨rfl, _, (by repeat constructor), ?_⟩
    refine bd_ (h:=s_ (h:=e_ (aw_ret (x_thenR (?_)))))
    refine rt_ none (h5 := (LeA.refl _)) (h6 := ⟨_, rfl, rfl, _, ?_, rfl, (_, _), rfl⟩) <;> omega
  have hc1 := bp hb1
  refine m_ (h:=?_)
  refine g_y (s_gen 0 (hc := Gn l _ (24) (by omega) (by omega)) (hR := ?_))
  rintro r a4 ha4 ⟨k4, rfl, p4, q4, o4⟩
  refine ⟨rfl, _, (by repeat constructor), ?_⟩
  refine eq_ (h:=pf_ (h:=e_ (?_)))
  refine aw_cond rfl (fun hb2 => ?_) (fun hb2 => ?_)
  · have hc2 := bp hb2
    refine w_ (m_ (h:=?_))
    refine al_p rfl (s_gen 0 (hc := Grange l _ (-1) (3) (by omega) (by omega) (by omega) (by omega)) (hR := ?_))
    rintro r a5 ha5 ⟨k5, rfl, p5, q5⟩
    refine ⟨rfl, _, (by repeat constructor), ?_⟩
    refine m_ (h:=?_)
    refine al_p rfl (s_gen 0 (hc := Grange l _ (-1) (9) (by omega) (by omega) (by omega) (by omega)) (hR := ?_))
    rintro r a6 ha6 ⟨k6, rfl, p6, q6⟩
    refine ⟨rfl, _, (by repeat constructor), ?_⟩
    refine bd_ (h:=s_ (h:=e_ (aw_ret (x_thenR (?_)))))
    refine rt_ none (h5 := (LeA.refl _)) (h6 := ⟨_, rfl, rfl, _, ?_, rfl, (_, _), rfl⟩) <;> omega
  have hc2 := bp hb2
  obtain ⟨-, d, hd, hrow, -⟩ := row_at dvcA (l := f) (k := m) (by omega)
  have hdn := hf.nodes d (List.mem_of_getElem? hd)
  have hpos := hne d (List.mem_of_getElem? hd)
  have hdl : (d.nodes.map nodA).length = d.nodes.length := by simp
  refine kt_ (w_ (f_ (h:=l_ (h:=m_ (h:=?_)))))
  refine al_p rfl (st_index (n := m) rfl rfl rfl hrow ?_)
  refine f_ (h:=l_ (h:=a_ (h:=e_ (w_ (m_ (h:=m_ (h:=m_ (h:=m_ (h:=n_ (h:=?_))))))))))
  refine al_p rfl (s_gen 0 (hc := Gn l _ ((d.nodes.map nodA).length : Int) (by omega) (by omega)) (hR := ?_))
  rintro r a7 ha7 ⟨k7, rfl, p7, q7, o7⟩
  refine ⟨rfl, _, (by repeat constructor), ?_⟩
  obtain ⟨i, rfl⟩ := Int.eq_ofNat_of_zero_le p7
  obtain ⟨-, n, hn, hrow2, -⟩ := row_at nodA (l := d.nodes) (k := i) (by omega)
  refine al_p rfl (st_index (n := i) rfl rfl rfl hrow2 ?_)
  refine f_ (h:=l_ (h:=bd_ (h:=s_ (h:=e_ (aw_ret (?_))))))
  refine rt_ none (h5 := (LeA.refl _)) (h6 := ⟨_, rfl, rfl, _, ?_, rfl, (_, _), rfl⟩) <;> omega

end
end Go.Proofs.Ythcbdkmhamhciaa
namespace Go.Proofs.Ythcbdkmhamhciaa
open Go.RowKit

section
set_option maxRecDepth 10000
set_option maxHeartbeats 1000000
theorem Gattr (l : List Int) (a : Nat) (ha : a ≤ 10000000000) : GenF Try.prog 23 l a [] 60 (fun r => ∃ n : Nod, n.target.size ≤ 100 ∧ n.entries = [] ∧ r = .agg (nodA n)) := by
  refine enter Try.func23 rfl rfl rfl rfl rfl 1 rfl ?_
  refine w_ (al_ (h:=e_ (w_ (m_ (h:=bs_ (h:=?_))))))
  refine al_p rfl (s_gen 0 (hc := Gpick l _ _ (fun _ => true) (by omega) (by rfl) (by rfl) (by rfl)) (hR := ?_))
  rintro r a1 ha1 ⟨k1, rfl, p1⟩
  refine ⟨rfl, _, (by repeat constructor), ?_⟩
  refine m_ (h:=bs_ (h:=?_))
  refine al_p rfl (s_gen 0 (hc := Gpick l _ _ (fun _ => true) (by omega) (by rfl) (by rfl) (by rfl)) (hR := ?_))
  rintro r a2 ha2 ⟨k2, rfl, p2⟩
  refine ⟨rfl, _, (by repeat constructor), ?_⟩
  refine m_ (h:=bs_ (h:=?_))
  refine al_p rfl (s_gen 0 (hc := Gpick l _ _ (fun _ => true) (by omega) (by rfl) (by rfl) (by rfl)) (hR := ?_))
  rintro r a3 ha3 ⟨k3, rfl, p3⟩
  refine ⟨rfl, _, (by repeat constructor), ?_⟩
  refine m_ (h:=bs_ (h:=?_))
  refine al_p rfl (s_gen 0 (hc := Gpick l _ _ (fun _ => true) (by omega) (by rfl) (by rfl) (by rfl)) (hR := ?_))
  rintro r a4 ha4 ⟨k4, rfl, p4⟩
  refine ⟨rfl, _, (by repeat constructor), ?_⟩
  refine bd_ (h:=al_ (h:=s_ (h:=e_ (?_))))
  refine aw_midI (fun s => ∃ (b : Nat) (ki mo ui gi : Int) (ta : ByteArray), b ≤ a + 24 ∧ ta.size ≤ 100 ∧ s = ⟨look [(0, .bp 0 0), (2, .bp 1 0), (3, .bp 2 0)], ⟨[srcA l b, [.v (.int .i64 0), .v (.int .i64 0), .v (.int .i64 0), .v (.int .i64 0), .v (.int .i64 0), .v (.int .i64 0), .v (.string ⟨#[]⟩), .v (.slice none 0 0)], [.v (.int .i64 0), .v (.int .i64 ki), .v (.int .i64 mo), .v (.int .i64 ui), .v (.int .i64 gi), .v (.int .i64 0), .v (.string ta), .v (.slice none 0 0)]], []⟩⟩) ?_ ?_
  · skip
    refine w_ (f_ (h:=l_ (h:=eq_ (h:=e_ (?_)))))
    refine aw_cond rfl (fun hb1 => ?_) (fun hb1 => ?_)
    · have hc1 := bp hb1
      refine aw_region (m_ (h:=?_))
      refine al_p rfl (s_gen 0 (hc := Gpath l _ (by omega)) (hR := ?_))
      rintro r a5 ha5 ⟨k5, rfl, p5⟩
      refine ⟨rfl, _, (by repeat constructor), ?_⟩
      refine f_ (h:=s_ (h:=al_nil (?_)))
      refine x_then ?_
      refine ⟨_, ⟨_, _, _, _, _, _, ?_, ?_, rfl⟩, (wk 3 0)⟩ <;> first | omega | assumption | exact Nat.zero_le _
    have hc1 := bp hb1
    refine aw_skip (?_)
    refine x_then ?_
    refine ⟨_, ⟨_, _, _, _, _, _, ?_, ?_, rfl⟩, (wk 3 0)⟩ <;> first | omega | assumption | exact Nat.zero_le _
  rintro s ⟨b, ki, mo, ui, gi, ta, hb, hta, rfl⟩
  refine aw_midI (fun s => ∃ (b2 : Nat) (mo2 : Int) (ta2 : ByteArray), b2 ≤ a + 50 ∧ ta2.size ≤ 100 ∧ s = ⟨look [(2, .bp 1 0), (3, .bp 2 0)], ⟨[srcA l b2, [.v (.int .i64 0), .v (.int .i64 0), .v (.int .i64 0), .v (.int .i64 0), .v (.int .i64 0), .v (.int .i64 0), .v (.string ⟨#[]⟩), .v (.slice none 0 0)], [.v (.int .i64 0), .v (.int .i64 ki), .v (.int .i64 mo2), .v (.int .i64 ui), .v (.int .i64 gi), .v (.int .i64 0), .v (.string ta2), .v (.slice none 0 0)]], []⟩⟩) ?_ ?_
  · skip
    refine w_ (m_ (h:=?_))
    refine al_p rfl (s_gen 0 (hc := Gn l _ (20) (by omega) (by omega)) (hR := ?_))
    rintro r a6 ha6 ⟨k6, rfl, p6, q6, o6⟩
    refine ⟨rfl, _, (by repeat constructor), ?_⟩
    refine eq_ (h:=e_ (?_))
    refine aw_cond rfl (fun hb2 => ?_) (fun hb2 => ?_)
    · have hc2 := bp hb2
      refine aw_region (m_ (h:=bs_ (h:=?_)))
      refine al_p rfl (s_gen 0 (hc := Gpick l _ _ (fun _ => true) (by omega) (by rfl) (by rfl) (by rfl)) (hR := ?_))
      rintro r a7 ha7 ⟨k7, rfl, p7⟩
      refine ⟨rfl, _, (by repeat constructor), ?_⟩
      refine m_ (h:=?_)
      refine al_p rfl (s_gen 0 (hc := Gpath l _ (by omega)) (hR := ?_))
      rintro r a8 ha8 ⟨k8, rfl, p8⟩
      refine ⟨rfl, _, (by repeat constructor), ?_⟩
      refine f_ (h:=s_ (h:=f_ (h:=s_ (h:=al_nil (?_)))))
      refine x_then ?_
      refine ⟨_, ⟨_, _, _, ?_, ?_, rfl⟩, (wk 3 0)⟩ <;> first | omega | assumption
    have hc2 := bp hb2
    refine aw_skip (?_)
    refine x_then ?_
    refine ⟨_, ⟨_, _, _, ?_, ?_, rfl⟩, (wk 3 0)⟩ <;> first | omega | assumption
  rintro s ⟨b2, mo2, ta2, hb2, hta2, rfl⟩
  refine w_ (l_ (h:=s_ (h:=e_ (aw_ret (?_)))))
  refine rt_ (r := .agg (nodA ⟨0, ki, mo2, ui, gi, 0, ta2, []⟩)) none (h5 := (by repeat (first | exact LeA.refl _ | exact LeA.nil _ | exact LeL.refl _ | refine LeA.agg ?_ | refine LeA.tup ?_ | exact LeL.nil | refine LeL.cons ?_ ?_ | exact LeA.any _))) (h6 := ⟨_, rfl, rfl, b2, by omega, rfl, ⟨0, ki, mo2, ui, gi, 0, ta2, []⟩, hta2, rfl, rfl⟩)

end
end Go.Proofs.Ythcbdkmhamhciaa
namespace Go.Proofs.Ythcbdkmhamhciaa
open Go.RowKit

theorem FlsV.ne {f : Fls} (h : FlsV f) : ∀ d ∈ f, 0 < d.nodes.length := fun d hd => by
  obtain ⟨r, rest, hr, _⟩ := (h.vd d hd).root
  rw [hr]; simp
theorem root_vd : VD rootDvc := by
  refine ⟨by decide, by decide, by decide, ⟨rootNod, [], rfl, rfl, rfl, rfl⟩, List.pairwise_singleton _ _, ?_, ?_, ?_, ?_, ?_, ?_, ?_, ?_, ?_, ⟨fun _ => 0, ?_⟩⟩ <;>
    (intro n hn; obtain rfl : n = rootNod := by simpa [rootDvc] using hn)
  · decide
  · decide +kernel
  · intro h; exact absurd rfl h
  · decide
  · exact List.Pairwise.nil
  · intro e he; cases he
  · intro h; exact absurd rfl h
  · intro h; exact absurd rfl h
  · intro h; exact absurd rfl h
  intro h; exact absurd rfl h
theorem new_valid {k : Int} (h1 : 1 ≤ k) (h2 : k ≤ 3) : FlsV (newL k).1 ∧ 0 < (newL k).1.length := by
  unfold newL
  rw [if_neg (by omega)]
  refine ⟨⟨?_, fun d hd => ?_⟩, ?_⟩
  · show (List.replicate _ _).length ≤ 3
    rw [List.length_replicate]; omega
  · rw [(List.mem_replicate.1 hd).2]; exact root_vd
  show 0 < (List.replicate _ _).length
  rw [List.length_replicate]; omega
section
set_option maxRecDepth 10000
set_option maxHeartbeats 1000000
theorem Gchange (l : List Int) (a : Nat) (f : Fls) (ha : a ≤ 1000000000) (hv : FlsV f) : GenF Try.prog 55 l a [.agg (flsA f)] 80 (fun r => ∃ f', r = .agg (flsA f') ∧ FlsV f' ∧ f'.length = f.length) := by
  have hf := hv.b
  have hne := hv.ne
  refine enter Try.func55 rfl rfl rfl rfl rfl 1 rfl ?_
  refine w_ (b_ (h:=al_ (h:=e_ (w_ (m_ (h:=l_ (h:=?_)))))))
  refine al_p rfl (s_gen 0 (hc := Gfile l _ f (by omega) hf hne) (hR := ?_))
  rintro r a1 ha1 ⟨x1, rfl⟩
  refine ⟨rfl, _, (by repeat constructor), ?_⟩
  refine m_ (h:=?_)
  refine al_p rfl (s_gen 0 (hc := Gname l _ (by omega)) (hR := ?_))
  rintro r a2 ha2 ⟨k2, rfl, p2⟩
  refine ⟨rfl, _, (by repeat constructor), ?_⟩
  refine al_ (h:=s_ (h:=a_ (h:=e_ (w_ (l_ (h:=al_ (h:=s_ (h:=a_ (h:=e_ (?_))))))))))
  refine aw_midI (fun t => ∃ (R1 : Fls) (e : Int) (b : Nat), b ≤ a + 80 ∧ (e = 0 → FlsV R1 ∧ R1.length = f.length) ∧ t = ⟨look [(3, .bp 1 0), (4, .bp 2 0), (7, .bp 4 0), (8, .v (.int .i64 e))], ⟨[srcA l b, flsA f, [.v (.slice none 0 0)], filA x1, flsA R1], []⟩⟩) ?_ ?_
  · skip
    refine w_ (m_ (h:=?_))
    refine al_p rfl (s_gen 0 (hc := Gn l _ (8) (by omega) (by omega)) (hR := ?_))
    rintro r a3 ha3 ⟨k3, rfl, p3, q3, o3⟩
    refine ⟨rfl, _, (by repeat constructor), ?_⟩
    refine e_ (aw_block (w_ (eq_ (h:=a_ (h:=e_ (?_))))))
    refine aw_cond rfl (fun hb1 => ?_) (fun hb1 => ?_)
    · have hc1 := bp hb1
      refine yk_ ([(1, flsA f), (2, [.v (.slice none 0 0)]), (3, filA x1)]) 13 (h:=dl_ 0 (h:=dl_ 1 (h:=dm_ 2 (h:=dm_ 3 (h:=dl_ 4 (h:=?_))))))
      refine c_ 5 rfl (s_gen 0 (hc := Gfile l _ f (by omega) hf hne) (hR := ?_))
      rintro r a4 ha4 ⟨x4, rfl⟩
      refine ⟨rfl, _, (by repeat constructor), ?_⟩
      refine o_ (h:=?_)
      refine c_ 6 rfl (q_call (Rlink f x1 k2 x4 hv (by omega)) ?_)
      rintro r rfl
      refine o_ (h:=dm_ 7 (h:=dx_ 8 (h:=dx_ 9 (h:=dx_ 10 (h:=?_)))))
      refine c0_ 11 rfl (s_store rfl rfl rfl rfl rfl rfl (by repeat constructor) (by repeat constructor) ?_)
      refine o_ (h:=da_ 12 (h:=z_ (h:=x_blockN (?_))))
      refine x_then ?_
      refine ⟨_, ⟨_, _, _, ?_, ?_, rfl⟩, (wk 5 0)⟩
      · omega
      first | exact link_okay hv _ _ _ | exact unlink_okay hv _ _ | exact rmdir_okay hv _ _ | exact rename_okay hv _ _ _ _ | exact set_okay hv _ _ _ _ | exact make_okay hv _ _ _
    have hc1 := bp hb1
    refine w_ (eq_ (h:=a_ (h:=e_ (?_))))
    refine aw_cond rfl (fun hb2 => ?_) (fun hb2 => ?_)
    · have hc2 := bp hb2
      refine aw_region (l_ (h:=l_ (h:=m_ (h:=?_))))
      refine al_p rfl (q_call (Runlink f x1 k2 hv (by omega)) ?_)
      rintro r rfl
      refine m_ (h:=x_ (h:=x_ (h:=x_ (h:=s_ (h:=a_ (h:=al_nil (x_blockN (?_))))))))
      refine x_then ?_
      refine ⟨_, ⟨_, _, _, ?_, ?_, rfl⟩, (wk 5 0)⟩
      · omega
      first | exact link_okay hv _ _ _ | exact unlink_okay hv _ _ | exact rmdir_okay hv _ _ | exact rename_okay hv _ _ _ _ | exact set_okay hv _ _ _ _ | exact make_okay hv _ _ _
    have hc2 := bp hb2
    refine w_ (eq_ (h:=a_ (h:=e_ (?_))))
    refine aw_cond rfl (fun hb3 => ?_) (fun hb3 => ?_)
    · have hc3 := bp hb3
      refine aw_region (l_ (h:=l_ (h:=m_ (h:=?_))))
      refine al_p rfl (q_call (Rrmdir f x1 k2 hv (by omega)) ?_)
      rintro r rfl
      refine m_ (h:=x_ (h:=x_ (h:=x_ (h:=s_ (h:=a_ (h:=al_nil (x_blockN (?_))))))))
      refine x_then ?_
      refine ⟨_, ⟨_, _, _, ?_, ?_, rfl⟩, (wk 5 0)⟩
      · omega
      first | exact link_okay hv _ _ _ | exact unlink_okay hv _ _ | exact rmdir_okay hv _ _ | exact rename_okay hv _ _ _ _ | exact set_okay hv _ _ _ _ | exact make_okay hv _ _ _
    have hc3 := bp hb3
    refine w_ (eq_ (h:=a_ (h:=e_ (?_))))
    refine aw_cond rfl (fun hb4 => ?_) (fun hb4 => ?_)
    · have hc4 := bp hb4
      refine yk_ ([(1, flsA f), (2, [.v (.slice none 0 0)]), (3, filA x1)]) 15 (h:=dl_ 0 (h:=dl_ 1 (h:=dm_ 2 (h:=dm_ 3 (h:=dl_ 4 (h:=dm_ 6 (h:=?_)))))))
      refine c_ 5 rfl (s_gen 0 (hc := Gfile l _ f (by omega) hf hne) (hR := ?_))
      rintro r a5 ha5 ⟨x5, rfl⟩
      refine ⟨rfl, _, (by repeat constructor), ?_⟩
      refine o_ (h:=?_)
      refine c_ 7 rfl (s_gen 0 (hc := Gname l _ (by omega)) (hR := ?_))
      rintro r a6 ha6 ⟨k6, rfl, p6⟩
      refine ⟨rfl, _, (by repeat constructor), ?_⟩
      refine o_ (h:=?_)
      refine c_ 8 rfl (q_call (Rrename f x1 k2 x5 k6 hv (by omega) (by omega)) ?_)
      rintro r rfl
      refine o_ (h:=dm_ 9 (h:=dx_ 10 (h:=dx_ 11 (h:=dx_ 12 (h:=?_)))))
      refine c0_ 13 rfl (s_store rfl rfl rfl rfl rfl rfl (by repeat constructor) (by repeat constructor) ?_)
      refine o_ (h:=da_ 14 (h:=z_ (h:=x_blockN (?_))))
      refine x_then ?_
      refine ⟨_, ⟨_, _, _, ?_, ?_, rfl⟩, (wk 5 0)⟩
      · omega
      first | exact link_okay hv _ _ _ | exact unlink_okay hv _ _ | exact rmdir_okay hv _ _ | exact rename_okay hv _ _ _ _ | exact set_okay hv _ _ _ _ | exact make_okay hv _ _ _
    have hc4 := bp hb4
    refine w_ (eq_ (h:=a_ (h:=e_ (?_))))
    refine aw_cond rfl (fun hb5 => ?_) (fun hb5 => ?_)
    · have hc5 := bp hb5
      refine yk_ ([(1, flsA f), (2, [.v (.slice none 0 0)]), (3, filA x1)]) 12 (h:=dl_ 0 (h:=dl_ 1 (h:=dm_ 2 (h:=dm_ 4 (h:=?_)))))
      refine c_ 3 rfl (s_gen 0 (hc := Gn l _ (9) (by omega) (by omega)) (hR := ?_))
      rintro r a7 ha7 ⟨k7, rfl, p7, q7, o7⟩
      refine ⟨rfl, _, (by repeat constructor), ?_⟩
      refine o_ (h:=?_)
      refine c_ 5 rfl (s_gen 0 (hc := Gn l _ (9) (by omega) (by omega)) (hR := ?_))
      rintro r a8 ha8 ⟨k8, rfl, p8, q8, o8⟩
      refine ⟨rfl, _, (by repeat constructor), ?_⟩
      refine o_ (h:=?_)
      refine c_ 6 rfl (q_call (Rset f x1 511 k7 k8 hv) ?_)
      rintro r rfl
      refine o_ (h:=dm_ 7 (h:=dx_ 8 (h:=dx_ 9 (h:=?_))))
      refine c0_ 10 rfl (s_store rfl rfl rfl rfl rfl rfl (by repeat constructor) (by repeat constructor) ?_)
      refine o_ (h:=da_ 11 (h:=z_ (h:=x_blockN (?_))))
      refine x_then ?_
      refine ⟨_, ⟨_, _, _, ?_, ?_, rfl⟩, (wk 5 0)⟩
      · omega
      first | exact link_okay hv _ _ _ | exact unlink_okay hv _ _ | exact rmdir_okay hv _ _ | exact rename_okay hv _ _ _ _ | exact set_okay hv _ _ _ _ | exact make_okay hv _ _ _
    have hc5 := bp hb5
    refine yk_ ([(1, flsA f), (2, [.v (.slice none 0 0)]), (3, filA x1)]) 12 (h:=dl_ 0 (h:=dl_ 1 (h:=dm_ 2 (h:=dm_ 3 (h:=?_)))))
    refine c_ 4 rfl (s_gen 0 (hc := Gattr l _ (by omega)) (hR := ?_))
    rintro r a9 ha9 ⟨n9, ht9, he9, rfl⟩
    refine ⟨rfl, _, (by repeat constructor), ?_⟩
    refine o_ (h:=?_)
    refine c_ 5 rfl (q_call (Rmake f x1 k2 n9 hv (by omega) (by omega)) ?_)
    rintro r rfl
    refine o_ (h:=dm_ 6 (h:=dx_ 7 (h:=dx_ 8 (h:=dx_ 9 (h:=?_)))))
    refine c0_ 10 rfl (s_store rfl rfl rfl rfl rfl rfl (by repeat constructor) (by repeat constructor) ?_)
    refine o_ (h:=da_ 11 (h:=z_ (h:=x_blockN (?_))))
    refine x_then ?_
    refine ⟨_, ⟨_, _, _, ?_, ?_, rfl⟩, (wk 5 0)⟩
    · omega
    first | exact link_okay hv _ _ _ | exact unlink_okay hv _ _ | exact rmdir_okay hv _ _ | exact rename_okay hv _ _ _ _ | exact set_okay hv _ _ _ _ | exact make_okay hv _ _ _
  rintro t ⟨R1, e, b, hb, hok, rfl⟩
  refine q_ (w_ (m_ (h:=nq_ (h:=e_ (?_)))))
  refine aw_cond rfl (fun hb6 => ?_) (fun hb6 => ?_)
  · have hc6 := bp hb6
    refine w_ (l_ (h:=s_ (h:=e_ (aw_ret (x_thenR (?_))))))
    refine rt_ none (h5 := (LeA.refl _)) (h6 := ⟨_, rfl, rfl, b, hb, rfl, f, rfl, hv, rfl⟩)
  have hc6 := bp hb6
  refine kt_ (w_ (l_ (h:=s_ (h:=e_ (aw_ret (?_))))))
  refine rt_ none (h5 := (LeA.refl _)) (h6 := ⟨_, rfl, rfl, b, hb, rfl, R1, rfl, hok (by omega)⟩)

theorem Gfiles (l : List Int) (a : Nat) (ha : a ≤ 100000000) : GenF Try.prog 20 l a [] 1000 (fun r => ∃ f, r = .agg (flsA f) ∧ FlsV f ∧ 0 < f.length) := by
  refine enter Try.func20 rfl rfl rfl rfl rfl 1 rfl ?_
  refine w_ (al_ (h:=e_ (w_ (m_ (h:=?_)))))
  refine al_p rfl (s_gen 0 (hc := Grange l _ (1) (3) (by omega) (by omega) (by omega) (by omega)) (hR := ?_))
  rintro r a1 ha1 ⟨k1, rfl, p1, q1⟩
  refine ⟨rfl, _, (by repeat constructor), ?_⟩
  refine al_p rfl (q_call (Rnew k1) ?_)
  rintro r rfl
  refine m_ (h:=x_ (h:=x_ (h:=al_ (h:=s_ (h:=a_ (h:=e_ (q_ (w_ (m_ (h:=?_))))))))))
  refine al_p rfl (s_gen 0 (hc := Grange l _ (2) (12) (by omega) (by omega) (by omega) (by omega)) (hR := ?_))
  rintro r a2 ha2 ⟨k2, rfl, p2, q2⟩
  refine ⟨rfl, _, (by repeat constructor), ?_⟩
  refine a_ (h:=e_ (aw_block (?_)))
  obtain ⟨hv0, hp0⟩ := new_valid p1 q1
  obtain ⟨M, rfl⟩ := Int.eq_ofNat_of_zero_le (show 0 ≤ k2 by omega)
  refine aw_loopW (fun n s => ∃ (j b : Nat) (f : Fls), j ≤ M ∧ n = j ∧ b + 80 * j ≤ a + 2 + 80 * M ∧ FlsV f ∧ 0 < f.length ∧ s = ⟨look [(0, .bp 0 0), (2, .bp 1 0), (3, .bp 2 0), (5, .v (.int .i64 (j : Int)))], ⟨[srcA l b, [.v (.slice none 0 0)], flsA f], []⟩⟩) (M) ((wk 3 0)) (⟨M, _, _, Nat.le_refl _, rfl, by omega, hv0, hp0, rfl⟩) ?_
  rintro n s ⟨j, b, f, hj, rfl, hb, hv, hp, rfl⟩
  refine q_ (w_ (m_ (h:=gt_ (h:=e_ (?_)))))
  refine aw_cond rfl (fun hb1 => ?_) (fun hb1 => ?_)
  · have hc1 := bp hb1
    refine kt_ (q_ (aw_block (aw_region (m_ (h:=l_ (h:=?_))))))
    refine al_p rfl (s_gen 0 (hc := Gchange l _ f (by omega) hv) (hR := ?_))
    rintro r a3 ha3 ⟨f3, rfl, hv3, hl3⟩
    refine ⟨rfl, _, (by repeat constructor), ?_⟩
    refine s_ (h:=al_nil (x_blockN (t_ (aw_region (m_ (h:=?_))))))
    refine al_p rfl (st_sub64 rfl rfl (by omega) ?_)
    refine a_ (h:=al_nil (?_))
    refine x_then ?_
    refine ⟨n - 1, _, by omega, ⟨n - 1, _, f3, by omega, rfl, ?_, hv3, by omega, rfl⟩, (by rw [show ((n - 1 : Nat) : Int) = (n : Int) - 1 by omega]; exact weak_of 3 0 rfl rfl rfl rfl ((by repeat (first | exact Sub.nil | refine Sub.cons _ _ _ rfl rfl ?_ | refine Sub.any _ _ ?_ | refine Sub.sl _ _ _ _ _ rfl ?_ | refine Sub.slnil _ _ _ rfl ?_))))⟩
    omega
  have hc1 := bp hb1
  refine aw_exit (x_thenE (x_thenE (ABlock_out (t_ (w_ (l_ (h:=s_ (h:=e_ (aw_ret (?_))))))))))
  refine rt_ none (h5 := (LeA.refl _)) (h6 := ⟨_, rfl, rfl, b, by omega, rfl, f, rfl, hv, hp⟩)

end
end Go.Proofs.Ythcbdkmhamhciaa
namespace Go.Proofs.Ythcbdkmhamhciaa
open Go.RowKit

theorem bp_plain {n m sz cap : Nat} {rows : List (List AV)} (h : ∀ r ∈ rows, ∀ x ∈ r, ∃ v, x = .v v) : bpLtL n m (rowsB sz cap rows) = true :=
  bpLt_rowsB fun r hr => bpLtL_all.2 fun x hx => by obtain ⟨v, rfl⟩ := h r hr x hx; rfl
theorem map_plain {F : AV → AV} (hany : F .any = .any) (hv : ∀ x, F (.v x) = .v x) {sz cap : Nat} {rows : List (List AV)} (h : ∀ r ∈ rows, ∀ x ∈ r, ∃ v, x = .v v) : (rowsB sz cap rows).map F = rowsB sz cap rows := by
  rw [rowsB_map F hany]
  congr 1
  conv => rhs; rw [← List.map_id rows]
  apply List.map_congr_left
  intro r hr
  conv => rhs; rw [id, ← List.map_id r]
  apply List.map_congr_left
  intro x hx
  obtain ⟨v, rfl⟩ := h r hr x hx
  exact hv v
theorem ren_rows {g : Nat → Option Nat} {sz cap : Nat} {rows : List (List AV)} (h : ∀ r ∈ rows, ∀ x ∈ r, ∃ v, x = .v v) : renL g (rowsB sz cap rows) = rowsB sz cap rows := by
  rw [renL_map]
  exact map_plain rfl (fun _ => rfl) h
end Go.Proofs.Ythcbdkmhamhciaa
namespace Go.Proofs.Ythcbdkmhamhciaa
open Go.RowKit

def entX (es : List Ent) : AV := if es = [] then .v (.slice none 0 0) else .sl 2 (es.map entA) none
def nodX (n : Nod) (e : AV) : List AV := [.v (.int .i64 n.ino), .v (.int .i64 n.kind), .v (.int .i64 n.mode), .v (.int .i64 n.uid), .v (.int .i64 n.gid), .v (.int .i64 n.parent), .v (.string n.target), e]
def nodF (n : Nod) : List AV := nodX n (entX n.entries)
def nodB (n : Nod) (j cap : Nat) : List AV := nodX n (.bs j 0 2 n.entries.length cap)
theorem ent_plain (l : List Ent) : ∀ r ∈ l.map entA, ∀ x ∈ r, ∃ v, x = .v v := by
  intro r hr x hx
  obtain ⟨c, _, rfl⟩ := List.mem_map.1 hr
  simp only [entA, List.mem_cons, List.not_mem_nil, or_false] at hx
  rcases hx with rfl | rfl <;> exact ⟨_, rfl⟩
theorem ent_two (l : List Ent) : ∀ r ∈ l.map entA, r.length = 2 := by
  intro r hr
  obtain ⟨d, _, rfl⟩ := List.mem_map.1 hr
  rfl
def EB (es : List Ent) (cap : Nat) : List AV := rowsB 2 cap (es.map entA)
theorem bp_EB {n m : Nat} (es : List Ent) (cap : Nat) : bpLtL n m (EB es cap) = true := bp_plain (ent_plain es)
theorem ren_EB (g : Nat → Option Nat) (es : List Ent) (cap : Nat) : renL g (EB es cap) = EB es cap := ren_rows (ent_plain es)
theorem entX_or (es : List Ent) : entX es = .v (.slice none 0 0) ∨ entX es = .sl 2 (es.map entA) none := by
  unfold entX
  split
  · exact .inl rfl
  exact .inr rfl
section
set_option maxRecDepth 10000
set_option maxHeartbeats 1000000
theorem PcopiedX (es : List Ent) (hes : es.length ≤ 1000) : AFn Try.prog 96 [.sl 2 (es.map entA) none, .fn 97 []] (fun r => r = entX es) := by
  have hml : (es.map entA).length = es.length := by simp
  refine enter Try.func96 rfl rfl rfl rfl rfl 0 rfl ?_
  refine w_ (a_ (h:=e_ (q_ (w_ (m_ (h:=n_ (h:=eq_ (h:=e_ (?_)))))))))
  refine aw_cond rfl (fun hb1 => ?_) (fun hb1 => ?_)
  · have hc1 := bp hb1
    refine w_ (a_ (h:=e_ (aw_ret (x_thenR (?_)))))
    refine e_ret ?_
    rw [show entX es = .v (.slice none 0 0) from if_pos (List.eq_nil_of_length_eq_zero (by omega))]
    rfl
  have hc1 := bp hb1
  refine kt_ (w_ (m_ (h:=n_ (h:=ms_ (h:=a_ (h:=e_ (q_ (w_ (m_ (h:=n_ (h:=m_ (h:=e_ (aw_block (?_))))))))))))))
  refine aw_loopW (fun m s => ∃ j : Nat, j ≤ es.length ∧ m = es.length - j ∧ s = ⟨look [(1, .fn 97 []), (5, .sl 2 ((es.take j).map entA) (some 0)), (14, .sl 2 (es.map entA) none), (15, .v (.int .i64 ((es.map entA).length : Int))), (16, .v (.int .i64 (j : Int)))], ⟨[], [(101, 2, (es.take j).map entA)]⟩⟩) (es.length) ((wk 0 1)) (⟨0, by omega, rfl, rfl⟩) ?_
  rintro m s ⟨j, hj, rfl, rfl⟩
  refine w_ (lt_ (h:=e_ (q_ (?_))))
  refine aw_cond rfl (fun hb2 => ?_) (fun hb2 => ?_)
  · have hc2 := bp hb2
    obtain ⟨hlt, x, hy, hrow, e⟩ := row_at entA hc2
    refine kt_ (q_ (aw_block (w_ (i_ (h:=l_ (h:=al_ (h:=s_ (h:=e_ (aw_region (m_ (h:=m_ (h:=l_ (h:=?_)))))))))))))
    refine al_p rfl (st_callC (cy := []) (ys := [.agg (entA x)]) rfl (by repeat (first | exact Args.nil | refine Args.cons _ _ _ _ _ rfl (argOk_clean rfl) ?_ | refine Args.cons _ _ _ _ _ rfl (argOk_nil _) ?_ | refine Args.cons _ _ _ _ _ rfl (argOk_era _) ?_ | refine Args.cons _ _ _ _ _ rfl (argOk_le rfl (by repeat (first | exact LeA.refl _ | exact LeA.nil _ | exact LeL.refl _ | refine LeA.agg ?_ | refine LeA.tup ?_ | exact LeL.nil | refine LeL.cons ?_ ?_ | exact LeA.any _))) ?_)) rfl rfl (PcopyEntry x) ?_)
    rintro r rfl
    refine bs_ (h:=?_)
    first | refine al_p rfl (s_append rfl rfl rfl (by simp; omega) (by repeat constructor) ?_) | refine al_p rfl (s_append0 rfl rfl (by simp; omega) (by repeat constructor) ?_)
    refine a_ (h:=al_nil (x_blockN (t_ (aw_region (ad_ (h:=m_ (h:=al_nil (?_))))))))
    refine x_then ?_
    refine ⟨_, _, ?_, ⟨j + 1, by omega, rfl, rfl⟩, (by rw [e]; exact (wk 0 1))⟩
    omega
  have hc2 := bp hb2
  have e := row_no entA hj hc2
  subst e
  rw [List.take_length]
  refine aw_exit (x_thenE (x_thenE (ABlock_out (t_ (w_ (m_ (h:=a_ (h:=e_ (aw_ret (?_))))))))))
  refine e_ret ?_
  rw [show entX es = .sl 2 (es.map entA) none from if_neg (fun e => by rw [e] at hc1; exact hc1 rfl)]
  rfl

theorem PcopyNodeX (n : Nod) (hn : n.entries.length ≤ 1000) : AFn Try.prog 75 [.agg (nodA n)] (fun r => r = .agg (nodF n)) := by
  refine enter Try.func75 rfl rfl rfl rfl rfl 0 rfl ?_
  refine w_ (b_ (h:=al_ (h:=e_ (w_ (f_ (h:=l_ (h:=?_)))))))
  refine al_p rfl (q_call (PcopiedX n.entries hn) ?_)
  intro r hr
  rcases entX_or n.entries with he | he
  · obtain rfl := hr.trans he
    refine f_ (h:=s_ (h:=e_ (w_ (l_ (h:=s_ (h:=e_ (aw_ret (?_))))))))
    refine e_ret ?_
    unfold nodF
    rw [he]
    rfl
  obtain rfl := hr.trans he
  refine f_ (h:=s_ (h:=e_ (w_ (l_ (h:=s_ (h:=e_ (aw_ret (?_))))))))
  refine e_ret ?_
  unfold nodF
  rw [he]
  rfl

theorem PcopiedEB (es : List Ent) (h0 : 0 < es.length) (hes : es.length ≤ 1000) : ACall Try.prog 96 [.sl 2 (es.map entA) none, .fn 97 []] [] (fun r b t => t = [] ∧ r = .bs 0 0 2 es.length es.length ∧ b = [EB es es.length]) := by
  have hml : (es.map entA).length = es.length := by simp
  refine enter Try.func96 rfl rfl rfl rfl rfl 1 rfl ?_
  refine w_ (a_ (h:=e_ (q_ (w_ (m_ (h:=n_ (h:=eq_ (h:=e_ (?_)))))))))
  refine aw_cond rfl (fun hb1 => ?_) (fun hb1 => ?_)
  · have hc1 := bp hb1
    exfalso; first | contradiction | omega
  have hc1 := bp hb1
  refine kt_ (w_ (m_ (h:=n_ (h:=?_))))
  refine al_p rfl (st_makeB (l := 0) (m := es.length) (k := 0) rfl rfl rfl (by simp) (Nat.zero_le _) h0 (by omega) (by repeat constructor) ?_)
  refine a_ (h:=e_ (q_ (w_ (m_ (h:=n_ (h:=m_ (h:=e_ (aw_block (?_)))))))))
  refine aw_loopW (fun m s => ∃ j : Nat, j ≤ es.length ∧ m = es.length - j ∧ s = ⟨look [(1, .fn 97 []), (5, .bs 0 0 2 j es.length), (14, .sl 2 (es.map entA) none), (15, .v (.int .i64 ((es.map entA).length : Int))), (16, .v (.int .i64 (j : Int)))], ⟨[EB (es.take j) es.length], []⟩⟩) (es.length) (weak_of 1 0 rfl rfl rfl (by show (bpLtL 1 0 (EB [] es.length) && true) = true; rw [bp_EB]; rfl) (by repeat (first | exact Sub.nil | refine Sub.cons _ _ _ rfl rfl ?_ | refine Sub.any _ _ ?_ | refine Sub.sl _ _ _ _ _ rfl ?_ | refine Sub.slnil _ _ _ rfl ?_))) (⟨0, by omega, rfl, rfl⟩) ?_
  rintro m s ⟨j, hj, rfl, rfl⟩
  refine w_ (lt_ (h:=e_ (q_ (?_))))
  refine aw_cond rfl (fun hb2 => ?_) (fun hb2 => ?_)
  · have hc2 := bp hb2
    obtain ⟨hlt, x, hy, hrow, e⟩ := row_at entA hc2
    have hlj : ((es.take j).map entA).length = j := by simp; omega
    refine kt_ (q_ (aw_block (w_ (i_ (h:=l_ (h:=al_ (h:=s_ (h:=e_ (aw_region (m_ (h:=m_ (h:=l_ (h:=?_)))))))))))))
    refine al_p rfl (st_callC (cy := []) (ys := [.agg (entA x)]) rfl (by repeat (first | exact Args.nil | refine Args.cons _ _ _ _ _ rfl (argOk_clean rfl) ?_ | refine Args.cons _ _ _ _ _ rfl (argOk_nil _) ?_ | refine Args.cons _ _ _ _ _ rfl (argOk_era _) ?_ | refine Args.cons _ _ _ _ _ rfl (argOk_le rfl (by repeat (first | exact LeA.refl _ | exact LeA.nil _ | exact LeL.refl _ | refine LeA.agg ?_ | refine LeA.tup ?_ | exact LeL.nil | refine LeL.cons ?_ ?_ | exact LeA.any _))) ?_)) rfl rfl (PcopyEntry x) ?_)
    rintro r rfl
    refine bs_ (h:=?_)
    refine al_p rfl (st_appendB rfl rfl rfl (by rw [EB, rowsB_len (ent_two _) (by simp; omega)]; omega) (SrcA.sl _ _) (by simp) (by simp; omega) ?_ (fun h => absurd h (by simp; omega)))
    intro _ row2 bx2 hs1 hs2
    obtain rfl : row2 = EB (es.take (j + 1)) es.length := by
      unfold EB
      rw [e]
      exact rowsB_push (ent_two _) rfl (by decide) (by rw [hlj]; omega) (by rw [hlj]; exact hs1)
    obtain rfl := (SetAt.one hs2).2
    refine a_ (h:=al_nil (x_blockN (t_ (aw_region (ad_ (h:=m_ (h:=al_nil (?_))))))))
    refine x_then ?_
    refine ⟨_, _, ?_, ⟨j + 1, by omega, rfl, rfl⟩, weak_of 1 0 rfl rfl rfl (by simp [bpLtB, bp_EB]) (by repeat (first | exact Sub.nil | refine Sub.cons _ _ _ rfl rfl ?_ | refine Sub.any _ _ ?_ | refine Sub.sl _ _ _ _ _ rfl ?_ | refine Sub.slnil _ _ _ rfl ?_))⟩
    omega
  have hc2 := bp hb2
  have e := row_no entA hj hc2
  subst e
  rw [List.take_length]
  refine aw_exit (x_thenE (x_thenE (ABlock_out (t_ (w_ (m_ (h:=a_ (h:=e_ (aw_ret (?_))))))))))
  refine abody_ret (r := .bs 0 0 2 es.length es.length) none (by repeat (first | exact ResA.nil | (apply ResA.tmp; (focus exact rfl)) | (apply ResA.cellN; (focus exact inferInstance); (focus exact rfl); (focus exact rfl); (focus exact rfl)) | (apply ResA.cell1; (focus exact inferInstance); (focus exact rfl); (focus exact rfl); (focus exact rfl)))) rfl rfl (by simp [bpLtB, bp_EB]) (LeA.refl _) ⟨rfl, rfl, rfl⟩

end
end Go.Proofs.Ythcbdkmhamhciaa
namespace Go.Proofs.Ythcbdkmhamhciaa
open Go.RowKit

theorem back_new1 {bx : List (List AV)} (r : List AV) (h : renL (backS [] bx.length) r = r) : Back bx [] [r] (bx ++ [r]) := by
  have := back_F (bx := bx) (is := []) (bc := [r]) List.nodup_nil (by simp) (by simp)
  simpa [backF, h] using this
theorem nodF_eight (l : List Nod) : ∀ r ∈ l.map nodF, r.length = 8 := by
  intro r hr
  obtain ⟨d, _, rfl⟩ := List.mem_map.1 hr
  rfl
def NF (ns : List Nod) (cap : Nat) : List AV := rowsB 8 cap (ns.map nodF)
theorem bp_nodF {n m : Nat} (x : Nod) : bpLtL n m (nodF x) = true := by
  unfold nodF
  rcases entX_or x.entries with h | h <;> rw [h] <;> rfl
theorem bp_NF {n m : Nat} (ns : List Nod) (cap : Nat) : bpLtL n m (NF ns cap) = true := by
  refine bpLt_rowsB fun r hr => ?_
  obtain ⟨d, _, rfl⟩ := List.mem_map.1 hr
  exact bp_nodF d
def rowsG (ns : List Nod) (i : Nat) (nI : Nod) (j cap : Nat) : List (List AV) := (ns.map nodF).set i (nodB nI j cap)
def NG (ns : List Nod) (i : Nat) (nI : Nod) (j cap cap1 : Nat) : List AV := rowsB 8 cap1 (rowsG ns i nI j cap)
theorem rowsG_eight (ns : List Nod) (i : Nat) (nI : Nod) (j cap : Nat) : ∀ r ∈ rowsG ns i nI j cap, r.length = 8 := by
  intro r hr
  rcases List.mem_or_eq_of_mem_set hr with h | h
  · exact nodF_eight _ r h
  rw [h]; rfl
theorem rowsG_len (ns : List Nod) (i : Nat) (nI : Nod) (j cap : Nat) : (rowsG ns i nI j cap).length = ns.length := by simp [rowsG]
theorem bp_NG {n m : Nat} {ns : List Nod} {i : Nat} {nI : Nod} {j cap cap1 : Nat} (hj : j < n) : bpLtL n m (NG ns i nI j cap cap1) = true := by
  refine bpLt_rowsB fun r hr => ?_
  rcases List.mem_or_eq_of_mem_set hr with h | h
  · obtain ⟨d, _, rfl⟩ := List.mem_map.1 h
    exact bp_nodF d
  rw [h]; simp [nodB, nodX, bpLtL, bpLt, hj]
theorem rowsG_succ {ns : List Nod} {i q : Nat} {nI x : Nod} {j cap : Nat} (hx : ns[q]? = some x) (hi : i < q) : rowsG (ns.take (q + 1)) i nI j cap = rowsG (ns.take q) i nI j cap ++ [nodF x] := by
  obtain ⟨hlt, e⟩ := List.getElem?_eq_some_iff.1 hx
  unfold rowsG
  rw [List.take_succ_eq_append_getElem hlt, e, List.map_append, List.set_append_left _ _ (by simp; omega)]
  rfl
theorem rowsG_here {ns : List Nod} {i : Nat} {nI : Nod} {j cap : Nat} (hx : ns[i]? = some nI) : rowsG (ns.take (i + 1)) i nI j cap = (ns.take i).map nodF ++ [nodB nI j cap] := by
  obtain ⟨hlt, e⟩ := List.getElem?_eq_some_iff.1 hx
  unfold rowsG
  have hl : ((ns.take i).map nodF).length = i := by simp; omega
  rw [List.take_succ_eq_append_getElem hlt, e, List.map_append, List.set_append_right _ _ (by omega), hl, Nat.sub_self]
  rfl
section
set_option maxRecDepth 10000
set_option maxHeartbeats 1000000
theorem PcopyNodeB (n : Nod) (h0 : 0 < n.entries.length) (hn : n.entries.length ≤ 1000) : ACall Try.prog 75 [.agg (nodA n)] [] (fun r b t => t = [] ∧ r = .agg (nodB n 2 n.entries.length) ∧ b = [nodB n 2 n.entries.length, nodB n 2 n.entries.length, EB n.entries n.entries.length]) := by
  refine enter Try.func75 rfl rfl rfl rfl rfl 3 rfl ?_
  refine w_ (b_ (h:=al_ (h:=e_ (w_ (f_ (h:=l_ (h:=?_)))))))
  refine al_p rfl (s_callM [] rfl (.cons _ _ _ _ _ rfl (LeA.refl _) (.cons _ _ _ _ _ rfl (LeA.refl _) .nil)) (by decide) .nil (PcopiedEB n.entries h0 hn) ?_)
  rintro r bc tc ⟨rfl, rfl, rfl⟩
  refine ⟨rfl, _, (back_new1 _ (ren_EB _ _ _) : Back _ [] _ [_, _, _]), ?_⟩
  refine f_ (h:=s_ (h:=e_ (w_ (l_ (h:=s_ (h:=e_ (aw_ret (?_))))))))
  refine abody_ret none (by repeat (first | exact ResA.nil | (apply ResA.tmp; (focus exact rfl)) | (apply ResA.cellN; (focus exact inferInstance); (focus exact rfl); (focus exact rfl); (focus exact rfl)) | (apply ResA.cell1; (focus exact inferInstance); (focus exact rfl); (focus exact rfl); (focus exact rfl)))) rfl rfl (by simp [bpLtB, bpLtL, bpLt, nodA, nodX, bp_EB, ren, backS]) (LeA.refl _) ⟨rfl, rfl, rfl⟩

theorem PcopiedN0 (ns : List Nod) (h0 : 0 < ns.length) (hns : ns.length ≤ 1000) (hen : ∀ n ∈ ns, n.entries.length ≤ 1000) : ACall Try.prog 108 [.sl 8 (ns.map nodA) none, .fn 75 []] [] (fun r b t => t = [] ∧ r = .bs 0 0 8 ns.length ns.length ∧ b = [NF ns ns.length]) := by
  have hml : (ns.map nodA).length = ns.length := by simp
  refine enter Try.func108 rfl rfl rfl rfl rfl 1 rfl ?_
  refine w_ (a_ (h:=e_ (q_ (w_ (m_ (h:=n_ (h:=eq_ (h:=e_ (?_)))))))))
  refine aw_cond rfl (fun hb1 => ?_) (fun hb1 => ?_)
  · have hc1 := bp hb1
    exfalso; first | contradiction | omega
  have hc1 := bp hb1
  refine kt_ (w_ (m_ (h:=n_ (h:=?_))))
  refine al_p rfl (st_makeB (l := 0) (m := ns.length) (k := 0) rfl rfl rfl (by simp) (Nat.zero_le _) h0 (by omega) (by repeat constructor) ?_)
  refine a_ (h:=e_ (q_ (w_ (m_ (h:=n_ (h:=m_ (h:=e_ (aw_block (?_)))))))))
  refine aw_loopW (fun m s => ∃ j : Nat, j ≤ ns.length ∧ m = ns.length - j ∧ s = ⟨look [(1, .fn 75 []), (5, .bs 0 0 8 j ns.length), (14, .sl 8 (ns.map nodA) none), (15, .v (.int .i64 ((ns.map nodA).length : Int))), (16, .v (.int .i64 (j : Int)))], ⟨[NF (ns.take j) ns.length], []⟩⟩) (ns.length) (weak_of 1 0 rfl rfl rfl (by show (bpLtL 1 0 (NF [] ns.length) && true) = true; rw [bp_NF]; rfl) (by repeat (first | exact Sub.nil | refine Sub.cons _ _ _ rfl rfl ?_ | refine Sub.any _ _ ?_ | refine Sub.sl _ _ _ _ _ rfl ?_ | refine Sub.slnil _ _ _ rfl ?_))) (⟨0, by omega, rfl, rfl⟩) ?_
  rintro m s ⟨j, hj, rfl, rfl⟩
  refine w_ (lt_ (h:=e_ (q_ (?_))))
  refine aw_cond rfl (fun hb2 => ?_) (fun hb2 => ?_)
  · have hc2 := bp hb2
    obtain ⟨hlt, x, hy, hrow, -⟩ := row_at nodA hc2
    have hxe := hen x (List.mem_of_getElem? hy)
    have e : (ns.take (j + 1)).map nodF = (ns.take j).map nodF ++ [nodF x] := by
      obtain ⟨hl, e0⟩ := List.getElem?_eq_some_iff.1 hy
      rw [List.take_succ_eq_append_getElem hl, e0, List.map_append]; rfl
    have hlj : ((ns.take j).map nodF).length = j := by simp; omega
    refine kt_ (q_ (aw_block (w_ (i_ (h:=l_ (h:=al_ (h:=s_ (h:=e_ (aw_region (m_ (h:=m_ (h:=l_ (h:=?_)))))))))))))
    refine al_p rfl (st_callC (cy := []) (ys := [.agg (nodA x)]) rfl (by repeat (first | exact Args.nil | refine Args.cons _ _ _ _ _ rfl (argOk_clean rfl) ?_ | refine Args.cons _ _ _ _ _ rfl (argOk_nil _) ?_ | refine Args.cons _ _ _ _ _ rfl (argOk_era _) ?_ | refine Args.cons _ _ _ _ _ rfl (argOk_le rfl (by repeat (first | exact LeA.refl _ | exact LeA.nil _ | exact LeL.refl _ | refine LeA.agg ?_ | refine LeA.tup ?_ | exact LeL.nil | refine LeL.cons ?_ ?_ | exact LeA.any _))) ?_)) rfl rfl (PcopyNodeX x hxe) ?_)
    intro r hr
    rcases entX_or x.entries with he | he
    · have e9 : nodF x = nodX x (.v (.slice none 0 0)) := by unfold nodF; rw [he]
      rw [e9] at hr
      subst hr
      refine bs_ (h:=?_)
      refine al_p rfl (st_appendB rfl rfl rfl (by rw [NF, rowsB_len (nodF_eight _) (by simp; omega)]; omega) (SrcA.sl _ _) (by simp) (by simp; omega) ?_ (fun h => absurd h (by simp; omega)))
      intro _ row2 bx2 hs1 hs2
      obtain rfl : row2 = NF (ns.take (j + 1)) ns.length := by
        unfold NF
        rw [e, e9]
        exact rowsB_push (nodF_eight _) rfl (by decide) (by rw [hlj]; omega) (by rw [hlj]; exact hs1)
      obtain rfl := (SetAt.one hs2).2
      refine a_ (h:=al_nil (x_blockN (t_ (aw_region (ad_ (h:=m_ (h:=al_nil (?_))))))))
      refine x_then ?_
      refine ⟨_, _, ?_, ⟨j + 1, by omega, rfl, rfl⟩, weak_of 1 0 rfl rfl rfl (by simp [bpLtB, bp_NF]) (by repeat (first | exact Sub.nil | refine Sub.cons _ _ _ rfl rfl ?_ | refine Sub.any _ _ ?_ | refine Sub.sl _ _ _ _ _ rfl ?_ | refine Sub.slnil _ _ _ rfl ?_))⟩
      omega
    have e9 : nodF x = nodX x (.sl 2 (x.entries.map entA) none) := by unfold nodF; rw [he]
    rw [e9] at hr
    subst hr
    refine bs_ (h:=?_)
    refine al_p rfl (st_appendB rfl rfl rfl (by rw [NF, rowsB_len (nodF_eight _) (by simp; omega)]; omega) (SrcA.sl _ _) (by simp) (by simp; omega) ?_ (fun h => absurd h (by simp; omega)))
    intro _ row2 bx2 hs1 hs2
    obtain rfl : row2 = NF (ns.take (j + 1)) ns.length := by
      unfold NF
      rw [e, e9]
      exact rowsB_push (nodF_eight _) rfl (by decide) (by rw [hlj]; omega) (by rw [hlj]; exact hs1)
    obtain rfl := (SetAt.one hs2).2
    refine a_ (h:=al_nil (x_blockN (t_ (aw_region (ad_ (h:=m_ (h:=al_nil (?_))))))))
    refine x_then ?_
    refine ⟨_, _, ?_, ⟨j + 1, by omega, rfl, rfl⟩, weak_of 1 0 rfl rfl rfl (by simp [bpLtB, bp_NF]) (by repeat (first | exact Sub.nil | refine Sub.cons _ _ _ rfl rfl ?_ | refine Sub.any _ _ ?_ | refine Sub.sl _ _ _ _ _ rfl ?_ | refine Sub.slnil _ _ _ rfl ?_))⟩
    omega
  have hc2 := bp hb2
  have e := row_no nodA hj hc2
  subst e
  rw [List.take_length]
  refine aw_exit (x_thenE (x_thenE (ABlock_out (t_ (w_ (m_ (h:=a_ (h:=e_ (aw_ret (?_))))))))))
  refine abody_ret (r := .bs 0 0 8 ns.length ns.length) none (by repeat (first | exact ResA.nil | (apply ResA.tmp; (focus exact rfl)) | (apply ResA.cellN; (focus exact inferInstance); (focus exact rfl); (focus exact rfl); (focus exact rfl)) | (apply ResA.cell1; (focus exact inferInstance); (focus exact rfl); (focus exact rfl); (focus exact rfl)))) rfl rfl (by simp [bpLtB, bp_NF]) (LeA.refl _) ⟨rfl, rfl, rfl⟩

end
end Go.Proofs.Ythcbdkmhamhciaa
namespace Go.Proofs.Ythcbdkmhamhciaa
open Go.RowKit

section
variable {F : AV → AV} (hany : F .any = .any) (hv : ∀ x, F (.v x) = .v x) (hs : ∀ sz rows, F (.sl sz rows none) = .sl sz rows none)
include hv hs
theorem map_nodF (x : Nod) : (nodF x).map F = nodF x := by
  unfold nodF
  rcases entX_or x.entries with h | h <;> rw [h] <;> simp [nodX, hv, hs]
include hany
theorem map_NF (ns : List Nod) (cap : Nat) : (NF ns cap).map F = NF ns cap := by
  unfold NF
  rw [rowsB_map F hany, List.map_map]
  congr 1
  apply List.map_congr_left
  intro n _
  exact map_nodF hv hs n
theorem map_NG (ns : List Nod) (i : Nat) (nI : Nod) {j j' : Nat} (cap cap1 : Nat) (hb : F (.bs j 0 2 nI.entries.length cap) = .bs j' 0 2 nI.entries.length cap) : (NG ns i nI j cap cap1).map F = NG ns i nI j' cap cap1 := by
  unfold NG rowsG
  rw [rowsB_map F hany, List.map_set]
  congr 1
  have e1 : ((ns.map nodF).map fun r => r.map F) = ns.map nodF := by
    rw [List.map_map]
    apply List.map_congr_left
    intro n _
    exact map_nodF hv hs n
  rw [e1]
  congr 1
  simp [nodB, nodX, hv, hb]
end
theorem renK_NF (g : Nat → Option Nat) (ns : List Nod) (cap : Nat) : renKL g (NF ns cap) = NF ns cap := by
  rw [renKL_map]
  exact map_NF rfl (fun _ => rfl) (fun _ _ => rfl) ns cap
theorem ren_NF (g : Nat → Option Nat) (ns : List Nod) (cap : Nat) : renL g (NF ns cap) = NF ns cap := by
  rw [renL_map]
  exact map_NF rfl (fun _ => rfl) (fun _ _ => rfl) ns cap
theorem renK_NG {g : Nat → Option Nat} {j j' : Nat} (h : g j = some j') (ns : List Nod) (i : Nat) (nI : Nod) (cap cap1 : Nat) : renKL g (NG ns i nI j cap cap1) = NG ns i nI j' cap cap1 := by
  rw [renKL_map]
  exact map_NG rfl (fun _ => rfl) (fun _ _ => rfl) ns i nI cap cap1 (by simp [renK, h])
theorem ren_NG {g : Nat → Option Nat} {j j' : Nat} (h : g j = some j') (ns : List Nod) (i : Nat) (nI : Nod) (cap cap1 : Nat) : renL g (NG ns i nI j cap cap1) = NG ns i nI j' cap cap1 := by
  rw [renL_map]
  exact map_NG rfl (fun _ => rfl) (fun _ _ => rfl) ns i nI cap cap1 (by simp [ren, h])
theorem renK_EB (g : Nat → Option Nat) (es : List Ent) (cap : Nat) : renKL g (EB es cap) = EB es cap := by
  rw [renKL_map]
  exact map_plain rfl (fun _ => rfl) (ent_plain es)
theorem back_nodB {bx : List (List AV)} {n : Nat} (hn : bx.length = n) (x : Nod) (l : Nat) : Back bx [] [nodB x 2 l, nodB x 2 l, EB x.entries l] (bx ++ [nodB x (n + 2) l, nodB x (n + 2) l, EB x.entries l]) := by
  subst hn
  have := back_F (bx := bx) (is := []) (bc := [nodB x 2 l, nodB x 2 l, EB x.entries l]) List.nodup_nil (by simp) (by simp)
  have e1 : renL (backS [] bx.length) (nodB x 2 l) = nodB x (bx.length + 2) l := by simp [nodB, nodX, renL, ren, backS]
  simpa [backF, ren_EB, e1] using this
section
set_option maxRecDepth 10000
set_option maxHeartbeats 1000000
theorem PcopiedNG (ns : List Nod) (i : Nat) (nI : Nod) (hi : ns[i]? = some nI) (hE : 0 < nI.entries.length) (hns : ns.length ≤ 1000) (hen : ∀ n ∈ ns, n.entries.length ≤ 1000) : ACall Try.prog 108 [.sl 8 (ns.map nodA) none, .fn 75 []] [] (fun r b t => t = [] ∧ r = .bs 0 0 8 ns.length ns.length ∧ b = [NG ns i nI 1 nI.entries.length ns.length, EB nI.entries nI.entries.length]) := by
  have hml : (ns.map nodA).length = ns.length := by simp
  have hil := (List.getElem?_eq_some_iff.1 hi).1
  have hEn := hen nI (List.mem_of_getElem? hi)
  refine enter Try.func108 rfl rfl rfl rfl rfl 2 rfl ?_
  refine w_ (a_ (h:=e_ (q_ (w_ (m_ (h:=n_ (h:=eq_ (h:=e_ (?_)))))))))
  refine aw_cond rfl (fun hb1 => ?_) (fun hb1 => ?_)
  · have hc1 := bp hb1
    exfalso; first | contradiction | omega
  have hc1 := bp hb1
  refine kt_ (w_ (m_ (h:=n_ (h:=?_))))
  refine al_p rfl (st_makeB (l := 0) (m := ns.length) (k := 0) rfl rfl rfl (by simp) (Nat.zero_le _) (by omega) (by omega) (by repeat constructor) ?_)
  refine a_ (h:=e_ (q_ (w_ (m_ (h:=n_ (h:=m_ (h:=e_ (aw_block (?_)))))))))
  refine aw_loopW (fun m s => ∃ j : Nat, j ≤ ns.length ∧ m = ns.length - j ∧ ((j ≤ i ∧ s = ⟨look [(1, .fn 75 []), (5, .bs 0 0 8 j ns.length), (14, .sl 8 (ns.map nodA) none), (15, .v (.int .i64 ((ns.map nodA).length : Int))), (16, .v (.int .i64 (j : Int)))], ⟨[NF (ns.take j) ns.length], []⟩⟩) ∨ (i < j ∧ s = ⟨look [(1, .fn 75 []), (5, .bs 0 0 8 j ns.length), (14, .sl 8 (ns.map nodA) none), (15, .v (.int .i64 ((ns.map nodA).length : Int))), (16, .v (.int .i64 (j : Int)))], ⟨[NG (ns.take j) i nI 1 nI.entries.length ns.length, EB nI.entries nI.entries.length], []⟩⟩))) (ns.length) (weak_of 1 0 rfl rfl rfl (by show (bpLtL 1 0 (NF [] ns.length) && true) = true; rw [bp_NF]; rfl) (by repeat (first | exact Sub.nil | refine Sub.cons _ _ _ rfl rfl ?_ | refine Sub.any _ _ ?_ | refine Sub.sl _ _ _ _ _ rfl ?_ | refine Sub.slnil _ _ _ rfl ?_))) (⟨0, by omega, rfl, .inl ⟨by omega, rfl⟩⟩) ?_
  rintro m s ⟨j, hj, rfl, ⟨hji, rfl⟩ | ⟨hji, rfl⟩⟩
  rcases Nat.lt_or_eq_of_le hji with hji | rfl
  · skip
    refine w_ (lt_ (h:=e_ (q_ (?_))))
    refine aw_cond rfl (fun hb2 => ?_) (fun hb2 => ?_)
    · have hc2 := bp hb2
      obtain ⟨hlt, x, hy, hrow, -⟩ := row_at nodA hc2
      have hxe := hen x (List.mem_of_getElem? hy)
      have e : (ns.take (j + 1)).map nodF = (ns.take j).map nodF ++ [nodF x] := by
        obtain ⟨hl, e0⟩ := List.getElem?_eq_some_iff.1 hy
        rw [List.take_succ_eq_append_getElem hl, e0, List.map_append]; rfl
      have hlj : ((ns.take j).map nodF).length = j := by simp; omega
      refine kt_ (q_ (aw_block (w_ (i_ (h:=l_ (h:=al_ (h:=s_ (h:=e_ (aw_region (m_ (h:=m_ (h:=l_ (h:=?_)))))))))))))
      refine al_p rfl (st_callC (cy := []) (ys := [.agg (nodA x)]) rfl (by repeat (first | exact Args.nil | refine Args.cons _ _ _ _ _ rfl (argOk_clean rfl) ?_ | refine Args.cons _ _ _ _ _ rfl (argOk_nil _) ?_ | refine Args.cons _ _ _ _ _ rfl (argOk_era _) ?_ | refine Args.cons _ _ _ _ _ rfl (argOk_le rfl (by repeat (first | exact LeA.refl _ | exact LeA.nil _ | exact LeL.refl _ | refine LeA.agg ?_ | refine LeA.tup ?_ | exact LeL.nil | refine LeL.cons ?_ ?_ | exact LeA.any _))) ?_)) rfl rfl (PcopyNodeX x hxe) ?_)
      intro r hr
      rcases entX_or x.entries with he | he
      · have e9 : nodF x = nodX x (.v (.slice none 0 0)) := by unfold nodF; rw [he]
        rw [e9] at hr
        subst hr
        refine bs_ (h:=?_)
        refine al_p rfl (st_appendB rfl rfl rfl (by rw [NF, rowsB_len (nodF_eight _) (by simp; omega)]; omega) (SrcA.sl _ _) (by simp) (by simp; omega) ?_ (fun h => absurd h (by simp; omega)))
        intro _ row2 bx2 hs1 hs2
        obtain rfl : row2 = NF (ns.take (j + 1)) ns.length := by
          unfold NF
          rw [e, e9]
          exact rowsB_push (nodF_eight _) rfl (by decide) (by rw [hlj]; omega) (by rw [hlj]; exact hs1)
        obtain rfl := (SetAt.one hs2).2
        refine a_ (h:=al_nil (x_blockN (t_ (aw_region (ad_ (h:=m_ (h:=al_nil (?_))))))))
        refine x_then ?_
        refine ⟨_, _, ?_, ⟨j + 1, by omega, rfl, .inl ⟨by omega, rfl⟩⟩, weak_of 1 0 rfl rfl rfl (by simp [bpLtB, bp_NF]) (by repeat (first | exact Sub.nil | refine Sub.cons _ _ _ rfl rfl ?_ | refine Sub.any _ _ ?_ | refine Sub.sl _ _ _ _ _ rfl ?_ | refine Sub.slnil _ _ _ rfl ?_))⟩
        omega
      have e9 : nodF x = nodX x (.sl 2 (x.entries.map entA) none) := by unfold nodF; rw [he]
      rw [e9] at hr
      subst hr
      refine bs_ (h:=?_)
      refine al_p rfl (st_appendB rfl rfl rfl (by rw [NF, rowsB_len (nodF_eight _) (by simp; omega)]; omega) (SrcA.sl _ _) (by simp) (by simp; omega) ?_ (fun h => absurd h (by simp; omega)))
      intro _ row2 bx2 hs1 hs2
      obtain rfl : row2 = NF (ns.take (j + 1)) ns.length := by
        unfold NF
        rw [e, e9]
        exact rowsB_push (nodF_eight _) rfl (by decide) (by rw [hlj]; omega) (by rw [hlj]; exact hs1)
      obtain rfl := (SetAt.one hs2).2
      refine a_ (h:=al_nil (x_blockN (t_ (aw_region (ad_ (h:=m_ (h:=al_nil (?_))))))))
      refine x_then ?_
      refine ⟨_, _, ?_, ⟨j + 1, by omega, rfl, .inl ⟨by omega, rfl⟩⟩, weak_of 1 0 rfl rfl rfl (by simp [bpLtB, bp_NF]) (by repeat (first | exact Sub.nil | refine Sub.cons _ _ _ rfl rfl ?_ | refine Sub.any _ _ ?_ | refine Sub.sl _ _ _ _ _ rfl ?_ | refine Sub.slnil _ _ _ rfl ?_))⟩
      omega
    have hc2 := bp hb2
    exfalso; first | contradiction | omega
  · have hrow : (ns.map nodA)[j]? = some (nodA nI) := by rw [List.getElem?_map, hi]; rfl
    refine w_ (lt_ (h:=e_ (q_ (?_))))
    refine aw_cond rfl (fun hb3 => ?_) (fun hb3 => ?_)
    · have hc3 := bp hb3
      have hlj : ((ns.take j).map nodF).length = j := by simp; omega
      refine kt_ (q_ (aw_block (w_ (?_))))
      refine al_p rfl (st_index rfl rfl rfl hrow ?_)
      refine l_ (h:=al_ (h:=s_ (h:=e_ (aw_region (m_ (h:=m_ (h:=l_ (h:=?_))))))))
      refine al_p rfl (s_callMC [] rfl (.cons _ _ _ _ _ rfl (LeA.refl _) .nil) (by decide) .nil (PcopyNodeB nI hE hEn) ?_)
      rintro r bc tc ⟨rfl, rfl, rfl⟩
      refine ⟨rfl, _, (back_nodB (n := 2) rfl nI nI.entries.length : Back _ [] _ [_, _, _, _, _]), ?_⟩
      refine al_p rfl (st_slit1B rfl rfl rfl rfl (by repeat constructor) ?_)
      refine al_p rfl (st_appendB rfl rfl rfl (by rw [NF, rowsB_len (nodF_eight _) (by simp; omega)]; omega) (SrcA.bs 5 0 1 1 _ rfl (Nat.le_of_ble_eq_true rfl)) (by decide) (by omega) ?_ (fun h => absurd h (by omega)))
      intro _ row2 bx2 hs1 hs2
      obtain rfl : row2 = NG (ns.take (j + 1)) j nI 4 nI.entries.length ns.length := by
        unfold NG
        rw [rowsG_here hi]
        exact rowsB_push (nodF_eight _) rfl (by decide) (by rw [hlj]; omega) (by rw [hlj]; exact hs1)
      obtain rfl := (SetAt.one hs2).2
      refine a_ (h:=al_nil (x_blockN (t_ (aw_region (ad_ (h:=m_ (h:=al_nil (?_))))))))
      refine x_then ?_
      refine ⟨_, _, ?_, ⟨j + 1, by omega, rfl, .inr ⟨by omega, rfl⟩⟩, weak_ren [0, 4] (fun i hi => absurd hi (Nat.not_lt_zero i)) (by decide) (.cons _ _ _ _ _ rfl (renK_NG (by rfl) _ _ _ _ _) (.cons _ _ _ _ _ rfl (renK_EB _ _ _) .nil)) (by repeat (first | exact SubK.nil | refine SubK.cons _ _ _ _ rfl (LeA.refl _) ?_))⟩
      omega
    have hc3 := bp hb3
    exfalso; first | contradiction | omega
  skip
  refine w_ (lt_ (h:=e_ (q_ (?_))))
  refine aw_cond rfl (fun hb4 => ?_) (fun hb4 => ?_)
  · have hc4 := bp hb4
    obtain ⟨hlt, x, hy, hrow, -⟩ := row_at nodA hc4
    have hxe := hen x (List.mem_of_getElem? hy)
    have e := rowsG_succ (nI := nI) (j := 1) (cap := nI.entries.length) hy hji
    have hlj : (rowsG (ns.take j) i nI 1 nI.entries.length).length = j := by rw [rowsG_len]; simp; omega
    refine kt_ (q_ (aw_block (w_ (i_ (h:=l_ (h:=al_ (h:=s_ (h:=e_ (aw_region (m_ (h:=m_ (h:=l_ (h:=?_)))))))))))))
    refine al_p rfl (st_callC (cy := []) (ys := [.agg (nodA x)]) rfl (by repeat (first | exact Args.nil | refine Args.cons _ _ _ _ _ rfl (argOk_clean rfl) ?_ | refine Args.cons _ _ _ _ _ rfl (argOk_nil _) ?_ | refine Args.cons _ _ _ _ _ rfl (argOk_era _) ?_ | refine Args.cons _ _ _ _ _ rfl (argOk_le rfl (by repeat (first | exact LeA.refl _ | exact LeA.nil _ | exact LeL.refl _ | refine LeA.agg ?_ | refine LeA.tup ?_ | exact LeL.nil | refine LeL.cons ?_ ?_ | exact LeA.any _))) ?_)) rfl rfl (PcopyNodeX x hxe) ?_)
    intro r hr
    rcases entX_or x.entries with he | he
    · have e9 : nodF x = nodX x (.v (.slice none 0 0)) := by unfold nodF; rw [he]
      rw [e9] at hr
      subst hr
      refine bs_ (h:=?_)
      refine al_p rfl (st_appendB rfl rfl rfl (by rw [NG, rowsB_len (rowsG_eight _ _ _ _ _) (by rw [hlj]; omega)]; omega) (SrcA.sl _ _) (by simp) (by simp; omega) ?_ (fun h => absurd h (by simp; omega)))
      intro _ row2 bx2 hs1 hs2
      obtain rfl : row2 = NG (ns.take (j + 1)) i nI 1 nI.entries.length ns.length := by
        unfold NG
        rw [e, e9]
        exact rowsB_push (rowsG_eight _ _ _ _ _) rfl (by decide) (by rw [hlj]; omega) (by rw [hlj]; exact hs1)
      obtain rfl := (SetAt.one hs2).2
      refine a_ (h:=al_nil (x_blockN (t_ (aw_region (ad_ (h:=m_ (h:=al_nil (?_))))))))
      refine x_then ?_
      refine ⟨_, _, ?_, ⟨j + 1, by omega, rfl, .inr ⟨by omega, rfl⟩⟩, weak_of 2 0 rfl rfl rfl (by simp [bpLtB, bp_NG, bp_EB]) (by repeat (first | exact Sub.nil | refine Sub.cons _ _ _ rfl rfl ?_ | refine Sub.any _ _ ?_ | refine Sub.sl _ _ _ _ _ rfl ?_ | refine Sub.slnil _ _ _ rfl ?_))⟩
      omega
    have e9 : nodF x = nodX x (.sl 2 (x.entries.map entA) none) := by unfold nodF; rw [he]
    rw [e9] at hr
    subst hr
    refine bs_ (h:=?_)
    refine al_p rfl (st_appendB rfl rfl rfl (by rw [NG, rowsB_len (rowsG_eight _ _ _ _ _) (by rw [hlj]; omega)]; omega) (SrcA.sl _ _) (by simp) (by simp; omega) ?_ (fun h => absurd h (by simp; omega)))
    intro _ row2 bx2 hs1 hs2
    obtain rfl : row2 = NG (ns.take (j + 1)) i nI 1 nI.entries.length ns.length := by
      unfold NG
      rw [e, e9]
      exact rowsB_push (rowsG_eight _ _ _ _ _) rfl (by decide) (by rw [hlj]; omega) (by rw [hlj]; exact hs1)
    obtain rfl := (SetAt.one hs2).2
    refine a_ (h:=al_nil (x_blockN (t_ (aw_region (ad_ (h:=m_ (h:=al_nil (?_))))))))
    refine x_then ?_
    refine ⟨_, _, ?_, ⟨j + 1, by omega, rfl, .inr ⟨by omega, rfl⟩⟩, weak_of 2 0 rfl rfl rfl (by simp [bpLtB, bp_NG, bp_EB]) (by repeat (first | exact Sub.nil | refine Sub.cons _ _ _ rfl rfl ?_ | refine Sub.any _ _ ?_ | refine Sub.sl _ _ _ _ _ rfl ?_ | refine Sub.slnil _ _ _ rfl ?_))⟩
    omega
  have hc4 := bp hb4
  have e := row_no nodA hj hc4
  subst e
  rw [List.take_length]
  refine aw_exit (x_thenE (x_thenE (ABlock_out (t_ (w_ (m_ (h:=a_ (h:=e_ (aw_ret (?_))))))))))
  refine abody_ret (r := .bs 0 0 8 ns.length ns.length) none (by repeat (first | exact ResA.nil | (apply ResA.tmp; (focus exact rfl)) | (apply ResA.cellN; (focus exact inferInstance); (focus exact rfl); (focus exact rfl); (focus exact rfl)) | (apply ResA.cell1; (focus exact inferInstance); (focus exact rfl); (focus exact rfl); (focus exact rfl)))) rfl rfl (by simp [bpLtB, bp_NG, bp_EB]) (LeA.refl _) ⟨rfl, rfl, rfl⟩

end
end Go.Proofs.Ythcbdkmhamhciaa
namespace Go.Proofs.Ythcbdkmhamhciaa
open Go.RowKit

def FB (f : Fls) (cap : Nat) : List AV := rowsB 2 cap (f.map dvcA)
theorem bp_FB {n m : Nat} (f : Fls) (cap : Nat) : bpLtL n m (FB f cap) = true := by
  refine bpLt_rowsB fun r hr => ?_
  obtain ⟨d, _, rfl⟩ := List.mem_map.1 hr
  rfl
theorem devB_succ {f : Fls} {K q : Nat} {dK x : Dvc} {j cap : Nat} (hx : f[q]? = some x) (hK : K < q) : devB (f.take (q + 1)) K dK j cap = devB (f.take q) K dK j cap ++ [dvcA x] := by
  obtain ⟨hlt, e⟩ := List.getElem?_eq_some_iff.1 hx
  unfold devB
  rw [List.take_succ_eq_append_getElem hlt, e, List.map_append, List.set_append_left _ _ (by simp; omega)]
  rfl
theorem devB_here {f : Fls} {K : Nat} {dK : Dvc} {j cap : Nat} (hx : f[K]? = some dK) : devB (f.take (K + 1)) K dK j cap = (f.take K).map dvcA ++ [devR dK j cap] := by
  obtain ⟨hlt, e⟩ := List.getElem?_eq_some_iff.1 hx
  unfold devB
  have hl : ((f.take K).map dvcA).length = K := by simp; omega
  rw [List.take_succ_eq_append_getElem hlt, e, List.map_append, List.set_append_right _ _ (by omega), hl, Nat.sub_self]
  rfl
theorem back_dev0 {bx : List (List AV)} {n : Nat} (hn : bx.length = n) (d : Dvc) (m : Nat) (ns : List Nod) (cap : Nat) : Back bx [] [devR d 2 m, devR d 2 m, NF ns cap] (bx ++ [devR d (n + 2) m, devR d (n + 2) m, NF ns cap]) := by
  subst hn
  have := back_F (bx := bx) (is := []) (bc := [devR d 2 m, devR d 2 m, NF ns cap]) List.nodup_nil (by simp) (by simp)
  have e1 : renL (backS [] bx.length) (devR d 2 m) = devR d (bx.length + 2) m := by simp [devR, renL, ren, backS]
  simpa [backF, ren_NF, e1] using this
theorem back_devG {bx : List (List AV)} {n : Nat} (hn : bx.length = n) (d : Dvc) (m : Nat) (ns : List Nod) (i : Nat) (nI : Nod) (l cap : Nat) (es : List Ent) (cap2 : Nat) : Back bx [] [devR d 2 m, devR d 2 m, NG ns i nI 3 l cap, EB es cap2] (bx ++ [devR d (n + 2) m, devR d (n + 2) m, NG ns i nI (n + 3) l cap, EB es cap2]) := by
  subst hn
  have := back_F (bx := bx) (is := []) (bc := [devR d 2 m, devR d 2 m, NG ns i nI 3 l cap, EB es cap2]) List.nodup_nil (by simp) (by simp)
  have e1 : renL (backS [] bx.length) (devR d 2 m) = devR d (bx.length + 2) m := by simp [devR, renL, ren, backS]
  have e2 : renL (backS [] bx.length) (NG ns i nI 3 l cap) = NG ns i nI (bx.length + 3) l cap := ren_NG (by simp [backS]) _ _ _ _ _
  simpa [backF, ren_EB, e1, e2] using this
theorem back_devs0 {bx : List (List AV)} {n : Nat} (hn : bx.length = n) (f : Fls) (K : Nat) (d : Dvc) (cap cap1 : Nat) (ns : List Nod) (cap2 : Nat) : Back bx [] [DB f K d 1 cap cap1, NF ns cap2] (bx ++ [DB f K d (n + 1) cap cap1, NF ns cap2]) := by
  subst hn
  have := back_F (bx := bx) (is := []) (bc := [DB f K d 1 cap cap1, NF ns cap2]) List.nodup_nil (by simp) (by simp)
  have e1 : renL (backS [] bx.length) (DB f K d 1 cap cap1) = DB f K d (bx.length + 1) cap cap1 := ren_DB (by simp [backS]) _ _ _ _ _
  simpa [backF, ren_NF, e1] using this
theorem back_devsG {bx : List (List AV)} {n : Nat} (hn : bx.length = n) (f : Fls) (K : Nat) (d : Dvc) (cap cap1 : Nat) (ns : List Nod) (i : Nat) (nI : Nod) (l cap2 : Nat) (es : List Ent) (cap3 : Nat) : Back bx [] [DB f K d 1 cap cap1, NG ns i nI 2 l cap2, EB es cap3] (bx ++ [DB f K d (n + 1) cap cap1, NG ns i nI (n + 2) l cap2, EB es cap3]) := by
  subst hn
  have := back_F (bx := bx) (is := []) (bc := [DB f K d 1 cap cap1, NG ns i nI 2 l cap2, EB es cap3]) List.nodup_nil (by simp) (by simp)
  have e1 : renL (backS [] bx.length) (DB f K d 1 cap cap1) = DB f K d (bx.length + 1) cap cap1 := ren_DB (by simp [backS]) _ _ _ _ _
  have e2 : renL (backS [] bx.length) (NG ns i nI 2 l cap2) = NG ns i nI (bx.length + 2) l cap2 := ren_NG (by simp [backS]) _ _ _ _ _
  simpa [backF, ren_EB, e1, e2] using this
section
set_option maxRecDepth 10000
set_option maxHeartbeats 1000000
theorem PcopiedNA (ns : List Nod) (hns : ns.length ≤ 1000) (hen : ∀ n ∈ ns, n.entries.length ≤ 1000) : AFn Try.prog 108 [.sl 8 (ns.map nodA) none, .fn 75 []] (fun r => r = .sl 8 (ns.map nodA) none) := by
  have hml : (ns.map nodA).length = ns.length := by simp
  refine enter Try.func108 rfl rfl rfl rfl rfl 0 rfl ?_
  refine w_ (a_ (h:=e_ (q_ (w_ (m_ (h:=n_ (h:=eq_ (h:=e_ (?_)))))))))
  refine aw_cond rfl (fun hb1 => ?_) (fun hb1 => ?_)
  · have hc1 := bp hb1
    refine w_ (a_ (h:=e_ (aw_ret (x_thenR (?_)))))
    refine rt_ (r := .sl 8 (ns.map nodA) none) none (h5 := ?_) (h6 := ⟨rfl, rfl, rfl⟩)
    rw [show ns = [] from List.eq_nil_of_length_eq_zero (by omega)]
    exact LeA.nil _
  have hc1 := bp hb1
  refine kt_ (w_ (m_ (h:=n_ (h:=ms_ (h:=a_ (h:=e_ (q_ (w_ (m_ (h:=n_ (h:=m_ (h:=e_ (aw_block (?_))))))))))))))
  refine aw_loopW (fun m s => ∃ j : Nat, j ≤ ns.length ∧ m = ns.length - j ∧ s = ⟨look [(1, .fn 75 []), (5, .sl 8 ((ns.take j).map nodA) (some 0)), (14, .sl 8 (ns.map nodA) none), (15, .v (.int .i64 ((ns.map nodA).length : Int))), (16, .v (.int .i64 (j : Int)))], ⟨[], [(34, 8, (ns.take j).map nodA)]⟩⟩) (ns.length) ((wk 0 1)) (⟨0, by omega, rfl, rfl⟩) ?_
  rintro m s ⟨j, hj, rfl, rfl⟩
  refine w_ (lt_ (h:=e_ (q_ (?_))))
  refine aw_cond rfl (fun hb2 => ?_) (fun hb2 => ?_)
  · have hc2 := bp hb2
    obtain ⟨hlt, x, hy, hrow, e⟩ := row_at nodA hc2
    have hxe := hen x (List.mem_of_getElem? hy)
    refine kt_ (q_ (aw_block (w_ (i_ (h:=l_ (h:=al_ (h:=s_ (h:=e_ (aw_region (m_ (h:=m_ (h:=l_ (h:=?_)))))))))))))
    refine al_p rfl (st_callC (cy := []) (ys := [.agg (nodA x)]) rfl (by repeat (first | exact Args.nil | refine Args.cons _ _ _ _ _ rfl (argOk_clean rfl) ?_ | refine Args.cons _ _ _ _ _ rfl (argOk_nil _) ?_ | refine Args.cons _ _ _ _ _ rfl (argOk_era _) ?_ | refine Args.cons _ _ _ _ _ rfl (argOk_le rfl (by repeat (first | exact LeA.refl _ | exact LeA.nil _ | exact LeL.refl _ | refine LeA.agg ?_ | refine LeA.tup ?_ | exact LeL.nil | refine LeL.cons ?_ ?_ | exact LeA.any _))) ?_)) rfl rfl (PcopyNode x hxe) ?_)
    rintro r rfl
    refine bs_ (h:=?_)
    first | refine al_p rfl (s_append rfl rfl rfl (by simp; omega) (by repeat constructor) ?_) | refine al_p rfl (s_append0 rfl rfl (by simp; omega) (by repeat constructor) ?_)
    refine a_ (h:=al_nil (x_blockN (t_ (aw_region (ad_ (h:=m_ (h:=al_nil (?_))))))))
    refine x_then ?_
    refine ⟨_, _, ?_, ⟨j + 1, by omega, rfl, rfl⟩, (by rw [e]; exact (wk 0 1))⟩
    omega
  have hc2 := bp hb2
  have e := row_no nodA hj hc2
  subst e
  rw [List.take_length]
  refine aw_exit (x_thenE (x_thenE (ABlock_out (t_ (w_ (m_ (h:=a_ (h:=e_ (aw_ret (?_))))))))))
  refine e_ret ?_
  rfl

theorem PcopyDevA (d : Dvc) (hns : d.nodes.length ≤ 1000) (hen : ∀ n ∈ d.nodes, n.entries.length ≤ 1000) : AFn Try.prog 92 [.agg (dvcA d)] (fun r => r = .agg (dvcA d)) := by
  refine enter Try.func92 rfl rfl rfl rfl rfl 0 rfl ?_
  refine w_ (b_ (h:=al_ (h:=e_ (w_ (f_ (h:=l_ (h:=?_)))))))
  refine al_p rfl (q_call (PcopiedNA d.nodes hns hen) ?_)
  rintro r rfl
  refine f_ (h:=s_ (h:=e_ (w_ (l_ (h:=s_ (h:=e_ (aw_ret (?_))))))))
  refine e_ret ?_
  rfl

theorem PcopyDev0 (d : Dvc) (h0 : 0 < d.nodes.length) (hns : d.nodes.length ≤ 1000) (hen : ∀ n ∈ d.nodes, n.entries.length ≤ 1000) : ACall Try.prog 92 [.agg (dvcA d)] [] (fun r b t => t = [] ∧ r = .agg (devR d 2 d.nodes.length) ∧ b = [devR d 2 d.nodes.length, devR d 2 d.nodes.length, NF d.nodes d.nodes.length]) := by
  refine enter Try.func92 rfl rfl rfl rfl rfl 3 rfl ?_
  refine w_ (b_ (h:=al_ (h:=e_ (w_ (f_ (h:=l_ (h:=?_)))))))
  refine al_p rfl (s_callM [] rfl (.cons _ _ _ _ _ rfl (LeA.refl _) (.cons _ _ _ _ _ rfl (LeA.refl _) .nil)) (by decide) .nil (PcopiedN0 d.nodes h0 hns hen) ?_)
  rintro r bc tc ⟨rfl, rfl, rfl⟩
  refine ⟨rfl, _, (back_new1 _ (ren_NF _ _ _) : Back _ [] _ [_, _, _]), ?_⟩
  refine f_ (h:=s_ (h:=e_ (w_ (l_ (h:=s_ (h:=e_ (aw_ret (?_))))))))
  refine abody_ret none (by repeat (first | exact ResA.nil | (apply ResA.tmp; (focus exact rfl)) | (apply ResA.cellN; (focus exact inferInstance); (focus exact rfl); (focus exact rfl); (focus exact rfl)) | (apply ResA.cell1; (focus exact inferInstance); (focus exact rfl); (focus exact rfl); (focus exact rfl)))) rfl rfl (by simp [bpLtB, bpLtL, bpLt, dvcA, devR, bp_NF, ren, backS]) (LeA.refl _) ⟨rfl, rfl, rfl⟩

theorem PcopyDevG (d : Dvc) (i : Nat) (nI : Nod) (hi : d.nodes[i]? = some nI) (hE : 0 < nI.entries.length) (hns : d.nodes.length ≤ 1000) (hen : ∀ n ∈ d.nodes, n.entries.length ≤ 1000) : ACall Try.prog 92 [.agg (dvcA d)] [] (fun r b t => t = [] ∧ r = .agg (devR d 2 d.nodes.length) ∧ b = [devR d 2 d.nodes.length, devR d 2 d.nodes.length, NG d.nodes i nI 3 nI.entries.length d.nodes.length, EB nI.entries nI.entries.length]) := by
  have hbk : ∀ bx : List (List AV), Back bx [] [NG d.nodes i nI 1 nI.entries.length d.nodes.length, EB nI.entries nI.entries.length] (bx ++ [NG d.nodes i nI (bx.length + 1) nI.entries.length d.nodes.length, EB nI.entries nI.entries.length]) := fun bx => by
    have := back_F (bx := bx) (is := []) (bc := [NG d.nodes i nI 1 nI.entries.length d.nodes.length, EB nI.entries nI.entries.length]) List.nodup_nil (by simp) (by simp)
    have e2 : renL (backS [] bx.length) (NG d.nodes i nI 1 nI.entries.length d.nodes.length) = NG d.nodes i nI (bx.length + 1) nI.entries.length d.nodes.length := ren_NG (by simp [backS]) _ _ _ _ _
    simpa [backF, ren_EB, e2] using this
  refine enter Try.func92 rfl rfl rfl rfl rfl 4 rfl ?_
  refine w_ (b_ (h:=al_ (h:=e_ (w_ (f_ (h:=l_ (h:=?_)))))))
  refine al_p rfl (s_callM [] rfl (.cons _ _ _ _ _ rfl (LeA.refl _) (.cons _ _ _ _ _ rfl (LeA.refl _) .nil)) (by decide) .nil (PcopiedNG d.nodes i nI hi hE hns hen) ?_)
  rintro r bc tc ⟨rfl, rfl, rfl⟩
  refine ⟨rfl, _, (hbk _ : Back _ [] _ [_, _, _, _]), ?_⟩
  refine f_ (h:=s_ (h:=e_ (w_ (l_ (h:=s_ (h:=e_ (aw_ret (?_))))))))
  refine abody_ret none (by repeat (first | exact ResA.nil | (apply ResA.tmp; (focus exact rfl)) | (apply ResA.cellN; (focus exact inferInstance); (focus exact rfl); (focus exact rfl); (focus exact rfl)) | (apply ResA.cell1; (focus exact inferInstance); (focus exact rfl); (focus exact rfl); (focus exact rfl)))) rfl rfl (by simp [bpLtB, bpLtL, bpLt, dvcA, devR, bp_NG, bp_EB, ren, backS]) (LeA.refl _) ⟨rfl, rfl, rfl⟩

end
end Go.Proofs.Ythcbdkmhamhciaa
