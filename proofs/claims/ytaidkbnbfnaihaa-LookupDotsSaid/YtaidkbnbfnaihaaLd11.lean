/-
  Part 11 of the proof of LookupDotsP: what the statement's proof uses of the texts in wip/tpl.
-/
import Derived.Test.YtaidkbnbfnaihaaLd10
namespace Go.Proofs.Ytaidkbnbfnaihaa

theorem FlsV.set_ {f : Fls} (h : FlsV f) {q : Nat} {d' : Dvc} (hd : VD d') : FlsV (f.set q d') := by
  refine ⟨by simpa using h.few, fun d hm => ?_⟩
  rcases List.mem_or_eq_of_mem_set hm with h1 | h1
  · exact h.vd d h1
  · rw [h1]; exact hd
theorem at_ok {f : Fls} {a : Fil} (h : hasG f a = true) : ∃ (q i : Nat) (d : Dvc) (m : Nod), a.1 = (q : Int) ∧ f[q]? = some d ∧ d.nodes[i]? = some m ∧ m.ino = a.2 ∧ nodeL f a = some m ∧ nodG f a = m := by
  rcases index_node f a with ⟨_, h2⟩ | ⟨q, i, d, n, h1, h2, h3, h4, h5, h6⟩
  · simp [hasG, h2] at h
  · exact ⟨q, i, d, n, h1, h2, h3, h4, h6, by simp [nodG, h6]⟩
theorem node_asc {f : Fls} {a : Fil} {q : Nat} {d : Dvc} {m : Nod} (ha : a.1 = (q : Int)) (hq : f[q]? = some d) (hd : Asc d.nodes) (hm : m ∈ d.nodes) (hi : m.ino = a.2) : nodeL f a = some m := by
  unfold nodeL
  rw [ha, atI_nat, hq]
  simp only
  cases h : d.nodes.find? (fun n => n.ino == a.2) with
  | none =>
    have := List.find?_eq_none.1 h m hm
    simp [hi] at this
  | some n =>
    have h1 := List.mem_of_find?_eq_some h
    have h2 := List.find?_some h
    simp only [beq_iff_eq] at h2
    rw [asc_eq hd h1 hm (by omega)]
theorem look_no {f : Fls} {dir : Fil} {name : Str} {n0 : Nod} (hn : nodeL f dir = some n0) (hk : n0.kind = 2) (h : (lookL f dir name).2 ≠ 0) : entF n0.entries name = none ∧ (lookL f dir name).1 = (0, 0) := by
  unfold lookL at h ⊢
  rw [hn] at h ⊢
  simp only [hk, if_true] at h ⊢
  unfold entF
  split at h
  · rename_i he
    exact ⟨he, rfl⟩
  · exact absurd rfl h
theorem full_no {f : Fls} {dir : Fil} {n0 : Nod} (hn : nodeL f dir = some n0) (h : ¬ fullL f dir = true) : n0.entries.length < 12 := by
  unfold fullL at h
  rw [hn] at h
  simp at h
  omega
theorem onD_len (f : Fls) (q : Nat) (g : List Nod → List Nod) : (onD f q g).length = f.length := by simp [onD]
def Okay (f : Fls) (R : ChgRes) : Prop := R.2.2 = 0 → FlsV R.1 ∧ R.1.length = f.length
theorem okay_err {f : Fls} {e : Int} (h : e ≠ 0) : Okay f ([], [], e) := fun h0 => absurd h0 h
theorem link_okay {f : Fls} (hv : FlsV f) (dir : Fil) (name : Str) (a : Fil) : Okay f (linkL f dir name a) := by
  unfold linkL
  split
  · rename_i h; exact okay_err h
  · rename_i hp
    split
    · exact okay_err (by decide)
    · rename_i hh
      split
      · exact okay_err (by decide)
      · rename_i hdev
        split
        · exact okay_err (by decide)
        · rename_i hk
          split
          · exact okay_err (by decide)
          · rename_i hl
            split
            · exact okay_err (by decide)
            · rename_i hfl
              intro _
              obtain ⟨q, i, d, n0, hdq, hq, hn0, hino, hidx, hnode, hk0, hnm⟩ := place_ok (name := name) (dir := dir) (f := f) (by omega)
              obtain ⟨q', i', d', m, haq, hq', hm, hmi, hnm2, hng⟩ := at_ok (f := f) (a := a) (by simpa using hh)
              obtain rfl : q = q' := by omega
              obtain rfl : d = d' := Option.some.inj (hq.symm.trans hq')
              have hvd := hv.vd d (List.mem_of_getElem? hq)
              have key := hvd.linked (List.mem_of_getElem? hn0) hk0 (List.mem_of_getElem? hm) (by rw [← hng]; exact hk) hnm (look_no hnode hk0 hl).1 (full_no hnode hfl)
              rw [hino, hmi] at key
              refine ⟨?_, by dsimp only; exact onD_len _ _ _⟩
              dsimp only
              rw [hdq, Int.toNat_natCast, onD_set hq]
              exact hv.set_ key
theorem dir_kind {f : Fls} {a : Fil} {m : Nod} (h : nodeL f a = some m) : dirL f a = true ↔ m.kind = 2 := by
  unfold dirL; rw [h]; simp
theorem empty_len {f : Fls} {a : Fil} {m : Nod} (h : nodeL f a = some m) : emptyL f a = true ↔ m.entries = [] := by
  unfold emptyL; rw [h]; simp
theorem look_node {f : Fls} (hv : FlsV f) {dir : Fil} {name : Str} {q i : Nat} {d : Dvc} {n0 : Nod} (hdq : dir.1 = (q : Int)) (hq : f[q]? = some d) (hn0 : d.nodes[i]? = some n0) (hnode : nodeL f dir = some n0) (hk0 : n0.kind = 2) (hl : (lookL f dir name).2 = 0) :
    ∃ e m, entF n0.entries name = some e ∧ lookL f dir name = ((dir.1, e.2), 0) ∧ m ∈ d.nodes ∧ e.2 = m.ino ∧ e.2 ≠ 1 ∧ nodeL f (lookL f dir name).1 = some m := by
  obtain ⟨e, he, hle⟩ := look_ok hnode hk0 hl
  have hvd := hv.vd d (List.mem_of_getElem? hq)
  obtain ⟨_, h1, m, hm, h2⟩ := hvd.ent n0 (List.mem_of_getElem? hn0) e (entF_some he).1
  refine ⟨e, m, he, hle, hm, h2.symm, h1, ?_⟩
  rw [hle]
  exact node_asc hdq hq hvd.asc hm h2
theorem unlink_okay {f : Fls} (hv : FlsV f) (dir : Fil) (name : Str) : Okay f (unlinkL f dir name) := by
  unfold unlinkL
  split
  · rename_i h; exact okay_err h
  · rename_i hp
    split
    · rename_i h; exact okay_err h
    · rename_i hl
      split
      · exact okay_err (by decide)
      · rename_i hk
        intro _
        obtain ⟨q, i, d, n0, hdq, hq, hn0, hino, hidx, hnode, hk0, hnm⟩ := place_ok (name := name) (dir := dir) (f := f) (by omega)
        obtain ⟨e, m, he, hle, hm, h1, h2, h3⟩ := look_node hv hdq hq hn0 hnode hk0 (name := name) (by omega)
        have hvd := hv.vd d (List.mem_of_getElem? hq)
        have key := hvd.removed (List.mem_of_getElem? hn0) hm (hvd.leaf m hm fun h => hk ((dir_kind h3).2 h)).2 he h1
        refine ⟨?_, by dsimp only; exact onD_len _ _ _⟩
        dsimp only
        rw [hdq, Int.toNat_natCast, onD_set hq, show (lookL f dir name).1.2 = m.ino by rw [hle]; exact h1, ← hino]
        exact hv.set_ key
theorem rmdir_okay {f : Fls} (hv : FlsV f) (dir : Fil) (name : Str) : Okay f (rmdirL f dir name) := by
  unfold rmdirL
  split
  · rename_i h; exact okay_err h
  · rename_i hp
    split
    · rename_i h; exact okay_err h
    · rename_i hl
      split
      · exact okay_err (by decide)
      · rename_i hk
        split
        · exact okay_err (by decide)
        · rename_i hem
          intro _
          obtain ⟨q, i, d, n0, hdq, hq, hn0, hino, hidx, hnode, hk0, hnm⟩ := place_ok (name := name) (dir := dir) (f := f) (by omega)
          obtain ⟨e, m, he, hle, hm, h1, h2, h3⟩ := look_node hv hdq hq hn0 hnode hk0 (name := name) (by omega)
          have hvd := hv.vd d (List.mem_of_getElem? hq)
          have key := hvd.removed (List.mem_of_getElem? hn0) hm ((empty_len h3).1 (by simpa using hem)) he h1
          refine ⟨?_, by dsimp only; exact onD_len _ _ _⟩
          dsimp only
          rw [hdq, Int.toNat_natCast, onD_set hq, show (lookL f dir name).1.2 = m.ino by rw [hle]; exact h1, ← hino]
          exact hv.set_ key
theorem set_okay {f : Fls} (hv : FlsV f) (a : Fil) (mode uid gid : Int) : (setL05 f a mode uid gid).2 = 0 → FlsV (setL05 f a mode uid gid).1 ∧ (setL05 f a mode uid gid).1.length = f.length := by
  unfold setL05
  split
  · intro h; exact absurd h (by decide)
  · rename_i hh
    split
    · intro h; exact absurd h (by decide)
    · rename_i hp
      intro _
      obtain ⟨q, i, d, m, haq, hq, hm, hmi, hnm2, hng⟩ := at_ok (f := f) (a := a) (by simpa using hh)
      have hvd := hv.vd d (List.mem_of_getElem? hq)
      have key := hvd.attrs (List.mem_of_getElem? hm) mode uid gid (by rw [← hng]; simpa using hp)
      refine ⟨?_, by dsimp only; exact onD_len _ _ _⟩
      dsimp only
      rw [haq, Int.toNat_natCast, onD_set hq, ← hmi]
      exact hv.set_ key
theorem make_okay {f : Fls} (hv : FlsV f) (dir : Fil) (name : Str) (n : Nod) : Okay f (mkL f dir name n) := by
  unfold mkL
  split
  · rename_i h; exact okay_err h
  · rename_i hp
    split
    · exact okay_err (by decide)
    · rename_i hpl
      split
      · exact okay_err (by decide)
      · rename_i hl
        obtain ⟨q, i, d, n0, hdq, hq, hn0, hino, hidx, hnode, hk0, hnm⟩ := place_ok (name := name) (dir := dir) (f := f) (by omega)
        have hat : atI f dir.1 = some d := by rw [hdq, atI_nat, hq]
        rw [hat]
        simp only
        split
        · exact okay_err (by decide)
        · rename_i hc
          intro _
          have hvd := hv.vd d (List.mem_of_getElem? hq)
          have hnm2 := hvd.nextM
          have key := hvd.make (List.mem_of_getElem? hn0) hk0 hnm (look_no hnode hk0 hl).1 (n := n) (by simpa using hpl) (by omega) (by omega) (full_no hnode (fun h => hc (.inr (.inr h))))
          refine ⟨?_, by simp⟩
          dsimp only
          rw [hdq, Int.toNat_natCast, ← hino]
          exact hv.set_ key
theorem dropI_updI {ns : List Nod} {a o : Int} {g : Nod → Nod} (hi : ∀ n, (g n).ino = n.ino) (he : ∀ n, (g n).entries = n.entries) : dropI (updI ns a g) o = updI (dropI ns o) a g := by
  have hc : cntN o (updI ns a g) = cntN o ns := by
    unfold cntN
    congr 1
    unfold updI
    rw [List.flatMap_map]
    congr 1
    funext n
    split
    · rw [he]
    · rfl
  unfold dropI
  rw [hc]
  unfold updI
  rw [List.filter_map]
  congr 1
  apply List.filter_congr
  intro n _
  simp only [Function.comp]
  split
  · rw [hi]
  · rfl
theorem updI_same {ns : List Nod} {a : Int} {g : Nod → Nod} (h : ∀ n ∈ ns, n.ino = a → g n = n) : updI ns a g = ns := by
  unfold updI
  conv => rhs; rw [← List.map_id ns]
  apply List.map_congr_left
  intro n hn
  split
  · rename_i e; rw [h n hn e]; rfl
  · rfl
theorem updI_congr {ns : List Nod} {a : Int} {g g' : Nod → Nod} (h : ∀ n ∈ ns, n.ino = a → g n = g' n) : updI ns a g = updI ns a g' := by
  unfold updI
  apply List.map_congr_left
  intro n hn
  split
  · rename_i e; rw [h n hn e]
  · rfl
theorem bel_anc {f : Fls} {q : Nat} {d : Dvc} (hq : f[q]? = some d) (hd : Asc d.nodes) {top : Fil} (ht : top.1 = (q : Int)) : ∀ (k n : Nat) (a : Fil), k < n → a.1 = (q : Int) → AncN d.nodes k a.2 top.2 → belF f top n a = true
  | _, 0, _, h, _, _ => by omega
  | 0, n + 1, a, _, ha, hk => by
    have e : a.2 = top.2 := hk
    unfold belF
    rw [if_neg (by omega), if_pos (Prod.ext (by omega) e)]
  | k + 1, n + 1, a, h, ha, hk => by
    obtain ⟨m, hm, h1, h2, h3, h4⟩ := hk
    unfold belF
    rw [if_neg (by omega)]
    split
    · rfl
    · have hn := node_asc ha hq hd hm h1
      refine bel_anc hq hd ht k n _ (by omega) ha ?_
      simp only [nodG, hn, Option.getD_some]
      exact h4
theorem rename_okay {f : Fls} (hv : FlsV f) (src : Fil) (name : Str) (to : Fil) (name2 : Str) : Okay f (renameL f src name to name2) := by
  unfold renameL
  split
  · rename_i h; exact okay_err h
  · rename_i hord
    obtain ⟨hpl1, hpl2⟩ := ord_zero (f := f) (x := src) (y := to) (name := name) (name2 := name2) (by omega)
    split
    · rename_i h; exact okay_err h
    · rename_i hl1
      split
      · exact okay_err (by decide)
      · rename_i hdev
        split
        · exact okay_err (by decide)
        · rename_i hbel
          split
          · intro _; exact ⟨hv, rfl⟩
          · rename_i hsame
            split
            · rename_i h; exact okay_err h
            · rename_i hr2
              intro _
              obtain ⟨q, i, d, n1, hsq, hq, hn1, hn1i, hidx, hnode, hk1, hnm1⟩ := place_ok hpl1
              obtain ⟨q', i2, d', n2, htq, hq', hn2, hn2i, -, hnode2, hk2, hnm2⟩ := place_ok hpl2
              obtain rfl : q = q' := by omega
              obtain rfl : d = d' := Option.some.inj (hq.symm.trans hq')
              have hvd := hv.vd d (List.mem_of_getElem? hq)
              obtain ⟨e, m, he, hle, hm, hem, he1, hmn⟩ := look_node hv hsq hq hn1 hnode hk1 (name := name) (by omega)
              have hA2 : (lookL f src name).1.2 = m.ino := by rw [hle]; exact hem
              have hmoves : dirL f (lookL f src name).1 = true ↔ m.kind = 2 := dir_kind hmn
              have hanc : m.kind = 2 → ¬ Anc d.nodes n2.ino m.ino := by
                rintro hmk ⟨k, hk⟩
                have hlen := hvd.anc_len hm hk
                have := hvd.len
                refine hbel ⟨hmoves.2 hmk, bel_anc hq hvd.asc (top := (lookL f src name).1) (by rw [hle]; exact hsq) k 17 to (by omega) htq ?_⟩
                rw [hA2, ← hn2i]
                exact hk
              have hdiff : n1.ino = n2.ino → name ≠ name2 := by
                rintro h rfl
                have est : to = src := Prod.ext (by omega) (by omega)
                subst est
                exact hsame ⟨by omega, rfl⟩
              have ho : (entF n2.entries name2 = none ∧ (n2.entries.length < 12 ∨ n1.ino = n2.ino) ∧ (lookL f to name2).1.2 = 0) ∨ (∃ eo o, entF n2.entries name2 = some eo ∧ o ∈ d.nodes ∧ eo.2 = (lookL f to name2).1.2 ∧ o.ino = (lookL f to name2).1.2 ∧ (lookL f to name2).1.2 ≠ m.ino ∧ o.entries = []) := by
                have hr3 : ren2L f src to (lookL f src name).1 (lookL f to name2).1 (lookL f to name2).2 = 0 := by omega
                unfold ren2L at hr3
                by_cases h0 : (lookL f to name2).2 = 0
                · right
                  rw [if_pos h0] at hr3
                  obtain ⟨eo, o, heo, hleo, hom, heoi, heo1, hon⟩ := look_node hv htq hq hn2 hnode2 hk2 (name := name2) h0
                  have hO2 : (lookL f to name2).1.2 = eo.2 := by rw [hleo]
                  refine ⟨eo, o, heo, hom, hO2.symm, by rw [hO2, heoi], ?_, ?_⟩
                  · intro h
                    refine hsame ⟨h0, Prod.ext ?_ (h.trans hA2.symm)⟩
                    rw [hleo, hle]; exact htq.trans hsq.symm
                  · have hdo := dir_kind hon
                    by_cases hok : o.kind = 2
                    · rw [if_neg (fun h => by
                        rw [if_pos h] at hr3; exact absurd hr3 (by decide))] at hr3
                      rw [if_neg (fun h => by rw [hdo.2 hok] at h; exact absurd h.1 (by decide))] at hr3
                      split at hr3
                      · exact absurd hr3 (by decide)
                      · rename_i h5
                        refine (empty_len hon).1 ?_
                        cases hem2 : emptyL f (lookL f to name2).1 with
                        | true => rfl
                        | false => exact absurd ⟨hdo.2 hok, hem2⟩ h5
                    · exact (hvd.leaf o hom hok).2
                · left
                  rw [if_neg h0] at hr3
                  obtain ⟨h1, h2⟩ := look_no hnode2 hk2 h0
                  refine ⟨h1, ?_, by rw [h2]⟩
                  split at hr3
                  · exact absurd hr3 (by decide)
                  · rename_i h3
                    by_cases hfl : fullL f to = true
                    · right
                      have : src = to := Classical.byContradiction fun h => h3 ⟨hfl, h⟩
                      rw [hn1i, hn2i, this]
                    · left; exact full_no hnode2 hfl
              have key := hvd.renamed (List.mem_of_getElem? hn1) (List.mem_of_getElem? hn2) hm hk2 he hem hnm2 hdiff hanc ho
              refine ⟨?_, by dsimp only; exact onD_len _ _ _⟩
              dsimp only
              rw [htq, Int.toNat_natCast, onD_set hq]
              have hns : renPar (renNs d.nodes src name to name2 (lookL f src name).1 (lookL f to name2).1 (lookL f to name2).2) (lookL f src name).1.2 to.2 (dirL f (lookL f src name).1) = dropI (renD d.nodes n1.ino n2.ino name name2 m.ino) (lookL f to name2).1.2 := by
                rw [← renD_eq, hA2, ← hn2i]
                have hY : ∀ y ∈ entD (entD d.nodes n1.ino name 0) n2.ino name2 m.ino, y.ino = m.ino → y.kind = m.kind := by
                  intro y hy hyi
                  obtain ⟨y1, h1, w1⟩ := mem_entD hy
                  obtain ⟨y2, h2, w2⟩ := mem_entD h1
                  have : y2 = m := asc_eq hvd.asc h2 hm (by rw [← w2.ino, ← w1.ino]; exact hyi)
                  rw [w1.kind, w2.kind, this]
                have hpos : ∀ y ∈ entD (entD d.nodes n1.ino name 0) n2.ino name2 m.ino, 1 ≤ y.ino := by
                  intro y hy
                  obtain ⟨y1, h1, w1⟩ := mem_entD hy
                  obtain ⟨y2, h2, w2⟩ := mem_entD h1
                  rw [w1.ino, w2.ino]
                  exact hvd.pos h2
                have hset : dropI (updI (entD (entD d.nodes n1.ino name 0) n2.ino name2 m.ino) m.ino (setPar n2.ino)) (lookL f to name2).1.2 = updI (dropI (entD (entD d.nodes n1.ino name 0) n2.ino name2 m.ino) (lookL f to name2).1.2) m.ino (setPar n2.ino) := dropI_updI (fun n => by unfold setPar; split <;> rfl) (fun n => by unfold setPar; split <;> rfl)
                rw [hset]
                have hN : renNs d.nodes src name to name2 (lookL f src name).1 (lookL f to name2).1 (lookL f to name2).2 = dropI (entD (entD d.nodes n1.ino name 0) n2.ino name2 m.ino) (lookL f to name2).1.2 := by
                  unfold renNs
                  rw [hA2, ← hn1i, ← hn2i]
                  split
                  · rfl
                  · rename_i h0
                    rw [(look_no hnode2 hk2 h0).2]
                    unfold dropI
                    symm
                    rw [List.filter_eq_self]
                    intro y hy
                    have := hpos y hy
                    exact decide_eq_true (.inl (by show y.ino ≠ 0; omega))
                rw [hN]
                have hsub : ∀ y ∈ dropI (entD (entD d.nodes n1.ino name 0) n2.ino name2 m.ino) (lookL f to name2).1.2, y ∈ entD (entD d.nodes n1.ino name 0) n2.ino name2 m.ino := fun y hy => (mem_dropI.1 hy).1
                unfold renPar
                split
                · rename_i hmv
                  refine updI_congr fun y hy hyi => ?_
                  unfold setPar
                  rw [if_pos ((hY y (hsub y hy) hyi).trans (hmoves.1 hmv))]
                · rename_i hmv
                  refine (updI_same fun y hy hyi => ?_).symm
                  unfold setPar
                  rw [if_neg (fun h => hmv (hmoves.2 ((hY y (hsub y hy) hyi).symm.trans h)))]
              rw [hns]
              exact hv.set_ key
end Go.Proofs.Ytaidkbnbfnaihaa
namespace Go.Proofs.Ytaidkbnbfnaihaa
open Go.RowKit

def spcR (R : Spc × Int) : AV := .tup [.agg (spcA R.1), .v (.int .i64 R.2)]
def spc0 : Spc := ⟨[], []⟩
theorem sperr_le (e : Int) : LeA (.tup [.agg [.v (.slice none 0 0), .v (.slice none 0 0)], .v (.int .i64 e)]) (spcR (spc0, e)) := (by repeat (first | exact LeA.refl _ | exact LeA.nil _ | exact LeL.refl _ | refine LeA.agg ?_ | refine LeA.tup ?_ | exact LeL.nil | refine LeL.cons ?_ ?_ | exact LeA.any _))
def addL (s : Spc) (dev : Int) (a : Fil) : Spc × Int :=
  if dev < 1 ∨ (s.files.length : Int) ≤ dev then (spc0, 22) else if hasG s.files a = false then (spc0, 2) else if (nodG s.files a).kind ≠ 2 then (spc0, 20) else if mtdL s a.1 = false ∨ a.1 = dev then (spc0, 22) else
  if mtdL s dev = true ∨ (covL s a).isSome = true then (spc0, 16) else (⟨s.files, s.mounts ++ [(dev, a)]⟩, 0)
section
set_option maxRecDepth 10000
set_option maxHeartbeats 1000000
theorem RspcT (s : Spc) (hs : SpcB s) : AFnT Try.prog 49 [.agg (spcA s)] (fun g => .agg [.sl 2 (s.files.map dvcA) none, .sl 3 (s.mounts.map mntA) g]) (97, 3, s.mounts.map mntA) := by
  have hfew := hs.few
  refine enter Try.func49 rfl rfl rfl rfl rfl 0 rfl ?_
  refine w_ (b_ (h:=al_ (h:=e_ (q_ (yk_ ([(0, spcA s)]) 8 (h:=df_ 0 (h:=?_)))))))
  first | refine dl_ 1 (h:=?_) | refine tk_ 1 rfl (fun _ hS => st_loadBE (row := spcA s) rfl (kb hS rfl) (Nat.le_of_ble_eq_true rfl) rfl ⟨rfl, rfl⟩) ?_
  refine df_ 3 (h:=?_)
  first | refine dl_ 4 (h:=?_) | refine tk_ 4 rfl (fun _ hS => st_loadBE (row := spcA s) rfl (kb hS rfl) (Nat.le_of_ble_eq_true rfl) rfl ⟨rfl, rfl⟩) ?_
  refine c_ 2 rfl (q_call (RcopyF s.files hs.files) ?_)
  rintro r rfl
  refine o_ (h:=?_)
  first | refine c_ 5 rfl (s_append rfl rfl rfl (by simp; omega) (by repeat constructor) ?_) | refine c_ 5 rfl (s_append0 rfl rfl (by simp; omega) (by repeat constructor) ?_)
  refine o_ (h:=dbd_ 6 (h:=?_))
  refine c0_ 7 rfl (s_store rfl rfl rfl rfl rfl rfl (by repeat constructor) (by repeat constructor) ?_)
  refine o_ (h:=z_ (h:=t_ (aw_ret (?_))))
  refine rt_ (some 0) (h5 := (LeA.refl _)) (h6 := ⟨rfl, rfl, rfl⟩)

theorem Radd (s : Spc) (dev : Int) (a : Fil) (hs : SpcB s) : AFn Try.prog 24 [.agg (spcA s), .v (.int .i64 dev), .agg (filA a)] (fun r => r = spcR (addL s dev a)) := by
  have hfew := hs.few
  refine enter Try.func24 rfl rfl rfl rfl rfl 0 rfl ?_
  refine w_ (b_ (h:=b_ (h:=al_ (h:=a_ (h:=e_ (q_ (w_ (m_ (h:=lt_ (h:=m_ (h:=?_)))))))))))
  refine al_gs false rfl rfl (fun hb1 => ?_) (fun hb1 => ?_)
  · have hc1 := bp hb1
    refine g0_ (h:=g0_ (h:=g0_ (h:=g0_ (h:=g0_ (h:=g0_ (h:=pt_ (h:=e_ (cy_ (h:=w_ (bd_ (h:=s_ (h:=a_ (h:=e_ (aw_ret (x_thenR (?_))))))))))))))))
    refine rt_ (r := spcR (addL s dev a)) none (h5 := ?_) (h6 := ⟨rfl, rfl, rfl⟩)
    rw [addL, if_pos (.inl hc1)]
    exact sperr_le _
  · have hc1 := bp hb1
    refine m_ (h:=f_ (h:=f_ (h:=l_ (h:=n_ (h:=ge_ (h:=pf_ (h:=e_ (?_))))))))
    refine aw_cond rfl (fun hb2 => ?_) (fun hb2 => ?_)
    · have hc2 := bp hb2
      refine w_ (bd_ (h:=s_ (h:=a_ (h:=e_ (aw_ret (x_thenR (?_)))))))
      refine rt_ (r := spcR (addL s dev a)) none (h5 := ?_) (h6 := ⟨rfl, rfl, rfl⟩)
      rw [addL, if_pos (.inr (by rw [List.length_map] at hc2; omega))]
      exact sperr_le _
    · have hc2 := bp hb2
      refine kt_ (w_ (f_ (h:=l_ (h:=l_ (h:=?_)))))
      refine al_p rfl (q_call (Rnode s.files a hs.files) ?_)
      rintro r rfl
      refine m_ (h:=x_ (h:=x_ (h:=al_ (h:=s_ (h:=a_ (h:=e_ (q_ (w_ (m_ (h:=nt_ (h:=e_ (?_))))))))))))
      refine aw_cond rfl (fun hb3 => ?_) (fun hb3 => ?_)
      · have hc3 := bp hb3
        refine w_ (bd_ (h:=s_ (h:=a_ (h:=e_ (aw_ret (x_thenR (?_)))))))
        refine rt_ (r := spcR (addL s dev a)) none (h5 := ?_) (h6 := ⟨rfl, rfl, rfl⟩)
        rw [addL, if_neg (by rw [List.length_map] at hc2; omega), if_pos hc3]
        exact sperr_le _
      · have hc3 := bp hb3
        refine kt_ (q_ (w_ (f_ (h:=l_ (h:=nq_ (h:=e_ (?_)))))))
        refine aw_cond rfl (fun hb4 => ?_) (fun hb4 => ?_)
        · have hc4 := bp hb4
          refine w_ (bd_ (h:=s_ (h:=a_ (h:=e_ (aw_ret (x_thenR (?_)))))))
          refine rt_ (r := spcR (addL s dev a)) none (h5 := ?_) (h6 := ⟨rfl, rfl, rfl⟩)
          rw [addL, if_neg (by rw [List.length_map] at hc2; omega), if_neg (by simp [hc3]), if_pos hc4]
          exact sperr_le _
        · have hc4 := bp hb4
          refine kt_ (q_ (w_ (l_ (h:=f_ (h:=l_ (h:=?_))))))
          refine al_p rfl (q_call (Rmounted s a.1 hs) ?_)
          rintro r rfl
          refine nt_ (h:=m_ (h:=?_))
          refine al_gs false rfl rfl (fun hb5 => ?_) (fun hb5 => ?_)
          · have hc5 := bp hb5
            refine g0_ (h:=g0_ (h:=g0_ (h:=g0_ (h:=pt_ (h:=e_ (cy_ (h:=w_ (bd_ (h:=s_ (h:=a_ (h:=e_ (aw_ret (x_thenR (?_))))))))))))))
            refine rt_ (r := spcR (addL s dev a)) none (h5 := ?_) (h6 := ⟨rfl, rfl, rfl⟩)
            rw [addL, if_neg (by rw [List.length_map] at hc2; omega), if_neg (by simp [hc3]), if_neg (by simp [hc4]), if_pos (.inl hc5)]
            exact sperr_le _
          · have hc5 := bp hb5
            refine f_ (h:=l_ (h:=m_ (h:=eq_ (h:=pf_ (h:=e_ (?_))))))
            refine aw_cond rfl (fun hb6 => ?_) (fun hb6 => ?_)
            · have hc6 := bp hb6
              refine w_ (bd_ (h:=s_ (h:=a_ (h:=e_ (aw_ret (x_thenR (?_)))))))
              refine rt_ (r := spcR (addL s dev a)) none (h5 := ?_) (h6 := ⟨rfl, rfl, rfl⟩)
              rw [addL, if_neg (by rw [List.length_map] at hc2; omega), if_neg (by simp [hc3]), if_neg (by simp [hc4]), if_pos (.inr hc6)]
              exact sperr_le _
            · have hc6 := bp hb6
              refine kt_ (q_ (w_ (l_ (h:=m_ (h:=?_)))))
              refine al_p rfl (q_call (Rmounted s dev hs) ?_)
              rintro r rfl
              refine m_ (h:=?_)
              refine al_gs false rfl rfl (fun hb7 => ?_) (fun hb7 => ?_)
              · have hc7 := bp hb7
                refine g0_ (h:=g0_ (h:=g0_ (h:=pt_ (h:=e_ (cy_ (h:=w_ (bd_ (h:=s_ (h:=a_ (h:=e_ (aw_ret (x_thenR (?_)))))))))))))
                refine rt_ (r := spcR (addL s dev a)) none (h5 := ?_) (h6 := ⟨rfl, rfl, rfl⟩)
                rw [addL, if_neg (by rw [List.length_map] at hc2; omega), if_neg (by simp [hc3]), if_neg (by simp [hc4]), if_neg (by simp [hc5, hc6]), if_pos (.inl hc7)]
                exact sperr_le _
              · have hc7 := bp hb7
                refine l_ (h:=l_ (h:=?_))
                refine g_y (q_call (Rcovered s a hs) ?_)
                rintro r rfl
                refine pf_ (h:=e_ (?_))
                refine aw_cond rfl (fun hb8 => ?_) (fun hb8 => ?_)
                · have hc8 := bp hb8
                  refine w_ (bd_ (h:=s_ (h:=a_ (h:=e_ (aw_ret (x_thenR (?_)))))))
                  refine rt_ (r := spcR (addL s dev a)) none (h5 := ?_) (h6 := ⟨rfl, rfl, rfl⟩)
                  rw [addL, if_neg (by rw [List.length_map] at hc2; omega), if_neg (by simp [hc3]), if_neg (by simp [hc4]), if_neg (by simp [hc5, hc6]), if_pos (.inr hc8)]
                  exact sperr_le _
                · have hc8 := bp hb8
                  refine kt_ (w_ (l_ (h:=?_)))
                  refine al_p rfl (s_callT rfl (by repeat (first | exact Args.nil | refine Args.cons _ _ _ _ _ rfl (argOk_clean rfl) ?_ | refine Args.cons _ _ _ _ _ rfl (argOk_nil _) ?_ | refine Args.cons _ _ _ _ _ rfl (argOk_era _) ?_ | refine Args.cons _ _ _ _ _ rfl (argOk_le rfl (by repeat (first | exact LeA.refl _ | exact LeA.nil _ | exact LeL.refl _ | refine LeA.agg ?_ | refine LeA.tup ?_ | exact LeL.nil | refine LeL.cons ?_ ?_ | exact LeA.any _))) ?_)) (RspcT s hs) (fun _ => rfl) (by repeat constructor) ?_)
                  refine al_ (h:=s_ (h:=e_ (w_ (f_ (h:=l_ (h:=m_ (h:=l_ (h:=bd_ (h:=bs_ (h:=?_))))))))))
                  first | refine al_p rfl (s_append rfl rfl rfl (by simp; omega) (by repeat constructor) ?_) | refine al_p rfl (s_append0 rfl rfl (by simp; omega) (by repeat constructor) ?_)
                  refine f_ (h:=s_ (h:=e_ (w_ (l_ (h:=s_ (h:=a_ (h:=e_ (aw_ret (?_)))))))))
                  refine e_ret ?_
                  rw [addL, if_neg (by rw [List.length_map] at hc2; omega), if_neg (by simp [hc3]), if_neg (by simp [hc4]), if_neg (by simp [hc5, hc6]), if_neg (by simp [hc7, hc8])]
                  simp only [spcR, spcA, List.map_append]
                  rfl

end
end Go.Proofs.Ytaidkbnbfnaihaa
namespace Go.Proofs.Ytaidkbnbfnaihaa
open Go.RowKit

theorem tmod_rng (z : Int) {n : Int} (h : 1 ≤ n) : -n < z.tmod n ∧ z.tmod n < n := ⟨Int.lt_tmod_of_pos z (by omega), Int.tmod_lt_of_pos z (by omega)⟩
theorem size_app (a b : ByteArray) : (a ++ b).size = a.size + b.size := ByteArray.size_append
section
set_option maxRecDepth 10000
set_option maxHeartbeats 1000000
theorem Gnew (l : List Int) : ACall Try.prog 9 [.sl 1 (l.map intA) none] [] (fun r b t => r = .bp 0 0 ∧ b = [srcA l 0] ∧ t = []) := by
  refine enter Try.func9 rfl rfl rfl rfl rfl 1 rfl ?_
  refine w_ (a_ (h:=e_ (w_ (m_ (h:=bd_ (h:=b_ (h:=a_ (h:=e_ (aw_ret (?_))))))))))
  refine rt_ none (h5 := (LeA.refl _)) (h6 := ⟨rfl, rfl, rfl⟩)

theorem Gn (l : List Int) (a : Nat) (n : Int) (ha : a ≤ 1000000000000) (hn : n ≤ 1000000000000) : GenF Try.prog 14 l a [.v (.int .i64 n)] 1 (fun r => ∃ k : Int, r = .v (.int .i64 k) ∧ 0 ≤ k ∧ (1 ≤ n → k < n) ∧ (n < 1 → k = 0)) := by
  refine enter Try.func14 rfl rfl rfl rfl rfl 1 rfl ?_
  refine w_ (a_ (h:=e_ (q_ (w_ (m_ (h:=lt_ (h:=e_ (?_))))))))
  refine aw_cond rfl (fun hb1 => ?_) (fun hb1 => ?_)
  · have hc1 := bp hb1
    refine w_ (a_ (h:=e_ (aw_ret (x_thenR (?_)))))
    refine rt_ none (h5 := (LeA.refl _)) (h6 := ⟨_, rfl, rfl, a, by omega, rfl, 0, rfl, by omega, by omega, by omega⟩)
  · have hc1 := bp hb1
    refine kt_ (w_ (m_ (h:=k_ (h:=f_ (h:=l_ (h:=ad_ (h:=k_ (h:=f_ (h:=s_ (h:=e_ (w_ (m_ (h:=k_ (h:=f_ (h:=l_ (h:=ml_ (h:=a_ (h:=e_ (q_ (q_ (yr_ 10 (h:=dm_ 0 (h:=dk_ 1 (h:=?_))))))))))))))))))))))))
    refine df_ 2 (h:=dl_ 3 (h:=dm_ 4 (h:=dk_ 5 (h:=df_ 6 (h:=dl_ 7 (h:=dn_ 8 (h:=dle_ 9 (h:=z_ (h:=t_ (?_))))))))))
    refine aw_cond rfl (fun hb2 => ?_) (fun hb2 => ?_)
    · have hc2 := bp hb2
      have hlt : a < l.length := by simp at hc2; omega
      obtain ⟨z, hz⟩ : ∃ z, (l.map intA)[a]? = some (intA z) := ⟨l[a], by simp [hlt]⟩
      have tz := tmod_rng z (n := n) (by omega)
      refine yr_ 12 (h:=dm_ 0 (h:=dk_ 1 (h:=df_ 2 (h:=dl_ 3 (h:=dm_ 4 (h:=dk_ 5 (h:=df_ 6 (h:=dl_ 7 (h:=dsb_ 8 (h:=?_))))))))))
      refine r_y (i := 9) rfl (st_index (n := a) rfl rfl (by omega) hz ⟨rfl, rfl⟩) ?_
      refine dl_ 10 (h:=da_ 11 (h:=z_ (h:=t_ (w_ (m_ (h:=m_ (h:=?_)))))))
      refine al_p rfl (st_rem rfl rfl (by omega) ?_)
      refine a_ (h:=e_ (q_ (w_ (m_ (h:=lt_ (h:=e_ (?_)))))))
      refine aw_cond rfl (fun hb3 => ?_) (fun hb3 => ?_)
      · have hc3 := bp hb3
        refine aw_region (m_ (h:=m_ (h:=?_)))
        refine al_p rfl (st_add64 rfl rfl (by omega) ?_)
        refine a_ (h:=e_ (w_ (m_ (h:=a_ (h:=e_ (aw_ret (?_)))))))
        refine rt_ none (h5 := (LeA.refl _)) (h6 := ⟨_, rfl, rfl, a + 1, by omega, rfl, _, rfl, by omega, by omega, by omega⟩)
      · have hc3 := bp hb3
        refine kt_ (w_ (m_ (h:=a_ (h:=e_ (aw_ret (?_))))))
        refine rt_ none (h5 := (LeA.refl _)) (h6 := ⟨_, rfl, rfl, a + 1, by omega, rfl, _, rfl, by omega, by omega, by omega⟩)
    · have hc2 := bp hb2
      have tz := tmod_rng (IntKind.i64.wrap (((a : Int) + 1) * 7)) (n := n) (by omega)
      refine kt_ (w_ (m_ (h:=m_ (h:=?_))))
      refine al_p rfl (st_rem rfl rfl (by omega) ?_)
      refine a_ (h:=e_ (q_ (w_ (m_ (h:=lt_ (h:=e_ (?_)))))))
      refine aw_cond rfl (fun hb4 => ?_) (fun hb4 => ?_)
      · have hc4 := bp hb4
        refine aw_region (m_ (h:=m_ (h:=?_)))
        refine al_p rfl (st_add64 rfl rfl (by omega) ?_)
        refine a_ (h:=e_ (w_ (m_ (h:=a_ (h:=e_ (aw_ret (?_)))))))
        refine rt_ none (h5 := (LeA.refl _)) (h6 := ⟨_, rfl, rfl, a + 1, by omega, rfl, _, rfl, by omega, by omega, by omega⟩)
      · have hc4 := bp hb4
        refine kt_ (w_ (m_ (h:=a_ (h:=e_ (aw_ret (?_))))))
        refine rt_ none (h5 := (LeA.refl _)) (h6 := ⟨_, rfl, rfl, a + 1, by omega, rfl, _, rfl, by omega, by omega, by omega⟩)

theorem Grange (l : List Int) (a : Nat) (lo hi : Int) (ha : a ≤ 1000000000000) (h1 : -1000000 ≤ lo) (h2 : lo ≤ hi) (h3 : hi ≤ 1000000) : GenF Try.prog 25 l a [.v (.int .i64 lo), .v (.int .i64 hi)] 1 (fun r => ∃ k : Int, r = .v (.int .i64 k) ∧ lo ≤ k ∧ k ≤ hi) := by
  refine enter Try.func25 rfl rfl rfl rfl rfl 1 rfl ?_
  refine w_ (a_ (h:=e_ (w_ (m_ (h:=m_ (h:=m_ (h:=m_ (h:=sb_ (h:=ad_ (h:=?_))))))))))
  refine al_p rfl (s_gen 0 (hc := Gn l a (hi - lo + 1) ha (by omega)) (hR := ?_))
  rintro r a1 ha1 ⟨k, rfl, k1, k2, k3⟩
  refine ⟨rfl, _, (by repeat constructor), ?_⟩
  refine ad_ (h:=a_ (h:=e_ (aw_ret (?_))))
  refine rt_ none (h5 := (LeA.refl _)) (h6 := ⟨_, rfl, rfl, a1, by omega, rfl, _, rfl, by omega, by omega⟩)

theorem Gpick (l : List Int) (a : Nat) (rows : List (List AV)) (p : Int → Bool) (ha : a ≤ 1000000000000) (h0 : Nat.blt 0 rows.length = true) (h1 : Nat.ble rows.length 1000 = true) (hp : allI p rows = true) : GenF Try.prog 31 l a [.sl 1 rows none] 1 (fun r => ∃ z : Int, r = .v (.int .i64 z) ∧ p z = true) := by
  have h0' : 0 < rows.length := Nat.le_of_ble_eq_true h0
  have h1' : rows.length ≤ 1000 := Nat.le_of_ble_eq_true h1
  refine enter Try.func31 rfl rfl rfl rfl rfl 1 rfl ?_
  refine w_ (a_ (h:=e_ (w_ (m_ (h:=m_ (h:=m_ (h:=n_ (h:=?_))))))))
  refine al_p rfl (s_gen 0 (hc := Gn l a rows.length ha (by omega)) (hR := ?_))
  rintro r a1 ha1 ⟨k, rfl, k1, k2, k3⟩
  refine ⟨rfl, _, (by repeat constructor), ?_⟩
  obtain ⟨m, rfl⟩ := Int.eq_ofNat_of_zero_le k1
  obtain ⟨z, hz, pz⟩ := allI_get hp (i := m) (by omega)
  refine al_p rfl (st_index (n := m) rfl rfl rfl hz ?_)
  refine l_ (h:=a_ (h:=e_ (aw_ret (?_))))
  refine rt_ none (h5 := (LeA.refl _)) (h6 := ⟨_, rfl, rfl, a1, by omega, rfl, z, rfl, pz⟩)

theorem Gword (l : List Int) (a : Nat) (rows : List (List AV)) (p : ByteArray → Bool) (ha : a ≤ 1000000000000) (h0 : Nat.blt 0 rows.length = true) (h1 : Nat.ble rows.length 1000 = true) (hp : allS p rows = true) : GenF Try.prog 32 l a [.sl 1 rows none] 1 (fun r => ∃ z : ByteArray, r = .v (.string z) ∧ p z = true) := by
  have h0' : 0 < rows.length := Nat.le_of_ble_eq_true h0
  have h1' : rows.length ≤ 1000 := Nat.le_of_ble_eq_true h1
  refine enter Try.func32 rfl rfl rfl rfl rfl 1 rfl ?_
  refine w_ (a_ (h:=e_ (w_ (m_ (h:=m_ (h:=m_ (h:=n_ (h:=?_))))))))
  refine al_p rfl (s_gen 0 (hc := Gn l a rows.length ha (by omega)) (hR := ?_))
  rintro r a1 ha1 ⟨k, rfl, k1, k2, k3⟩
  refine ⟨rfl, _, (by repeat constructor), ?_⟩
  obtain ⟨m, rfl⟩ := Int.eq_ofNat_of_zero_le k1
  obtain ⟨z, hz, pz⟩ := allS_get hp (i := m) (by omega)
  refine al_p rfl (st_index (n := m) rfl rfl rfl hz ?_)
  refine l_ (h:=a_ (h:=e_ (aw_ret (?_))))
  refine rt_ none (h5 := (LeA.refl _)) (h6 := ⟨_, rfl, rfl, a1, by omega, rfl, z, rfl, pz⟩)

theorem Gname (l : List Int) (a : Nat) (ha : a ≤ 100000000000) : GenF Try.prog 33 l a [] 2 (fun r => ∃ s : ByteArray, r = .v (.string s) ∧ s.size ≤ 13) := by
  refine enter Try.func33 rfl rfl rfl rfl rfl 1 rfl ?_
  refine w_ (a_ (h:=e_ (q_ (w_ (m_ (h:=?_))))))
  refine al_p rfl (s_gen 0 (hc := Gn l _ (20) (by omega) (by omega)) (hR := ?_))
  rintro r a1 ha1 ⟨k1, rfl, p1, q1, o1⟩
  refine ⟨rfl, _, (by repeat constructor), ?_⟩
  refine eq_ (h:=e_ (?_))
  refine aw_cond rfl (fun hb1 => ?_) (fun hb1 => ?_)
  · have hc1 := bp hb1
    refine w_ (m_ (h:=bs_ (h:=?_)))
    refine al_p rfl (s_gen 0 (hc := Gword l _ _ (fun s => decide (s.size ≤ 13)) (by omega) (by rfl) (by rfl) (by rfl)) (hR := ?_))
    rintro r a2 ha2 ⟨k2, rfl, p2⟩
    refine ⟨rfl, _, (by repeat constructor), ?_⟩
    refine a_ (h:=e_ (aw_ret (x_thenR (?_))))
    refine rt_ none (h5 := (LeA.refl _)) (h6 := ⟨_, rfl, rfl, _, ?_, rfl, _, rfl, of_decide_eq_true ‹_›⟩) <;> omega
  · have hc1 := bp hb1
    refine kt_ (w_ (m_ (h:=bs_ (h:=?_))))
    refine al_p rfl (s_gen 0 (hc := Gword l _ _ (fun s => decide (s.size ≤ 13)) (by omega) (by rfl) (by rfl) (by rfl)) (hR := ?_))
    rintro r a3 ha3 ⟨k3, rfl, p3⟩
    refine ⟨rfl, _, (by repeat constructor), ?_⟩
    refine a_ (h:=e_ (aw_ret (?_)))
    refine rt_ none (h5 := (LeA.refl _)) (h6 := ⟨_, rfl, rfl, _, ?_, rfl, _, rfl, of_decide_eq_true ‹_›⟩) <;> omega

theorem Gpath (l : List Int) (a : Nat) (ha : a ≤ 50000000000) : GenF Try.prog 13 l a [] 20 (fun r => ∃ s : ByteArray, r = .v (.string s) ∧ s.size ≤ 58) := by
  have e1 : (⟨#[47]⟩ : ByteArray).size = 1 := rfl
  have e0 : (⟨#[]⟩ : ByteArray).size = 0 := rfl
  refine enter Try.func13 rfl rfl rfl rfl rfl 1 rfl ?_
  refine w_ (a_ (h:=e_ (w_ (a_ (h:=e_ (?_))))))
  refine aw_midI (fun s => ∃ (b : Nat) (t : ByteArray), b ≤ a + 1 ∧ t.size ≤ 1 ∧ s = ⟨look [(0, .bp 0 0), (3, .v (.string t))], ⟨[srcA l b], []⟩⟩) ?_ ?_
  · skip
    refine w_ (m_ (h:=?_))
    refine al_p rfl (s_gen 0 (hc := Gn l _ (6) (by omega) (by omega)) (hR := ?_))
    rintro r a1 ha1 ⟨k1, rfl, p1, q1, o1⟩
    refine ⟨rfl, _, (by repeat constructor), ?_⟩
    refine gt_ (h:=e_ (?_))
    refine aw_cond rfl (fun hb1 => ?_) (fun hb1 => ?_)
    · have hc1 := bp hb1
      refine aw_region (a_ (h:=al_nil (?_)))
      refine x_then ?_
      refine ⟨_, ⟨_, _, ?_, ?_, rfl⟩, (wk 1 0)⟩ <;> first | omega | exact Nat.le_of_ble_eq_true rfl
    · have hc1 := bp hb1
      refine aw_skip (?_)
      refine x_then ?_
      refine ⟨_, ⟨_, _, ?_, ?_, rfl⟩, (wk 1 0)⟩ <;> first | omega | exact Nat.le_of_ble_eq_true rfl
  · rintro s ⟨b, t0, hb, ht0, rfl⟩
    refine w_ (m_ (h:=bs_ (h:=?_)))
    refine al_p rfl (s_gen 0 (hc := Gpick l _ _ (fun z => decide (0 ≤ z ∧ z ≤ 4)) (by omega) (by rfl) (by rfl) (by rfl)) (hR := ?_))
    rintro r a2 ha2 ⟨k2, rfl, p2⟩
    refine ⟨rfl, _, (by repeat constructor), ?_⟩
    obtain ⟨hz1, hz2⟩ := of_decide_eq_true p2
    obtain ⟨m, rfl⟩ := Int.eq_ofNat_of_zero_le hz1
    refine a_ (h:=e_ (q_ (w_ (a_ (h:=e_ (aw_block (?_)))))))
    refine aw_loopW (fun n s => ∃ (j b1 : Nat) (t : ByteArray), j ≤ m ∧ n = m - j ∧ b1 ≤ b + 1 + 4 * j ∧ t.size ≤ 1 + 14 * j ∧ s = ⟨look [(0, .bp 0 0), (3, .v (.string t)), (4, .v (.int .i64 (m : Int))), (5, .v (.int .i64 (j : Int)))], ⟨[srcA l b1], []⟩⟩) (m) ((wk 1 0)) (⟨0, _, t0, by omega, rfl, by omega, by omega, rfl⟩) ?_
    rintro n s ⟨j, b1, t, hj, rfl, hb1, ht, rfl⟩
    refine q_ (w_ (m_ (h:=m_ (h:=lt_ (h:=e_ (?_))))))
    refine aw_cond rfl (fun hb2 => ?_) (fun hb2 => ?_)
    · have hc2 := bp hb2
      refine kt_ (?_)
      refine aw_midI (fun s => ∃ (b3 : Nat) (t1 : ByteArray), b3 ≤ b1 + 4 ∧ t1.size ≤ 1 + 14 * (j + 1) ∧ s = ⟨look [(0, .bp 0 0), (3, .v (.string t1)), (4, .v (.int .i64 (m : Int))), (5, .v (.int .i64 (j : Int)))], ⟨[srcA l b3], []⟩⟩) ?_ ?_
      · skip
        refine aw_block (q_ (w_ (m_ (h:=gt_ (h:=e_ (?_))))))
        refine aw_cond rfl (fun hb3 => ?_) (fun hb3 => ?_)
        · have hc3 := bp hb3
          refine aw_region (m_ (h:=?_))
          refine al_p rfl (st_addS rfl rfl (by (try simp only [size_app]); omega) ?_)
          refine a_ (h:=e_ (w_ (m_ (h:=?_))))
          refine al_p rfl (s_gen 0 (hc := Gn l _ (8) (by omega) (by omega)) (hR := ?_))
          rintro r a3 ha3 ⟨k3, rfl, p3, q3, o3⟩
          refine ⟨rfl, _, (by repeat constructor), ?_⟩
          refine eq_ (h:=e_ (?_))
          refine aw_cond rfl (fun hb4 => ?_) (fun hb4 => ?_)
          · have hc4 := bp hb4
            refine aw_region (m_ (h:=m_ (h:=bs_ (h:=?_))))
            refine al_p rfl (s_gen 0 (hc := Gword l _ _ (fun s => decide (s.size ≤ 13)) (by omega) (by rfl) (by rfl) (by rfl)) (hR := ?_))
            rintro r a4 ha4 ⟨k4, rfl, p4⟩
            refine ⟨rfl, _, (by repeat constructor), ?_⟩
            have hw := of_decide_eq_true p4
            refine al_p rfl (st_addS rfl rfl (by (try simp only [size_app]); omega) ?_)
            refine a_ (h:=al_nil (x_blockN (?_)))
            refine x_then ?_
            refine ⟨_, ⟨_, _, ?_, ?_, rfl⟩, (wk 1 0)⟩ <;> (try simp only [size_app]) <;> omega
          · have hc4 := bp hb4
            refine aw_region (m_ (h:=m_ (h:=?_)))
            refine al_p rfl (s_gen 0 (hc := Gname l _ (by omega)) (hR := ?_))
            rintro r a5 ha5 ⟨k5, rfl, hw⟩
            refine ⟨rfl, _, (by repeat constructor), ?_⟩
            refine al_p rfl (st_addS rfl rfl (by (try simp only [size_app]); omega) ?_)
            refine a_ (h:=al_nil (x_blockN (?_)))
            refine x_then ?_
            refine ⟨_, ⟨_, _, ?_, ?_, rfl⟩, (wk 1 0)⟩ <;> (try simp only [size_app]) <;> omega
        · have hc3 := bp hb3
          refine kt_ (w_ (m_ (h:=?_)))
          refine al_p rfl (s_gen 0 (hc := Gn l _ (8) (by omega) (by omega)) (hR := ?_))
          rintro r a6 ha6 ⟨k6, rfl, p6, q6, o6⟩
          refine ⟨rfl, _, (by repeat constructor), ?_⟩
          refine eq_ (h:=e_ (?_))
          refine aw_cond rfl (fun hb5 => ?_) (fun hb5 => ?_)
          · have hc5 := bp hb5
            refine aw_region (m_ (h:=m_ (h:=bs_ (h:=?_))))
            refine al_p rfl (s_gen 0 (hc := Gword l _ _ (fun s => decide (s.size ≤ 13)) (by omega) (by rfl) (by rfl) (by rfl)) (hR := ?_))
            rintro r a7 ha7 ⟨k7, rfl, p7⟩
            refine ⟨rfl, _, (by repeat constructor), ?_⟩
            have hw := of_decide_eq_true p7
            refine al_p rfl (st_addS rfl rfl (by (try simp only [size_app]); omega) ?_)
            refine a_ (h:=al_nil (x_blockN (?_)))
            refine x_then ?_
            refine ⟨_, ⟨_, _, ?_, ?_, rfl⟩, (wk 1 0)⟩ <;> (try simp only [size_app]) <;> omega
          · have hc5 := bp hb5
            refine aw_region (m_ (h:=m_ (h:=?_)))
            refine al_p rfl (s_gen 0 (hc := Gname l _ (by omega)) (hR := ?_))
            rintro r a8 ha8 ⟨k8, rfl, hw⟩
            refine ⟨rfl, _, (by repeat constructor), ?_⟩
            refine al_p rfl (st_addS rfl rfl (by (try simp only [size_app]); omega) ?_)
            refine a_ (h:=al_nil (x_blockN (?_)))
            refine x_then ?_
            refine ⟨_, ⟨_, _, ?_, ?_, rfl⟩, (wk 1 0)⟩ <;> (try simp only [size_app]) <;> omega
      · rintro s ⟨b3, t1, hb3, ht1, rfl⟩
        refine aw_region (m_ (h:=ad_ (h:=a_ (h:=al_nil (?_)))))
        refine x_then ?_
        refine ⟨_, _, ?_, ⟨j + 1, _, _, by omega, rfl, ?_, ?_, rfl⟩, (wk 1 0)⟩ <;> omega
    · have hc2 := bp hb2
      refine aw_exit (x_thenE (x_thenE (ABlock_out (t_ (q_ (w_ (m_ (h:=?_))))))))
      refine al_p rfl (s_gen 0 (hc := Gn l _ (8) (by omega) (by omega)) (hR := ?_))
      rintro r a9 ha9 ⟨k9, rfl, p9, q9, o9⟩
      refine ⟨rfl, _, (by repeat constructor), ?_⟩
      refine eq_ (h:=e_ (?_))
      refine aw_cond rfl (fun hb6 => ?_) (fun hb6 => ?_)
      · have hc6 := bp hb6
        refine aw_region (m_ (h:=?_))
        refine al_p rfl (st_addS rfl rfl (by (try simp only [size_app]); omega) ?_)
        refine a_ (h:=e_ (w_ (m_ (h:=a_ (h:=e_ (aw_ret (?_)))))))
        refine rt_ none (h5 := (LeA.refl _)) (h6 := ⟨_, rfl, rfl, _, ?_, rfl, _, rfl, ?_⟩) <;> (try simp only [size_app]) <;> omega
      · have hc6 := bp hb6
        refine kt_ (w_ (m_ (h:=a_ (h:=e_ (aw_ret (?_))))))
        refine rt_ none (h5 := (LeA.refl _)) (h6 := ⟨_, rfl, rfl, _, ?_, rfl, _, rfl, ?_⟩) <;> (try simp only [size_app]) <;> omega

end
end Go.Proofs.Ytaidkbnbfnaihaa
namespace Go.Proofs.Ytaidkbnbfnaihaa
open Go.RowKit

section
set_option maxRecDepth 10000
set_option maxHeartbeats 1000000
theorem Gfile (l : List Int) (a : Nat) (f : Fls) (ha : a ≤ 100000000000) (hf : FlsB f) (hne : ∀ d ∈ f, 0 < d.nodes.length) : GenF Try.prog 12 l a [.agg (flsA f)] 4 (fun r => ∃ x : Fil, r = .agg (filA x)) := by
  have hfew := hf.few
  have hml : (f.map dvcA).length = f.length := by simp
  refine enter Try.func12 rfl rfl rfl rfl rfl 1 rfl ?_
  refine w_ (b_ (h:=al_ (h:=e_ (w_ (m_ (h:=f_ (h:=l_ (h:=n_ (h:=?_)))))))))
  refine al_p rfl (s_gen 0 (hc := Gn l _ ((f.map dvcA).length : Int) (by omega) (by omega)) (hR := ?_))
  rintro r a1 ha1 ⟨k1, rfl, p1, q1, o1⟩
  refine ⟨rfl, _, (by repeat constructor), ?_⟩
  obtain ⟨m, rfl⟩ := Int.eq_ofNat_of_zero_le p1
  refine a_ (h:=e_ (q_ (w_ (f_ (h:=l_ (h:=n_ (h:=eq_ (h:=m_ (h:=?_)))))))))
  refine al_gs false rfl rfl (fun hb1 => ?_) (fun hb1 => ?_)
  · have hc1 := bp hb1
    refine g0_ (h:=g0_ (h:=g0_ (h:=pt_ (h:=e_ (cy_ (h:=w_ (m_ (h:=?_))))))))
    refine al_p rfl (s_gen 0 (hc := Grange l _ (-1) (3) (by omega) (by omega) (by omega) (by omega)) (hR := ?_))
    rintro r a2 ha2 ⟨k2, rfl, p2, q2⟩
    refine ⟨rfl, _, (by repeat constructor), ?_⟩
    refine m_ (h:=?_)
    refine al_p rfl (s_gen 0 (hc := Grange l _ (-1) (9) (by omega) (by omega) (by omega) (by omega)) (hR := ?_))
    rintro r a3 ha3 ⟨k3, rfl, p3, q3⟩
    refine ⟨rfl, _, (by repeat constructor), ?_⟩
    refine bd_ (h:=s_ (h:=e_ (aw_ret (x_thenR (?_)))))
    refine rt_ none (h5 := (LeA.refl _)) (h6 := ⟨_, rfl, rfl, _, ?_, rfl, (_, _), rfl⟩) <;> omega
  · have hc1 := bp hb1
    refine m_ (h:=?_)
    refine g_y (s_gen 0 (hc := Gn l _ (24) (by omega) (by omega)) (hR := ?_))
    rintro r a4 ha4 ⟨k4, rfl, p4, q4, o4⟩
    refine ⟨rfl, _, (by repeat constructor), ?_⟩
    refine eq_ (h:=pf_ (h:=e_ (?_)))
    refine aw_cond rfl (fun hb2 => ?_) (fun hb2 => ?_)
    · have hc2 := bp hb2
      refine w_ (m_ (h:=?_))
      refine al_p rfl (s_gen 0 (hc := Grange l _ (-1) (3) (by omega) (by omega) (by omega) (by omega)) (hR := ?_))
      rintro r a5 ha5 ⟨k5, rfl, p5, q5⟩
      refine ⟨rfl, _, (by repeat constructor), ?_⟩
      refine m_ (h:=?_)
      refine al_p rfl (s_gen 0 (hc := Grange l _ (-1) (9) (by omega) (by omega) (by omega) (by omega)) (hR := ?_))
      rintro r a6 ha6 ⟨k6, rfl, p6, q6⟩
      refine ⟨rfl, _, (by repeat constructor), ?_⟩
      refine bd_ (h:=s_ (h:=e_ (aw_ret (x_thenR (?_)))))
      refine rt_ none (h5 := (LeA.refl _)) (h6 := ⟨_, rfl, rfl, _, ?_, rfl, (_, _), rfl⟩) <;> omega
    · have hc2 := bp hb2
      obtain ⟨-, d, hd, hrow, -⟩ := row_at dvcA (l := f) (k := m) (by omega)
      have hdn := hf.nodes d (List.mem_of_getElem? hd)
      have hpos := hne d (List.mem_of_getElem? hd)
      have hdl : (d.nodes.map nodA).length = d.nodes.length := by simp
      refine kt_ (w_ (f_ (h:=l_ (h:=m_ (h:=?_)))))
      refine al_p rfl (st_index (n := m) rfl rfl rfl hrow ?_)
      refine f_ (h:=l_ (h:=a_ (h:=e_ (w_ (m_ (h:=m_ (h:=m_ (h:=m_ (h:=n_ (h:=?_))))))))))
      refine al_p rfl (s_gen 0 (hc := Gn l _ ((d.nodes.map nodA).length : Int) (by omega) (by omega)) (hR := ?_))
      rintro r a7 ha7 ⟨k7, rfl, p7, q7, o7⟩
      refine ⟨rfl, _, (by repeat constructor), ?_⟩
      obtain ⟨i, rfl⟩ := Int.eq_ofNat_of_zero_le p7
      obtain ⟨-, n, hn, hrow2, -⟩ := row_at nodA (l := d.nodes) (k := i) (by omega)
      refine al_p rfl (st_index (n := i) rfl rfl rfl hrow2 ?_)
      refine f_ (h:=l_ (h:=bd_ (h:=s_ (h:=e_ (aw_ret (?_))))))
      refine rt_ none (h5 := (LeA.refl _)) (h6 := ⟨_, rfl, rfl, _, ?_, rfl, (_, _), rfl⟩) <;> omega

end
end Go.Proofs.Ytaidkbnbfnaihaa
namespace Go.Proofs.Ytaidkbnbfnaihaa
open Go.RowKit

section
set_option maxRecDepth 10000
set_option maxHeartbeats 1000000
theorem Gattr (l : List Int) (a : Nat) (ha : a ≤ 10000000000) : GenF Try.prog 69 l a [] 60 (fun r => ∃ n : Nod, n.target.size ≤ 100 ∧ n.entries = [] ∧ r = .agg (nodA n)) := by
  refine enter Try.func69 rfl rfl rfl rfl rfl 1 rfl ?_
  refine w_ (al_ (h:=e_ (w_ (m_ (h:=bs_ (h:=?_))))))
  refine al_p rfl (s_gen 0 (hc := Gpick l _ _ (fun _ => true) (by omega) (by rfl) (by rfl) (by rfl)) (hR := ?_))
  rintro r a1 ha1 ⟨k1, rfl, p1⟩
  refine ⟨rfl, _, (by repeat constructor), ?_⟩
  refine m_ (h:=bs_ (h:=?_))
  refine al_p rfl (s_gen 0 (hc := Gpick l _ _ (fun _ => true) (by omega) (by rfl) (by rfl) (by rfl)) (hR := ?_))
  rintro r a2 ha2 ⟨k2, rfl, p2⟩
  refine ⟨rfl, _, (by repeat constructor), ?_⟩
  refine m_ (h:=bs_ (h:=?_))
  refine al_p rfl (s_gen 0 (hc := Gpick l _ _ (fun _ => true) (by omega) (by rfl) (by rfl) (by rfl)) (hR := ?_))
  rintro r a3 ha3 ⟨k3, rfl, p3⟩
  refine ⟨rfl, _, (by repeat constructor), ?_⟩
  refine m_ (h:=bs_ (h:=?_))
  refine al_p rfl (s_gen 0 (hc := Gpick l _ _ (fun _ => true) (by omega) (by rfl) (by rfl) (by rfl)) (hR := ?_))
  rintro r a4 ha4 ⟨k4, rfl, p4⟩
  refine ⟨rfl, _, (by repeat constructor), ?_⟩
  refine bd_ (h:=al_ (h:=s_ (h:=e_ (?_))))
  refine aw_midI (fun s => ∃ (b : Nat) (ki mo ui gi : Int) (ta : ByteArray), b ≤ a + 24 ∧ ta.size ≤ 100 ∧ s = ⟨look [(0, .bp 0 0), (2, .bp 1 0), (3, .bp 2 0)], ⟨[srcA l b, [.v (.int .i64 0), .v (.int .i64 0), .v (.int .i64 0), .v (.int .i64 0), .v (.int .i64 0), .v (.int .i64 0), .v (.string ⟨#[]⟩), .v (.slice none 0 0)], [.v (.int .i64 0), .v (.int .i64 ki), .v (.int .i64 mo), .v (.int .i64 ui), .v (.int .i64 gi), .v (.int .i64 0), .v (.string ta), .v (.slice none 0 0)]], []⟩⟩) ?_ ?_
  · skip
    refine w_ (f_ (h:=l_ (h:=eq_ (h:=e_ (?_)))))
    refine aw_cond rfl (fun hb1 => ?_) (fun hb1 => ?_)
    · have hc1 := bp hb1
      refine aw_region (m_ (h:=?_))
      refine al_p rfl (s_gen 0 (hc := Gpath l _ (by omega)) (hR := ?_))
      rintro r a5 ha5 ⟨k5, rfl, p5⟩
      refine ⟨rfl, _, (by repeat constructor), ?_⟩
      refine f_ (h:=s_ (h:=al_nil (?_)))
      refine x_then ?_
      refine ⟨_, ⟨_, _, _, _, _, _, ?_, ?_, rfl⟩, (wk 3 0)⟩ <;> first | omega | assumption | exact Nat.zero_le _
    · have hc1 := bp hb1
      refine aw_skip (?_)
      refine x_then ?_
      refine ⟨_, ⟨_, _, _, _, _, _, ?_, ?_, rfl⟩, (wk 3 0)⟩ <;> first | omega | assumption | exact Nat.zero_le _
  · rintro s ⟨b, ki, mo, ui, gi, ta, hb, hta, rfl⟩
    refine aw_midI (fun s => ∃ (b2 : Nat) (mo2 : Int) (ta2 : ByteArray), b2 ≤ a + 50 ∧ ta2.size ≤ 100 ∧ s = ⟨look [(2, .bp 1 0), (3, .bp 2 0)], ⟨[srcA l b2, [.v (.int .i64 0), .v (.int .i64 0), .v (.int .i64 0), .v (.int .i64 0), .v (.int .i64 0), .v (.int .i64 0), .v (.string ⟨#[]⟩), .v (.slice none 0 0)], [.v (.int .i64 0), .v (.int .i64 ki), .v (.int .i64 mo2), .v (.int .i64 ui), .v (.int .i64 gi), .v (.int .i64 0), .v (.string ta2), .v (.slice none 0 0)]], []⟩⟩) ?_ ?_
    · skip
      refine w_ (m_ (h:=?_))
      refine al_p rfl (s_gen 0 (hc := Gn l _ (20) (by omega) (by omega)) (hR := ?_))
      rintro r a6 ha6 ⟨k6, rfl, p6, q6, o6⟩
      refine ⟨rfl, _, (by repeat constructor), ?_⟩
      refine eq_ (h:=e_ (?_))
      refine aw_cond rfl (fun hb2 => ?_) (fun hb2 => ?_)
      · have hc2 := bp hb2
        refine aw_region (m_ (h:=bs_ (h:=?_)))
        refine al_p rfl (s_gen 0 (hc := Gpick l _ _ (fun _ => true) (by omega) (by rfl) (by rfl) (by rfl)) (hR := ?_))
        rintro r a7 ha7 ⟨k7, rfl, p7⟩
        refine ⟨rfl, _, (by repeat constructor), ?_⟩
        refine m_ (h:=?_)
        refine al_p rfl (s_gen 0 (hc := Gpath l _ (by omega)) (hR := ?_))
        rintro r a8 ha8 ⟨k8, rfl, p8⟩
        refine ⟨rfl, _, (by repeat constructor), ?_⟩
        refine f_ (h:=s_ (h:=f_ (h:=s_ (h:=al_nil (?_)))))
        refine x_then ?_
        refine ⟨_, ⟨_, _, _, ?_, ?_, rfl⟩, (wk 3 0)⟩ <;> first | omega | assumption
      · have hc2 := bp hb2
        refine aw_skip (?_)
        refine x_then ?_
        refine ⟨_, ⟨_, _, _, ?_, ?_, rfl⟩, (wk 3 0)⟩ <;> first | omega | assumption
    · rintro s ⟨b2, mo2, ta2, hb2, hta2, rfl⟩
      refine w_ (l_ (h:=s_ (h:=e_ (aw_ret (?_)))))
      refine rt_ (r := .agg (nodA ⟨0, ki, mo2, ui, gi, 0, ta2, []⟩)) none (h5 := (by repeat (first | exact LeA.refl _ | exact LeA.nil _ | exact LeL.refl _ | refine LeA.agg ?_ | refine LeA.tup ?_ | exact LeL.nil | refine LeL.cons ?_ ?_ | exact LeA.any _))) (h6 := ⟨_, rfl, rfl, b2, by omega, rfl, ⟨0, ki, mo2, ui, gi, 0, ta2, []⟩, hta2, rfl, rfl⟩)

end
end Go.Proofs.Ytaidkbnbfnaihaa
namespace Go.Proofs.Ytaidkbnbfnaihaa
open Go.RowKit

theorem FlsV.ne {f : Fls} (h : FlsV f) : ∀ d ∈ f, 0 < d.nodes.length := fun d hd => by
  obtain ⟨r, rest, hr, _⟩ := (h.vd d hd).root
  rw [hr]; simp
theorem root_vd : VD rootDvc := by
  refine ⟨by decide, by decide, by decide, ⟨rootNod, [], rfl, rfl, rfl, rfl⟩, List.pairwise_singleton _ _, ?_, ?_, ?_, ?_, ?_, ?_, ?_, ?_, ?_, ⟨fun _ => 0, ?_⟩⟩ <;>
    (intro n hn; obtain rfl : n = rootNod := by simpa [rootDvc] using hn)
  · decide
  · decide +kernel
  · intro h; exact absurd rfl h
  · decide
  · exact List.Pairwise.nil
  · intro e he; cases he
  · intro h; exact absurd rfl h
  · intro h; exact absurd rfl h
  · intro h; exact absurd rfl h
  · intro h; exact absurd rfl h
theorem new_valid {k : Int} (h1 : 1 ≤ k) (h2 : k ≤ 3) : FlsV (newL k).1 ∧ 0 < (newL k).1.length := by
  unfold newL
  rw [if_neg (by omega)]
  refine ⟨⟨?_, fun d hd => ?_⟩, ?_⟩
  · show (List.replicate _ _).length ≤ 3
    rw [List.length_replicate]; omega
  · rw [(List.mem_replicate.1 hd).2]; exact root_vd
  · show 0 < (List.replicate _ _).length
    rw [List.length_replicate]; omega
structure MntOK (f : Fls) (ms : List Mnt) (m : Mnt) : Prop where
  dev1 : 1 ≤ m.1
  dev2 : m.1 < (f.length : Int)
  fresh : mtdL ⟨f, ms⟩ m.1 = false
  dir : dirL f m.2 = true
  there : mtdL ⟨f, ms⟩ m.2.1 = true
  free : (covL ⟨f, ms⟩ m.2).isSome = false
structure SpcV (s : Spc) : Prop where
  files : FlsV s.files
  pos : 0 < s.files.length
  mnt : ∀ i m, s.mounts[i]? = some m → MntOK s.files (s.mounts.take i) m
theorem add_valid {s : Spc} (h : SpcV s) (dev : Int) (a : Fil) (h0 : (addL s dev a).2 = 0) : SpcV (addL s dev a).1 ∧ (addL s dev a).1 = ⟨s.files, s.mounts ++ [(dev, a)]⟩ := by
  unfold addL at h0 ⊢
  split at h0
  · exact absurd h0 (by decide)
  · rename_i c1
    split at h0
    · exact absurd h0 (by decide)
    · rename_i c2
      split at h0
      · exact absurd h0 (by decide)
      · rename_i c3
        split at h0
        · exact absurd h0 (by decide)
        · rename_i c4
          split at h0
          · exact absurd h0 (by decide)
          · rename_i c5
            rw [if_neg c1, if_neg c2, if_neg c3, if_neg c4, if_neg c5]
            refine ⟨⟨h.files, h.pos, fun i m hi => ?_⟩, rfl⟩
            simp only at hi ⊢
            rcases Nat.lt_trichotomy i s.mounts.length with hlt | heq | hgt
            · rw [List.getElem?_append_left hlt] at hi
              rw [List.take_append_of_le_length (by omega)]
              exact h.mnt i m hi
            · subst heq
              simp at hi
              subst hi
              rw [List.take_left' rfl]
              exact ⟨by simp only; omega, by simp only; omega, by simpa using fun h => c5 (.inl h), by simp only; rw [dirL_eq]; simp at c2 c3; simp [c2, c3], by simpa using fun h => c4 (.inl h), Bool.eq_false_iff.2 fun h => c5 (.inr h)⟩
            · rw [List.getElem?_eq_none (by simp; omega)] at hi; cases hi
section
set_option maxRecDepth 10000
set_option maxHeartbeats 1000000
theorem Gchange (l : List Int) (a : Nat) (f : Fls) (ha : a ≤ 1000000000) (hv : FlsV f) : GenF Try.prog 48 l a [.agg (flsA f)] 80 (fun r => ∃ f', r = .agg (flsA f') ∧ FlsV f' ∧ f'.length = f.length) := by
  have hf := hv.b
  have hne := hv.ne
  refine enter Try.func48 rfl rfl rfl rfl rfl 1 rfl ?_
  refine w_ (b_ (h:=al_ (h:=e_ (w_ (m_ (h:=l_ (h:=?_)))))))
  refine al_p rfl (s_gen 0 (hc := Gfile l _ f (by omega) hf hne) (hR := ?_))
  rintro r a1 ha1 ⟨x1, rfl⟩
  refine ⟨rfl, _, (by repeat constructor), ?_⟩
  refine m_ (h:=?_)
  refine al_p rfl (s_gen 0 (hc := Gname l _ (by omega)) (hR := ?_))
  rintro r a2 ha2 ⟨k2, rfl, p2⟩
  refine ⟨rfl, _, (by repeat constructor), ?_⟩
  refine al_ (h:=s_ (h:=a_ (h:=e_ (w_ (l_ (h:=al_ (h:=s_ (h:=a_ (h:=e_ (?_))))))))))
  refine aw_midI (fun t => ∃ (R1 : Fls) (e : Int) (b : Nat), b ≤ a + 80 ∧ (e = 0 → FlsV R1 ∧ R1.length = f.length) ∧ t = ⟨look [(3, .bp 1 0), (4, .bp 2 0), (7, .bp 4 0), (8, .v (.int .i64 e))], ⟨[srcA l b, flsA f, [.v (.slice none 0 0)], filA x1, flsA R1], []⟩⟩) ?_ ?_
  · skip
    refine w_ (m_ (h:=?_))
    refine al_p rfl (s_gen 0 (hc := Gn l _ (8) (by omega) (by omega)) (hR := ?_))
    rintro r a3 ha3 ⟨k3, rfl, p3, q3, o3⟩
    refine ⟨rfl, _, (by repeat constructor), ?_⟩
    refine e_ (aw_block (w_ (eq_ (h:=a_ (h:=e_ (?_))))))
    refine aw_cond rfl (fun hb1 => ?_) (fun hb1 => ?_)
    · have hc1 := bp hb1
      refine yk_ ([(1, flsA f), (2, [.v (.slice none 0 0)]), (3, filA x1)]) 13 (h:=dl_ 0 (h:=dl_ 1 (h:=dm_ 2 (h:=dm_ 3 (h:=dl_ 4 (h:=?_))))))
      refine c_ 5 rfl (s_gen 0 (hc := Gfile l _ f (by omega) hf hne) (hR := ?_))
      rintro r a4 ha4 ⟨x4, rfl⟩
      refine ⟨rfl, _, (by repeat constructor), ?_⟩
      refine o_ (h:=?_)
      refine c_ 6 rfl (q_call (Rlink f x1 k2 x4 hv (by omega)) ?_)
      rintro r rfl
      refine o_ (h:=dm_ 7 (h:=dx_ 8 (h:=dx_ 9 (h:=dx_ 10 (h:=?_)))))
      refine c0_ 11 rfl (s_store rfl rfl rfl rfl rfl rfl (by repeat constructor) (by repeat constructor) ?_)
      refine o_ (h:=da_ 12 (h:=z_ (h:=x_blockN (?_))))
      refine x_then ?_
      refine ⟨_, ⟨_, _, _, ?_, ?_, rfl⟩, (wk 5 0)⟩
      · omega
      · first | exact link_okay hv _ _ _ | exact unlink_okay hv _ _ | exact rmdir_okay hv _ _ | exact rename_okay hv _ _ _ _ | exact set_okay hv _ _ _ _ | exact make_okay hv _ _ _
    · have hc1 := bp hb1
      refine w_ (eq_ (h:=a_ (h:=e_ (?_))))
      refine aw_cond rfl (fun hb2 => ?_) (fun hb2 => ?_)
      · have hc2 := bp hb2
        refine aw_region (l_ (h:=l_ (h:=m_ (h:=?_))))
        refine al_p rfl (q_call (Runlink f x1 k2 hv (by omega)) ?_)
        rintro r rfl
        refine m_ (h:=x_ (h:=x_ (h:=x_ (h:=s_ (h:=a_ (h:=al_nil (x_blockN (?_))))))))
        refine x_then ?_
        refine ⟨_, ⟨_, _, _, ?_, ?_, rfl⟩, (wk 5 0)⟩
        · omega
        · first | exact link_okay hv _ _ _ | exact unlink_okay hv _ _ | exact rmdir_okay hv _ _ | exact rename_okay hv _ _ _ _ | exact set_okay hv _ _ _ _ | exact make_okay hv _ _ _
      · have hc2 := bp hb2
        refine w_ (eq_ (h:=a_ (h:=e_ (?_))))
        refine aw_cond rfl (fun hb3 => ?_) (fun hb3 => ?_)
        · have hc3 := bp hb3
          refine aw_region (l_ (h:=l_ (h:=m_ (h:=?_))))
          refine al_p rfl (q_call (Rrmdir f x1 k2 hv (by omega)) ?_)
          rintro r rfl
          refine m_ (h:=x_ (h:=x_ (h:=x_ (h:=s_ (h:=a_ (h:=al_nil (x_blockN (?_))))))))
          refine x_then ?_
          refine ⟨_, ⟨_, _, _, ?_, ?_, rfl⟩, (wk 5 0)⟩
          · omega
          · first | exact link_okay hv _ _ _ | exact unlink_okay hv _ _ | exact rmdir_okay hv _ _ | exact rename_okay hv _ _ _ _ | exact set_okay hv _ _ _ _ | exact make_okay hv _ _ _
        · have hc3 := bp hb3
          refine w_ (eq_ (h:=a_ (h:=e_ (?_))))
          refine aw_cond rfl (fun hb4 => ?_) (fun hb4 => ?_)
          · have hc4 := bp hb4
            refine yk_ ([(1, flsA f), (2, [.v (.slice none 0 0)]), (3, filA x1)]) 15 (h:=dl_ 0 (h:=dl_ 1 (h:=dm_ 2 (h:=dm_ 3 (h:=dl_ 4 (h:=dm_ 6 (h:=?_)))))))
            refine c_ 5 rfl (s_gen 0 (hc := Gfile l _ f (by omega) hf hne) (hR := ?_))
            rintro r a5 ha5 ⟨x5, rfl⟩
            refine ⟨rfl, _, (by repeat constructor), ?_⟩
            refine o_ (h:=?_)
            refine c_ 7 rfl (s_gen 0 (hc := Gname l _ (by omega)) (hR := ?_))
            rintro r a6 ha6 ⟨k6, rfl, p6⟩
            refine ⟨rfl, _, (by repeat constructor), ?_⟩
            refine o_ (h:=?_)
            refine c_ 8 rfl (q_call (Rrename f x1 k2 x5 k6 hv (by omega) (by omega)) ?_)
            rintro r rfl
            refine o_ (h:=dm_ 9 (h:=dx_ 10 (h:=dx_ 11 (h:=dx_ 12 (h:=?_)))))
            refine c0_ 13 rfl (s_store rfl rfl rfl rfl rfl rfl (by repeat constructor) (by repeat constructor) ?_)
            refine o_ (h:=da_ 14 (h:=z_ (h:=x_blockN (?_))))
            refine x_then ?_
            refine ⟨_, ⟨_, _, _, ?_, ?_, rfl⟩, (wk 5 0)⟩
            · omega
            · first | exact link_okay hv _ _ _ | exact unlink_okay hv _ _ | exact rmdir_okay hv _ _ | exact rename_okay hv _ _ _ _ | exact set_okay hv _ _ _ _ | exact make_okay hv _ _ _
          · have hc4 := bp hb4
            refine w_ (eq_ (h:=a_ (h:=e_ (?_))))
            refine aw_cond rfl (fun hb5 => ?_) (fun hb5 => ?_)
            · have hc5 := bp hb5
              refine yk_ ([(1, flsA f), (2, [.v (.slice none 0 0)]), (3, filA x1)]) 12 (h:=dl_ 0 (h:=dl_ 1 (h:=dm_ 2 (h:=dm_ 4 (h:=?_)))))
              refine c_ 3 rfl (s_gen 0 (hc := Gn l _ (9) (by omega) (by omega)) (hR := ?_))
              rintro r a7 ha7 ⟨k7, rfl, p7, q7, o7⟩
              refine ⟨rfl, _, (by repeat constructor), ?_⟩
              refine o_ (h:=?_)
              refine c_ 5 rfl (s_gen 0 (hc := Gn l _ (9) (by omega) (by omega)) (hR := ?_))
              rintro r a8 ha8 ⟨k8, rfl, p8, q8, o8⟩
              refine ⟨rfl, _, (by repeat constructor), ?_⟩
              refine o_ (h:=?_)
              refine c_ 6 rfl (q_call (Rset f x1 511 k7 k8 hv) ?_)
              rintro r rfl
              refine o_ (h:=dm_ 7 (h:=dx_ 8 (h:=dx_ 9 (h:=?_))))
              refine c0_ 10 rfl (s_store rfl rfl rfl rfl rfl rfl (by repeat constructor) (by repeat constructor) ?_)
              refine o_ (h:=da_ 11 (h:=z_ (h:=x_blockN (?_))))
              refine x_then ?_
              refine ⟨_, ⟨_, _, _, ?_, ?_, rfl⟩, (wk 5 0)⟩
              · omega
              · first | exact link_okay hv _ _ _ | exact unlink_okay hv _ _ | exact rmdir_okay hv _ _ | exact rename_okay hv _ _ _ _ | exact set_okay hv _ _ _ _ | exact make_okay hv _ _ _
            · have hc5 := bp hb5
              refine yk_ ([(1, flsA f), (2, [.v (.slice none 0 0)]), (3, filA x1)]) 12 (h:=dl_ 0 (h:=dl_ 1 (h:=dm_ 2 (h:=dm_ 3 (h:=?_)))))
              refine c_ 4 rfl (s_gen 0 (hc := Gattr l _ (by omega)) (hR := ?_))
              rintro r a9 ha9 ⟨n9, ht9, he9, rfl⟩
              refine ⟨rfl, _, (by repeat constructor), ?_⟩
              refine o_ (h:=?_)
              refine c_ 5 rfl (q_call (Rmake f x1 k2 n9 hv (by omega) (by omega)) ?_)
              rintro r rfl
              refine o_ (h:=dm_ 6 (h:=dx_ 7 (h:=dx_ 8 (h:=dx_ 9 (h:=?_)))))
              refine c0_ 10 rfl (s_store rfl rfl rfl rfl rfl rfl (by repeat constructor) (by repeat constructor) ?_)
              refine o_ (h:=da_ 11 (h:=z_ (h:=x_blockN (?_))))
              refine x_then ?_
              refine ⟨_, ⟨_, _, _, ?_, ?_, rfl⟩, (wk 5 0)⟩
              · omega
              · first | exact link_okay hv _ _ _ | exact unlink_okay hv _ _ | exact rmdir_okay hv _ _ | exact rename_okay hv _ _ _ _ | exact set_okay hv _ _ _ _ | exact make_okay hv _ _ _
  · rintro t ⟨R1, e, b, hb, hok, rfl⟩
    refine q_ (w_ (m_ (h:=nq_ (h:=e_ (?_)))))
    refine aw_cond rfl (fun hb6 => ?_) (fun hb6 => ?_)
    · have hc6 := bp hb6
      refine w_ (l_ (h:=s_ (h:=e_ (aw_ret (x_thenR (?_))))))
      refine rt_ none (h5 := (LeA.refl _)) (h6 := ⟨_, rfl, rfl, b, hb, rfl, f, rfl, hv, rfl⟩)
    · have hc6 := bp hb6
      refine kt_ (w_ (l_ (h:=s_ (h:=e_ (aw_ret (?_))))))
      refine rt_ none (h5 := (LeA.refl _)) (h6 := ⟨_, rfl, rfl, b, hb, rfl, R1, rfl, hok (by omega)⟩)

theorem Gfiles (l : List Int) (a : Nat) (ha : a ≤ 100000000) : GenF Try.prog 23 l a [] 1000 (fun r => ∃ f, r = .agg (flsA f) ∧ FlsV f ∧ 0 < f.length) := by
  refine enter Try.func23 rfl rfl rfl rfl rfl 1 rfl ?_
  refine w_ (al_ (h:=e_ (w_ (m_ (h:=?_)))))
  refine al_p rfl (s_gen 0 (hc := Grange l _ (1) (3) (by omega) (by omega) (by omega) (by omega)) (hR := ?_))
  rintro r a1 ha1 ⟨k1, rfl, p1, q1⟩
  refine ⟨rfl, _, (by repeat constructor), ?_⟩
  refine al_p rfl (q_call (Rnew k1) ?_)
  rintro r rfl
  refine m_ (h:=x_ (h:=x_ (h:=al_ (h:=s_ (h:=a_ (h:=e_ (q_ (w_ (m_ (h:=?_))))))))))
  refine al_p rfl (s_gen 0 (hc := Grange l _ (2) (12) (by omega) (by omega) (by omega) (by omega)) (hR := ?_))
  rintro r a2 ha2 ⟨k2, rfl, p2, q2⟩
  refine ⟨rfl, _, (by repeat constructor), ?_⟩
  refine a_ (h:=e_ (aw_block (?_)))
  obtain ⟨hv0, hp0⟩ := new_valid p1 q1
  obtain ⟨M, rfl⟩ := Int.eq_ofNat_of_zero_le (show 0 ≤ k2 by omega)
  refine aw_loopW (fun n s => ∃ (j b : Nat) (f : Fls), j ≤ M ∧ n = j ∧ b + 80 * j ≤ a + 2 + 80 * M ∧ FlsV f ∧ 0 < f.length ∧ s = ⟨look [(0, .bp 0 0), (2, .bp 1 0), (3, .bp 2 0), (5, .v (.int .i64 (j : Int)))], ⟨[srcA l b, [.v (.slice none 0 0)], flsA f], []⟩⟩) (M) ((wk 3 0)) (⟨M, _, _, Nat.le_refl _, rfl, by omega, hv0, hp0, rfl⟩) ?_
  rintro n s ⟨j, b, f, hj, rfl, hb, hv, hp, rfl⟩
  refine q_ (w_ (m_ (h:=gt_ (h:=e_ (?_)))))
  refine aw_cond rfl (fun hb1 => ?_) (fun hb1 => ?_)
  · have hc1 := bp hb1
    refine kt_ (q_ (aw_block (aw_region (m_ (h:=l_ (h:=?_))))))
    refine al_p rfl (s_gen 0 (hc := Gchange l _ f (by omega) hv) (hR := ?_))
    rintro r a3 ha3 ⟨f3, rfl, hv3, hl3⟩
    refine ⟨rfl, _, (by repeat constructor), ?_⟩
    refine s_ (h:=al_nil (x_blockN (t_ (aw_region (m_ (h:=?_))))))
    refine al_p rfl (st_sub64 rfl rfl (by omega) ?_)
    refine a_ (h:=al_nil (?_))
    refine x_then ?_
    refine ⟨n - 1, _, by omega, ⟨n - 1, _, f3, by omega, rfl, ?_, hv3, by omega, rfl⟩, (by rw [show ((n - 1 : Nat) : Int) = (n : Int) - 1 by omega]; exact weak_of 3 0 rfl rfl rfl rfl ((by repeat (first | exact Sub.nil | refine Sub.cons _ _ _ rfl rfl ?_ | refine Sub.any _ _ ?_ | refine Sub.sl _ _ _ _ _ rfl ?_ | refine Sub.slnil _ _ _ rfl ?_))))⟩
    omega
  · have hc1 := bp hb1
    refine aw_exit (x_thenE (x_thenE (ABlock_out (t_ (w_ (l_ (h:=s_ (h:=e_ (aw_ret (?_))))))))))
    refine rt_ none (h5 := (LeA.refl _)) (h6 := ⟨_, rfl, rfl, b, by omega, rfl, f, rfl, hv, hp⟩)

end
end Go.Proofs.Ytaidkbnbfnaihaa
namespace Go.Proofs.Ytaidkbnbfnaihaa

def stepR (s : Spc) (a : Fil) : Option Fil := if a.2 ≠ 1 then some (a.1, (nodG s.files a).parent) else onL s a.1
def ends (s : Spc) : Nat → Fil → Prop
  | 0, a => dirL s.files a = false
  | k + 1, a => dirL s.files a = false ∨ ∀ b, stepR s a = some b → ends s k b
theorem on_mem {s : Spc} {dev : Int} {on : Fil} (h : onL s dev = some on) : ∃ m ∈ s.mounts, m.1 = dev ∧ m.2 = on := by
  unfold onL at h
  cases hf : s.mounts.find? fun m : Mnt => decide (m.1 = dev) with
  | none => rw [hf] at h; cases h
  | some m =>
    rw [hf] at h
    injection h with h
    exact ⟨m, List.mem_of_find?_eq_some hf, by have := List.find?_some hf; simpa using this, h⟩
theorem dir_node {f : Fls} {a : Fil} (h : ¬ dirL f a = false) : ∃ (q : Nat) (d : Dvc) (m : Nod), a.1 = (q : Int) ∧ f[q]? = some d ∧ m ∈ d.nodes ∧ m.ino = a.2 ∧ nodG f a = m ∧ m.kind = 2 := by
  rw [Bool.not_eq_false, dirL_eq, Bool.and_eq_true, decide_eq_true_eq] at h
  obtain ⟨q, i, d, m, h1, h2, h3, h4, _, h6⟩ := at_ok h.1
  exact ⟨q, d, m, h1, h2, List.mem_of_getElem? h3, h4, h6, by rw [← h6]; exact h.2⟩
theorem step_eq {s : Spc} (hv : SpcV s) {a : Fil} (h : ¬ dirL s.files a = false) : stepC s a = stepR s a := by
  obtain ⟨q, d, m, _, _, _, h4, h5, _⟩ := dir_node h
  unfold stepC stepR
  rw [h5, h4]
  split
  · rfl
  · split
    · rename_i h0
      cases ho : onL s a.1 with
      | none => rfl
      | some on =>
        obtain ⟨m', hm, h1, _⟩ := on_mem ho
        obtain ⟨i, hi⟩ := List.getElem?_of_mem hm
        have := (hv.mnt i m' hi).dev1
        omega
    · rfl
def posM (s : Spc) (dev : Int) : Nat := match s.mounts.findIdx? fun m : Mnt => decide (m.1 = dev) with
  | none => 0
  | some i => i + 1
theorem pos_on {s : Spc} (hv : SpcV s) {dev : Int} {on : Fil} (h : onL s dev = some on) : posM s on.1 < posM s dev := by
  unfold onL at h
  cases hf : s.mounts.find? fun m : Mnt => decide (m.1 = dev) with
  | none => rw [hf] at h; cases h
  | some m =>
    rw [hf] at h
    injection h with h
    subst h
    rw [List.find?_eq_some_iff_getElem] at hf
    obtain ⟨hp, i, hi, hmi, hbefore⟩ := hf
    have e1 : s.mounts.findIdx? (fun m : Mnt => decide (m.1 = dev)) = some i := by
      rw [List.findIdx?_eq_some_iff_getElem]
      exact ⟨hi, by rw [hmi]; exact hp, fun j hj => by simpa using hbefore j hj⟩
    have hthere := (hv.mnt i m (by rw [List.getElem?_eq_getElem hi, hmi])).there
    unfold posM
    rw [e1]
    cases e2 : s.mounts.findIdx? (fun m' : Mnt => decide (m'.1 = m.2.1)) with
    | none => simp
    | some j =>
      simp only
      by_cases h0 : m.2.1 = 0
      · rw [List.findIdx?_eq_some_iff_getElem] at e2
        obtain ⟨hj, h1, _⟩ := e2
        have := (hv.mnt j _ (List.getElem?_eq_getElem hj)).dev1
        simp only [decide_eq_true_eq] at h1
        omega
      · unfold mtdL onL at hthere
        simp only [Bool.or_eq_true, decide_eq_true_eq, h0, or_false, Option.isSome_map] at hthere
        cases hg : (s.mounts.take i).find? fun m' : Mnt => decide (m'.1 = m.2.1) with
        | none => rw [hg] at hthere; cases hthere
        | some m' =>
          rw [List.find?_eq_some_iff_getElem] at hg
          obtain ⟨hp', k, hk, hmk, _⟩ := hg
          rw [List.findIdx?_eq_some_iff_getElem] at e2
          obtain ⟨hj, _, hno⟩ := e2
          have hki : k < i := by simp at hk; omega
          by_cases hjk : j ≤ k
          · omega
          · have := hno k (by omega)
            simp only [List.getElem_take] at hmk
            rw [hmk] at this
            rw [hp'] at this
            exact absurd rfl this
theorem ends_ex {s : Spc} (hv : SpcV s) : ∀ (p : Nat) (a : Fil), posM s a.1 < p → ∃ k, ends s k a := by
  intro p
  induction p with
  | zero => intro a h; omega
  | succ p ih =>
    intro a hp
    by_cases hd : dirL s.files a = false
    · exact ⟨0, hd⟩
    · obtain ⟨q, d, m, hq, hfd, _⟩ := dir_node hd
      have hvd := hv.files.vd d (List.mem_of_getElem? hfd)
      obtain ⟨rk, hrk⟩ := hvd.rank
      have key : ∀ (r : Nat) (ino : Int), rk ino < r → ∃ k, ends s k (a.1, ino) := by
        intro r
        induction r with
        | zero => intro ino h; omega
        | succ r ihr =>
          intro ino hr
          by_cases hd2 : dirL s.files (a.1, ino) = false
          · exact ⟨0, hd2⟩
          · obtain ⟨q', d', m', hq', hfd', hm', hi', hn', hk'⟩ := dir_node hd2
            have : q' = q := by simp only at hq'; omega
            subst this
            rw [hfd] at hfd'
            injection hfd' with hfd'
            subst hfd'
            simp only at hi'
            by_cases h1 : ino = 1
            · cases ho : onL s a.1 with
              | none => exact ⟨1, .inr fun b hb => by simp [stepR, h1, ho] at hb⟩
              | some on =>
                obtain ⟨k, hk⟩ := ih on (by have := pos_on hv ho; omega)
                refine ⟨k + 1, .inr fun b hb => ?_⟩
                simp [stepR, h1, ho] at hb
                rw [← hb]; exact hk
            · obtain ⟨k, hk⟩ := ihr m'.parent (by have := hrk m' hm' (by omega) hk'; rw [hi'] at this; omega)
              refine ⟨k + 1, .inr fun b hb => ?_⟩
              simp [stepR, h1, hn'] at hb
              rw [← hb]; exact hk
      exact key (rk a.2 + 1) a.2 (by omega)
theorem chain_no {s : Spc} {a : Fil} (h : dirL s.files a = false) : ∀ k, chainP s k a = []
  | 0 => rfl
  | k + 1 => by unfold chainP; rw [h]; rfl
theorem chain_yes {s : Spc} {a : Fil} (h : ¬ dirL s.files a = false) (k : Nat) : chainP s (k + 1) a = a :: (match stepC s a with
    | none => []
    | some b => chainP s k b) := by
  conv => lhs; unfold chainP
  rw [if_pos (by simpa using h)]
  cases stepC s a <;> rfl
theorem chain_irr {s : Spc} (hv : SpcV s) : ∀ (k k' : Nat) (a : Fil), ends s k a → ends s k' a → chainP s k a = chainP s k' a := by
  intro k
  induction k with
  | zero => intro k' a h _; rw [chain_no h, chain_no h]
  | succ k ih =>
    intro k' a h h'
    by_cases hd : dirL s.files a = false
    · rw [chain_no hd, chain_no hd]
    · cases k' with
      | zero => exact absurd h' hd
      | succ k' =>
        rw [chain_yes hd, chain_yes hd]
        have h1 := h.resolve_left hd
        have h2 := h'.resolve_left hd
        rw [← step_eq hv hd] at h1 h2
        cases hs : stepC s a with
        | none => rfl
        | some b => simp only; rw [ih k' b (h1 b hs) (h2 b hs)]
theorem chain_mem {s : Spc} (hv : SpcV s) : ∀ (k : Nat) (a x : Fil), ends s k a → x ∈ chainP s k a → (¬ dirL s.files x = false) ∧ ∃ j, ends s j x ∧ (chainP s j x).length ≤ (chainP s k a).length := by
  intro k
  induction k with
  | zero => intro a x h hx; cases hx
  | succ k ih =>
    intro a x h hx
    by_cases hd : dirL s.files a = false
    · rw [chain_no hd] at hx; cases hx
    · have h1 := h.resolve_left hd
      rw [← step_eq hv hd] at h1
      rw [chain_yes hd] at hx
      rcases List.mem_cons.1 hx with rfl | hx
      · exact ⟨hd, k + 1, h, Nat.le_refl _⟩
      · rw [chain_yes hd]
        cases hs : stepC s a with
        | none => rw [hs] at hx; cases hx
        | some b =>
          rw [hs] at hx
          obtain ⟨h2, j, h3, h4⟩ := ih b x (h1 b hs) hx
          exact ⟨h2, j, h3, by simp; omega⟩
theorem chain_nodup {s : Spc} (hv : SpcV s) : ∀ (k : Nat) (a : Fil), ends s k a → (chainP s k a).Nodup := by
  intro k
  induction k with
  | zero => intro a h; exact List.nodup_nil
  | succ k ih =>
    intro a h
    by_cases hd : dirL s.files a = false
    · rw [chain_no hd]; exact List.nodup_nil
    · have h1 := h.resolve_left hd
      rw [← step_eq hv hd] at h1
      cases hs : stepC s a with
      | none => rw [chain_yes hd, hs]; simp
      | some b =>
        have e : chainP s (k + 1) a = a :: chainP s k b := by rw [chain_yes hd, hs]
        rw [e, List.nodup_cons]
        refine ⟨fun hm => ?_, ih b (h1 b hs)⟩
        obtain ⟨_, j, h3, h4⟩ := chain_mem hv k b a (h1 b hs) hm
        rw [chain_irr hv j (k + 1) a h3 h, e] at h4
        simp at h4
        omega
def allN : Nat → Fls → List Fil
  | _, [] => []
  | q, d :: ds => d.nodes.map (fun n => ((q : Int), n.ino)) ++ allN (q + 1) ds
theorem allN_len : ∀ (f : Fls) (q : Nat), (allN q f).length = mostL f
  | [], _ => rfl
  | d :: ds, q => by
    have := allN_len ds (q + 1)
    unfold mostL at this ⊢
    simp only [allN, List.length_append, List.length_map, List.map_cons, List.sum_cons]
    omega
theorem allN_mem : ∀ (f : Fls) (q i : Nat) (d : Dvc) (m : Nod), f[i]? = some d → m ∈ d.nodes → (((q + i : Nat) : Int), m.ino) ∈ allN q f
  | [], _, i, _, _, h, _ => by simp at h
  | d0 :: ds, q, 0, d, m, h, hm => by
    simp only [List.getElem?_cons_zero, Option.some.injEq] at h
    subst h
    simp only [allN, Nat.add_zero]
    exact List.mem_append_left _ (List.mem_map.2 ⟨m, hm, rfl⟩)
  | d0 :: ds, q, i + 1, d, m, h, hm => by
    simp only [List.getElem?_cons_succ] at h
    have := allN_mem ds (q + 1) i d m h hm
    simp only [allN]
    refine List.mem_append_right _ ?_
    rwa [show q + (i + 1) = q + 1 + i by omega]
theorem nodup_le {l : List Fil} (hn : l.Nodup) : ∀ {m : List Fil}, (∀ x ∈ l, x ∈ m) → l.length ≤ m.length := by
  induction l with
  | nil => intro m _; simp
  | cons x xs ih =>
    intro m h
    rw [List.nodup_cons] at hn
    have h1 := ih hn.2 (m := m.erase x) fun y hy => by
      have hne : y ≠ x := fun e => hn.1 (e ▸ hy)
      exact (List.mem_erase_of_ne hne).2 (h y (List.mem_cons_of_mem _ hy))
    have h2 := List.length_erase_of_mem (h x (List.mem_cons_self ..))
    have h3 : 0 < m.length := List.length_pos_of_mem (h x (List.mem_cons_self ..))
    simp only [List.length_cons]
    omega
theorem chain_le {s : Spc} (hv : SpcV s) {k : Nat} {a : Fil} (h : ends s k a) : (chainP s k a).length ≤ mostL s.files := by
  rw [← allN_len s.files 0]
  refine nodup_le (chain_nodup hv k a h) fun x hx => ?_
  obtain ⟨hd, _⟩ := chain_mem hv k a x h hx
  obtain ⟨q, d, m, h1, h2, h3, h4, _⟩ := dir_node hd
  have := allN_mem s.files 0 q d m h2 h3
  rw [Nat.zero_add, h4, ← h1] at this
  exact this
theorem ends_len {s : Spc} (hv : SpcV s) : ∀ (k m : Nat) (a : Fil), ends s k a → (chainP s k a).length ≤ m → ends s m a := by
  intro k
  induction k with
  | zero =>
    intro m a h _
    cases m with
    | zero => exact h
    | succ m => exact .inl h
  | succ k ih =>
    intro m a h hl
    by_cases hd : dirL s.files a = false
    · cases m with
      | zero => exact hd
      | succ m => exact .inl hd
    · have h1 := h.resolve_left hd
      rw [chain_yes hd] at hl
      cases m with
      | zero => simp at hl
      | succ m =>
        refine .inr fun b hb => ?_
        have hb' := hb
        rw [← step_eq hv hd] at hb'
        rw [hb'] at hl
        exact ih m b (h1 b hb) (by simpa using hl)
theorem ends_most {s : Spc} (hv : SpcV s) (a : Fil) : ends s (mostL s.files) a := by
  obtain ⟨k, hk⟩ := ends_ex hv (posM s a.1 + 1) a (Nat.lt_succ_self _)
  exact ends_len hv k _ a hk (chain_le hv hk)
end Go.Proofs.Ytaidkbnbfnaihaa
namespace Go.Proofs.Ytaidkbnbfnaihaa

theorem chain_suf {s : Spc} (hv : SpcV s) : ∀ (k : Nat) (a x : Fil), ends s k a → x ∈ chainP s k a → ∃ j, ends s j x ∧ chainP s j x <:+ chainP s k a := by
  intro k
  induction k with
  | zero => intro a x h hx; cases hx
  | succ k ih =>
    intro a x h hx
    by_cases hd : dirL s.files a = false
    · rw [chain_no hd] at hx; cases hx
    · have h1 := h.resolve_left hd
      rw [← step_eq hv hd] at h1
      rw [chain_yes hd] at hx
      rcases List.mem_cons.1 hx with rfl | hx
      · exact ⟨k + 1, h, List.suffix_refl _⟩
      · rw [chain_yes hd]
        cases hs : stepC s a with
        | none => rw [hs] at hx; cases hx
        | some b =>
          rw [hs] at hx
          obtain ⟨j, h3, h4⟩ := ih b x (h1 b hs) hx
          exact ⟨j, h3, h4.trans (List.suffix_cons _ _)⟩
section
variable {s : Spc} (hv : SpcV s)
include hv
theorem most_suf {a b : Fil} (h : a ∈ chainP s (mostL s.files) b) : chainP s (mostL s.files) a <:+ chainP s (mostL s.files) b := by
  obtain ⟨j, h1, h2⟩ := chain_suf hv _ b a (ends_most hv b) h
  rwa [chain_irr hv j (mostL s.files) a h1 (ends_most hv a)] at h2
theorem chain_head {a : Fil} (h : dirL s.files a = true) : ∃ t, chainP s (mostL s.files) a = a :: t := by
  have hd : ¬ dirL s.files a = false := by rw [h]; simp
  have := ends_most hv a
  cases hm : mostL s.files with
  | zero => rw [hm] at this; exact absurd this hd
  | succ m => exact ⟨_, chain_yes hd m⟩
theorem within_dir {a b : Fil} (h : a ∈ chainP s (mostL s.files) b) : dirL s.files a = true := by
  have := (chain_mem hv _ b a (ends_most hv b) h).1
  simpa using this
end
end Go.Proofs.Ytaidkbnbfnaihaa
namespace Go.Proofs.Ytaidkbnbfnaihaa
open Go.RowKit Go.Shelf
section
variable {F : Fence} {n : Nat} {P : Program}

theorem wpIn_rangeFunc_sa {α : Type} {g : Operand} {ps : Array Tmp} {assign body : Code} {Q : Exit → Act → World → Prop} {a : Act} {w : World}
    (hro : F.round = none) (h1 : 1 ≤ n) {gf : Nat} {lb : Array Value} (hg : a.eval g = .func (.func gf) #[] lb) (hFg : F.fn gf) (eg : ∀ args w, (callFunc gf args).run P w = .ok (.enter gf args) w)
    {encs : α → Array Value} {own : Nat → Prop} {Kp : World → World → Prop} {Pf : List α → Prop} {S Sp : List α → Prop} {w0 : World} (hseq : SeqW F (n - 1) P gf lb encs own Kp Pf S Sp w0)
    (hown : ∀ b, own b → b < w.heap.size) (hKt : ∀ {A B C : World}, Kp A B → Kp B C → Kp A C) (hKb : ∀ (W : World) (l : Nat) (o o' : Obj), w.heap.size ≤ l → W.heap[l]? = some o → o.isCells = false → Kp W (W.putObj l o'))
    (hb0 : Below w0.heap.size w0 w) (hps : ∀ x, (encs x).size = ps.size)
    (I : List α → World → Prop) (Ix : Code → List α → World → Prop) (hI : ∀ s X Y, I s X → Moves own w.heap.size X Y → I s Y) (hIx : ∀ c s X Y, Ix c s X → Moves own w.heap.size X Y → Ix c s Y) (h0 : I [] w) (a₁ : α → World → Act) (w₁ : α → World → World) (hw1 : ∀ x W, w.heap.size + 2 ≤ W.heap.size → Below W.heap.size W (w₁ x W) ∧ Kp W (w₁ x W))
    (hassign : ∀ (l : Nat) (x : α) (W : World) (K : Act → World → Prop), w.heap.size + 2 ≤ W.heap.size → K (a₁ x W) (w₁ x W) →
      assign.wpIn (F.inRound l) (n - 1 - 1) P (Exit.then K (fun _ _ _ => False)) { tmps := (ps.zip (encs x)).foldl (fun t (p, v) => t.setIfInBounds p v) a.tmps, defers := [] } W)
    (hbody : ∀ (l : Nat) (pre : List α) (x : α) (W0 W : World), I pre W → Pf (pre ++ [x]) → w.heap.size + 2 ≤ W0.heap.size → (w₁ x W0).heap.size ≤ W.heap.size → (∀ (k : Nat) (o : Obj), (w₁ x W0).heap[k]? = some o → o.isCells = true → W.heap[k]? = some o) → w.heap.size ≤ l → (∃ r, W.heap[l]? = some (.loop r)) →
      body.wpIn (F.inRound l) (n - 1 - 1) P (ownPostG w.heap.size Kp I Ix (pre ++ [x]) W) (a₁ x W0) W)
    (hdone : ∀ (D : Nat) (xs : List α) (W : World), w.heap.size ≤ D → S xs → I xs W → W.heap[D]? = some (.deferred (some [])) → Q .normal { a with defers := { target := .collected D, args := #[] } :: a.defers } W)
    (hstop : ∀ (D : Nat) (c : Code) (pre : List α) (W : World), w.heap.size ≤ D → Sp pre → Ix c pre W → W.heap[D]? = some (.deferred (some [])) → c.wpIn F n P Q { a with defers := { target := .collected D, args := #[] } :: a.defers } W) :
    (Code.rangeFunc g ps assign body).wpIn F n P Q a w := by
  refine wpIn_rangeFunc ?_
  intro fn hfn
  rw [hro]
  obtain ⟨rec, hrec⟩ : ∃ rec : LoopState → Option Code → Loop, rec = fun st pe => { state := st, pending := pe, fn, tmps := a.tmps, params := ps, assign, body, defers := w.heap.size } := ⟨_, rfl⟩
  obtain ⟨W1, hW1⟩ : ∃ W1, (w.alloc (.deferred (some []))).alloc (.loop (rec .ready none)) = W1 := ⟨_, rfl⟩
  have hbw : Below w.heap.size w W1 := by rw [← hW1]; exact below_a2 w _ _
  have hsz : W1.heap.size = w.heap.size + 2 := by rw [← hW1]; simp
  have hL1 : W1.heap[w.heap.size + 1]? = some (.loop (rec .ready none)) := by rw [← hW1]; exact blk_a2_1 _ _ _
  have hK1 : W1.heap[w.heap.size]? = some (.deferred (some [])) := by rw [← hW1]; exact blk_a2_0 _ _ _
  have hn0 : ¬ own w.heap.size := fun h => by have := hown _ h; omega
  have hn1 : ¬ own (w.heap.size + 1) := fun h => by have := hown _ h; omega
  refine ⟨w.heap.size + 1, [{ target := .collected w.heap.size, args := #[] }], W1, { target := .fn (.func gf) lb, args := #[.func (.yield (w.heap.size + 1)) #[] #[]] }, W1, gf,
    #[.func (.yield (w.heap.size + 1)) #[] #[]] ++ lb, W1, ?_, ?_, ?_, ?_, fun _ => h1, ?_⟩
  · rw [← hW1, hrec]; exact run_enterLoop_outer _ _ _ _ _
  · simp only [resolve, hg]
    simp [go_sem]
  · intro f' hf'; simp [Target.leads] at hf'; subst hf'; exact hFg
  · simp [invoke, go_sem, eg]
  · have lt_of : ∀ {W : World} {k : Nat} {o : Obj}, W.heap[k]? = some o → k < W.heap.size := fun h => (Array.getElem?_eq_some_iff.1 h).1
    have keep : ∀ {X Y : World} {k : Nat} {o : Obj}, Moves own W1.heap.size X Y → X.heap[k]? = some o → k < W1.heap.size → ¬ own k → Y.heap[k]? = some o := fun hm hx hk hn => (hm.block _ (lt_of hx) hn (.inl hk)).trans hx
    refine (hseq (w.heap.size + 1)
      (fun pre W => I pre W ∧ W.heap[w.heap.size + 1]? = some (.loop (rec .ready none)) ∧ W.heap[w.heap.size]? = some (.deferred (some [])))
      (fun pre W => ∃ c, Ix c pre W ∧ W.heap[w.heap.size + 1]? = some (.loop (rec .done (some c))) ∧ W.heap[w.heap.size]? = some (.deferred (some [])))
      W1 (hb0.trans (hbw.mono hb0.size))
      (fun s X Y hs hm => ⟨hI s X Y hs.1 (hm.mono (by omega)), keep hm hs.2.1 (by omega) hn1, keep hm hs.2.2 (by omega) hn0⟩)
      (fun s X Y hs hm => by
        obtain ⟨c, hc, hl, hk⟩ := hs
        exact ⟨c, hIx c s X Y hc (hm.mono (by omega)), keep hm hl (by omega) hn1, keep hm hk (by omega) hn0⟩)
      ?_ ⟨hI _ _ _ h0 (.below hbw), hL1, hK1⟩).mono ?_
    · rintro pre x W0 ⟨hi0, hl0, hk0⟩ hpf
      have hlt0 : w.heap.size + 1 < W0.heap.size := lt_of hl0
      obtain ⟨hbV, hkV⟩ := hw1 x W0 hlt0
      obtain ⟨W, hWe⟩ : ∃ W, w₁ x W0 = W := ⟨_, rfl⟩
      rw [hWe] at hbV hkV
      have hi : I pre W := hI _ _ _ hi0 (.below hbV)
      have hl := (hbV.block _ (by omega)).trans hl0
      have hk := (hbV.block _ (by omega)).trans hk0
      have hlt : w.heap.size + 1 < W.heap.size := lt_of hl
      have hy := run_yield (P := P) (args := encs x) hl0 (by rw [hrec]; exact hps x)
      rw [hrec] at hy
      refine ⟨fn, _, assign, body, hy, roundIn_of_wpIn hfn (hassign _ x W0 _ hlt0 ⟨_, run_beginRound (by rw [hWe]; exact hl) (by rw [hrec]), ?_⟩)⟩
      rw [hWe]
      have hl2 : (W.putObj (w.heap.size + 1) (.loop { rec .ready none with state := .busy })).heap[w.heap.size + 1]? = some (.loop { rec .ready none with state := .busy }) := World.putObj_heap_same hlt
      have hk2 : (W.putObj (w.heap.size + 1) (.loop { rec .ready none with state := .busy })).heap[w.heap.size]? = some (.deferred (some [])) := (World.putObj_heap_other (by omega)).trans hk
      have hw2 : Kp W0 (W.putObj (w.heap.size + 1) (.loop { rec .ready none with state := .busy })) := hKt hkV (hKb _ _ _ _ (by omega) hl rfl)
      refine wpIn_mono (hbody _ pre x W0 _ (hI _ _ _ hi (.put_ _ hl rfl (by omega))) hpf hlt0 (by rw [hWe]; exact (grownBy_putObj' W (w.heap.size + 1) _).size) (fun k o hko hoc => by
        rw [hWe] at hko
        refine (World.putObj_heap_other fun e => ?_).trans hko
        subst e
        rw [hl] at hko
        injection hko with hko
        subst hko
        cases hoc) (by omega) ⟨_, hl2⟩) ?_
      have fin : ∀ (jump : Option Code) (W3 : World), KeepsFrom w.heap.size (W.putObj (w.heap.size + 1) (.loop { rec .ready none with state := .busy })) W3 →
          (Instr.endRound (w.heap.size + 1) jump).run P W3 = .ok (.bool jump.isNone) (W3.putObj (w.heap.size + 1) (.loop (rec (if jump.isNone then .ready else .done) jump))) ∧
          W3.heap[w.heap.size + 1]? = some (.loop { rec .ready none with state := .busy }) ∧
          (W3.putObj (w.heap.size + 1) (.loop (rec (if jump.isNone then .ready else .done) jump))).heap[w.heap.size + 1]? = some (.loop (rec (if jump.isNone then .ready else .done) jump)) ∧
          (W3.putObj (w.heap.size + 1) (.loop (rec (if jump.isNone then .ready else .done) jump))).heap[w.heap.size]? = some (.deferred (some [])) := fun jump W3 hk3 => by
        have hl3 := hk3.same _ _ (by omega) hl2 rfl
        have := run_endRound (P := P) jump hl3
        rw [hrec] at this ⊢
        exact ⟨this, by rw [hrec] at hl3; exact hl3, World.putObj_heap_same (lt_of hl3), (World.putObj_heap_other (by omega)).trans (hk3.same _ _ (Nat.le_refl _) hk2 rfl)⟩
      rintro e a3 W3 hp
      cases e with
      | normal =>
        obtain ⟨hk3, hkp3, hi3⟩ := hp
        obtain ⟨hr, hl3, hl4, hk4⟩ := fin none W3 hk3
        exact ⟨_, _, hr, .inl ⟨rfl, ⟨hI _ _ _ hi3 (.put_ _ hl3 rfl (by omega)), hl4, hk4⟩, hKt (hKt hw2 hkp3) (hKb _ _ _ _ (by omega) hl3 rfl)⟩⟩
      | ret =>
        obtain ⟨hk3, hi3⟩ := hp
        obtain ⟨hr, hl3, hl4, hk4⟩ := fin (some .ret) W3 hk3
        exact ⟨_, _, hr, .inr ⟨rfl, .ret, hIx _ _ _ _ hi3 (.put_ _ hl3 rfl (by omega)), hl4, hk4⟩⟩
      | exit id =>
        obtain ⟨hk3, hi3⟩ := hp
        obtain ⟨hr, hl3, hl4, hk4⟩ := fin (some (.exit id)) W3 hk3
        exact ⟨_, _, hr, .inr ⟨rfl, .exit id, hIx _ _ _ _ hi3 (.put_ _ hl3 rfl (by omega)), hl4, hk4⟩⟩
      | goto t =>
        obtain ⟨hk3, hi3⟩ := hp
        obtain ⟨hr, hl3, hl4, hk4⟩ := fin (some (.goto t)) W3 hk3
        exact ⟨_, _, hr, .inr ⟨rfl, .goto t, hIx _ _ _ _ hi3 (.put_ _ hl3 rfl (by omega)), hl4, hk4⟩⟩
      | panic ch => exact hp.elim
      | outgrown => exact hp.elim
    · rintro e W2 ⟨⟨v, rfl⟩, (⟨xs, hS, hi, hl, hk⟩ | ⟨pre, hSp, c, hi, hl, hk⟩)⟩
      · exact ⟨none, _, by have := run_endLoop (P := P) hl (by rw [hrec]; simp); rw [hrec] at this; exact this, hdone _ xs _ (Nat.le_refl _) hS (hI _ _ _ hi (.put_ _ hl rfl (by omega))) ((World.putObj_heap_other (by omega)).trans hk)⟩
      · exact ⟨some c, _, by have := run_endLoop (P := P) hl (by rw [hrec]; simp); rw [hrec] at this; exact this, hstop _ c pre _ (Nat.le_refl _) hSp (hIx _ _ _ _ hi (.put_ _ hl rfl (by omega))) ((World.putObj_heap_other (by omega)).trans hk)⟩

end
theorem lt_some {W : World} {k : Nat} {o : Obj} (h : W.heap[k]? = some o) : k < W.heap.size := (Array.getElem?_eq_some_iff.1 h).1
attribute [local go_sem] Oper.semAt_some
end Go.Proofs.Ytaidkbnbfnaihaa
namespace Go.Proofs.Ytaidkbnbfnaihaa
open Go.RowKit Go.Shelf
attribute [local go_sem] Oper.semAt_some
end Go.Proofs.Ytaidkbnbfnaihaa
namespace Go.Proofs.Ytaidkbnbfnaihaa
open Go.RowKit

def abvL (s : Spc) (a : Fil) : Nod := nodG s.files (a.1, (nodG s.files a).parent)
def nmoL (s : Spc) (a : Fil) : Str := (((abvL s a).entries.find? fun e : Ent => decide (e.2 = a.2)).map (·.1)).getD ⟨#[]⟩
section
set_option maxRecDepth 10000
set_option maxHeartbeats 1000000
theorem PnameOf (s : Spc) (a : Fil) (hs : SpcB s) : AFn Try.prog 85 [.agg (spcA s), .agg (filA a)] (fun r => r = .v (.string (nmoL s a))) := by
  have hen := nodG_ents hs.files (a.1, (nodG s.files a).parent)
  change (abvL s a).entries.length ≤ 1000 at hen
  refine enter Try.func85 rfl rfl rfl rfl rfl 0 rfl ?_
  refine w_ (b_ (h:=b_ (h:=a_ (h:=e_ (w_ (f_ (h:=l_ (h:=l_ (h:=?_)))))))))
  refine al_p rfl (q_call (Pnode s.files a hs.files) ?_)
  rintro r rfl
  · skip
    refine m_ (h:=x_ (h:=x_ (h:=al_ (h:=s_ (h:=a_ (h:=e_ (w_ (f_ (h:=l_ (h:=f_ (h:=l_ (h:=f_ (h:=l_ (h:=bd_ (h:=?_)))))))))))))))
    refine al_p rfl (q_call (Pnode s.files (a.1, (nodG s.files a).parent) hs.files) ?_)
    rintro r rfl
    · skip
      refine m_ (h:=x_ (h:=x_ (h:=al_ (h:=s_ (h:=a_ (h:=e_ (q_ (w_ (f_ (h:=l_ (h:=n_ (h:=m_ (h:=e_ (aw_block (?_)))))))))))))))
      refine aw_loopW (fun m t => ∃ j : Nat, j ≤ (abvL s a).entries.length ∧ m = (abvL s a).entries.length - j ∧ (∀ i y, i < j → (abvL s a).entries[i]? = some y → decide (y.2 = a.2) = false) ∧ t = ⟨look [(3, .bp 1 0), (30, .sl 2 ((abvL s a).entries.map entA) none), (31, .v (.int .i64 (((abvL s a).entries.map entA).length : Int))), (32, .v (.int .i64 (j : Int)))], ⟨[spcA s, filA a], []⟩⟩) ((abvL s a).entries.length) ((wk 2 0)) (⟨0, by omega, rfl, fun i y hi => by omega, rfl⟩) ?_
      rintro m t ⟨j, hj, rfl, ha, rfl⟩
      refine w_ (lt_ (h:=e_ (q_ (?_))))
      refine aw_cond rfl (fun hb1 => ?_) (fun hb1 => ?_)
      · have hc1 := bp hb1
        obtain ⟨hlt, x, hy, hrow, -⟩ := row_at entA hc1
        refine kt_ (q_ (aw_block (w_ (i_ (h:=l_ (h:=al_ (h:=s_ (h:=e_ (w_ (f_ (h:=l_ (h:=f_ (h:=l_ (h:=eq_ (h:=e_ (?_))))))))))))))))
        refine aw_cond rfl (fun hb2 => ?_) (fun hb2 => ?_)
        · have hc2 := bp hb2
          refine w_ (f_ (h:=l_ (h:=a_ (h:=e_ (aw_ret (x_blockR (x_thenR (x_thenR (x_blockR (x_thenR (?_)))))))))))
          refine e_ret ?_
          rw [show nmoL s a = x.1 by simp only [nmoL]; rw [find_at hy (by simpa using hc2) ha]; rfl]
          rfl
        · have hc2 := bp hb2
          refine aw_skip (x_blockN (t_ (aw_region (ad_ (h:=m_ (h:=al_nil (?_)))))))
          refine x_then ?_
          refine ⟨_, _, ?_, ⟨j + 1, by omega, rfl, upto_snoc hy ha (by simpa using hc2), rfl⟩, (wk 2 0)⟩
          omega
      · have hc1 := bp hb1
        have e3 := row_no entA hj hc1
        subst e3
        refine aw_exit (x_thenE (x_thenE (ABlock_out (t_ (w_ (a_ (h:=e_ (aw_ret (?_)))))))))
        refine e_ret ?_
        rw [show nmoL s a = ⟨#[]⟩ by simp only [nmoL]; rw [find_no ha]; rfl]
        rfl

end
end Go.Proofs.Ytaidkbnbfnaihaa
