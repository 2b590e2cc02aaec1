/-
  Part 13 of the proof of MountsWithinP: what the statement's proof uses of the texts in wip/tpl.
-/
import Derived.Test.YtgliiknfmlmddaaMw12
namespace Go.Proofs.Ytgliiknfmlmddaa

theorem FlsV.set_ {f : Fls} (h : FlsV f) {q : Nat} {d' : Dvc} (hd : VD d') : FlsV (f.set q d') := by
  refine ⟨by simpa using h.few, fun d hm => ?_⟩
  rcases List.mem_or_eq_of_mem_set hm with h1 | h1
  · exact h.vd d h1
  · rw [h1]; exact hd
theorem at_ok {f : Fls} {a : Fil} (h : hasG f a = true) : ∃ (q i : Nat) (d : Dvc) (m : Nod), a.1 = (q : Int) ∧ f[q]? = some d ∧ d.nodes[i]? = some m ∧ m.ino = a.2 ∧ nodeL f a = some m ∧ nodG f a = m := by
  rcases index_node f a with ⟨_, h2⟩ | ⟨q, i, d, n, h1, h2, h3, h4, h5, h6⟩
  · simp [hasG, h2] at h
  · exact ⟨q, i, d, n, h1, h2, h3, h4, h6, by simp [nodG, h6]⟩
theorem node_asc {f : Fls} {a : Fil} {q : Nat} {d : Dvc} {m : Nod} (ha : a.1 = (q : Int)) (hq : f[q]? = some d) (hd : Asc d.nodes) (hm : m ∈ d.nodes) (hi : m.ino = a.2) : nodeL f a = some m := by
  unfold nodeL
  rw [ha, atI_nat, hq]
  simp only
  cases h : d.nodes.find? (fun n => n.ino == a.2) with
  | none =>
    have := List.find?_eq_none.1 h m hm
    simp [hi] at this
  | some n =>
    have h1 := List.mem_of_find?_eq_some h
    have h2 := List.find?_some h
    simp only [beq_iff_eq] at h2
    rw [asc_eq hd h1 hm (by omega)]
theorem look_no {f : Fls} {dir : Fil} {name : Str} {n0 : Nod} (hn : nodeL f dir = some n0) (hk : n0.kind = 2) (h : (lookL f dir name).2 ≠ 0) : entF n0.entries name = none ∧ (lookL f dir name).1 = (0, 0) := by
  unfold lookL at h ⊢
  rw [hn] at h ⊢
  simp only [hk, if_true] at h ⊢
  unfold entF
  split at h
  · rename_i he
    exact ⟨he, rfl⟩
  · exact absurd rfl h
theorem full_no {f : Fls} {dir : Fil} {n0 : Nod} (hn : nodeL f dir = some n0) (h : ¬ fullL f dir = true) : n0.entries.length < 12 := by
  unfold fullL at h
  rw [hn] at h
  simp at h
  omega
theorem onD_len (f : Fls) (q : Nat) (g : List Nod → List Nod) : (onD f q g).length = f.length := by simp [onD]
def Okay (f : Fls) (R : ChgRes) : Prop := R.2.2 = 0 → FlsV R.1 ∧ R.1.length = f.length
theorem okay_err {f : Fls} {e : Int} (h : e ≠ 0) : Okay f ([], [], e) := fun h0 => absurd h0 h
theorem link_okay {f : Fls} (hv : FlsV f) (dir : Fil) (name : Str) (a : Fil) : Okay f (linkL f dir name a) := by
  unfold linkL
  split
  · rename_i h; exact okay_err h
  · rename_i hp
    split
    · exact okay_err (by decide)
    · rename_i hh
      split
      · exact okay_err (by decide)
      · rename_i hdev
        split
        · exact okay_err (by decide)
        · rename_i hk
          split
          · exact okay_err (by decide)
          · rename_i hl
            split
            · exact okay_err (by decide)
            · rename_i hfl
              intro _
              obtain ⟨q, i, d, n0, hdq, hq, hn0, hino, hidx, hnode, hk0, hnm⟩ := place_ok (name := name) (dir := dir) (f := f) (by omega)
              obtain ⟨q', i', d', m, haq, hq', hm, hmi, hnm2, hng⟩ := at_ok (f := f) (a := a) (by simpa using hh)
              obtain rfl : q = q' := by omega
              obtain rfl : d = d' := Option.some.inj (hq.symm.trans hq')
              have hvd := hv.vd d (List.mem_of_getElem? hq)
              have key := hvd.linked (List.mem_of_getElem? hn0) hk0 (List.mem_of_getElem? hm) (by rw [← hng]; exact hk) hnm (look_no hnode hk0 hl).1 (full_no hnode hfl)
              rw [hino, hmi] at key
              refine ⟨?_, by dsimp only; exact onD_len _ _ _⟩
              dsimp only
              rw [hdq, Int.toNat_natCast, onD_set hq]
              exact hv.set_ key
theorem dir_kind {f : Fls} {a : Fil} {m : Nod} (h : nodeL f a = some m) : dirL f a = true ↔ m.kind = 2 := by
  unfold dirL; rw [h]; simp
theorem empty_len {f : Fls} {a : Fil} {m : Nod} (h : nodeL f a = some m) : emptyL f a = true ↔ m.entries = [] := by
  unfold emptyL; rw [h]; simp
theorem look_node {f : Fls} (hv : FlsV f) {dir : Fil} {name : Str} {q i : Nat} {d : Dvc} {n0 : Nod} (hdq : dir.1 = (q : Int)) (hq : f[q]? = some d) (hn0 : d.nodes[i]? = some n0) (hnode : nodeL f dir = some n0) (hk0 : n0.kind = 2) (hl : (lookL f dir name).2 = 0) :
    ∃ e m, entF n0.entries name = some e ∧ lookL f dir name = ((dir.1, e.2), 0) ∧ m ∈ d.nodes ∧ e.2 = m.ino ∧ e.2 ≠ 1 ∧ nodeL f (lookL f dir name).1 = some m := by
  obtain ⟨e, he, hle⟩ := look_ok hnode hk0 hl
  have hvd := hv.vd d (List.mem_of_getElem? hq)
  obtain ⟨_, h1, m, hm, h2⟩ := hvd.ent n0 (List.mem_of_getElem? hn0) e (entF_some he).1
  refine ⟨e, m, he, hle, hm, h2.symm, h1, ?_⟩
  rw [hle]
  exact node_asc hdq hq hvd.asc hm h2
theorem unlink_okay {f : Fls} (hv : FlsV f) (dir : Fil) (name : Str) : Okay f (unlinkL f dir name) := by
  unfold unlinkL
  split
  · rename_i h; exact okay_err h
  · rename_i hp
    split
    · rename_i h; exact okay_err h
    · rename_i hl
      split
      · exact okay_err (by decide)
      · rename_i hk
        intro _
        obtain ⟨q, i, d, n0, hdq, hq, hn0, hino, hidx, hnode, hk0, hnm⟩ := place_ok (name := name) (dir := dir) (f := f) (by omega)
        obtain ⟨e, m, he, hle, hm, h1, h2, h3⟩ := look_node hv hdq hq hn0 hnode hk0 (name := name) (by omega)
        have hvd := hv.vd d (List.mem_of_getElem? hq)
        have key := hvd.removed (List.mem_of_getElem? hn0) hm (hvd.leaf m hm fun h => hk ((dir_kind h3).2 h)).2 he h1
        refine ⟨?_, by dsimp only; exact onD_len _ _ _⟩
        dsimp only
        rw [hdq, Int.toNat_natCast, onD_set hq, show (lookL f dir name).1.2 = m.ino by rw [hle]; exact h1, ← hino]
        exact hv.set_ key
theorem rmdir_okay {f : Fls} (hv : FlsV f) (dir : Fil) (name : Str) : Okay f (rmdirL f dir name) := by
  unfold rmdirL
  split
  · rename_i h; exact okay_err h
  · rename_i hp
    split
    · rename_i h; exact okay_err h
    · rename_i hl
      split
      · exact okay_err (by decide)
      · rename_i hk
        split
        · exact okay_err (by decide)
        · rename_i hem
          intro _
          obtain ⟨q, i, d, n0, hdq, hq, hn0, hino, hidx, hnode, hk0, hnm⟩ := place_ok (name := name) (dir := dir) (f := f) (by omega)
          obtain ⟨e, m, he, hle, hm, h1, h2, h3⟩ := look_node hv hdq hq hn0 hnode hk0 (name := name) (by omega)
          have hvd := hv.vd d (List.mem_of_getElem? hq)
          have key := hvd.removed (List.mem_of_getElem? hn0) hm ((empty_len h3).1 (by simpa using hem)) he h1
          refine ⟨?_, by dsimp only; exact onD_len _ _ _⟩
          dsimp only
          rw [hdq, Int.toNat_natCast, onD_set hq, show (lookL f dir name).1.2 = m.ino by rw [hle]; exact h1, ← hino]
          exact hv.set_ key
theorem set_okay {f : Fls} (hv : FlsV f) (a : Fil) (mode uid gid : Int) : (setL05 f a mode uid gid).2 = 0 → FlsV (setL05 f a mode uid gid).1 ∧ (setL05 f a mode uid gid).1.length = f.length := by
  unfold setL05
  split
  · intro h; exact absurd h (by decide)
  · rename_i hh
    split
    · intro h; exact absurd h (by decide)
    · rename_i hp
      intro _
      obtain ⟨q, i, d, m, haq, hq, hm, hmi, hnm2, hng⟩ := at_ok (f := f) (a := a) (by simpa using hh)
      have hvd := hv.vd d (List.mem_of_getElem? hq)
      have key := hvd.attrs (List.mem_of_getElem? hm) mode uid gid (by rw [← hng]; simpa using hp)
      refine ⟨?_, by dsimp only; exact onD_len _ _ _⟩
      dsimp only
      rw [haq, Int.toNat_natCast, onD_set hq, ← hmi]
      exact hv.set_ key
theorem make_okay {f : Fls} (hv : FlsV f) (dir : Fil) (name : Str) (n : Nod) : Okay f (mkL f dir name n) := by
  unfold mkL
  split
  · rename_i h; exact okay_err h
  · rename_i hp
    split
    · exact okay_err (by decide)
    · rename_i hpl
      split
      · exact okay_err (by decide)
      · rename_i hl
        obtain ⟨q, i, d, n0, hdq, hq, hn0, hino, hidx, hnode, hk0, hnm⟩ := place_ok (name := name) (dir := dir) (f := f) (by omega)
        have hat : atI f dir.1 = some d := by rw [hdq, atI_nat, hq]
        rw [hat]
        simp only
        split
        · exact okay_err (by decide)
        · rename_i hc
          intro _
          have hvd := hv.vd d (List.mem_of_getElem? hq)
          have hnm2 := hvd.nextM
          have key := hvd.make (List.mem_of_getElem? hn0) hk0 hnm (look_no hnode hk0 hl).1 (n := n) (by simpa using hpl) (by omega) (by omega) (full_no hnode (fun h => hc (.inr (.inr h))))
          refine ⟨?_, by simp⟩
          dsimp only
          rw [hdq, Int.toNat_natCast, ← hino]
          exact hv.set_ key
theorem dropI_updI {ns : List Nod} {a o : Int} {g : Nod → Nod} (hi : ∀ n, (g n).ino = n.ino) (he : ∀ n, (g n).entries = n.entries) : dropI (updI ns a g) o = updI (dropI ns o) a g := by
  have hc : cntN o (updI ns a g) = cntN o ns := by
    unfold cntN
    congr 1
    unfold updI
    rw [List.flatMap_map]
    congr 1
    funext n
    split
    · rw [he]
    · rfl
  unfold dropI
  rw [hc]
  unfold updI
  rw [List.filter_map]
  congr 1
  apply List.filter_congr
  intro n _
  simp only [Function.comp]
  split
  · rw [hi]
  · rfl
theorem updI_same {ns : List Nod} {a : Int} {g : Nod → Nod} (h : ∀ n ∈ ns, n.ino = a → g n = n) : updI ns a g = ns := by
  unfold updI
  conv => rhs; rw [← List.map_id ns]
  apply List.map_congr_left
  intro n hn
  split
  · rename_i e; rw [h n hn e]; rfl
  · rfl
theorem updI_congr {ns : List Nod} {a : Int} {g g' : Nod → Nod} (h : ∀ n ∈ ns, n.ino = a → g n = g' n) : updI ns a g = updI ns a g' := by
  unfold updI
  apply List.map_congr_left
  intro n hn
  split
  · rename_i e; rw [h n hn e]
  · rfl
theorem bel_anc {f : Fls} {q : Nat} {d : Dvc} (hq : f[q]? = some d) (hd : Asc d.nodes) {top : Fil} (ht : top.1 = (q : Int)) : ∀ (k n : Nat) (a : Fil), k < n → a.1 = (q : Int) → AncN d.nodes k a.2 top.2 → belF f top n a = true
  | _, 0, _, h, _, _ => by omega
  | 0, n + 1, a, _, ha, hk => by
    have e : a.2 = top.2 := hk
    unfold belF
    rw [if_neg (by omega), if_pos (Prod.ext (by omega) e)]
  | k + 1, n + 1, a, h, ha, hk => by
    obtain ⟨m, hm, h1, h2, h3, h4⟩ := hk
    unfold belF
    rw [if_neg (by omega)]
    split
    · rfl
    · have hn := node_asc ha hq hd hm h1
      refine bel_anc hq hd ht k n _ (by omega) ha ?_
      simp only [nodG, hn, Option.getD_some]
      exact h4
theorem rename_okay {f : Fls} (hv : FlsV f) (src : Fil) (name : Str) (to : Fil) (name2 : Str) : Okay f (renameL f src name to name2) := by
  unfold renameL
  split
  · rename_i h; exact okay_err h
  · rename_i hord
    obtain ⟨hpl1, hpl2⟩ := ord_zero (f := f) (x := src) (y := to) (name := name) (name2 := name2) (by omega)
    split
    · rename_i h; exact okay_err h
    · rename_i hl1
      split
      · exact okay_err (by decide)
      · rename_i hdev
        split
        · exact okay_err (by decide)
        · rename_i hbel
          split
          · intro _; exact ⟨hv, rfl⟩
          · rename_i hsame
            split
            · rename_i h; exact okay_err h
            · rename_i hr2
              intro _
              obtain ⟨q, i, d, n1, hsq, hq, hn1, hn1i, hidx, hnode, hk1, hnm1⟩ := place_ok hpl1
              obtain ⟨q', i2, d', n2, htq, hq', hn2, hn2i, -, hnode2, hk2, hnm2⟩ := place_ok hpl2
              obtain rfl : q = q' := by omega
              obtain rfl : d = d' := Option.some.inj (hq.symm.trans hq')
              have hvd := hv.vd d (List.mem_of_getElem? hq)
              obtain ⟨e, m, he, hle, hm, hem, he1, hmn⟩ := look_node hv hsq hq hn1 hnode hk1 (name := name) (by omega)
              have hA2 : (lookL f src name).1.2 = m.ino := by rw [hle]; exact hem
              have hmoves : dirL f (lookL f src name).1 = true ↔ m.kind = 2 := dir_kind hmn
              have hanc : m.kind = 2 → ¬ Anc d.nodes n2.ino m.ino := by
                rintro hmk ⟨k, hk⟩
                have hlen := hvd.anc_len hm hk
                have := hvd.len
                refine hbel ⟨hmoves.2 hmk, bel_anc hq hvd.asc (top := (lookL f src name).1) (by rw [hle]; exact hsq) k 17 to (by omega) htq ?_⟩
                rw [hA2, ← hn2i]
                exact hk
              have hdiff : n1.ino = n2.ino → name ≠ name2 := by
                rintro h rfl
                have est : to = src := Prod.ext (by omega) (by omega)
                subst est
                exact hsame ⟨by omega, rfl⟩
              have ho : (entF n2.entries name2 = none ∧ (n2.entries.length < 12 ∨ n1.ino = n2.ino) ∧ (lookL f to name2).1.2 = 0) ∨ (∃ eo o, entF n2.entries name2 = some eo ∧ o ∈ d.nodes ∧ eo.2 = (lookL f to name2).1.2 ∧ o.ino = (lookL f to name2).1.2 ∧ (lookL f to name2).1.2 ≠ m.ino ∧ o.entries = []) := by
                have hr3 : ren2L f src to (lookL f src name).1 (lookL f to name2).1 (lookL f to name2).2 = 0 := by omega
                unfold ren2L at hr3
                by_cases h0 : (lookL f to name2).2 = 0
                · right
                  rw [if_pos h0] at hr3
                  obtain ⟨eo, o, heo, hleo, hom, heoi, heo1, hon⟩ := look_node hv htq hq hn2 hnode2 hk2 (name := name2) h0
                  have hO2 : (lookL f to name2).1.2 = eo.2 := by rw [hleo]
                  refine ⟨eo, o, heo, hom, hO2.symm, by rw [hO2, heoi], ?_, ?_⟩
                  · intro h
                    refine hsame ⟨h0, Prod.ext ?_ (h.trans hA2.symm)⟩
                    rw [hleo, hle]; exact htq.trans hsq.symm
                  · have hdo := dir_kind hon
                    by_cases hok : o.kind = 2
                    · rw [if_neg (fun h => by
                        rw [if_pos h] at hr3; exact absurd hr3 (by decide))] at hr3
                      rw [if_neg (fun h => by rw [hdo.2 hok] at h; exact absurd h.1 (by decide))] at hr3
                      split at hr3
                      · exact absurd hr3 (by decide)
                      · rename_i h5
                        refine (empty_len hon).1 ?_
                        cases hem2 : emptyL f (lookL f to name2).1 with
                        | true => rfl
                        | false => exact absurd ⟨hdo.2 hok, hem2⟩ h5
                    · exact (hvd.leaf o hom hok).2
                · left
                  rw [if_neg h0] at hr3
                  obtain ⟨h1, h2⟩ := look_no hnode2 hk2 h0
                  refine ⟨h1, ?_, by rw [h2]⟩
                  split at hr3
                  · exact absurd hr3 (by decide)
                  · rename_i h3
                    by_cases hfl : fullL f to = true
                    · right
                      have : src = to := Classical.byContradiction fun h => h3 ⟨hfl, h⟩
                      rw [hn1i, hn2i, this]
                    · left; exact full_no hnode2 hfl
              have key := hvd.renamed (List.mem_of_getElem? hn1) (List.mem_of_getElem? hn2) hm hk2 he hem hnm2 hdiff hanc ho
              refine ⟨?_, by dsimp only; exact onD_len _ _ _⟩
              dsimp only
              rw [htq, Int.toNat_natCast, onD_set hq]
              have hns : renPar (renNs d.nodes src name to name2 (lookL f src name).1 (lookL f to name2).1 (lookL f to name2).2) (lookL f src name).1.2 to.2 (dirL f (lookL f src name).1) = dropI (renD d.nodes n1.ino n2.ino name name2 m.ino) (lookL f to name2).1.2 := by
                rw [← renD_eq, hA2, ← hn2i]
                have hY : ∀ y ∈ entD (entD d.nodes n1.ino name 0) n2.ino name2 m.ino, y.ino = m.ino → y.kind = m.kind := by
                  intro y hy hyi
                  obtain ⟨y1, h1, w1⟩ := mem_entD hy
                  obtain ⟨y2, h2, w2⟩ := mem_entD h1
                  have : y2 = m := asc_eq hvd.asc h2 hm (by rw [← w2.ino, ← w1.ino]; exact hyi)
                  rw [w1.kind, w2.kind, this]
                have hpos : ∀ y ∈ entD (entD d.nodes n1.ino name 0) n2.ino name2 m.ino, 1 ≤ y.ino := by
                  intro y hy
                  obtain ⟨y1, h1, w1⟩ := mem_entD hy
                  obtain ⟨y2, h2, w2⟩ := mem_entD h1
                  rw [w1.ino, w2.ino]
                  exact hvd.pos h2
                have hset : dropI (updI (entD (entD d.nodes n1.ino name 0) n2.ino name2 m.ino) m.ino (setPar n2.ino)) (lookL f to name2).1.2 = updI (dropI (entD (entD d.nodes n1.ino name 0) n2.ino name2 m.ino) (lookL f to name2).1.2) m.ino (setPar n2.ino) := dropI_updI (fun n => by unfold setPar; split <;> rfl) (fun n => by unfold setPar; split <;> rfl)
                rw [hset]
                have hN : renNs d.nodes src name to name2 (lookL f src name).1 (lookL f to name2).1 (lookL f to name2).2 = dropI (entD (entD d.nodes n1.ino name 0) n2.ino name2 m.ino) (lookL f to name2).1.2 := by
                  unfold renNs
                  rw [hA2, ← hn1i, ← hn2i]
                  split
                  · rfl
                  · rename_i h0
                    rw [(look_no hnode2 hk2 h0).2]
                    unfold dropI
                    symm
                    rw [List.filter_eq_self]
                    intro y hy
                    have := hpos y hy
                    exact decide_eq_true (.inl (by show y.ino ≠ 0; omega))
                rw [hN]
                have hsub : ∀ y ∈ dropI (entD (entD d.nodes n1.ino name 0) n2.ino name2 m.ino) (lookL f to name2).1.2, y ∈ entD (entD d.nodes n1.ino name 0) n2.ino name2 m.ino := fun y hy => (mem_dropI.1 hy).1
                unfold renPar
                split
                · rename_i hmv
                  refine updI_congr fun y hy hyi => ?_
                  unfold setPar
                  rw [if_pos ((hY y (hsub y hy) hyi).trans (hmoves.1 hmv))]
                · rename_i hmv
                  refine (updI_same fun y hy hyi => ?_).symm
                  unfold setPar
                  rw [if_neg (fun h => hmv (hmoves.2 ((hY y (hsub y hy) hyi).symm.trans h)))]
              rw [hns]
              exact hv.set_ key
end Go.Proofs.Ytgliiknfmlmddaa
namespace Go.Proofs.Ytgliiknfmlmddaa
open Go.RowKit

def spcR (R : Spc × Int) : AV := .tup [.agg (spcA R.1), .v (.int .i64 R.2)]
def spc0 : Spc := ⟨[], []⟩
theorem sperr_le (e : Int) : LeA (.tup [.agg [.v (.slice none 0 0), .v (.slice none 0 0)], .v (.int .i64 e)]) (spcR (spc0, e)) := (by repeat (first | exact LeA.refl _ | exact LeA.nil _ | exact LeL.refl _ | refine LeA.agg ?_ | refine LeA.tup ?_ | exact LeL.nil | refine LeL.cons ?_ ?_ | exact LeA.any _))
def addL (s : Spc) (dev : Int) (a : Fil) : Spc × Int :=
  if dev < 1 ∨ (s.files.length : Int) ≤ dev then (spc0, 22) else if hasG s.files a = false then (spc0, 2) else if (nodG s.files a).kind ≠ 2 then (spc0, 20) else if mtdL s a.1 = false ∨ a.1 = dev then (spc0, 22) else
  if mtdL s dev = true ∨ (covL s a).isSome = true then (spc0, 16) else (⟨s.files, s.mounts ++ [(dev, a)]⟩, 0)
section
set_option maxRecDepth 10000
set_option maxHeartbeats 1000000
theorem RspcT (s : Spc) (hs : SpcB s) : AFnT Try.prog 40 [.agg (spcA s)] (fun g => .agg [.sl 2 (s.files.map dvcA) none, .sl 3 (s.mounts.map mntA) g]) (60, 3, s.mounts.map mntA) := by
  have hfew := hs.few
  refine enter Try.func40 rfl rfl rfl rfl rfl 0 rfl ?_
  refine p_sr (fun K hK => ?_)
  first | refine al_p rfl (s_boxA rfl rfl (by repeat constructor) ?_) | refine al_p rfl (s_box rfl rfl (by repeat constructor) ?_)
  refine al_p rfl (s_alloc (by repeat constructor) ?_)
  refine al_nil (x_then (hK _ ?_))
  clear hK K
  refine aw_seq (fun K hK => ?_)
  refine aw_draw (fun h => ∃ y, h.bx = [spcA s, y]) 8 (by kernel_rfl) ?_
  refine aa_t (i := 0) rfl rfl (by kernel_rfl) (by first | rfl | exact wan_y rfl rfl (beq_tt ‹_›) | exact wan_y rfl rfl (beq_ff ‹_›) | exact wan_y rfl rfl (by simp [*])) (fun h0 hS => st_fieldB rfl ⟨rfl, rfl⟩) ⟨_, rfl⟩ ?_
  first | refine aa_t (i := 1) rfl rfl (by kernel_rfl) (by first | rfl | exact wan_y rfl rfl (beq_tt ‹_›) | exact wan_y rfl rfl (beq_ff ‹_›) | exact wan_y rfl rfl (by simp [*])) (fun h0 hS => st_loadBE (row := spcA s) rfl (by obtain ⟨_, e⟩ := hS; rw [e]; rfl) (Nat.le_of_ble_eq_true rfl) rfl ⟨rfl, rfl⟩) ⟨_, rfl⟩ ?_ | refine aa_t (i := 1) rfl rfl (by kernel_rfl) (by first | rfl | exact wan_y rfl rfl (beq_tt ‹_›) | exact wan_y rfl rfl (beq_ff ‹_›) | exact wan_y rfl rfl (by simp [*])) (fun h0 hS => st_loadB1 (row := spcA s) rfl (by obtain ⟨_, e⟩ := hS; rw [e]; rfl) rfl ⟨rfl, rfl⟩) ⟨_, rfl⟩ ?_ | refine aa_t (i := 1) rfl rfl (by kernel_rfl) (by first | rfl | exact wan_y rfl rfl (beq_tt ‹_›) | exact wan_y rfl rfl (beq_ff ‹_›) | exact wan_y rfl rfl (by simp [*])) (fun h0 hS => st_loadBN rfl rfl rfl ⟨rfl, rfl⟩) ⟨_, rfl⟩ ?_
  refine aa_t (i := 3) rfl rfl (by kernel_rfl) (by first | rfl | exact wan_y rfl rfl (beq_tt ‹_›) | exact wan_y rfl rfl (beq_ff ‹_›) | exact wan_y rfl rfl (by simp [*])) (fun h0 hS => st_fieldB rfl ⟨rfl, rfl⟩) ⟨_, rfl⟩ ?_
  first | refine aa_t (i := 4) rfl rfl (by kernel_rfl) (by first | rfl | exact wan_y rfl rfl (beq_tt ‹_›) | exact wan_y rfl rfl (beq_ff ‹_›) | exact wan_y rfl rfl (by simp [*])) (fun h0 hS => st_loadBE (row := spcA s) rfl (by obtain ⟨_, e⟩ := hS; rw [e]; rfl) (Nat.le_of_ble_eq_true rfl) rfl ⟨rfl, rfl⟩) ⟨_, rfl⟩ ?_ | refine aa_t (i := 4) rfl rfl (by kernel_rfl) (by first | rfl | exact wan_y rfl rfl (beq_tt ‹_›) | exact wan_y rfl rfl (beq_ff ‹_›) | exact wan_y rfl rfl (by simp [*])) (fun h0 hS => st_loadB1 (row := spcA s) rfl (by obtain ⟨_, e⟩ := hS; rw [e]; rfl) rfl ⟨rfl, rfl⟩) ⟨_, rfl⟩ ?_ | refine aa_t (i := 4) rfl rfl (by kernel_rfl) (by first | rfl | exact wan_y rfl rfl (beq_tt ‹_›) | exact wan_y rfl rfl (beq_ff ‹_›) | exact wan_y rfl rfl (by simp [*])) (fun h0 hS => st_loadB1 rfl rfl rfl ⟨rfl, rfl⟩) ⟨_, rfl⟩ ?_
  refine aa_c (i := 2) rfl rfl (by kernel_rfl) (by first | rfl | exact wan_y rfl rfl (beq_tt ‹_›) | exact wan_y rfl rfl (beq_ff ‹_›) | exact wan_y rfl rfl (by simp [*])) (q_call (RcopyF s.files hs.files) ?_)
  rintro r rfl
  refine ⟨.inr ⟨_, rfl⟩, ?_⟩
  first | refine aa_c (i := 5) rfl rfl (by kernel_rfl) (by first | rfl | exact wan_y rfl rfl (beq_tt ‹_›) | exact wan_y rfl rfl (beq_ff ‹_›) | exact wan_y rfl rfl (by simp [*])) (s_append rfl rfl rfl (by simp; omega) (by repeat constructor) ?_) | refine aa_c (i := 5) rfl rfl (by kernel_rfl) (by first | rfl | exact wan_y rfl rfl (beq_tt ‹_›) | exact wan_y rfl rfl (beq_ff ‹_›) | exact wan_y rfl rfl (by simp [*])) (s_append0 rfl rfl (by simp; omega) (by repeat constructor) ?_)
  refine ⟨.inr ⟨_, rfl⟩, ?_⟩
  refine aa_t (i := 6) rfl rfl (by kernel_rfl) (by first | rfl | exact wan_y rfl rfl (beq_tt ‹_›) | exact wan_y rfl rfl (beq_ff ‹_›) | exact wan_y rfl rfl (by simp [*])) (fun h0 hS => st_build (by repeat (first | exact FillA.nil _ | (apply FillA.cons; (focus exact rfl); (focus exact rfl); (focus exact rfl); (focus exact rfl); (focus exact rfl); (focus (repeat constructor))))) ⟨rfl, rfl⟩) ⟨_, rfl⟩ ?_
  refine aa_c0 (i := 7) rfl (by kernel_rfl) (by first | rfl | exact wan_y rfl rfl (beq_tt ‹_›) | exact wan_y rfl rfl (beq_ff ‹_›) | exact wan_y rfl rfl (by simp [*])) (s_store rfl rfl rfl rfl rfl rfl (by repeat constructor) (by repeat constructor) ?_)
  refine ⟨.inr ⟨_, rfl⟩, ?_⟩
  refine aa_done (by kernel_rfl) ?_ _
  refine x_then ?_
  refine hK _ ?_
  clear hK K
  refine aw_ret ?_
  refine abody_ret (some 0) (by repeat (first | exact ResA.nil | (apply ResA.tmp; (focus exact rfl)) | (apply ResA.cellN; (focus exact inferInstance); (focus exact rfl); (focus exact rfl); (focus exact rfl)) | (apply ResA.cell1; (focus exact inferInstance); (focus exact rfl); (focus exact rfl); (focus exact rfl)))) rfl rfl rfl (LeA.refl _) ⟨rfl, rfl, rfl⟩

theorem Radd (s : Spc) (dev : Int) (a : Fil) (hs : SpcB s) : AFn Try.prog 16 [.agg (spcA s), .v (.int .i64 dev), .agg (filA a)] (fun r => r = spcR (addL s dev a)) := by
  have hfew := hs.few
  refine enter Try.func16 rfl rfl rfl rfl rfl 0 rfl ?_
  refine p_sr (fun K hK => ?_)
  first | refine al_p rfl (s_boxA rfl rfl (by repeat constructor) ?_) | refine al_p rfl (s_box rfl rfl (by repeat constructor) ?_)
  first | refine al_p rfl (s_boxA rfl rfl (by repeat constructor) ?_) | refine al_p rfl (s_box rfl rfl (by repeat constructor) ?_)
  refine al_p rfl (s_alloc (by repeat constructor) ?_)
  refine p_as ?_
  refine al_nil (x_then (hK _ ?_))
  clear hK K
  refine aw_seq (fun K hK => ?_)
  refine p_sr (fun K hK => ?_)
  refine p_mv ?_
  first | refine al_p rfl (st_lss rfl rfl ?_) | refine al_p rfl (st_lssS rfl rfl ?_)
  refine p_mv ?_
  refine al_gs false rfl rfl (fun hb1 => ?_) (fun hb1 => ?_)
  · have hc1 := bp hb1
    refine g_n ?_
    refine g_n ?_
    refine g_n ?_
    refine g_n ?_
    refine g_n ?_
    refine g_n ?_
    refine al_p rfl (p_t ?_)
    refine al_nil (x_then (hK _ ?_))
    clear hK K
    refine aw_cy rfl (by first | rfl | assumption | simp [*]) ?_
    refine p_sr (fun K hK => ?_)
    refine p_bd ?_
    refine p_st ?_
    refine p_as ?_
    refine al_nil (x_then (hK _ ?_))
    clear hK K
    refine aw_ret ?_
    refine x_thenR ?_
    clear hK K
    refine abody_ret (r := spcR (addL s dev a)) none (by repeat (first | exact ResA.nil | (apply ResA.tmp; (focus exact rfl)) | (apply ResA.cellN; (focus exact inferInstance); (focus exact rfl); (focus exact rfl); (focus exact rfl)) | (apply ResA.cell1; (focus exact inferInstance); (focus exact rfl); (focus exact rfl); (focus exact rfl)))) rfl rfl rfl ?_ ⟨rfl, rfl, rfl⟩
    rw [addL, if_pos (.inl hc1)]
    exact sperr_le _
  · have hc1 := bp hb1
    refine g_y (st_move rfl ?_)
    refine g_y (st_fieldB rfl ?_)
    refine g_y (st_fieldB rfl ?_)
    refine g_y (st_loadB1 rfl rfl rfl ?_)
    first | refine g_y (st_len rfl ?_) | refine g_y (st_lenS (by kernel_rfl) rfl ?_) | refine g_y (st_len0 rfl ?_)
    first | refine g_y (st_geq rfl rfl ?_) | refine g_y (st_geqS rfl rfl ?_)
    refine al_p rfl (p_f ?_)
    refine al_nil (x_then (hK _ ?_))
    clear hK K
    refine aw_cond rfl (fun hb2 => ?_) (fun hb2 => ?_)
    · have hc2 := bp hb2
      refine p_sr (fun K hK => ?_)
      refine p_bd ?_
      refine p_st ?_
      refine p_as ?_
      refine al_nil (x_then (hK _ ?_))
      clear hK K
      refine aw_ret ?_
      refine x_thenR ?_
      clear hK K
      refine abody_ret (r := spcR (addL s dev a)) none (by repeat (first | exact ResA.nil | (apply ResA.tmp; (focus exact rfl)) | (apply ResA.cellN; (focus exact inferInstance); (focus exact rfl); (focus exact rfl); (focus exact rfl)) | (apply ResA.cell1; (focus exact inferInstance); (focus exact rfl); (focus exact rfl); (focus exact rfl)))) rfl rfl rfl ?_ ⟨rfl, rfl, rfl⟩
      rw [addL, if_pos (.inr (by rw [List.length_map] at hc2; omega))]
      exact sperr_le _
    · have hc2 := bp hb2
      refine aw_skip ?_
      refine x_then ?_
      refine hK _ ?_
      clear hK K
      refine p_sr (fun K hK => ?_)
      refine al_p rfl (st_fieldB rfl ?_)
      refine al_p rfl (st_loadBN rfl rfl rfl ?_)
      refine al_p rfl (st_loadBW rfl rfl rfl ?_)
      refine al_p rfl (q_call (Rnode s.files a hs.files) ?_)
      rintro r rfl
      refine p_mv ?_
      refine al_p rfl (st_extract rfl rfl ?_)
      refine al_p rfl (st_extract rfl rfl ?_)
      refine al_p rfl (s_alloc (by repeat constructor) ?_)
      refine p_st ?_
      refine p_as ?_
      refine al_nil (x_then (hK _ ?_))
      clear hK K
      refine aw_seq (fun K hK => ?_)
      refine p_sr (fun K hK => ?_)
      refine p_mv ?_
      refine al_p rfl (st_not rfl ?_)
      refine al_nil (x_then (hK _ ?_))
      clear hK K
      refine aw_cond rfl (fun hb3 => ?_) (fun hb3 => ?_)
      · have hc3 := bp hb3
        refine p_sr (fun K hK => ?_)
        refine p_bd ?_
        refine p_st ?_
        refine p_as ?_
        refine al_nil (x_then (hK _ ?_))
        clear hK K
        refine aw_ret ?_
        refine x_thenR ?_
        clear hK K
        refine abody_ret (r := spcR (addL s dev a)) none (by repeat (first | exact ResA.nil | (apply ResA.tmp; (focus exact rfl)) | (apply ResA.cellN; (focus exact inferInstance); (focus exact rfl); (focus exact rfl); (focus exact rfl)) | (apply ResA.cell1; (focus exact inferInstance); (focus exact rfl); (focus exact rfl); (focus exact rfl)))) rfl rfl rfl ?_ ⟨rfl, rfl, rfl⟩
        rw [addL, if_neg (by rw [List.length_map] at hc2; omega), if_pos hc3]
        exact sperr_le _
      · have hc3 := bp hb3
        refine aw_skip ?_
        refine x_then ?_
        refine hK _ ?_
        clear hK K
        refine aw_seq (fun K hK => ?_)
        refine p_sr (fun K hK => ?_)
        refine al_p rfl (st_fieldB rfl ?_)
        refine al_p rfl (st_loadB1 rfl rfl rfl ?_)
        first | refine al_p rfl (st_neq rfl rfl ?_) | refine al_p rfl (st_neqS rfl rfl ?_) | refine al_p rfl (st_neqB (by kernel_rfl) rfl rfl ?_)
        refine al_nil (x_then (hK _ ?_))
        clear hK K
        refine aw_cond rfl (fun hb4 => ?_) (fun hb4 => ?_)
        · have hc4 := bp hb4
          refine p_sr (fun K hK => ?_)
          refine p_bd ?_
          refine p_st ?_
          refine p_as ?_
          refine al_nil (x_then (hK _ ?_))
          clear hK K
          refine aw_ret ?_
          refine x_thenR ?_
          clear hK K
          refine abody_ret (r := spcR (addL s dev a)) none (by repeat (first | exact ResA.nil | (apply ResA.tmp; (focus exact rfl)) | (apply ResA.cellN; (focus exact inferInstance); (focus exact rfl); (focus exact rfl); (focus exact rfl)) | (apply ResA.cell1; (focus exact inferInstance); (focus exact rfl); (focus exact rfl); (focus exact rfl)))) rfl rfl rfl ?_ ⟨rfl, rfl, rfl⟩
          rw [addL, if_neg (by rw [List.length_map] at hc2; omega), if_neg (by simp [hc3]), if_pos hc4]
          exact sperr_le _
        · have hc4 := bp hb4
          refine aw_skip ?_
          refine x_then ?_
          refine hK _ ?_
          clear hK K
          refine aw_seq (fun K hK => ?_)
          refine p_sr (fun K hK => ?_)
          refine al_p rfl (st_loadBW rfl rfl rfl ?_)
          refine al_p rfl (st_fieldB rfl ?_)
          refine al_p rfl (st_loadB1 rfl rfl rfl ?_)
          refine al_p rfl (q_call (Rmounted s a.1 hs) ?_)
          rintro r rfl
          refine al_p rfl (st_not rfl ?_)
          refine p_mv ?_
          refine al_gs false rfl rfl (fun hb5 => ?_) (fun hb5 => ?_)
          · have hc5 := bp hb5
            refine g_n ?_
            refine g_n ?_
            refine g_n ?_
            refine g_n ?_
            refine al_p rfl (p_t ?_)
            refine al_nil (x_then (hK _ ?_))
            clear hK K
            refine aw_cy rfl (by first | rfl | assumption | simp [*]) ?_
            refine p_sr (fun K hK => ?_)
            refine p_bd ?_
            refine p_st ?_
            refine p_as ?_
            refine al_nil (x_then (hK _ ?_))
            clear hK K
            refine aw_ret ?_
            refine x_thenR ?_
            clear hK K
            refine abody_ret (r := spcR (addL s dev a)) none (by repeat (first | exact ResA.nil | (apply ResA.tmp; (focus exact rfl)) | (apply ResA.cellN; (focus exact inferInstance); (focus exact rfl); (focus exact rfl); (focus exact rfl)) | (apply ResA.cell1; (focus exact inferInstance); (focus exact rfl); (focus exact rfl); (focus exact rfl)))) rfl rfl rfl ?_ ⟨rfl, rfl, rfl⟩
            rw [addL, if_neg (by rw [List.length_map] at hc2; omega), if_neg (by simp [hc3]), if_neg (by simp [hc4]), if_pos (.inl hc5)]
            exact sperr_le _
          · have hc5 := bp hb5
            refine g_y (st_fieldB rfl ?_)
            refine g_y (st_loadB1 rfl rfl rfl ?_)
            refine g_y (st_move rfl ?_)
            first | refine g_y (st_eql rfl rfl ?_) | refine g_y (st_eqlS rfl rfl ?_) | refine g_y (st_eqlB (by kernel_rfl) rfl rfl ?_)
            refine al_p rfl (p_f ?_)
            refine al_nil (x_then (hK _ ?_))
            clear hK K
            refine aw_cond rfl (fun hb6 => ?_) (fun hb6 => ?_)
            · have hc6 := bp hb6
              refine p_sr (fun K hK => ?_)
              refine p_bd ?_
              refine p_st ?_
              refine p_as ?_
              refine al_nil (x_then (hK _ ?_))
              clear hK K
              refine aw_ret ?_
              refine x_thenR ?_
              clear hK K
              refine abody_ret (r := spcR (addL s dev a)) none (by repeat (first | exact ResA.nil | (apply ResA.tmp; (focus exact rfl)) | (apply ResA.cellN; (focus exact inferInstance); (focus exact rfl); (focus exact rfl); (focus exact rfl)) | (apply ResA.cell1; (focus exact inferInstance); (focus exact rfl); (focus exact rfl); (focus exact rfl)))) rfl rfl rfl ?_ ⟨rfl, rfl, rfl⟩
              rw [addL, if_neg (by rw [List.length_map] at hc2; omega), if_neg (by simp [hc3]), if_neg (by simp [hc4]), if_pos (.inr hc6)]
              exact sperr_le _
            · have hc6 := bp hb6
              refine aw_skip ?_
              refine x_then ?_
              refine hK _ ?_
              clear hK K
              refine aw_seq (fun K hK => ?_)
              refine p_sr (fun K hK => ?_)
              refine al_p rfl (st_loadBW rfl rfl rfl ?_)
              refine p_mv ?_
              refine al_p rfl (q_call (Rmounted s dev hs) ?_)
              rintro r rfl
              refine p_mv ?_
              refine al_gs false rfl rfl (fun hb7 => ?_) (fun hb7 => ?_)
              · have hc7 := bp hb7
                refine g_n ?_
                refine g_n ?_
                refine g_n ?_
                refine al_p rfl (p_t ?_)
                refine al_nil (x_then (hK _ ?_))
                clear hK K
                refine aw_cy rfl (by first | rfl | assumption | simp [*]) ?_
                refine p_sr (fun K hK => ?_)
                refine p_bd ?_
                refine p_st ?_
                refine p_as ?_
                refine al_nil (x_then (hK _ ?_))
                clear hK K
                refine aw_ret ?_
                refine x_thenR ?_
                clear hK K
                refine abody_ret (r := spcR (addL s dev a)) none (by repeat (first | exact ResA.nil | (apply ResA.tmp; (focus exact rfl)) | (apply ResA.cellN; (focus exact inferInstance); (focus exact rfl); (focus exact rfl); (focus exact rfl)) | (apply ResA.cell1; (focus exact inferInstance); (focus exact rfl); (focus exact rfl); (focus exact rfl)))) rfl rfl rfl ?_ ⟨rfl, rfl, rfl⟩
                rw [addL, if_neg (by rw [List.length_map] at hc2; omega), if_neg (by simp [hc3]), if_neg (by simp [hc4]), if_neg (by simp [hc5, hc6]), if_pos (.inl hc7)]
                exact sperr_le _
              · have hc7 := bp hb7
                refine g_y (st_loadBW rfl rfl rfl ?_)
                refine g_y (st_loadBW rfl rfl rfl ?_)
                refine g_y (q_call (Rcovered s a hs) ?_)
                rintro r rfl
                refine al_p rfl (p_f ?_)
                refine al_nil (x_then (hK _ ?_))
                clear hK K
                refine aw_cond rfl (fun hb8 => ?_) (fun hb8 => ?_)
                · have hc8 := bp hb8
                  refine p_sr (fun K hK => ?_)
                  refine p_bd ?_
                  refine p_st ?_
                  refine p_as ?_
                  refine al_nil (x_then (hK _ ?_))
                  clear hK K
                  refine aw_ret ?_
                  refine x_thenR ?_
                  clear hK K
                  refine abody_ret (r := spcR (addL s dev a)) none (by repeat (first | exact ResA.nil | (apply ResA.tmp; (focus exact rfl)) | (apply ResA.cellN; (focus exact inferInstance); (focus exact rfl); (focus exact rfl); (focus exact rfl)) | (apply ResA.cell1; (focus exact inferInstance); (focus exact rfl); (focus exact rfl); (focus exact rfl)))) rfl rfl rfl ?_ ⟨rfl, rfl, rfl⟩
                  rw [addL, if_neg (by rw [List.length_map] at hc2; omega), if_neg (by simp [hc3]), if_neg (by simp [hc4]), if_neg (by simp [hc5, hc6]), if_pos (.inr hc8)]
                  exact sperr_le _
                · have hc8 := bp hb8
                  refine aw_skip ?_
                  refine x_then ?_
                  refine hK _ ?_
                  clear hK K
                  refine p_sr (fun K hK => ?_)
                  refine al_p rfl (st_loadBW rfl rfl rfl ?_)
                  refine al_p rfl (s_callT rfl (by repeat (first | exact Args.nil | refine Args.cons _ _ _ _ _ rfl (argOk_clean rfl) ?_ | refine Args.cons _ _ _ _ _ rfl (argOk_nil _) ?_ | refine Args.cons _ _ _ _ _ rfl (argOk_era _) ?_ | refine Args.cons _ _ _ _ _ rfl (argOk_le rfl (by repeat (first | exact LeA.refl _ | exact LeA.nil _ | exact LeL.refl _ | refine LeA.agg ?_ | refine LeA.tup ?_ | exact LeL.nil | refine LeL.cons ?_ ?_ | exact LeA.any _))) ?_)) (RspcT s hs) (fun _ => rfl) (by repeat constructor) ?_)
                  refine al_p rfl (s_alloc (by repeat constructor) ?_)
                  refine p_st ?_
                  refine al_nil (x_then (hK _ ?_))
                  clear hK K
                  refine p_sr (fun K hK => ?_)
                  refine al_p rfl (st_fieldB rfl ?_)
                  refine al_p rfl (st_loadB1 rfl rfl rfl ?_)
                  refine p_mv ?_
                  refine al_p rfl (st_loadBW rfl rfl rfl ?_)
                  refine p_bd ?_
                  refine al_p rfl (st_slit (by repeat (first | exact DenseA.nil _ | (apply DenseA.cons; (focus exact rfl); (focus exact rfl); (focus exact rfl); (focus exact rfl)) | (apply DenseA.consE; (focus exact rfl); (focus exact rfl); (focus exact rfl)))) rfl rfl rfl rfl ?_)
                  first | refine al_p rfl (s_append rfl rfl rfl (by simp; omega) (by repeat constructor) ?_) | refine al_p rfl (s_append0 rfl rfl (by simp; omega) (by repeat constructor) ?_)
                  refine al_p rfl (st_fieldB rfl ?_)
                  refine p_st ?_
                  refine al_nil (x_then (hK _ ?_))
                  clear hK K
                  refine p_sr (fun K hK => ?_)
                  refine al_p rfl (st_loadBW rfl rfl rfl ?_)
                  refine p_st ?_
                  refine p_as ?_
                  refine al_nil (x_then (hK _ ?_))
                  clear hK K
                  refine aw_ret ?_
                  refine e_ret ?_
                  rw [addL, if_neg (by rw [List.length_map] at hc2; omega), if_neg (by simp [hc3]), if_neg (by simp [hc4]), if_neg (by simp [hc5, hc6]), if_neg (by simp [hc7, hc8])]
                  simp only [spcR, spcA, List.map_append]
                  rfl

end
end Go.Proofs.Ytgliiknfmlmddaa
namespace Go.Proofs.Ytgliiknfmlmddaa
open Go.RowKit

theorem tmod_rng (z : Int) {n : Int} (h : 1 ≤ n) : -n < z.tmod n ∧ z.tmod n < n := ⟨Int.lt_tmod_of_pos z (by omega), Int.tmod_lt_of_pos z (by omega)⟩
theorem size_app (a b : ByteArray) : (a ++ b).size = a.size + b.size := ByteArray.size_append
section
set_option maxRecDepth 10000
set_option maxHeartbeats 1000000
theorem Gnew (l : List Int) : ACall Try.prog 11 [.sl 1 (l.map intA) none] [] (fun r b t => r = .bp 0 0 ∧ b = [srcA l 0] ∧ t = []) := by
  refine enter Try.func11 rfl rfl rfl rfl rfl 1 rfl ?_
  refine p_sr (fun K hK => ?_)
  refine p_as ?_
  refine al_nil (x_then (hK _ ?_))
  clear hK K
  refine p_sr (fun K hK => ?_)
  refine p_mv ?_
  refine p_bd ?_
  first | refine al_p rfl (s_boxA rfl rfl (by repeat constructor) ?_) | refine al_p rfl (s_box rfl rfl (by repeat constructor) ?_)
  refine p_as ?_
  refine al_nil (x_then (hK _ ?_))
  clear hK K
  refine aw_ret ?_
  refine abody_ret none (by repeat (first | exact ResA.nil | (apply ResA.tmp; (focus exact rfl)) | (apply ResA.cellN; (focus exact inferInstance); (focus exact rfl); (focus exact rfl); (focus exact rfl)) | (apply ResA.cell1; (focus exact inferInstance); (focus exact rfl); (focus exact rfl); (focus exact rfl)))) rfl rfl rfl (LeA.refl _) ⟨rfl, rfl, rfl⟩

theorem Gn (l : List Int) (a : Nat) (n : Int) (ha : a ≤ 1000000000000) (hn : n ≤ 1000000000000) : GenF Try.prog 41 l a [.v (.int .i64 n)] 1 (fun r => ∃ k : Int, r = .v (.int .i64 k) ∧ 0 ≤ k ∧ (1 ≤ n → k < n) ∧ (n < 1 → k = 0)) := by
  refine enter Try.func41 rfl rfl rfl rfl rfl 1 rfl ?_
  refine p_sr (fun K hK => ?_)
  refine p_as ?_
  refine al_nil (x_then (hK _ ?_))
  clear hK K
  refine aw_seq (fun K hK => ?_)
  refine p_sr (fun K hK => ?_)
  refine p_mv ?_
  first | refine al_p rfl (st_lss rfl rfl ?_) | refine al_p rfl (st_lssS rfl rfl ?_)
  refine al_nil (x_then (hK _ ?_))
  clear hK K
  refine aw_cond rfl (fun hb1 => ?_) (fun hb1 => ?_)
  · have hc1 := bp hb1
    refine p_sr (fun K hK => ?_)
    refine p_as ?_
    refine al_nil (x_then (hK _ ?_))
    clear hK K
    refine aw_ret ?_
    refine x_thenR ?_
    clear hK K
    refine abody_ret none (by repeat (first | exact ResA.nil | (apply ResA.tmp; (focus exact rfl)) | (apply ResA.cellN; (focus exact inferInstance); (focus exact rfl); (focus exact rfl); (focus exact rfl)) | (apply ResA.cell1; (focus exact inferInstance); (focus exact rfl); (focus exact rfl); (focus exact rfl)))) rfl rfl rfl (LeA.refl _) ⟨_, rfl, rfl, a, by omega, rfl, 0, rfl, by omega, by omega, by omega⟩
  · have hc1 := bp hb1
    refine aw_skip ?_
    refine x_then ?_
    refine hK _ ?_
    clear hK K
    refine p_sr (fun K hK => ?_)
    refine p_mv ?_
    first | refine al_p rfl (st_nilB rfl ?_) | refine al_p rfl (st_nilF rfl ?_)
    first | refine al_p rfl (st_fieldB rfl ?_) | refine al_p rfl (st_fieldF rfl ?_)
    first | refine al_p rfl (st_loadB1 rfl rfl rfl ?_) | refine al_p rfl (st_loadBW rfl rfl rfl ?_) | refine al_p rfl (st_loadF1 rfl rfl ?_) | refine al_p rfl (st_loadFW rfl rfl ?_) | refine al_p rfl (st_loadBN rfl rfl rfl ?_) | refine al_p rfl (st_loadFN rfl rfl ?_)
    first | refine al_p rfl (st_add64 rfl rfl (by omega) ?_) | refine al_p rfl (st_addS rfl rfl (by omega) ?_) | refine al_p rfl (st_add rfl rfl ?_)
    first | refine al_p rfl (st_nilB rfl ?_) | refine al_p rfl (st_nilF rfl ?_)
    first | refine al_p rfl (st_fieldB rfl ?_) | refine al_p rfl (st_fieldF rfl ?_)
    refine p_st ?_
    refine al_nil (x_then (hK _ ?_))
    clear hK K
    refine p_sr (fun K hK => ?_)
    refine p_mv ?_
    first | refine al_p rfl (st_nilB rfl ?_) | refine al_p rfl (st_nilF rfl ?_)
    first | refine al_p rfl (st_fieldB rfl ?_) | refine al_p rfl (st_fieldF rfl ?_)
    first | refine al_p rfl (st_loadB1 rfl rfl rfl ?_) | refine al_p rfl (st_loadBW rfl rfl rfl ?_) | refine al_p rfl (st_loadF1 rfl rfl ?_) | refine al_p rfl (st_loadFW rfl rfl ?_) | refine al_p rfl (st_loadBN rfl rfl rfl ?_) | refine al_p rfl (st_loadFN rfl rfl ?_)
    refine al_p rfl (st_mul rfl rfl ?_)
    refine p_as ?_
    refine al_nil (x_then (hK _ ?_))
    clear hK K
    refine aw_seq (fun K hK => ?_)
    refine aw_seq (fun K hK => ?_)
    refine aw_drawR 10 (by kernel_rfl) ?_
    refine r_y (i := 0) rfl (st_move rfl ⟨rfl, rfl⟩) ?_
    first | refine r_y (i := 1) rfl (st_nilB rfl ⟨rfl, rfl⟩) ?_ | refine r_y (i := 1) rfl (st_nilF rfl ⟨rfl, rfl⟩) ?_
    first | refine r_y (i := 2) rfl (st_fieldB rfl ⟨rfl, rfl⟩) ?_ | refine r_y (i := 2) rfl (st_fieldF rfl ⟨rfl, rfl⟩) ?_
    first | refine r_y (i := 3) rfl (st_loadB1 rfl rfl rfl ⟨rfl, rfl⟩) ?_ | refine r_y (i := 3) rfl (st_loadBW rfl rfl rfl ⟨rfl, rfl⟩) ?_ | refine r_y (i := 3) rfl (st_loadF1 rfl rfl ⟨rfl, rfl⟩) ?_ | refine r_y (i := 3) rfl (st_loadFW rfl rfl ⟨rfl, rfl⟩) ?_ | refine r_y (i := 3) rfl (st_loadBN rfl rfl rfl ⟨rfl, rfl⟩) ?_ | refine r_y (i := 3) rfl (st_loadFN rfl rfl ⟨rfl, rfl⟩) ?_
    refine r_y (i := 4) rfl (st_move rfl ⟨rfl, rfl⟩) ?_
    first | refine r_y (i := 5) rfl (st_nilB rfl ⟨rfl, rfl⟩) ?_ | refine r_y (i := 5) rfl (st_nilF rfl ⟨rfl, rfl⟩) ?_
    first | refine r_y (i := 6) rfl (st_fieldB rfl ⟨rfl, rfl⟩) ?_ | refine r_y (i := 6) rfl (st_fieldF rfl ⟨rfl, rfl⟩) ?_
    first | refine r_y (i := 7) rfl (st_loadB1 rfl rfl rfl ⟨rfl, rfl⟩) ?_ | refine r_y (i := 7) rfl (st_loadBW rfl rfl rfl ⟨rfl, rfl⟩) ?_ | refine r_y (i := 7) rfl (st_loadF1 rfl rfl ⟨rfl, rfl⟩) ?_ | refine r_y (i := 7) rfl (st_loadFW rfl rfl ⟨rfl, rfl⟩) ?_ | refine r_y (i := 7) rfl (st_loadBN rfl rfl rfl ⟨rfl, rfl⟩) ?_ | refine r_y (i := 7) rfl (st_loadFN rfl rfl ⟨rfl, rfl⟩) ?_
    first | refine r_y (i := 8) rfl (st_len rfl ⟨rfl, rfl⟩) ?_ | refine r_y (i := 8) rfl (st_lenS (by kernel_rfl) rfl ⟨rfl, rfl⟩) ?_ | refine r_y (i := 8) rfl (st_len0 rfl ⟨rfl, rfl⟩) ?_
    refine r_y (i := 9) rfl (st_leq rfl rfl ⟨rfl, rfl⟩) ?_
    refine aa_done (by kernel_rfl) ?_ _
    refine x_then ?_
    refine hK _ ?_
    clear hK K
    refine aw_cond rfl (fun hb2 => ?_) (fun hb2 => ?_)
    · have hc2 := bp hb2
      have hlt : a < l.length := by simp at hc2; omega
      obtain ⟨z, hz⟩ : ∃ z, (l.map intA)[a]? = some (intA z) := ⟨l[a], by simp [hlt]⟩
      have tz := tmod_rng z (n := n) (by omega)
      refine aw_drawR 12 (by kernel_rfl) ?_
      refine r_y (i := 0) rfl (st_move rfl ⟨rfl, rfl⟩) ?_
      first | refine r_y (i := 1) rfl (st_nilB rfl ⟨rfl, rfl⟩) ?_ | refine r_y (i := 1) rfl (st_nilF rfl ⟨rfl, rfl⟩) ?_
      first | refine r_y (i := 2) rfl (st_fieldB rfl ⟨rfl, rfl⟩) ?_ | refine r_y (i := 2) rfl (st_fieldF rfl ⟨rfl, rfl⟩) ?_
      first | refine r_y (i := 3) rfl (st_loadB1 rfl rfl rfl ⟨rfl, rfl⟩) ?_ | refine r_y (i := 3) rfl (st_loadBW rfl rfl rfl ⟨rfl, rfl⟩) ?_ | refine r_y (i := 3) rfl (st_loadF1 rfl rfl ⟨rfl, rfl⟩) ?_ | refine r_y (i := 3) rfl (st_loadFW rfl rfl ⟨rfl, rfl⟩) ?_ | refine r_y (i := 3) rfl (st_loadBN rfl rfl rfl ⟨rfl, rfl⟩) ?_ | refine r_y (i := 3) rfl (st_loadFN rfl rfl ⟨rfl, rfl⟩) ?_
      refine r_y (i := 4) rfl (st_move rfl ⟨rfl, rfl⟩) ?_
      first | refine r_y (i := 5) rfl (st_nilB rfl ⟨rfl, rfl⟩) ?_ | refine r_y (i := 5) rfl (st_nilF rfl ⟨rfl, rfl⟩) ?_
      first | refine r_y (i := 6) rfl (st_fieldB rfl ⟨rfl, rfl⟩) ?_ | refine r_y (i := 6) rfl (st_fieldF rfl ⟨rfl, rfl⟩) ?_
      first | refine r_y (i := 7) rfl (st_loadB1 rfl rfl rfl ⟨rfl, rfl⟩) ?_ | refine r_y (i := 7) rfl (st_loadBW rfl rfl rfl ⟨rfl, rfl⟩) ?_ | refine r_y (i := 7) rfl (st_loadF1 rfl rfl ⟨rfl, rfl⟩) ?_ | refine r_y (i := 7) rfl (st_loadFW rfl rfl ⟨rfl, rfl⟩) ?_ | refine r_y (i := 7) rfl (st_loadBN rfl rfl rfl ⟨rfl, rfl⟩) ?_ | refine r_y (i := 7) rfl (st_loadFN rfl rfl ⟨rfl, rfl⟩) ?_
      first | refine r_y (i := 8) rfl (st_sub64 rfl rfl (by omega) ⟨rfl, rfl⟩) ?_ | refine r_y (i := 8) rfl (st_sub rfl rfl ⟨rfl, rfl⟩) ?_
      refine r_y (i := 9) rfl (st_index (n := a) rfl rfl (by omega) hz ⟨rfl, rfl⟩) ?_
      refine r_y (i := 10) rfl (st_loadF1 rfl rfl ⟨rfl, rfl⟩) ?_
      refine r_y (i := 11) rfl (st_assign rfl ⟨rfl, rfl⟩) ?_
      refine aa_done (by kernel_rfl) ?_ _
      refine x_then ?_
      refine hK _ ?_
      clear hK K
      refine p_sr (fun K hK => ?_)
      refine p_mv ?_
      refine p_mv ?_
      refine al_p rfl (st_rem rfl rfl (by omega) ?_)
      refine p_as ?_
      refine al_nil (x_then (hK _ ?_))
      clear hK K
      refine aw_seq (fun K hK => ?_)
      refine p_sr (fun K hK => ?_)
      refine p_mv ?_
      first | refine al_p rfl (st_lss rfl rfl ?_) | refine al_p rfl (st_lssS rfl rfl ?_)
      refine al_nil (x_then (hK _ ?_))
      clear hK K
      refine aw_cond rfl (fun hb3 => ?_) (fun hb3 => ?_)
      · have hc3 := bp hb3
        refine aw_region ?_
        refine p_mv ?_
        refine p_mv ?_
        refine al_p rfl (st_add64 rfl rfl (by omega) ?_)
        refine p_as ?_
        refine al_nil (x_then (hK _ ?_))
        clear hK K
        refine p_sr (fun K hK => ?_)
        refine p_mv ?_
        refine p_as ?_
        refine al_nil (x_then (hK _ ?_))
        clear hK K
        refine aw_ret ?_
        refine abody_ret none (by repeat (first | exact ResA.nil | (apply ResA.tmp; (focus exact rfl)) | (apply ResA.cellN; (focus exact inferInstance); (focus exact rfl); (focus exact rfl); (focus exact rfl)) | (apply ResA.cell1; (focus exact inferInstance); (focus exact rfl); (focus exact rfl); (focus exact rfl)))) rfl rfl rfl (LeA.refl _) ⟨_, rfl, rfl, a + 1, by omega, rfl, _, rfl, by omega, by omega, by omega⟩
      · have hc3 := bp hb3
        refine aw_skip ?_
        refine x_then ?_
        refine hK _ ?_
        clear hK K
        refine p_sr (fun K hK => ?_)
        refine p_mv ?_
        refine p_as ?_
        refine al_nil (x_then (hK _ ?_))
        clear hK K
        refine aw_ret ?_
        refine abody_ret none (by repeat (first | exact ResA.nil | (apply ResA.tmp; (focus exact rfl)) | (apply ResA.cellN; (focus exact inferInstance); (focus exact rfl); (focus exact rfl); (focus exact rfl)) | (apply ResA.cell1; (focus exact inferInstance); (focus exact rfl); (focus exact rfl); (focus exact rfl)))) rfl rfl rfl (LeA.refl _) ⟨_, rfl, rfl, a + 1, by omega, rfl, _, rfl, by omega, by omega, by omega⟩
    · have hc2 := bp hb2
      have tz := tmod_rng (IntKind.i64.wrap (((a : Int) + 1) * 7)) (n := n) (by omega)
      refine aw_skip ?_
      refine x_then ?_
      refine hK _ ?_
      clear hK K
      refine p_sr (fun K hK => ?_)
      refine p_mv ?_
      refine p_mv ?_
      refine al_p rfl (st_rem rfl rfl (by omega) ?_)
      refine p_as ?_
      refine al_nil (x_then (hK _ ?_))
      clear hK K
      refine aw_seq (fun K hK => ?_)
      refine p_sr (fun K hK => ?_)
      refine p_mv ?_
      first | refine al_p rfl (st_lss rfl rfl ?_) | refine al_p rfl (st_lssS rfl rfl ?_)
      refine al_nil (x_then (hK _ ?_))
      clear hK K
      refine aw_cond rfl (fun hb4 => ?_) (fun hb4 => ?_)
      · have hc4 := bp hb4
        refine aw_region ?_
        refine p_mv ?_
        refine p_mv ?_
        refine al_p rfl (st_add64 rfl rfl (by omega) ?_)
        refine p_as ?_
        refine al_nil (x_then (hK _ ?_))
        clear hK K
        refine p_sr (fun K hK => ?_)
        refine p_mv ?_
        refine p_as ?_
        refine al_nil (x_then (hK _ ?_))
        clear hK K
        refine aw_ret ?_
        refine abody_ret none (by repeat (first | exact ResA.nil | (apply ResA.tmp; (focus exact rfl)) | (apply ResA.cellN; (focus exact inferInstance); (focus exact rfl); (focus exact rfl); (focus exact rfl)) | (apply ResA.cell1; (focus exact inferInstance); (focus exact rfl); (focus exact rfl); (focus exact rfl)))) rfl rfl rfl (LeA.refl _) ⟨_, rfl, rfl, a + 1, by omega, rfl, _, rfl, by omega, by omega, by omega⟩
      · have hc4 := bp hb4
        refine aw_skip ?_
        refine x_then ?_
        refine hK _ ?_
        clear hK K
        refine p_sr (fun K hK => ?_)
        refine p_mv ?_
        refine p_as ?_
        refine al_nil (x_then (hK _ ?_))
        clear hK K
        refine aw_ret ?_
        refine abody_ret none (by repeat (first | exact ResA.nil | (apply ResA.tmp; (focus exact rfl)) | (apply ResA.cellN; (focus exact inferInstance); (focus exact rfl); (focus exact rfl); (focus exact rfl)) | (apply ResA.cell1; (focus exact inferInstance); (focus exact rfl); (focus exact rfl); (focus exact rfl)))) rfl rfl rfl (LeA.refl _) ⟨_, rfl, rfl, a + 1, by omega, rfl, _, rfl, by omega, by omega, by omega⟩

theorem Grange (l : List Int) (a : Nat) (lo hi : Int) (ha : a ≤ 1000000000000) (h1 : -1000000 ≤ lo) (h2 : lo ≤ hi) (h3 : hi ≤ 1000000) : GenF Try.prog 13 l a [.v (.int .i64 lo), .v (.int .i64 hi)] 1 (fun r => ∃ k : Int, r = .v (.int .i64 k) ∧ lo ≤ k ∧ k ≤ hi) := by
  refine enter Try.func13 rfl rfl rfl rfl rfl 1 rfl ?_
  refine p_sr (fun K hK => ?_)
  refine p_as ?_
  refine al_nil (x_then (hK _ ?_))
  clear hK K
  refine p_sr (fun K hK => ?_)
  refine p_mv ?_
  refine p_mv ?_
  refine p_mv ?_
  refine p_mv ?_
  first | refine al_p rfl (st_sub64 rfl rfl (by omega) ?_) | refine al_p rfl (st_sub rfl rfl ?_)
  first | refine al_p rfl (st_add64 rfl rfl (by omega) ?_) | refine al_p rfl (st_addS rfl rfl (by omega) ?_) | refine al_p rfl (st_add rfl rfl ?_)
  refine al_p rfl (s_gen 0 (hc := Gn l a (hi - lo + 1) ha (by omega)) (hR := ?_))
  rintro r a1 ha1 ⟨k, rfl, k1, k2, k3⟩
  refine ⟨rfl, _, (by repeat constructor), ?_⟩
  first | refine al_p rfl (st_add64 rfl rfl (by omega) ?_) | refine al_p rfl (st_addS rfl rfl (by omega) ?_) | refine al_p rfl (st_add rfl rfl ?_)
  refine p_as ?_
  refine al_nil (x_then (hK _ ?_))
  clear hK K
  refine aw_ret ?_
  refine abody_ret none (by repeat (first | exact ResA.nil | (apply ResA.tmp; (focus exact rfl)) | (apply ResA.cellN; (focus exact inferInstance); (focus exact rfl); (focus exact rfl); (focus exact rfl)) | (apply ResA.cell1; (focus exact inferInstance); (focus exact rfl); (focus exact rfl); (focus exact rfl)))) rfl rfl rfl (LeA.refl _) ⟨_, rfl, rfl, a1, by omega, rfl, _, rfl, by omega, by omega⟩

theorem Gpick (l : List Int) (a : Nat) (rows : List (List AV)) (p : Int → Bool) (ha : a ≤ 1000000000000) (h0 : Nat.blt 0 rows.length = true) (h1 : Nat.ble rows.length 1000 = true) (hp : allI p rows = true) : GenF Try.prog 114 l a [.sl 1 rows none] 1 (fun r => ∃ z : Int, r = .v (.int .i64 z) ∧ p z = true) := by
  have h0' : 0 < rows.length := Nat.le_of_ble_eq_true h0
  have h1' : rows.length ≤ 1000 := Nat.le_of_ble_eq_true h1
  refine enter Try.func114 rfl rfl rfl rfl rfl 1 rfl ?_
  refine p_sr (fun K hK => ?_)
  refine p_as ?_
  refine al_nil (x_then (hK _ ?_))
  clear hK K
  refine p_sr (fun K hK => ?_)
  refine p_mv ?_
  refine p_mv ?_
  refine p_mv ?_
  first | refine al_p rfl (st_len rfl ?_) | refine al_p rfl (st_lenS (by kernel_rfl) rfl ?_) | refine al_p rfl (st_len0 rfl ?_)
  refine al_p rfl (s_gen 0 (hc := Gn l a rows.length ha (by omega)) (hR := ?_))
  rintro r a1 ha1 ⟨k, rfl, k1, k2, k3⟩
  refine ⟨rfl, _, (by repeat constructor), ?_⟩
  obtain ⟨m, rfl⟩ := Int.eq_ofNat_of_zero_le k1
  obtain ⟨z, hz, pz⟩ := allI_get hp (i := m) (by omega)
  refine al_p rfl (st_index (n := m) rfl rfl rfl hz ?_)
  first | refine al_p rfl (st_loadB1 rfl rfl rfl ?_) | refine al_p rfl (st_loadBW rfl rfl rfl ?_) | refine al_p rfl (st_loadF1 rfl rfl ?_) | refine al_p rfl (st_loadFW rfl rfl ?_) | refine al_p rfl (st_loadBN rfl rfl rfl ?_) | refine al_p rfl (st_loadFN rfl rfl ?_)
  refine p_as ?_
  refine al_nil (x_then (hK _ ?_))
  clear hK K
  refine aw_ret ?_
  refine abody_ret none (by repeat (first | exact ResA.nil | (apply ResA.tmp; (focus exact rfl)) | (apply ResA.cellN; (focus exact inferInstance); (focus exact rfl); (focus exact rfl); (focus exact rfl)) | (apply ResA.cell1; (focus exact inferInstance); (focus exact rfl); (focus exact rfl); (focus exact rfl)))) rfl rfl rfl (LeA.refl _) ⟨_, rfl, rfl, a1, by omega, rfl, z, rfl, pz⟩

theorem Gword (l : List Int) (a : Nat) (rows : List (List AV)) (p : ByteArray → Bool) (ha : a ≤ 1000000000000) (h0 : Nat.blt 0 rows.length = true) (h1 : Nat.ble rows.length 1000 = true) (hp : allS p rows = true) : GenF Try.prog 110 l a [.sl 1 rows none] 1 (fun r => ∃ z : ByteArray, r = .v (.string z) ∧ p z = true) := by
  have h0' : 0 < rows.length := Nat.le_of_ble_eq_true h0
  have h1' : rows.length ≤ 1000 := Nat.le_of_ble_eq_true h1
  refine enter Try.func110 rfl rfl rfl rfl rfl 1 rfl ?_
  refine p_sr (fun K hK => ?_)
  refine p_as ?_
  refine al_nil (x_then (hK _ ?_))
  clear hK K
  refine p_sr (fun K hK => ?_)
  refine p_mv ?_
  refine p_mv ?_
  refine p_mv ?_
  first | refine al_p rfl (st_len rfl ?_) | refine al_p rfl (st_lenS (by kernel_rfl) rfl ?_) | refine al_p rfl (st_len0 rfl ?_)
  refine al_p rfl (s_gen 0 (hc := Gn l a rows.length ha (by omega)) (hR := ?_))
  rintro r a1 ha1 ⟨k, rfl, k1, k2, k3⟩
  refine ⟨rfl, _, (by repeat constructor), ?_⟩
  obtain ⟨m, rfl⟩ := Int.eq_ofNat_of_zero_le k1
  obtain ⟨z, hz, pz⟩ := allS_get hp (i := m) (by omega)
  refine al_p rfl (st_index (n := m) rfl rfl rfl hz ?_)
  first | refine al_p rfl (st_loadB1 rfl rfl rfl ?_) | refine al_p rfl (st_loadBW rfl rfl rfl ?_) | refine al_p rfl (st_loadF1 rfl rfl ?_) | refine al_p rfl (st_loadFW rfl rfl ?_) | refine al_p rfl (st_loadBN rfl rfl rfl ?_) | refine al_p rfl (st_loadFN rfl rfl ?_)
  refine p_as ?_
  refine al_nil (x_then (hK _ ?_))
  clear hK K
  refine aw_ret ?_
  refine abody_ret none (by repeat (first | exact ResA.nil | (apply ResA.tmp; (focus exact rfl)) | (apply ResA.cellN; (focus exact inferInstance); (focus exact rfl); (focus exact rfl); (focus exact rfl)) | (apply ResA.cell1; (focus exact inferInstance); (focus exact rfl); (focus exact rfl); (focus exact rfl)))) rfl rfl rfl (LeA.refl _) ⟨_, rfl, rfl, a1, by omega, rfl, z, rfl, pz⟩

theorem Gname (l : List Int) (a : Nat) (ha : a ≤ 100000000000) : GenF Try.prog 92 l a [] 2 (fun r => ∃ s : ByteArray, r = .v (.string s) ∧ s.size ≤ 13) := by
  refine enter Try.func92 rfl rfl rfl rfl rfl 1 rfl ?_
  refine p_sr (fun K hK => ?_)
  refine p_as ?_
  refine al_nil (x_then (hK _ ?_))
  clear hK K
  refine aw_seq (fun K hK => ?_)
  refine p_sr (fun K hK => ?_)
  refine p_mv ?_
  refine al_p rfl (s_gen 0 (hc := Gn l _ (20) (by omega) (by omega)) (hR := ?_))
  rintro r a1 ha1 ⟨k1, rfl, p1, q1, o1⟩
  refine ⟨rfl, _, (by repeat constructor), ?_⟩
  first | refine al_p rfl (st_eql rfl rfl ?_) | refine al_p rfl (st_eqlS rfl rfl ?_) | refine al_p rfl (st_eqlB (by kernel_rfl) rfl rfl ?_)
  refine al_nil (x_then (hK _ ?_))
  clear hK K
  refine aw_cond rfl (fun hb1 => ?_) (fun hb1 => ?_)
  · have hc1 := bp hb1
    refine p_sr (fun K hK => ?_)
    refine p_mv ?_
    refine al_p rfl (st_slit (by repeat (first | exact DenseA.nil _ | (apply DenseA.cons; (focus exact rfl); (focus exact rfl); (focus exact rfl); (focus exact rfl)) | (apply DenseA.consE; (focus exact rfl); (focus exact rfl); (focus exact rfl)))) rfl rfl rfl rfl ?_)
    refine al_p rfl (s_gen 0 (hc := Gword l _ _ (fun s => decide (s.size ≤ 13)) (by omega) (by rfl) (by rfl) (by rfl)) (hR := ?_))
    rintro r a2 ha2 ⟨k2, rfl, p2⟩
    refine ⟨rfl, _, (by repeat constructor), ?_⟩
    refine p_as ?_
    refine al_nil (x_then (hK _ ?_))
    clear hK K
    refine aw_ret ?_
    refine x_thenR ?_
    clear hK K
    refine abody_ret none (by repeat (first | exact ResA.nil | (apply ResA.tmp; (focus exact rfl)) | (apply ResA.cellN; (focus exact inferInstance); (focus exact rfl); (focus exact rfl); (focus exact rfl)) | (apply ResA.cell1; (focus exact inferInstance); (focus exact rfl); (focus exact rfl); (focus exact rfl)))) rfl rfl rfl (LeA.refl _) ⟨_, rfl, rfl, _, ?_, rfl, _, rfl, of_decide_eq_true ‹_›⟩ <;> omega
  · have hc1 := bp hb1
    refine aw_skip ?_
    refine x_then ?_
    refine hK _ ?_
    clear hK K
    refine p_sr (fun K hK => ?_)
    refine p_mv ?_
    refine al_p rfl (st_slit (by repeat (first | exact DenseA.nil _ | (apply DenseA.cons; (focus exact rfl); (focus exact rfl); (focus exact rfl); (focus exact rfl)) | (apply DenseA.consE; (focus exact rfl); (focus exact rfl); (focus exact rfl)))) rfl rfl rfl rfl ?_)
    refine al_p rfl (s_gen 0 (hc := Gword l _ _ (fun s => decide (s.size ≤ 13)) (by omega) (by rfl) (by rfl) (by rfl)) (hR := ?_))
    rintro r a3 ha3 ⟨k3, rfl, p3⟩
    refine ⟨rfl, _, (by repeat constructor), ?_⟩
    refine p_as ?_
    refine al_nil (x_then (hK _ ?_))
    clear hK K
    refine aw_ret ?_
    refine abody_ret none (by repeat (first | exact ResA.nil | (apply ResA.tmp; (focus exact rfl)) | (apply ResA.cellN; (focus exact inferInstance); (focus exact rfl); (focus exact rfl); (focus exact rfl)) | (apply ResA.cell1; (focus exact inferInstance); (focus exact rfl); (focus exact rfl); (focus exact rfl)))) rfl rfl rfl (LeA.refl _) ⟨_, rfl, rfl, _, ?_, rfl, _, rfl, of_decide_eq_true ‹_›⟩ <;> omega

theorem Gpath (l : List Int) (a : Nat) (ha : a ≤ 50000000000) : GenF Try.prog 115 l a [] 20 (fun r => ∃ s : ByteArray, r = .v (.string s) ∧ s.size ≤ 100) := by
  have e1 : (⟨#[47]⟩ : ByteArray).size = 1 := rfl
  have e0 : (⟨#[]⟩ : ByteArray).size = 0 := rfl
  refine enter Try.func115 rfl rfl rfl rfl rfl 1 rfl ?_
  refine p_sr (fun K hK => ?_)
  refine p_as ?_
  refine al_nil (x_then (hK _ ?_))
  clear hK K
  refine p_sr (fun K hK => ?_)
  refine p_as ?_
  refine al_nil (x_then (hK _ ?_))
  clear hK K
  refine aw_midI (fun s => ∃ (b : Nat) (t : ByteArray), b ≤ a + 1 ∧ t.size ≤ 1 ∧ s = ⟨look [(0, .bp 0 0), (3, .v (.string t))], ⟨[srcA l b], []⟩⟩) ?_ ?_
  · skip
    refine p_sr (fun K hK => ?_)
    refine p_mv ?_
    refine al_p rfl (s_gen 0 (hc := Gn l _ (6) (by omega) (by omega)) (hR := ?_))
    rintro r a1 ha1 ⟨k1, rfl, p1, q1, o1⟩
    refine ⟨rfl, _, (by repeat constructor), ?_⟩
    refine al_p rfl (st_gtr rfl rfl ?_)
    refine al_nil (x_then (hK _ ?_))
    clear hK K
    refine aw_cond rfl (fun hb1 => ?_) (fun hb1 => ?_)
    · have hc1 := bp hb1
      refine aw_region ?_
      refine p_as ?_
      refine al_nil ?_
      refine x_then ?_
      refine ⟨_, ⟨_, _, ?_, ?_, rfl⟩, (wk 1 0)⟩ <;> first | omega | exact Nat.le_of_ble_eq_true rfl
    · have hc1 := bp hb1
      refine aw_skip ?_
      refine x_then ?_
      refine ⟨_, ⟨_, _, ?_, ?_, rfl⟩, (wk 1 0)⟩ <;> first | omega | exact Nat.le_of_ble_eq_true rfl
  · rintro s ⟨b, t0, hb, ht0, rfl⟩
    refine p_sr (fun K hK => ?_)
    refine p_mv ?_
    refine al_p rfl (st_slit (by repeat (first | exact DenseA.nil _ | (apply DenseA.cons; (focus exact rfl); (focus exact rfl); (focus exact rfl); (focus exact rfl)) | (apply DenseA.consE; (focus exact rfl); (focus exact rfl); (focus exact rfl)))) rfl rfl rfl rfl ?_)
    refine al_p rfl (s_gen 0 (hc := Gpick l _ _ (fun z => decide (0 ≤ z ∧ z ≤ 4)) (by omega) (by rfl) (by rfl) (by rfl)) (hR := ?_))
    rintro r a2 ha2 ⟨k2, rfl, p2⟩
    refine ⟨rfl, _, (by repeat constructor), ?_⟩
    obtain ⟨hz1, hz2⟩ := of_decide_eq_true p2
    obtain ⟨m, rfl⟩ := Int.eq_ofNat_of_zero_le hz1
    refine p_as ?_
    refine al_nil (x_then (hK _ ?_))
    clear hK K
    refine aw_seq (fun K hK => ?_)
    refine p_sr (fun K hK => ?_)
    refine p_as ?_
    refine al_nil (x_then (hK _ ?_))
    clear hK K
    refine aw_block ?_
    refine aw_loopW (fun n s => ∃ (j b1 : Nat) (t : ByteArray), j ≤ m ∧ n = m - j ∧ b1 ≤ b + 1 + 4 * j ∧ t.size ≤ 1 + 15 * j ∧ s = ⟨look [(0, .bp 0 0), (3, .v (.string t)), (4, .v (.int .i64 (m : Int))), (5, .v (.int .i64 (j : Int)))], ⟨[srcA l b1], []⟩⟩) (m) ((wk 1 0)) (⟨0, _, t0, by omega, rfl, by omega, by omega, rfl⟩) ?_
    rintro n s ⟨j, b1, t, hj, rfl, hb1, ht, rfl⟩
    refine aw_seq (fun K hK => ?_)
    refine p_sr (fun K hK => ?_)
    refine p_mv ?_
    refine p_mv ?_
    first | refine al_p rfl (st_lss rfl rfl ?_) | refine al_p rfl (st_lssS rfl rfl ?_)
    refine al_nil (x_then (hK _ ?_))
    clear hK K
    refine aw_cond rfl (fun hb2 => ?_) (fun hb2 => ?_)
    · have hc2 := bp hb2
      refine aw_skip ?_
      refine x_then ?_
      refine hK _ ?_
      clear hK K
      refine aw_midI (fun s => ∃ (b3 : Nat) (t1 : ByteArray), b3 ≤ b1 + 4 ∧ t1.size ≤ 1 + 15 * (j + 1) ∧ s = ⟨look [(0, .bp 0 0), (3, .v (.string t1)), (4, .v (.int .i64 (m : Int))), (5, .v (.int .i64 (j : Int)))], ⟨[srcA l b3], []⟩⟩) ?_ ?_
      · skip
        refine aw_block ?_
        refine aw_seq (fun K hK => ?_)
        refine p_sr (fun K hK => ?_)
        refine p_mv ?_
        refine al_p rfl (st_gtr rfl rfl ?_)
        refine al_nil (x_then (hK _ ?_))
        clear hK K
        refine aw_cond rfl (fun hb3 => ?_) (fun hb3 => ?_)
        · have hc3 := bp hb3
          refine aw_region ?_
          refine p_mv ?_
          refine al_p rfl (st_addS rfl rfl (by (try simp only [size_app]); omega) ?_)
          refine p_as ?_
          refine al_nil (x_then (hK _ ?_))
          clear hK K
          refine p_sr (fun K hK => ?_)
          refine p_mv ?_
          refine al_p rfl (s_gen 0 (hc := Gn l _ (8) (by omega) (by omega)) (hR := ?_))
          rintro r a3 ha3 ⟨k3, rfl, p3, q3, o3⟩
          refine ⟨rfl, _, (by repeat constructor), ?_⟩
          first | refine al_p rfl (st_eql rfl rfl ?_) | refine al_p rfl (st_eqlS rfl rfl ?_) | refine al_p rfl (st_eqlB (by kernel_rfl) rfl rfl ?_)
          refine al_nil (x_then (hK _ ?_))
          clear hK K
          refine aw_cond rfl (fun hb4 => ?_) (fun hb4 => ?_)
          · have hc4 := bp hb4
            refine aw_region ?_
            refine p_mv ?_
            refine p_mv ?_
            refine al_p rfl (st_slit (by repeat (first | exact DenseA.nil _ | (apply DenseA.cons; (focus exact rfl); (focus exact rfl); (focus exact rfl); (focus exact rfl)) | (apply DenseA.consE; (focus exact rfl); (focus exact rfl); (focus exact rfl)))) rfl rfl rfl rfl ?_)
            refine al_p rfl (s_gen 0 (hc := Gword l _ _ (fun s => decide (s.size ≤ 13)) (by omega) (by rfl) (by rfl) (by rfl)) (hR := ?_))
            rintro r a4 ha4 ⟨k4, rfl, p4⟩
            refine ⟨rfl, _, (by repeat constructor), ?_⟩
            have hw := of_decide_eq_true p4
            refine al_p rfl (st_addS rfl rfl (by (try simp only [size_app]); omega) ?_)
            refine p_as ?_
            refine al_nil ?_
            refine x_blockN ?_
            refine x_then ?_
            refine ⟨_, ⟨_, _, ?_, ?_, rfl⟩, (wk 1 0)⟩ <;> (try simp only [size_app]) <;> omega
          · have hc4 := bp hb4
            refine aw_region ?_
            refine p_mv ?_
            refine p_mv ?_
            refine al_p rfl (s_gen 0 (hc := Gname l _ (by omega)) (hR := ?_))
            rintro r a5 ha5 ⟨k5, rfl, hw⟩
            refine ⟨rfl, _, (by repeat constructor), ?_⟩
            refine al_p rfl (st_addS rfl rfl (by (try simp only [size_app]); omega) ?_)
            refine p_as ?_
            refine al_nil ?_
            refine x_blockN ?_
            refine x_then ?_
            refine ⟨_, ⟨_, _, ?_, ?_, rfl⟩, (wk 1 0)⟩ <;> (try simp only [size_app]) <;> omega
        · have hc3 := bp hb3
          refine aw_skip ?_
          refine x_then ?_
          refine hK _ ?_
          clear hK K
          refine p_sr (fun K hK => ?_)
          refine p_mv ?_
          refine al_p rfl (s_gen 0 (hc := Gn l _ (8) (by omega) (by omega)) (hR := ?_))
          rintro r a6 ha6 ⟨k6, rfl, p6, q6, o6⟩
          refine ⟨rfl, _, (by repeat constructor), ?_⟩
          first | refine al_p rfl (st_eql rfl rfl ?_) | refine al_p rfl (st_eqlS rfl rfl ?_) | refine al_p rfl (st_eqlB (by kernel_rfl) rfl rfl ?_)
          refine al_nil (x_then (hK _ ?_))
          clear hK K
          refine aw_cond rfl (fun hb5 => ?_) (fun hb5 => ?_)
          · have hc5 := bp hb5
            refine aw_region ?_
            refine p_mv ?_
            refine p_mv ?_
            refine al_p rfl (st_slit (by repeat (first | exact DenseA.nil _ | (apply DenseA.cons; (focus exact rfl); (focus exact rfl); (focus exact rfl); (focus exact rfl)) | (apply DenseA.consE; (focus exact rfl); (focus exact rfl); (focus exact rfl)))) rfl rfl rfl rfl ?_)
            refine al_p rfl (s_gen 0 (hc := Gword l _ _ (fun s => decide (s.size ≤ 13)) (by omega) (by rfl) (by rfl) (by rfl)) (hR := ?_))
            rintro r a7 ha7 ⟨k7, rfl, p7⟩
            refine ⟨rfl, _, (by repeat constructor), ?_⟩
            have hw := of_decide_eq_true p7
            refine al_p rfl (st_addS rfl rfl (by (try simp only [size_app]); omega) ?_)
            refine p_as ?_
            refine al_nil ?_
            refine x_blockN ?_
            refine x_then ?_
            refine ⟨_, ⟨_, _, ?_, ?_, rfl⟩, (wk 1 0)⟩ <;> (try simp only [size_app]) <;> omega
          · have hc5 := bp hb5
            refine aw_region ?_
            refine p_mv ?_
            refine p_mv ?_
            refine al_p rfl (s_gen 0 (hc := Gname l _ (by omega)) (hR := ?_))
            rintro r a8 ha8 ⟨k8, rfl, hw⟩
            refine ⟨rfl, _, (by repeat constructor), ?_⟩
            refine al_p rfl (st_addS rfl rfl (by (try simp only [size_app]); omega) ?_)
            refine p_as ?_
            refine al_nil ?_
            refine x_blockN ?_
            refine x_then ?_
            refine ⟨_, ⟨_, _, ?_, ?_, rfl⟩, (wk 1 0)⟩ <;> (try simp only [size_app]) <;> omega
      · rintro s ⟨b3, t1, hb3, ht1, rfl⟩
        refine aw_region ?_
        refine p_mv ?_
        first | refine al_p rfl (st_add64 rfl rfl (by omega) ?_) | refine al_p rfl (st_addS rfl rfl (by omega) ?_) | refine al_p rfl (st_add rfl rfl ?_)
        refine p_as ?_
        refine al_nil ?_
        refine x_then ?_
        refine ⟨_, _, ?_, ⟨j + 1, _, _, by omega, rfl, ?_, ?_, rfl⟩, (wk 1 0)⟩ <;> omega
    · have hc2 := bp hb2
      refine aw_exit ?_
      refine x_thenE ?_
      clear hK K
      refine x_thenE ?_
      refine ABlock_out ?_
      refine x_then ?_
      refine hK _ ?_
      clear hK K
      refine aw_seq (fun K hK => ?_)
      refine p_sr (fun K hK => ?_)
      refine p_mv ?_
      refine al_p rfl (s_gen 0 (hc := Gn l _ (8) (by omega) (by omega)) (hR := ?_))
      rintro r a9 ha9 ⟨k9, rfl, p9, q9, o9⟩
      refine ⟨rfl, _, (by repeat constructor), ?_⟩
      first | refine al_p rfl (st_eql rfl rfl ?_) | refine al_p rfl (st_eqlS rfl rfl ?_) | refine al_p rfl (st_eqlB (by kernel_rfl) rfl rfl ?_)
      refine al_nil (x_then (hK _ ?_))
      clear hK K
      refine aw_cond rfl (fun hb6 => ?_) (fun hb6 => ?_)
      · have hc6 := bp hb6
        refine aw_region ?_
        refine p_mv ?_
        refine al_p rfl (st_addS rfl rfl (by (try simp only [size_app]); omega) ?_)
        refine p_as ?_
        refine al_nil (x_then (hK _ ?_))
        clear hK K
        refine p_sr (fun K hK => ?_)
        refine p_mv ?_
        refine p_as ?_
        refine al_nil (x_then (hK _ ?_))
        clear hK K
        refine aw_ret ?_
        refine abody_ret none (by repeat (first | exact ResA.nil | (apply ResA.tmp; (focus exact rfl)) | (apply ResA.cellN; (focus exact inferInstance); (focus exact rfl); (focus exact rfl); (focus exact rfl)) | (apply ResA.cell1; (focus exact inferInstance); (focus exact rfl); (focus exact rfl); (focus exact rfl)))) rfl rfl rfl (LeA.refl _) ⟨_, rfl, rfl, _, ?_, rfl, _, rfl, ?_⟩ <;> (try simp only [size_app]) <;> omega
      · have hc6 := bp hb6
        refine aw_skip ?_
        refine x_then ?_
        refine hK _ ?_
        clear hK K
        refine p_sr (fun K hK => ?_)
        refine p_mv ?_
        refine p_as ?_
        refine al_nil (x_then (hK _ ?_))
        clear hK K
        refine aw_ret ?_
        refine abody_ret none (by repeat (first | exact ResA.nil | (apply ResA.tmp; (focus exact rfl)) | (apply ResA.cellN; (focus exact inferInstance); (focus exact rfl); (focus exact rfl); (focus exact rfl)) | (apply ResA.cell1; (focus exact inferInstance); (focus exact rfl); (focus exact rfl); (focus exact rfl)))) rfl rfl rfl (LeA.refl _) ⟨_, rfl, rfl, _, ?_, rfl, _, rfl, ?_⟩ <;> (try simp only [size_app]) <;> omega

end
end Go.Proofs.Ytgliiknfmlmddaa
namespace Go.Proofs.Ytgliiknfmlmddaa
open Go.RowKit

section
set_option maxRecDepth 10000
set_option maxHeartbeats 1000000
theorem Gfile (l : List Int) (a : Nat) (f : Fls) (ha : a ≤ 100000000000) (hf : FlsB f) (hne : ∀ d ∈ f, 0 < d.nodes.length) : GenF Try.prog 14 l a [.agg (flsA f)] 4 (fun r => ∃ x : Fil, r = .agg (filA x)) := by
  have hfew := hf.few
  have hml : (f.map dvcA).length = f.length := by simp
  refine enter Try.func14 rfl rfl rfl rfl rfl 1 rfl ?_
  refine p_sr (fun K hK => ?_)
  first | refine al_p rfl (s_boxA rfl rfl (by repeat constructor) ?_) | refine al_p rfl (s_box rfl rfl (by repeat constructor) ?_)
  refine al_p rfl (s_alloc (by repeat constructor) ?_)
  refine al_nil (x_then (hK _ ?_))
  clear hK K
  refine p_sr (fun K hK => ?_)
  refine p_mv ?_
  refine al_p rfl (st_fieldB rfl ?_)
  refine al_p rfl (st_loadB1 rfl rfl rfl ?_)
  first | refine al_p rfl (st_len rfl ?_) | refine al_p rfl (st_lenS (by kernel_rfl) rfl ?_) | refine al_p rfl (st_len0 rfl ?_)
  refine al_p rfl (s_gen 0 (hc := Gn l _ ((f.map dvcA).length : Int) (by omega) (by omega)) (hR := ?_))
  rintro r a1 ha1 ⟨k1, rfl, p1, q1, o1⟩
  refine ⟨rfl, _, (by repeat constructor), ?_⟩
  obtain ⟨m, rfl⟩ := Int.eq_ofNat_of_zero_le p1
  refine p_as ?_
  refine al_nil (x_then (hK _ ?_))
  clear hK K
  refine aw_seq (fun K hK => ?_)
  refine p_sr (fun K hK => ?_)
  refine al_p rfl (st_fieldB rfl ?_)
  refine al_p rfl (st_loadB1 rfl rfl rfl ?_)
  first | refine al_p rfl (st_len rfl ?_) | refine al_p rfl (st_lenS (by kernel_rfl) rfl ?_) | refine al_p rfl (st_len0 rfl ?_)
  first | refine al_p rfl (st_eql rfl rfl ?_) | refine al_p rfl (st_eqlS rfl rfl ?_) | refine al_p rfl (st_eqlB (by kernel_rfl) rfl rfl ?_)
  refine p_mv ?_
  refine al_gs false rfl rfl (fun hb1 => ?_) (fun hb1 => ?_)
  · have hc1 := bp hb1
    refine g_n ?_
    refine g_n ?_
    refine g_n ?_
    refine al_p rfl (p_t ?_)
    refine al_nil (x_then (hK _ ?_))
    clear hK K
    refine aw_cy rfl (by first | rfl | assumption | simp [*]) ?_
    refine p_sr (fun K hK => ?_)
    refine p_mv ?_
    refine al_p rfl (s_gen 0 (hc := Grange l _ (-1) (3) (by omega) (by omega) (by omega) (by omega)) (hR := ?_))
    rintro r a2 ha2 ⟨k2, rfl, p2, q2⟩
    refine ⟨rfl, _, (by repeat constructor), ?_⟩
    refine p_mv ?_
    refine al_p rfl (s_gen 0 (hc := Grange l _ (-1) (9) (by omega) (by omega) (by omega) (by omega)) (hR := ?_))
    rintro r a3 ha3 ⟨k3, rfl, p3, q3⟩
    refine ⟨rfl, _, (by repeat constructor), ?_⟩
    refine p_bd ?_
    refine p_st ?_
    refine al_nil (x_then (hK _ ?_))
    clear hK K
    refine aw_ret ?_
    refine x_thenR ?_
    clear hK K
    refine abody_ret none (by repeat (first | exact ResA.nil | (apply ResA.tmp; (focus exact rfl)) | (apply ResA.cellN; (focus exact inferInstance); (focus exact rfl); (focus exact rfl); (focus exact rfl)) | (apply ResA.cell1; (focus exact inferInstance); (focus exact rfl); (focus exact rfl); (focus exact rfl)))) rfl rfl rfl (LeA.refl _) ⟨_, rfl, rfl, _, ?_, rfl, (_, _), rfl⟩ <;> omega
  · have hc1 := bp hb1
    refine g_y (st_move rfl ?_)
    refine g_y (s_gen 0 (hc := Gn l _ (24) (by omega) (by omega)) (hR := ?_))
    rintro r a4 ha4 ⟨k4, rfl, p4, q4, o4⟩
    refine ⟨rfl, _, (by repeat constructor), ?_⟩
    first | refine g_y (st_eql rfl rfl ?_) | refine g_y (st_eqlS rfl rfl ?_) | refine g_y (st_eqlB (by kernel_rfl) rfl rfl ?_)
    refine al_p rfl (p_f ?_)
    refine al_nil (x_then (hK _ ?_))
    clear hK K
    refine aw_cond rfl (fun hb2 => ?_) (fun hb2 => ?_)
    · have hc2 := bp hb2
      refine p_sr (fun K hK => ?_)
      refine p_mv ?_
      refine al_p rfl (s_gen 0 (hc := Grange l _ (-1) (3) (by omega) (by omega) (by omega) (by omega)) (hR := ?_))
      rintro r a5 ha5 ⟨k5, rfl, p5, q5⟩
      refine ⟨rfl, _, (by repeat constructor), ?_⟩
      refine p_mv ?_
      refine al_p rfl (s_gen 0 (hc := Grange l _ (-1) (9) (by omega) (by omega) (by omega) (by omega)) (hR := ?_))
      rintro r a6 ha6 ⟨k6, rfl, p6, q6⟩
      refine ⟨rfl, _, (by repeat constructor), ?_⟩
      refine p_bd ?_
      refine p_st ?_
      refine al_nil (x_then (hK _ ?_))
      clear hK K
      refine aw_ret ?_
      refine x_thenR ?_
      clear hK K
      refine abody_ret none (by repeat (first | exact ResA.nil | (apply ResA.tmp; (focus exact rfl)) | (apply ResA.cellN; (focus exact inferInstance); (focus exact rfl); (focus exact rfl); (focus exact rfl)) | (apply ResA.cell1; (focus exact inferInstance); (focus exact rfl); (focus exact rfl); (focus exact rfl)))) rfl rfl rfl (LeA.refl _) ⟨_, rfl, rfl, _, ?_, rfl, (_, _), rfl⟩ <;> omega
    · have hc2 := bp hb2
      obtain ⟨-, d, hd, hrow, -⟩ := row_at dvcA (l := f) (k := m) (by omega)
      have hdn := hf.nodes d (List.mem_of_getElem? hd)
      have hpos := hne d (List.mem_of_getElem? hd)
      have hdl : (d.nodes.map nodA).length = d.nodes.length := by simp
      refine aw_skip ?_
      refine x_then ?_
      refine hK _ ?_
      clear hK K
      refine p_sr (fun K hK => ?_)
      refine al_p rfl (st_fieldB rfl ?_)
      refine al_p rfl (st_loadB1 rfl rfl rfl ?_)
      refine p_mv ?_
      refine al_p rfl (st_index (n := m) rfl rfl rfl hrow ?_)
      refine al_p rfl (st_fieldF rfl ?_)
      refine al_p rfl (st_loadF1 rfl rfl ?_)
      refine p_as ?_
      refine al_nil (x_then (hK _ ?_))
      clear hK K
      refine p_sr (fun K hK => ?_)
      refine p_mv ?_
      refine p_mv ?_
      refine p_mv ?_
      refine p_mv ?_
      first | refine al_p rfl (st_len rfl ?_) | refine al_p rfl (st_lenS (by kernel_rfl) rfl ?_) | refine al_p rfl (st_len0 rfl ?_)
      refine al_p rfl (s_gen 0 (hc := Gn l _ ((d.nodes.map nodA).length : Int) (by omega) (by omega)) (hR := ?_))
      rintro r a7 ha7 ⟨k7, rfl, p7, q7, o7⟩
      refine ⟨rfl, _, (by repeat constructor), ?_⟩
      obtain ⟨i, rfl⟩ := Int.eq_ofNat_of_zero_le p7
      obtain ⟨-, n, hn, hrow2, -⟩ := row_at nodA (l := d.nodes) (k := i) (by omega)
      refine al_p rfl (st_index (n := i) rfl rfl rfl hrow2 ?_)
      refine al_p rfl (st_fieldF rfl ?_)
      refine al_p rfl (st_loadF1 rfl rfl ?_)
      refine p_bd ?_
      refine p_st ?_
      refine al_nil (x_then (hK _ ?_))
      clear hK K
      refine aw_ret ?_
      refine abody_ret none (by repeat (first | exact ResA.nil | (apply ResA.tmp; (focus exact rfl)) | (apply ResA.cellN; (focus exact inferInstance); (focus exact rfl); (focus exact rfl); (focus exact rfl)) | (apply ResA.cell1; (focus exact inferInstance); (focus exact rfl); (focus exact rfl); (focus exact rfl)))) rfl rfl rfl (LeA.refl _) ⟨_, rfl, rfl, _, ?_, rfl, (_, _), rfl⟩ <;> omega

end
end Go.Proofs.Ytgliiknfmlmddaa
namespace Go.Proofs.Ytgliiknfmlmddaa
open Go.RowKit

section
set_option maxRecDepth 10000
set_option maxHeartbeats 1000000
theorem Gattr (l : List Int) (a : Nat) (ha : a ≤ 10000000000) : GenF Try.prog 98 l a [] 60 (fun r => ∃ n : Nod, n.target.size ≤ 100 ∧ n.entries = [] ∧ r = .agg (nodA n)) := by
  refine enter Try.func98 rfl rfl rfl rfl rfl 1 rfl ?_
  refine p_sr (fun K hK => ?_)
  refine al_p rfl (s_alloc (by repeat constructor) ?_)
  refine al_nil (x_then (hK _ ?_))
  clear hK K
  refine p_sr (fun K hK => ?_)
  refine p_mv ?_
  refine al_p rfl (st_slit (by repeat (first | exact DenseA.nil _ | (apply DenseA.cons; (focus exact rfl); (focus exact rfl); (focus exact rfl); (focus exact rfl)) | (apply DenseA.consE; (focus exact rfl); (focus exact rfl); (focus exact rfl)))) rfl rfl rfl rfl ?_)
  refine al_p rfl (s_gen 0 (hc := Gpick l _ _ (fun _ => true) (by omega) (by rfl) (by rfl) (by rfl)) (hR := ?_))
  rintro r a1 ha1 ⟨k1, rfl, p1⟩
  refine ⟨rfl, _, (by repeat constructor), ?_⟩
  refine p_mv ?_
  refine al_p rfl (st_slit (by repeat (first | exact DenseA.nil _ | (apply DenseA.cons; (focus exact rfl); (focus exact rfl); (focus exact rfl); (focus exact rfl)) | (apply DenseA.consE; (focus exact rfl); (focus exact rfl); (focus exact rfl)))) rfl rfl rfl rfl ?_)
  refine al_p rfl (s_gen 0 (hc := Gpick l _ _ (fun _ => true) (by omega) (by rfl) (by rfl) (by rfl)) (hR := ?_))
  rintro r a2 ha2 ⟨k2, rfl, p2⟩
  refine ⟨rfl, _, (by repeat constructor), ?_⟩
  refine p_mv ?_
  refine al_p rfl (st_slit (by repeat (first | exact DenseA.nil _ | (apply DenseA.cons; (focus exact rfl); (focus exact rfl); (focus exact rfl); (focus exact rfl)) | (apply DenseA.consE; (focus exact rfl); (focus exact rfl); (focus exact rfl)))) rfl rfl rfl rfl ?_)
  refine al_p rfl (s_gen 0 (hc := Gpick l _ _ (fun _ => true) (by omega) (by rfl) (by rfl) (by rfl)) (hR := ?_))
  rintro r a3 ha3 ⟨k3, rfl, p3⟩
  refine ⟨rfl, _, (by repeat constructor), ?_⟩
  refine p_mv ?_
  refine al_p rfl (st_slit (by repeat (first | exact DenseA.nil _ | (apply DenseA.cons; (focus exact rfl); (focus exact rfl); (focus exact rfl); (focus exact rfl)) | (apply DenseA.consE; (focus exact rfl); (focus exact rfl); (focus exact rfl)))) rfl rfl rfl rfl ?_)
  refine al_p rfl (s_gen 0 (hc := Gpick l _ _ (fun _ => true) (by omega) (by rfl) (by rfl) (by rfl)) (hR := ?_))
  rintro r a4 ha4 ⟨k4, rfl, p4⟩
  refine ⟨rfl, _, (by repeat constructor), ?_⟩
  refine p_bd ?_
  refine al_p rfl (s_alloc (by repeat constructor) ?_)
  refine p_st ?_
  refine al_nil (x_then (hK _ ?_))
  clear hK K
  refine aw_midI (fun s => ∃ (b : Nat) (ki mo ui gi : Int) (ta : ByteArray), b ≤ a + 24 ∧ ta.size ≤ 100 ∧ s = ⟨look [(0, .bp 0 0), (2, .bp 1 0), (3, .bp 2 0)], ⟨[srcA l b, [.v (.int .i64 0), .v (.int .i64 0), .v (.int .i64 0), .v (.int .i64 0), .v (.int .i64 0), .v (.int .i64 0), .v (.string ⟨#[]⟩), .v (.slice none 0 0)], [.v (.int .i64 0), .v (.int .i64 ki), .v (.int .i64 mo), .v (.int .i64 ui), .v (.int .i64 gi), .v (.int .i64 0), .v (.string ta), .v (.slice none 0 0)]], []⟩⟩) ?_ ?_
  · skip
    refine p_sr (fun K hK => ?_)
    refine al_p rfl (st_fieldB rfl ?_)
    refine al_p rfl (st_loadB1 rfl rfl rfl ?_)
    first | refine al_p rfl (st_eql rfl rfl ?_) | refine al_p rfl (st_eqlS rfl rfl ?_) | refine al_p rfl (st_eqlB (by kernel_rfl) rfl rfl ?_)
    refine al_nil (x_then (hK _ ?_))
    clear hK K
    refine aw_cond rfl (fun hb1 => ?_) (fun hb1 => ?_)
    · have hc1 := bp hb1
      refine aw_region ?_
      refine p_mv ?_
      refine al_p rfl (s_gen 0 (hc := Gpath l _ (by omega)) (hR := ?_))
      rintro r a5 ha5 ⟨k5, rfl, p5⟩
      refine ⟨rfl, _, (by repeat constructor), ?_⟩
      refine al_p rfl (st_fieldB rfl ?_)
      refine p_st ?_
      refine al_nil ?_
      refine x_then ?_
      refine ⟨_, ⟨_, _, _, _, _, _, ?_, ?_, rfl⟩, (wk 3 0)⟩ <;> first | omega | assumption | exact Nat.zero_le _
    · have hc1 := bp hb1
      refine aw_skip ?_
      refine x_then ?_
      refine ⟨_, ⟨_, _, _, _, _, _, ?_, ?_, rfl⟩, (wk 3 0)⟩ <;> first | omega | assumption | exact Nat.zero_le _
  · rintro s ⟨b, ki, mo, ui, gi, ta, hb, hta, rfl⟩
    refine aw_midI (fun s => ∃ (b2 : Nat) (mo2 : Int) (ta2 : ByteArray), b2 ≤ a + 50 ∧ ta2.size ≤ 100 ∧ s = ⟨look [(2, .bp 1 0), (3, .bp 2 0)], ⟨[srcA l b2, [.v (.int .i64 0), .v (.int .i64 0), .v (.int .i64 0), .v (.int .i64 0), .v (.int .i64 0), .v (.int .i64 0), .v (.string ⟨#[]⟩), .v (.slice none 0 0)], [.v (.int .i64 0), .v (.int .i64 ki), .v (.int .i64 mo2), .v (.int .i64 ui), .v (.int .i64 gi), .v (.int .i64 0), .v (.string ta2), .v (.slice none 0 0)]], []⟩⟩) ?_ ?_
    · skip
      refine p_sr (fun K hK => ?_)
      refine p_mv ?_
      refine al_p rfl (s_gen 0 (hc := Gn l _ (20) (by omega) (by omega)) (hR := ?_))
      rintro r a6 ha6 ⟨k6, rfl, p6, q6, o6⟩
      refine ⟨rfl, _, (by repeat constructor), ?_⟩
      first | refine al_p rfl (st_eql rfl rfl ?_) | refine al_p rfl (st_eqlS rfl rfl ?_) | refine al_p rfl (st_eqlB (by kernel_rfl) rfl rfl ?_)
      refine al_nil (x_then (hK _ ?_))
      clear hK K
      refine aw_cond rfl (fun hb2 => ?_) (fun hb2 => ?_)
      · have hc2 := bp hb2
        refine aw_region ?_
        refine p_mv ?_
        refine al_p rfl (st_slit (by repeat (first | exact DenseA.nil _ | (apply DenseA.cons; (focus exact rfl); (focus exact rfl); (focus exact rfl); (focus exact rfl)) | (apply DenseA.consE; (focus exact rfl); (focus exact rfl); (focus exact rfl)))) rfl rfl rfl rfl ?_)
        refine al_p rfl (s_gen 0 (hc := Gpick l _ _ (fun _ => true) (by omega) (by rfl) (by rfl) (by rfl)) (hR := ?_))
        rintro r a7 ha7 ⟨k7, rfl, p7⟩
        refine ⟨rfl, _, (by repeat constructor), ?_⟩
        refine p_mv ?_
        refine al_p rfl (s_gen 0 (hc := Gpath l _ (by omega)) (hR := ?_))
        rintro r a8 ha8 ⟨k8, rfl, p8⟩
        refine ⟨rfl, _, (by repeat constructor), ?_⟩
        refine al_p rfl (st_fieldB rfl ?_)
        refine p_st ?_
        refine al_p rfl (st_fieldB rfl ?_)
        refine p_st ?_
        refine al_nil ?_
        refine x_then ?_
        refine ⟨_, ⟨_, _, _, ?_, ?_, rfl⟩, (wk 3 0)⟩ <;> first | omega | assumption
      · have hc2 := bp hb2
        refine aw_skip ?_
        refine x_then ?_
        refine ⟨_, ⟨_, _, _, ?_, ?_, rfl⟩, (wk 3 0)⟩ <;> first | omega | assumption
    · rintro s ⟨b2, mo2, ta2, hb2, hta2, rfl⟩
      refine p_sr (fun K hK => ?_)
      refine al_p rfl (st_loadBW rfl rfl rfl ?_)
      refine p_st ?_
      refine al_nil (x_then (hK _ ?_))
      clear hK K
      refine aw_ret ?_
      refine abody_ret (r := .agg (nodA ⟨0, ki, mo2, ui, gi, 0, ta2, []⟩)) none (by repeat (first | exact ResA.nil | (apply ResA.tmp; (focus exact rfl)) | (apply ResA.cellN; (focus exact inferInstance); (focus exact rfl); (focus exact rfl); (focus exact rfl)) | (apply ResA.cell1; (focus exact inferInstance); (focus exact rfl); (focus exact rfl); (focus exact rfl)))) rfl rfl rfl (by repeat (first | exact LeA.refl _ | exact LeA.nil _ | exact LeL.refl _ | refine LeA.agg ?_ | refine LeA.tup ?_ | exact LeL.nil | refine LeL.cons ?_ ?_ | exact LeA.any _)) ⟨_, rfl, rfl, b2, by omega, rfl, ⟨0, ki, mo2, ui, gi, 0, ta2, []⟩, hta2, rfl, rfl⟩

end
end Go.Proofs.Ytgliiknfmlmddaa
