/-
  Part 8 of the proof of LookupLoopsP: what the statement's proof uses of the texts in wip/tpl.
-/
import Derived.Test.YtaidkbnbfnaihaaShelf
import Derived.Test.YtaidkbnbfnaihaaLl7
namespace Go.Proofs.Ytaidkbnbfnaihaa

structure VD (d : Dvc) : Prop where
  len : d.nodes.length ≤ 16
  next2 : 2 ≤ d.next
  nextM : d.next ≤ 1073741824
  root : ∃ r rest, d.nodes = r :: rest ∧ r.ino = 1 ∧ r.kind = 2 ∧ r.parent = 1
  asc : Asc d.nodes
  lt : ∀ n ∈ d.nodes, n.ino < d.next
  plain : ∀ n ∈ d.nodes, plainL n = true
  leaf : ∀ n ∈ d.nodes, n.kind ≠ 2 → n.parent = 0 ∧ n.entries = []
  many : ∀ n ∈ d.nodes, n.entries.length ≤ 12
  sorted : ∀ n ∈ d.nodes, Sorted n.entries
  ent : ∀ n ∈ d.nodes, ∀ e ∈ n.entries, nameL e.1 = true ∧ e.2 ≠ 1 ∧ ∃ m ∈ d.nodes, m.ino = e.2
  link : ∀ n ∈ d.nodes, n.ino ≠ 1 → 0 < cntN n.ino d.nodes
  one : ∀ n ∈ d.nodes, n.ino ≠ 1 → n.kind = 2 → cntN n.ino d.nodes = 1
  par : ∀ n ∈ d.nodes, n.ino ≠ 1 → n.kind = 2 → ∃ p ∈ d.nodes, p.ino = n.parent ∧ ∃ e ∈ p.entries, e.2 = n.ino
  rank : ∃ rk : Int → Nat, ∀ n ∈ d.nodes, n.ino ≠ 1 → n.kind = 2 → rk n.parent < rk n.ino

def putE (name : Str) (ino : Int) (n : Nod) : Nod := { n with entries := entL n.entries name ino }
def entD (ns : List Nod) (p : Int) (name : Str) (ino : Int) : List Nod := updI ns p (putE name ino)
structure AsWas (p : Int) (name : Str) (to_ : Int) (n m : Nod) : Prop where
  ino : m.ino = n.ino
  kind : m.kind = n.kind
  parent : m.parent = n.parent
  plain : plainL m = plainL n
  ents : m.entries = if n.ino = p then entL n.entries name to_ else n.entries
theorem asWas (p : Int) (name : Str) (ino : Int) (n : Nod) : AsWas p name ino n (if n.ino = p then putE name ino n else n) := by
  by_cases h : n.ino = p
  · simp only [h, if_true]
    exact ⟨h ▸ rfl, rfl, rfl, rfl, by simp [h, putE]⟩
  · simp only [h, if_false]
    exact ⟨rfl, rfl, rfl, rfl, by simp [h]⟩
theorem mem_entD {ns : List Nod} {p : Int} {name : Str} {ino : Int} {m : Nod} (h : m ∈ entD ns p name ino) : ∃ n ∈ ns, AsWas p name ino n m := by
  obtain ⟨n, hn, rfl⟩ := mem_updI.1 h
  exact ⟨n, hn, asWas p name ino n⟩
theorem to_entD {ns : List Nod} (p : Int) (name : Str) (ino : Int) {n : Nod} (h : n ∈ ns) : ∃ m ∈ entD ns p name ino, AsWas p name ino n m := ⟨_, mem_updI.2 ⟨n, h, rfl⟩, asWas p name ino n⟩
theorem entD_asc {ns : List Nod} (h : Asc ns) (p : Int) (name : Str) (ino : Int) : Asc (entD ns p name ino) := asc_updI h p fun _ => rfl
theorem entD_len (ns : List Nod) (p : Int) (name : Str) (ino : Int) : (entD ns p name ino).length = ns.length := by simp [entD, updI]
theorem entD_cnt {ns : List Nod} (h : Asc ns) {n0 : Nod} (hn : n0 ∈ ns) (name : Str) (ino i : Int) : cntN i (entD ns n0.ino name ino) + cntE i n0.entries = cntN i ns + cntE i (entL n0.entries name ino) := cntN_updI h hn (putE name ino) i
theorem entD_root {ns : List Nod} (p : Int) (name : Str) (ino : Int) (h : ∃ r rest, ns = r :: rest ∧ r.ino = 1 ∧ r.kind = 2 ∧ r.parent = 1) : ∃ r rest, entD ns p name ino = r :: rest ∧ r.ino = 1 ∧ r.kind = 2 ∧ r.parent = 1 := by
  obtain ⟨r, rest, rfl, h1, h2, h3⟩ := h
  have := asWas p name ino r
  exact ⟨_, _, rfl, this.ino.trans h1, this.kind.trans h2, this.parent.trans h3⟩
def b1 (p : Prop) [Decidable p] : Nat := if p then 1 else 0
theorem cnt_putN {es : List Ent} {name : Str} (h : entF es name = none) {ino : Int} (h0 : ino ≠ 0) (i : Int) : cntE i (entL es name ino) = cntE i es + b1 (ino = i) := by
  rw [cntE_perm (entL_perm es name h0), cntE_cons, without_none h]; rfl
theorem mem_entL {es : List Ent} {name : Str} {ino : Int} {e : Ent} (h : e ∈ entL es name ino) : e ∈ es ∨ (e = (name, ino) ∧ ino ≠ 0) := by
  by_cases h0 : ino = 0
  · subst h0
    rw [entL_zero] at h
    exact .inl (List.mem_filter.1 h).1
  · rcases List.mem_cons.1 ((entL_perm es name h0).mem_iff.1 h) with h | h
    · exact .inr ⟨h, h0⟩
    · exact .inl (List.mem_filter.1 h).1
theorem mem_entL_old {es : List Ent} {name : Str} {ino : Int} {e : Ent} (h : e ∈ es) (hn : e.1 ≠ name) : e ∈ entL es name ino := by
  have hw : e ∈ without name es := List.mem_filter.2 ⟨h, by simpa using hn⟩
  by_cases h0 : ino = 0
  · subst h0
    rw [entL_zero]
    exact hw
  · exact (entL_perm es name h0).mem_iff.2 (List.mem_cons_of_mem _ hw)
theorem mem_entL_new {es : List Ent} {name : Str} {ino : Int} (h0 : ino ≠ 0) : (name, ino) ∈ entL es name ino := (entL_perm es name h0).mem_iff.2 (by simp)
theorem b1_t {p : Prop} [Decidable p] (h : p) : b1 p = 1 := if_pos h
theorem b1_f {p : Prop} [Decidable p] (h : ¬ p) : b1 p = 0 := if_neg h

theorem VD.cnt_next {d : Dvc} (h : VD d) {i : Int} (hi : d.next ≤ i) : cntN i d.nodes = 0 := by
  apply Classical.byContradiction
  intro hc
  obtain ⟨n, hn, e, he, rfl⟩ := cntN_pos.1 (Nat.pos_of_ne_zero hc)
  obtain ⟨m, hm, e2⟩ := (h.ent n hn e he).2.2
  have := h.lt m hm
  omega

theorem VD.make {d : Dvc} (h : VD d) {n0 : Nod} (hn0 : n0 ∈ d.nodes) (hk : n0.kind = 2) {name : Str} (hname : nameL name = true) (hnew : entF n0.entries name = none) {n : Nod} (hp : plainL n = true) (hlen : d.nodes.length < 16) (hnx : d.next < 1073741824) (hfull : n0.entries.length < 12) :
    VD ⟨d.next + 1, entD d.nodes n0.ino name d.next ++ [mkNod n d.next n0.ino]⟩ := by
  have hnext0 : d.next ≠ 0 := by have := h.next2; omega
  have hcnt : ∀ i, cntN i (entD d.nodes n0.ino name d.next ++ [mkNod n d.next n0.ino]) = cntN i d.nodes + b1 (d.next = i) := by
    intro i
    have h1 := entD_cnt h.asc hn0 name d.next i
    rw [cnt_putN hnew hnext0] at h1
    rw [cntN_append, cntN_cons]
    have h2 : cntE i (mkNod n d.next n0.ino).entries = 0 := rfl
    have h3 : cntN i [] = 0 := rfl
    omega
  have hmem : ∀ m, m ∈ entD d.nodes n0.ino name d.next ++ [mkNod n d.next n0.ino] → (∃ n' ∈ d.nodes, AsWas n0.ino name d.next n' m) ∨ m = mkNod n d.next n0.ino := by
    intro m hm
    rcases List.mem_append.1 hm with hm | hm
    · exact .inl (mem_entD hm)
    · exact .inr (by simpa using hm)
  have hto : ∀ n' ∈ d.nodes, ∃ m ∈ entD d.nodes n0.ino name d.next ++ [mkNod n d.next n0.ino], AsWas n0.ino name d.next n' m := fun n' hn' => by
    obtain ⟨m, hm, hw⟩ := to_entD n0.ino name d.next hn'
    exact ⟨m, List.mem_append_left _ hm, hw⟩
  have hold : ∀ {n' m : Nod} {e : Ent}, AsWas n0.ino name d.next n' m → n' ∈ d.nodes → e ∈ n'.entries → e ∈ m.entries := by
    intro n' m e hw hn' he
    rw [hw.ents]
    split
    · rename_i heq
      obtain rfl := asc_eq h.asc hn' hn0 heq
      exact mem_entL_old he (entF_none hnew e he)
    · exact he
  refine ⟨?_, ?_, ?_, ?_, ?_, ?_, ?_, ?_, ?_, ?_, ?_, ?_, ?_, ?_, ?_⟩
  · show (entD d.nodes n0.ino name d.next ++ [mkNod n d.next n0.ino]).length ≤ 16
    rw [List.length_append, entD_len]
    simp
    omega
  · show 2 ≤ d.next + 1
    have := h.next2; omega
  · show d.next + 1 ≤ 1073741824
    omega
  · obtain ⟨r, rest, hr, h1⟩ := entD_root n0.ino name d.next h.root
    exact ⟨r, rest ++ [mkNod n d.next n0.ino], by show _ ++ _ = _; rw [hr]; rfl, h1⟩
  · refine List.pairwise_append.2 ⟨entD_asc h.asc _ _ _, by simp, fun a ha b hb => ?_⟩
    obtain ⟨n', hn', hw⟩ := mem_entD ha
    simp at hb
    subst hb
    have := h.lt n' hn'
    rw [hw.ino]
    exact this
  · intro m hm
    show m.ino < d.next + 1
    rcases hmem m hm with ⟨n', hn', hw⟩ | rfl
    · have := h.lt n' hn'; rw [hw.ino]; omega
    · show d.next < d.next + 1; omega
  · intro m hm
    rcases hmem m hm with ⟨n', hn', hw⟩ | rfl
    · rw [hw.plain]; exact h.plain n' hn'
    · exact hp
  · intro m hm hk'
    rcases hmem m hm with ⟨n', hn', hw⟩ | rfl
    · rw [hw.kind] at hk'
      obtain ⟨h1, h2⟩ := h.leaf n' hn' hk'
      refine ⟨hw.parent.trans h1, ?_⟩
      rw [hw.ents, if_neg, h2]
      intro e
      obtain rfl := asc_eq h.asc hn' hn0 e
      exact hk' hk
    · exact ⟨if_neg hk', rfl⟩
  · intro m hm
    rcases hmem m hm with ⟨n', hn', hw⟩ | rfl
    · rw [hw.ents]
      split
      · rename_i heq
        obtain rfl := asc_eq h.asc hn' hn0 heq
        rw [(entL_perm _ name hnext0).length_eq, List.length_cons, without_none hnew]
        omega
      · exact h.many n' hn'
    · exact Nat.zero_le _
  · intro m hm
    rcases hmem m hm with ⟨n', hn', hw⟩ | rfl
    · rw [hw.ents]
      split
      · exact entL_sorted (h.sorted n' hn') _ _
      · exact h.sorted n' hn'
    · exact List.Pairwise.nil
  · intro m hm e he
    rcases hmem m hm with ⟨n', hn', hw⟩ | rfl
    · have key : (e ∈ n'.entries) ∨ e = (name, d.next) := by
        rw [hw.ents] at he
        split at he
        · rcases mem_entL he with h1 | h1
          · exact .inl h1
          · exact .inr h1.1
        · exact .inl he
      rcases key with h1 | rfl
      · obtain ⟨k1, k2, q, hq, k3⟩ := h.ent n' hn' e h1
        obtain ⟨m', hm', hw'⟩ := hto q hq
        exact ⟨k1, k2, m', hm', hw'.ino.trans k3⟩
      · exact ⟨hname, by show d.next ≠ 1; have := h.next2; omega, mkNod n d.next n0.ino, by simp, rfl⟩
    · cases he
  · intro m hm h1
    rw [hcnt]
    rcases hmem m hm with ⟨n', hn', hw⟩ | rfl
    · have := h.link n' hn' (by rw [← hw.ino]; exact h1)
      rw [hw.ino]
      omega
    · have : b1 (d.next = (mkNod n d.next n0.ino).ino) = 1 := b1_t rfl
      omega
  · intro m hm h1 h2
    rw [hcnt]
    rcases hmem m hm with ⟨n', hn', hw⟩ | rfl
    · have := h.one n' hn' (by rw [← hw.ino]; exact h1) (by rw [← hw.kind]; exact h2)
      rw [hw.ino, this, b1_f (by have := h.lt n' hn'; omega)]
    · have e1 : b1 (d.next = (mkNod n d.next n0.ino).ino) = 1 := b1_t rfl
      have e2 : cntN (mkNod n d.next n0.ino).ino d.nodes = 0 := h.cnt_next (Int.le_refl _)
      omega
  · intro m hm h1 h2
    rcases hmem m hm with ⟨n', hn', hw⟩ | rfl
    · obtain ⟨p, hp', k1, e, he, k2⟩ := h.par n' hn' (by rw [← hw.ino]; exact h1) (by rw [← hw.kind]; exact h2)
      obtain ⟨q, hq, hwq⟩ := hto p hp'
      exact ⟨q, hq, by rw [hwq.ino, hw.parent]; exact k1, e, hold hwq hp' he, by rw [hw.ino]; exact k2⟩
    · obtain ⟨q, hq, hwq⟩ := hto n0 hn0
      refine ⟨q, hq, ?_, (name, d.next), ?_, rfl⟩
      · rw [hwq.ino]
        exact (if_pos h2).symm
      · rw [hwq.ents, if_pos rfl]
        exact mem_entL_new hnext0
  · obtain ⟨rk, hrk⟩ := h.rank
    refine ⟨fun i => if i = d.next then rk n0.ino + 1 else rk i, ?_⟩
    intro m hm h1 h2
    rcases hmem m hm with ⟨n', hn', hw⟩ | rfl
    · have hlt := h.lt n' hn'
      have h1' : n'.ino ≠ 1 := by rw [← hw.ino]; exact h1
      have h2' : n'.kind = 2 := by rw [← hw.kind]; exact h2
      obtain ⟨p, hp', k1, _⟩ := h.par n' hn' h1' h2'
      have hlp := h.lt p hp'
      simp only
      rw [hw.ino, hw.parent, if_neg (by omega), if_neg (by omega)]
      exact hrk n' hn' h1' h2'
    · have e1 : (mkNod n d.next n0.ino).parent = n0.ino := if_pos h2
      have e2 : (mkNod n d.next n0.ino).ino = d.next := rfl
      have hl := h.lt n0 hn0
      simp only
      rw [e1, e2, if_pos rfl, if_neg (by omega)]
      omega

end Go.Proofs.Ytaidkbnbfnaihaa
namespace Go.Proofs.Ytaidkbnbfnaihaa

def dropI (ns : List Nod) (i : Int) : List Nod := ns.filter fun m => decide (m.ino ≠ i ∨ 0 < cntN i ns)
end Go.Proofs.Ytaidkbnbfnaihaa
namespace Go.Proofs.Ytaidkbnbfnaihaa
open Go.RowKit

theorem back_none (n : Nat) : ∀ j, backS [] n j = some (n + j) := fun j => by simp [backS]
theorem back_new2 {bx : List (List AV)} {n : Nat} (hn : bx.length = n) (f : Fls) (q : Nat) (d : Dvc) (ns : List Nod) (cap cap1 : Nat) : Back bx [] [DB f q d 1 cap cap1, NB ns cap1] (bx ++ [DB f q d (n + 1) cap cap1, NB ns cap1]) := by
  subst hn
  refine ⟨by simp, fun i row _ h => ?_, fun k i row h => by simp at h, fun k row h => ?_⟩
  · rw [List.getElem?_append_left (List.getElem?_eq_some_iff.1 h).1]; exact h
  · rw [List.getElem?_append_right (by omega), show bx.length + k - bx.length = k by omega]
    simp only [List.length_nil, Nat.zero_add] at h
    match k, h with
    | 0, h => injection h with h; subst h; rw [ren_DB (back_none _ 1)]; rfl
    | 1, h => injection h with h; subst h; rw [ren_NB]; rfl
    | k + 2, h => simp at h
theorem back_two {bx : List (List AV)} {i0 i1 : Nat} (h0 : i0 < bx.length) (h1 : i1 < bx.length) (hne : i0 ≠ i1) (f : Fls) (q : Nat) (d : Dvc) (ns : List Nod) (cap cap1 cap1' : Nat) :
    Back bx [i0, i1] [DB f q d 1 cap cap1, NB ns cap1'] ((bx.set i0 (DB f q d i1 cap cap1)).set i1 (NB ns cap1')) := by
  refine ⟨by simp, fun i row hi h => ?_, fun k i row h hr => ?_, fun k row h => by simp at h⟩
  · simp only [List.mem_cons, List.not_mem_nil, or_false, not_or] at hi
    rw [List.getElem?_set_ne (Ne.symm hi.2), List.getElem?_set_ne (Ne.symm hi.1)]; exact h
  · match k, h, hr with
    | 0, h, hr =>
      simp at h hr; subst h; subst hr
      rw [List.getElem?_set_ne (Ne.symm hne), List.getElem?_set_self h0, ren_DB (g := backS [i0, i1] bx.length) (j := 1) (j' := i1) rfl]
    | 1, h, hr =>
      simp at h hr; subst h; subst hr
      rw [List.getElem?_set_self (by simpa using h1), ren_NB]
    | k + 2, h, _ => simp at h
theorem DB_upd {f : Fls} {q : Nat} {d d' : Dvc} (hn : d'.next = d.next) (hl : d'.nodes.length = d.nodes.length) (j cap cap1 : Nat) : DB f q d j cap cap1 = DB (f.set q d') q d' j cap cap1 := by
  unfold DB devB devR
  rw [List.map_set, List.set_set, hn, hl]
theorem liv_upd {n : Nat} {bx : List (List AV)} {k i j : Nat} {f : Fls} {q : Nat} {d d' : Dvc} {cap cap0 cap1 : Nat} (hq : q < f.length) (hn : d'.next = d.next) (hl : d'.nodes.length = d.nodes.length) (hc : f.length ≤ cap) (hc1 : d'.nodes.length ≤ cap1) (hni : n ≤ i) (hnj : n ≤ j)
    (hi : bx[i]? = some (DB f q d j cap cap1)) (hj : bx[j]? = some (NB d'.nodes cap1)) : livL n (frzG n bx (k + 2)) [.bs i 0 2 f.length cap0] = flsA (f.set q d') := by
  have : Nat.blt i n = false := by rw [← Bool.not_eq_true, Nat.blt_eq]; omega
  have key := low_fls (n := n) (bx := bx) (k := k) (i := i) (j := j) (f := f.set q d') (K := q) (d := d') (cap := cap) (cap0 := cap0) (cap1 := cap1) (by simp [hq]) (by simpa using hc) hc1 hni hnj (by rw [hi, DB_upd hn hl]) hj
  rw [List.length_set] at key
  have key2 : AV.agg [lowG (frzG n bx (k + 2)) (.bs i 0 2 f.length cap0)] = AV.agg (flsA (f.set q d')) := key
  have e : livL n (frzG n bx (k + 2)) [.bs i 0 2 f.length cap0] = [lowG (frzG n bx (k + 2)) (.bs i 0 2 f.length cap0)] := by simp only [livL, liv, this]
  rw [e]
  injection key2

structure FlsV (f : Fls) : Prop where
  few : f.length ≤ 3
  vd : ∀ d ∈ f, VD d
theorem FlsV.b {f : Fls} (h : FlsV f) : FlsB f := ⟨by have := h.few; omega, fun d hd => by have := (h.vd d hd).len; omega, fun d hd n hn => by have := (h.vd d hd).many n hn; omega⟩
theorem set_updI {ns : List Nod} (h : Asc ns) {i : Nat} {n : Nod} (hi : ns[i]? = some n) (g : Nod → Nod) : ns.set i (g n) = updI ns n.ino g := by
  apply List.ext_getElem?
  intro k
  unfold updI
  rw [List.getElem?_map, List.getElem?_set]
  have hil := (List.getElem?_eq_some_iff.1 hi).1
  split
  · rename_i e
    subst e
    rw [hi]
    simp [hil]
  · rename_i e
    cases hk : ns[k]? with
    | none => rfl
    | some m =>
      have : m.ino ≠ n.ino := by
        intro em
        obtain ⟨l1, e1⟩ := List.getElem?_eq_some_iff.1 hi
        obtain ⟨l2, e2⟩ := List.getElem?_eq_some_iff.1 hk
        have hp := List.pairwise_iff_getElem.1 h
        rcases Nat.lt_or_gt_of_ne e with hlt | hlt
        · have := hp i k l1 l2 hlt; rw [e1, e2] at this; omega
        · have := hp k i l2 l1 hlt; rw [e1, e2] at this; omega
      simp [this]
def onD (f : Fls) (q : Nat) (g : List Nod → List Nod) : Fls := f.modify q fun d => { d with nodes := g d.nodes }
theorem place_ok {f : Fls} {dir : Fil} {name : Str} (h : placeL f dir name = 0) : ∃ (q i : Nat) (d : Dvc) (n0 : Nod), dir.1 = (q : Int) ∧ f[q]? = some d ∧ d.nodes[i]? = some n0 ∧ n0.ino = dir.2 ∧ indexL f dir = (i : Int) ∧ nodeL f dir = some n0 ∧ n0.kind = 2 ∧ nameL name = true := by
  rcases index_node f dir with ⟨_, h2⟩ | ⟨q, i, d, n, h1, h2, h3, h4, h5, h6⟩
  · simp [placeL, h2] at h
  · refine ⟨q, i, d, n, h1, h2, h3, h4, h5, h6, ?_⟩
    simp only [placeL, h6] at h
    split at h
    · rename_i hk
      split at h
      · rename_i hn; exact ⟨hk, hn⟩
      · omega
    · omega
def chgR (R : ChgRes) : AV := .tup [.agg (flsA R.1), .sl 7 (R.2.1.map chgA) none, .v (.int .i64 R.2.2)]
theorem err_le (e : Int) : LeA (.tup [.agg [.v (.slice none 0 0)], .v (.slice none 0 0), .v (.int .i64 e)]) (chgR ([], [], e)) := (by repeat (first | exact LeA.refl _ | exact LeA.nil _ | exact LeL.refl _ | refine LeA.agg ?_ | refine LeA.tup ?_ | exact LeL.nil | refine LeL.cons ?_ ?_ | exact LeA.any _))
end Go.Proofs.Ytaidkbnbfnaihaa
namespace Go.Proofs.Ytaidkbnbfnaihaa
open Go.RowKit

def entS (ns : List Nod) (i : Nat) (n0 : Nod) (name : Str) (ino : Int) : List Nod := ns.set i { n0 with entries := entL n0.entries name ino }
theorem entS_len (ns : List Nod) (i : Nat) (n0 : Nod) (name : Str) (ino : Int) : (entS ns i n0 name ino).length = ns.length := by simp [entS]
theorem FlsB.set_ {f : Fls} (hf : FlsB f) {q : Nat} {d' : Dvc} (hn : d'.nodes.length ≤ 1000) (he : ∀ n ∈ d'.nodes, n.entries.length ≤ 1000) : FlsB (f.set q d') := by
  refine ⟨by simpa using hf.few, fun d hd => ?_, fun d hd n hn' => ?_⟩
  · rcases List.mem_or_eq_of_mem_set hd with h | h
    · exact hf.nodes d h
    · rw [h]; exact hn
  · rcases List.mem_or_eq_of_mem_set hd with h | h
    · exact hf.ents d h n hn'
    · subst h; exact he n hn'
theorem entS_D {d : Dvc} (hd : VD d) {i : Nat} {n0 : Nod} (hn : d.nodes[i]? = some n0) (name : Str) (ino : Int) : entS d.nodes i n0 name ino = entD d.nodes n0.ino name ino := by
  unfold entS entD
  rw [← set_updI hd.asc hn]
  rfl
end Go.Proofs.Ytaidkbnbfnaihaa
namespace Go.Proofs.Ytaidkbnbfnaihaa
open Go.RowKit

section
variable {P : Program} {N : Dim} {ops : Array Oper} {Q : Exit → AS → Prop} {S : AH → Prop} {tl : Nat}
def Clo (ops : Array Oper) (listed : Array Bool) : Prop := ∀ (k : Nat) (o : Oper), ops[k]? = some o → listed.getD k false = true → ∀ e ∈ o.after, Region.binds .any e = true → listed.getD e.on false = true
def cloB (ops : Array Oper) (listed : Array Bool) : Bool :=
  (List.range ops.size).all fun k => !listed.getD k false || match ops[k]? with
    | none => true
    | some o => o.after.all fun e => !Region.binds .any e || listed.getD e.on false
theorem cloB_spec {listed : Array Bool} (h : cloB ops listed = true) : Clo ops listed := by
  intro k o hk hl e he hb
  have h1 := List.all_eq_true.1 h k (List.mem_range.2 (Array.getElem?_eq_some_iff.1 hk).1)
  simp only [hl, Bool.not_true, Bool.false_or, hk] at h1
  have h2 := Array.all_eq_true'.1 h1 e he
  simpa [hb] using h2
theorem Clo.step {listed : Array Bool} (h : Clo ops listed) {j : Nat} {oj : Oper} (hj : ops[j]? = some oj) (hall : ∀ e ∈ oj.after, Region.binds .any e = true → listed.getD e.on false = true) : Clo ops (listed.setIfInBounds j true) := by
  intro k o hk hl e he hb
  refine getD_set_true ?_
  by_cases hjk : j = k
  · subst hjk
    rw [hj] at hk
    injection hk with hk
    subst hk
    exact hall e he hb
  · rw [getD_set_ne false hjk] at hl
    exact h k o hk hl e he hb
def tail2 (ops : Array Oper) (tl : Nat) : Bool :=
  match ops[tl]? with
  | none => true
  | some o => (List.range ops.size).all fun j => j == tl || (o.after.any fun e => Region.binds .any e && e.on == j) || (o.after.any fun e => Region.binds .any e && match ops[e.on]? with
    | none => false
    | some o2 => o2.after.any fun e2 => Region.binds .any e2 && e2.on == j)
theorem AAny.first2 {i : Nat} {oi : Oper} {x : AV} (hi : ops[i]? = some oi) (hd : dstIn oi.dst N = true) (htl : tail2 ops tl = true) (hit : i ≠ tl) :
    ∀ (fuel : Nat) (listed : Array Bool) (s : AS), Clo ops listed →
      (∀ j oj, ops[j]? = some oj → j ≠ i → listed.getD j true = false → (∀ e ∈ oj.after, Region.binds .any e = true → e.on ≠ i) → oi.apart ops oj = true) →
      i ∈ Region.ready .any ops listed → Steady P ops S oi x s.sl → S s.h →
      AAny P N ops Q S tl fuel (listed.setIfInBounds i true) ⟨put oi.dst x s.sl, s.h⟩ → AAny P N ops Q S tl (fuel + 1) listed s := by
  intro fuel
  induction fuel with
  | zero =>
    intro listed s _ _ hr hy hS H
    refine ⟨fun h => (by rw [h] at hr; cases hr), fun j hj => ?_⟩
    by_cases hji : j = i
    · subst hji; exact hy.op hi hd hS ⟨.inr hS, H⟩
    · have := ready_mono hj hji
      rw [H.1] at this
      cases this
  | succ fuel ih =>
    intro listed s hcl hfree hr hy hS H
    refine ⟨fun h => (by rw [h] at hr; cases hr), fun j hj => ?_⟩
    by_cases hji : j = i
    · subst hji; exact hy.op hi hd hS ⟨.inr hS, H⟩
    · have h1 := H.2 j (ready_mono hj hji)
      obtain ⟨hjun, oj, hoj, hall⟩ := mem_ready.1 hj
      have hun : ∀ k, k = i → listed.getD k false = true → False := fun k hk h1 => by
        have h0 := (mem_ready.1 hr).1
        rw [hk] at h1
        rcases Nat.lt_or_ge i listed.size with h' | h'
        · simp [h'] at h0 h1; rw [h0] at h1; cases h1
        · simp [Array.getElem?_eq_none h'] at h1
      have hnot : ∀ e ∈ oj.after, Region.binds .any e = true → e.on ≠ i := fun e he hb heq => hun _ heq (hall e he hb)
      obtain ⟨a1, a2, a3⟩ := Oper.apart_spec (hfree j oj hoj hji hjun hnot)
      have hfree' : ∀ k ok, ops[k]? = some ok → k ≠ i → (listed.setIfInBounds j true).getD k true = false →
          (∀ e ∈ ok.after, Region.binds .any e = true → e.on ≠ i) → oi.apart ops ok = true := fun k ok hk hki hun hno => by
        refine hfree k ok hk hki ?_ hno
        by_cases hjk : j = k
        · subst hjk; exact hjun
        · rw [getD_set_ne true hjk] at hun; exact hun
      have hjt : j ≠ tl := by
        intro e
        subst e
        unfold tail2 at htl
        simp only [hoj] at htl
        have h1 := List.all_eq_true.1 htl i (List.mem_range.2 (Array.getElem?_eq_some_iff.1 hi).1)
        simp only [Bool.or_eq_true, beq_iff_eq, Ne.symm hji, false_or] at h1
        rcases h1 with h1 | h1
        · obtain ⟨e, he, hb⟩ := Array.any_eq_true'.1 h1
          simp only [Bool.and_eq_true, beq_iff_eq] at hb
          exact hnot e he hb.1 hb.2
        · obtain ⟨e, he, hb⟩ := Array.any_eq_true'.1 h1
          simp only [Bool.and_eq_true] at hb
          obtain ⟨hb1, hb2⟩ := hb
          cases ho2 : ops[e.on]? with
          | none => rw [ho2] at hb2; cases hb2
          | some o2 =>
            rw [ho2] at hb2
            obtain ⟨e2, he2, hb3⟩ := Array.any_eq_true'.1 hb2
            simp only [Bool.and_eq_true, beq_iff_eq] at hb3
            exact hun _ hb3.2 (hcl _ o2 ho2 (hall e he hb1) e2 he2 hb3.1)
      have hgo : ∀ (y : AV) (h' : AH), S h' → AAny P N ops Q S tl fuel ((listed.setIfInBounds i true).setIfInBounds j true) ⟨put oj.dst y (put oi.dst x s.sl), h'⟩ →
          AAny P N ops Q S tl (fuel + 1) (listed.setIfInBounds j true) ⟨put oj.dst y s.sl, h'⟩ := fun y h' hS' hA => by
        refine ih (listed.setIfInBounds j true) ⟨put oj.dst y s.sl, h'⟩ (hcl.step hoj hall) hfree' (ready_mono hr (Ne.symm hji)) (hy.put y a3) hS' ?_
        rw [Array.setIfInBounds_comm _ _ hji, ← put_comm s.sl x y a2]
        exact hA
      unfold AOp at h1 ⊢
      simp only [hoj] at h1 ⊢
      obtain ⟨k1, t, k2, k3, k4⟩ := h1
      rw [wantedA_put s.sl x a1] at k2
      refine ⟨k1, t, k2, fun ht => ?_, fun ht => ?_⟩
      · refine ((k3 ht).congr fun z hz => (evs_put s.sl x fun u e he => a1 u e (mem_looks (he ▸ hz))).symm).mono ?_
        rintro y h' ⟨q1, q2⟩
        have q1' := q1.resolve_left hjt
        exact ⟨.inr q1', hgo y h' q1' q2⟩
      · obtain ⟨q1, q2⟩ := k4 ht
        have q1' := q1.resolve_left hjt
        exact ⟨.inr q1', hgo (.v undef) s.h q1' q2⟩
end
section
variable {P : Program} {N : Dim} {Q : Exit → AS → Prop} {l : List Oper} {S : AH → Prop} {tl : Nat} {fuel : Nat} {listed : Array Bool} {m : List (Nat × AV)} {h : AH} {op : Op} {ty : TypeId} {pos : String} {af : Array Edge} {gd : Option (Nat × Bool)}
theorem aa_t2 {i d : Nat} {x : AV} (hi : l[i]? = some ⟨some d, op, ty, pos, af, gd⟩) (hd : Nat.blt d N.n = true) (htl : (tail2 l.toArray tl && cloB l.toArray listed && !Nat.beq i tl && Region.free .any l.toArray listed i && (Region.ready .any l.toArray listed).contains i) = true)
    (hw : wantedA l.toArray (look m) ⟨some d, op, ty, pos, af, gd⟩ = some true) (hst : ∀ h, S h → AStep P ⟨some d, op, ty, pos, af, gd⟩ (evs (look m)) h (fun x' h' => x' = x ∧ h' = h)) (hS : S h)
    (H : AAny P N l.toArray Q S tl fuel (listed.setIfInBounds i true) ⟨look ((d, x) :: m), h⟩) : AAny P N l.toArray Q S tl (fuel + 1) listed ⟨look m, h⟩ := by
  simp only [Bool.and_eq_true, Bool.not_eq_true'] at htl
  obtain ⟨⟨⟨⟨t1, t0⟩, t2⟩, t3⟩, t4⟩ := htl
  exact AAny.first2 (oi := ⟨some d, op, ty, pos, af, gd⟩) (get_arr hi) hd t1 (fun e => by subst e; simp at t2) fuel listed ⟨look m, h⟩ (cloB_spec t0) (Region.free_spec (get_arr hi) t3) (List.contains_iff_mem.1 t4) (.inl ⟨hw, hst⟩) hS H
end
end Go.Proofs.Ytaidkbnbfnaihaa
namespace Go.Proofs.Ytaidkbnbfnaihaa
open Go.RowKit

theorem index_asc {f : Fls} {a : Fil} {q i : Nat} {d : Dvc} {n : Nod} (ha : a.1 = (q : Int)) (hq : f[q]? = some d) (hd : Asc d.nodes) (hn : d.nodes[i]? = some n) (hi : n.ino = a.2) : indexL f a = (i : Int) := by
  rw [indexL_at ha hq]
  refine idxBy_first hn (by simpa using hi) fun j y hj hy => ?_
  obtain ⟨l1, e1⟩ := List.getElem?_eq_some_iff.1 hn
  obtain ⟨l2, e2⟩ := List.getElem?_eq_some_iff.1 hy
  have hp := List.pairwise_iff_getElem.1 hd j i l2 l1 hj
  rw [e1, e2] at hp
  have : y.ino ≠ a.2 := by omega
  simpa using this
theorem Renter2 (f : Fls) (q : Nat) (d' : Dvc) (n : Nod) (i : Nat) (a : Fil) (name : Str) (ino : Int) (cap cap1 : Nat) (hf : FlsB (f.set q d')) (hq : q < f.length) (ha : a.1 = (q : Int)) (hi : indexL (f.set q d') a = (i : Int)) (hn : d'.nodes[i]? = some n) (hcap : f.length ≤ cap) (hcap1 : d'.nodes.length ≤ cap1) :
    ACall Try.prog 46 [.agg [.bs 0 0 2 f.length cap], .agg (filA a), .v (.string name), .v (.int .i64 ino)] [DB f q d' 1 cap cap1, NB d'.nodes cap1] (fun r b t => t = [] ∧ r = .tup [] ∧ b = [DB f q d' 1 cap cap1, NB (entS d'.nodes i n name ino) cap1]) := by
  have key := Renter (f.set q d') q d' n i a name ino cap cap1 hf (by simp [hq]) ha hi hn (by simpa using hcap) hcap1
  rw [List.length_set, DB_any] at key
  exact key
theorem plain_target {n : Nod} (h : plainL n = true) : n.target.size ≤ 128 := by
  unfold plainL at h
  split at h
  · cases h
  · split at h
    · simp [targetL] at h; omega
    · have h2 := List.isEmpty_iff.1 h
      rw [ByteArray.toList_eq] at h2
      have : n.target.data.size = 0 := by rw [← Array.length_toList, h2]; rfl
      show n.target.data.size ≤ 128
      omega
theorem nodG_target {f : Fls} (hv : FlsV f) (a : Fil) : (nodG f a).target.size ≤ 128 := by
  rcases index_node f a with ⟨-, h⟩ | ⟨k, i, d, n, -, h1, h2, -, -, h⟩
  · simp only [nodG, h, Option.getD_none]
    exact Nat.zero_le _
  · simp only [nodG, h, Option.getD_some]
    exact plain_target ((hv.vd d (List.mem_of_getElem? h1)).plain n (List.mem_of_getElem? h2))
def mkL (f : Fls) (dir : Fil) (name : Str) (n : Nod) : ChgRes :=
  if placeL f dir name ≠ 0 then ([], [], placeL f dir name) else if plainL n = false then ([], [], 22) else if (lookL f dir name).2 = 0 then ([], [], 17) else
  match atI f dir.1 with
  | none => ([], [], 2)
  | some d => if 16 ≤ d.nodes.length ∨ d.next = 1073741824 ∨ fullL f dir = true then ([], [], 28) else (f.set dir.1.toNat ⟨d.next + 1, entD d.nodes dir.2 name d.next ++ [mkNod n d.next dir.2]⟩, [(dir, name, (0, 0), (dir.1, d.next))], 0)
theorem DB_push {f : Fls} {q : Nat} {d : Dvc} {j j' cap cap1 c : Nat} (m : Nod) (hq : q < f.length) : SetAt (DB f q d j cap cap1) (0 + q * 2 + 1) [.bs j' 0 8 (d.nodes.length + 1) c] (DB f q { d with nodes := d.nodes ++ [m] } j' cap c) := by
  have h := DB_set (d := d) (d' := { d with nodes := d.nodes ++ [m] }) (j := j) (j' := j') (cap := cap) (cap1 := cap1) (cap1' := c) (k := 1) (cs := [.bs j' 0 8 (d.nodes ++ [m]).length c]) hq (by repeat constructor) (by simp)
  rwa [List.length_append] at h
section
set_option maxRecDepth 10000
set_option maxHeartbeats 2000000
theorem Rmake (f : Fls) (dir : Fil) (name : Str) (n : Nod) (hv : FlsV f) (hs : name.size ≤ 100000) (hns : n.target.size ≤ 100000) : AFn Try.prog 19 [.agg (flsA f), .agg (filA dir), .v (.string name), .agg (nodA n)] (fun r => r = chgR (mkL f dir name n)) := by
  have hf := hv.b
  obtain ⟨e0, he0⟩ : ∃ e0 : Int, e0 = if placeL f dir name ≠ 0 then placeL f dir name else if plainL n = false then 22 else 0 := ⟨_, rfl⟩
  refine enter Try.func19 rfl rfl rfl rfl rfl 0 rfl ?_
  refine w_ (b_ (h:=b_ (h:=b_ (h:=al_ (h:=a_ (h:=a_ (h:=e_ (w_ (l_ (h:=l_ (h:=m_ (h:=?_))))))))))))
  refine al_p rfl (q_call (Rplace f dir name hf hs) ?_)
  rintro r rfl
  refine a_ (h:=e_ (?_))
  refine aw_midI (fun t => t = ⟨look [(2, .v (.string name)), (4, .bp 0 0), (5, .bp 1 0), (7, .bp 2 0), (8, .bp 3 0), (9, .v (.slice none 0 0)), (10, .v (.int .i64 0)), (11, .v (.int .i64 e0))], ⟨[flsA f, filA dir, nodA n, [.v (.slice none 0 0)]], []⟩⟩) ?_ ?_
  · skip
    refine w_ (m_ (h:=eq_ (h:=m_ (h:=?_))))
    refine al_gs true rfl rfl (fun hb1 => ?_) (fun hb1 => ?_)
    · have hc1 := bp hb1
      refine l_ (h:=?_)
      refine g_y (q_call (Rplain n hns) ?_)
      rintro r rfl
      refine nt_ (h:=pt_ (h:=e_ (?_)))
      refine aw_cond rfl (fun hb2 => ?_) (fun hb2 => ?_)
      · have hc2 := bp hb2
        have hee : e0 = 22 := by rw [he0, if_neg (by omega), if_pos hc2]
        refine aw_region (a_ (h:=al_nil (?_)))
        refine x_then ?_
        refine ⟨_, rfl, ?_⟩
        rw [hee]
        exact (wk 4 0)
      · have hc2 := bp hb2
        have hee : e0 = placeL f dir name := by rw [he0, if_neg (by omega), if_neg (by simp [hc2]), hc1]
        refine aw_skip (?_)
        refine x_then ?_
        refine ⟨_, rfl, ?_⟩
        rw [hee]
        exact (wk 4 0)
    · have hc1 := bp hb1
      have hee : e0 = placeL f dir name := by rw [he0, if_pos hc1]
      refine g0_ (h:=g0_ (h:=g0_ (h:=pf_ (h:=e_ (cn_ (h:=aw_skip (?_)))))))
      refine x_then ?_
      refine ⟨_, rfl, ?_⟩
      rw [hee]
      exact (wk 4 0)
  · rintro t rfl
    refine q_ (w_ (m_ (h:=nq_ (h:=e_ (?_)))))
    refine aw_cond rfl (fun hb3 => ?_) (fun hb3 => ?_)
    · have hc3 := bp hb3
      refine w_ (bd_ (h:=m_ (h:=s_ (h:=a_ (h:=a_ (h:=e_ (aw_ret (x_thenR (?_)))))))))
      refine rt_ (r := chgR (mkL f dir name n)) none (h5 := ?_) (h6 := ⟨rfl, rfl, rfl⟩)
      rw [show mkL f dir name n = ([], [], e0) by
        unfold mkL
        by_cases h : placeL f dir name = 0
        · rw [if_neg (by omega)] at he0 ⊢
          by_cases h2 : plainL n = false
          · rw [if_pos h2] at he0 ⊢; rw [he0]
          · rw [if_neg h2] at he0; omega
        · rw [if_pos h] at he0 ⊢; rw [he0]]
      exact err_le _
    · have hc3 := bp hb3
      have hpl : placeL f dir name = 0 := by
        by_cases h : placeL f dir name = 0
        · exact h
        · rw [if_pos h] at he0; omega
      have hpn : ¬ plainL n = false := by
        intro h
        rw [if_neg (by omega), if_pos h] at he0
        omega
      refine kt_ (q_ (w_ (l_ (h:=l_ (h:=m_ (h:=?_))))))
      refine al_p rfl (q_call (Rlook f dir name hf) ?_)
      rintro r rfl
      refine m_ (h:=x_ (h:=x_ (h:=al_ (h:=s_ (h:=a_ (h:=e_ (w_ (m_ (h:=eq_ (h:=e_ (?_)))))))))))
      refine aw_cond rfl (fun hb4 => ?_) (fun hb4 => ?_)
      · have hc4 := bp hb4
        refine w_ (bd_ (h:=s_ (h:=a_ (h:=a_ (h:=e_ (aw_ret (x_thenR (?_))))))))
        refine rt_ (r := chgR (mkL f dir name n)) none (h5 := ?_) (h6 := ⟨rfl, rfl, rfl⟩)
        rw [mkL, if_neg (by omega), if_neg hpn, if_pos (by omega)]
        exact err_le _
      · have hc4 := bp hb4
        obtain ⟨q, i, d, n0, hdq, hq, hn0, hino, hidx, hnode, hk0, hnm⟩ := place_ok (name := name) (dir := dir) (f := f) hpl
        have hil := (List.getElem?_eq_some_iff.1 hn0).1
        have hql := (List.getElem?_eq_some_iff.1 hq).1
        have hvd := hv.vd d (List.mem_of_getElem? hq)
        have hatI : atI f dir.1 = some d := by rw [hdq, atI_nat, hq]
        have hrow : (f.map dvcA)[q]? = some (dvcA d) := by rw [List.getElem?_map, hq]; rfl
        have hnx1 := hvd.next2
        have hnx2 := hvd.nextM
        have hdl := hvd.len
        refine kt_ (w_ (f_ (h:=l_ (h:=f_ (h:=l_ (h:=?_))))))
        refine al_p rfl (st_index (n := q) rfl rfl hdq hrow ?_)
        refine l_ (h:=al_ (h:=s_ (h:=e_ (q_ (w_ (f_ (h:=l_ (h:=n_ (h:=ge_ (h:=m_ (h:=?_)))))))))))
        refine al_gs false rfl rfl (fun hb5 => ?_) (fun hb5 => ?_)
        · have hc5 := bp hb5
          refine g0_ (h:=g0_ (h:=g0_ (h:=pt_ (h:=m_ (h:=g0_ (h:=g0_ (h:=g0_ (h:=pt_ (h:=e_ (cy_ (h:=w_ (bd_ (h:=s_ (h:=a_ (h:=a_ (h:=e_ (aw_ret (x_thenR (?_)))))))))))))))))))
          refine rt_ (r := chgR (mkL f dir name n)) none (h5 := ?_) (h6 := ⟨rfl, rfl, rfl⟩)
          rw [mkL, if_neg (by omega), if_neg hpn, if_neg (by omega), hatI]
          simp only
          rw [if_pos (by first | exact .inl (by simp at *; omega) | exact .inr (.inl (by omega)) | exact .inr (.inr (by assumption)))]
          exact err_le _
        · have hc5 := bp hb5
          refine f_ (h:=l_ (h:=eq_ (h:=pf_ (h:=m_ (h:=?_)))))
          refine al_gs false rfl rfl (fun hb6 => ?_) (fun hb6 => ?_)
          · have hc6 := bp hb6
            refine g0_ (h:=g0_ (h:=g0_ (h:=pt_ (h:=e_ (cy_ (h:=w_ (bd_ (h:=s_ (h:=a_ (h:=a_ (h:=e_ (aw_ret (x_thenR (?_))))))))))))))
            refine rt_ (r := chgR (mkL f dir name n)) none (h5 := ?_) (h6 := ⟨rfl, rfl, rfl⟩)
            rw [mkL, if_neg (by omega), if_neg hpn, if_neg (by omega), hatI]
            simp only
            rw [if_pos (by first | exact .inl (by simp at *; omega) | exact .inr (.inl (by omega)) | exact .inr (.inr (by assumption)))]
            exact err_le _
          · have hc6 := bp hb6
            refine l_ (h:=l_ (h:=?_))
            refine g_y (q_call (Rfull f dir hf) ?_)
            rintro r rfl
            refine pf_ (h:=e_ (?_))
            refine aw_cond rfl (fun hb7 => ?_) (fun hb7 => ?_)
            · have hc7 := bp hb7
              refine w_ (bd_ (h:=s_ (h:=a_ (h:=a_ (h:=e_ (aw_ret (x_thenR (?_))))))))
              refine rt_ (r := chgR (mkL f dir name n)) none (h5 := ?_) (h6 := ⟨rfl, rfl, rfl⟩)
              rw [mkL, if_neg (by omega), if_neg hpn, if_neg (by omega), hatI]
              simp only
              rw [if_pos (by first | exact .inl (by simp at *; omega) | exact .inr (.inl (by omega)) | exact .inr (.inr (by assumption)))]
              exact err_le _
            · have hc7 := bp hb7
              refine kt_ (w_ (l_ (h:=?_)))
              refine al_p rfl (s_callM [] rfl (.cons _ _ _ _ _ rfl (LeA.refl _) .nil) (by decide) .nil (RcopyK f q d hf hq (by omega)) ?_)
              rintro r bc tc ⟨rfl, cap, cap1, hcap, hcap1, rfl, rfl⟩
              refine ⟨rfl, _, (back_new2 (n := 6) rfl f q d d.nodes cap cap1 : Back _ [] _ [_, _, _, _, _, _, _, _]), ?_⟩
              have hD0 : (DB f q d 7 cap cap1)[0 + q * 2 + 1]? = some (.bs 7 0 8 d.nodes.length cap1) := DB_nodes hql
              obtain ⟨mk, hmk⟩ : ∃ mk, mk = mkNod n d.next dir.2 := ⟨_, rfl⟩
              refine al_ (h:=s_ (h:=e_ (w_ (f_ (h:=l_ (h:=f_ (h:=l_ (h:=f_ (h:=l_ (h:=f_ (h:=l_ (h:=f_ (h:=l_ (h:=f_ (h:=l_ (h:=?_))))))))))))))))
              refine al_p rfl (st_le (y := .agg (nodA ⟨d.next, n.kind, n.mode, n.uid, n.gid, 0, n.target, []⟩)) (st_build (by repeat (first | exact FillA.nil _ | (apply FillA.cons; (focus exact rfl); (focus exact rfl); (focus exact rfl); (focus exact rfl); (focus exact rfl); (focus (repeat constructor))))) ⟨rfl, rfl⟩) (by repeat (first | exact LeA.refl _ | exact LeA.nil _ | exact LeL.refl _ | refine LeA.agg ?_ | refine LeA.tup ?_ | exact LeL.nil | refine LeL.cons ?_ ?_ | exact LeA.any _)) ?_)
              refine al_ (h:=s_ (h:=e_ (?_)))
              refine aw_midI (fun t => t = ⟨look [(2, .v (.string name)), (5, .bp 1 0), (8, .bp 3 0), (15, .bp 8 0), (16, .bp 9 0)], ⟨[flsA f, filA dir, nodA n, [.v (.slice none 0 0)], filA (lookL f dir name).1, dvcA d, DB f q d 7 cap cap1, NB d.nodes cap1, [.bs 6 0 2 f.length cap], nodA mk], []⟩⟩) ?_ ?_
              · skip
                refine w_ (f_ (h:=l_ (h:=eq_ (h:=e_ (?_)))))
                refine aw_cond rfl (fun hb8 => ?_) (fun hb8 => ?_)
                · have hc8 := bp hb8
                  have hmk2 : mk = ⟨d.next, n.kind, n.mode, n.uid, n.gid, dir.2, n.target, []⟩ := by rw [hmk]; unfold mkNod; rw [if_pos hc8]
                  refine aw_region (f_ (h:=l_ (h:=f_ (h:=s_ (h:=al_nil (?_))))))
                  refine x_then ?_
                  refine ⟨_, rfl, ?_⟩
                  rw [hmk2]
                  exact weak_of 10 0 rfl rfl rfl (by simp [bpLtB, bpLtL, bpLt, bp_DB, bp_NB, filA, nodA, flsA, dvcA]) (by repeat (first | exact Sub.nil | refine Sub.cons _ _ _ rfl rfl ?_ | refine Sub.any _ _ ?_ | refine Sub.sl _ _ _ _ _ rfl ?_ | refine Sub.slnil _ _ _ rfl ?_))
                · have hc8 := bp hb8
                  have hmk2 : mk = ⟨d.next, n.kind, n.mode, n.uid, n.gid, 0, n.target, []⟩ := by rw [hmk]; unfold mkNod; rw [if_neg hc8]
                  refine aw_skip (?_)
                  refine x_then ?_
                  refine ⟨_, rfl, ?_⟩
                  rw [hmk2]
                  exact weak_of 10 0 rfl rfl rfl (by simp [bpLtB, bpLtL, bpLt, bp_DB, bp_NB, filA, nodA, flsA, dvcA]) (by repeat (first | exact Sub.nil | refine Sub.cons _ _ _ rfl rfl ?_ | refine Sub.any _ _ ?_ | refine Sub.sl _ _ _ _ _ rfl ?_ | refine Sub.slnil _ _ _ rfl ?_))
              · rintro t rfl
                refine aw_midI (fun t => ∃ capx, (d.nodes ++ [mk]).length ≤ capx ∧ t = ⟨look [(2, .v (.string name)), (5, .bp 1 0), (8, .bp 3 0), (15, .bp 8 0), (16, .bp 9 0)], ⟨[flsA f, filA dir, nodA n, [.v (.slice none 0 0)], filA (lookL f dir name).1, dvcA d, DB f q { d with nodes := d.nodes ++ [mk] } 7 cap capx, NB (d.nodes ++ [mk]) capx, [.bs 6 0 2 f.length cap], nodA mk], []⟩⟩) ?_ ?_
                · skip
                  refine yk_ ([(0, flsA f), (1, filA dir), (2, nodA n), (3, [.v (.slice none 0 0)]), (4, filA (lookL f dir name).1), (5, dvcA d), (6, DB f q d 7 cap cap1), (8, [.bs 6 0 2 f.length cap]), (9, nodA mk)]) 16 (h:=?_)
                  refine aa_t2 (i := 0) rfl rfl (by kernel_rfl) (by first | rfl | exact wan_y rfl rfl (beq_tt ‹_›) | exact wan_y rfl rfl (beq_ff ‹_›) | exact wan_y rfl rfl (by simp [*])) (fun h0 hS => st_fieldB rfl ⟨rfl, rfl⟩) (by repeat (first | exact kb_n _ | refine kb_c rfl ?_)) ?_
                  first | refine aa_t2 (i := 1) rfl rfl (by kernel_rfl) (by first | rfl | exact wan_y rfl rfl (beq_tt ‹_›) | exact wan_y rfl rfl (beq_ff ‹_›) | exact wan_y rfl rfl (by simp [*])) (fun h0 hS => st_loadB1 (row := DB f q d 7 cap cap1) rfl (kb hS rfl) hD0 ⟨rfl, rfl⟩) (by repeat (first | exact kb_n _ | refine kb_c rfl ?_)) ?_ | refine aa_t2 (i := 1) rfl rfl (by kernel_rfl) (by first | rfl | exact wan_y rfl rfl (beq_tt ‹_›) | exact wan_y rfl rfl (beq_ff ‹_›) | exact wan_y rfl rfl (by simp [*])) (fun h0 hS => st_loadB1 rfl (kb hS rfl) rfl ⟨rfl, rfl⟩) (by repeat (first | exact kb_n _ | refine kb_c rfl ?_)) ?_
                  refine aa_t2 (i := 2) rfl rfl (by kernel_rfl) (by first | rfl | exact wan_y rfl rfl (beq_tt ‹_›) | exact wan_y rfl rfl (beq_ff ‹_›) | exact wan_y rfl rfl (by simp [*])) (fun h0 hS => st_fieldB rfl ⟨rfl, rfl⟩) (by repeat (first | exact kb_n _ | refine kb_c rfl ?_)) ?_
                  first | refine aa_t2 (i := 3) rfl rfl (by kernel_rfl) (by first | rfl | exact wan_y rfl rfl (beq_tt ‹_›) | exact wan_y rfl rfl (beq_ff ‹_›) | exact wan_y rfl rfl (by simp [*])) (fun h0 hS => st_loadB1 (row := DB f q d 7 cap cap1) rfl (kb hS rfl) hD0 ⟨rfl, rfl⟩) (by repeat (first | exact kb_n _ | refine kb_c rfl ?_)) ?_ | refine aa_t2 (i := 3) rfl rfl (by kernel_rfl) (by first | rfl | exact wan_y rfl rfl (beq_tt ‹_›) | exact wan_y rfl rfl (beq_ff ‹_›) | exact wan_y rfl rfl (by simp [*])) (fun h0 hS => st_loadB1 rfl (kb hS rfl) rfl ⟨rfl, rfl⟩) (by repeat (first | exact kb_n _ | refine kb_c rfl ?_)) ?_
                  refine aa_t2 (i := 4) rfl rfl (by kernel_rfl) (by first | rfl | exact wan_y rfl rfl (beq_tt ‹_›) | exact wan_y rfl rfl (beq_ff ‹_›) | exact wan_y rfl rfl (by simp [*])) (fun h0 hS => st_fieldB rfl ⟨rfl, rfl⟩) (by repeat (first | exact kb_n _ | refine kb_c rfl ?_)) ?_
                  first | refine aa_t2 (i := 5) rfl rfl (by kernel_rfl) (by first | rfl | exact wan_y rfl rfl (beq_tt ‹_›) | exact wan_y rfl rfl (beq_ff ‹_›) | exact wan_y rfl rfl (by simp [*])) (fun h0 hS => st_loadB1 (row := DB f q d 7 cap cap1) rfl (kb hS rfl) hD0 ⟨rfl, rfl⟩) (by repeat (first | exact kb_n _ | refine kb_c rfl ?_)) ?_ | refine aa_t2 (i := 5) rfl rfl (by kernel_rfl) (by first | rfl | exact wan_y rfl rfl (beq_tt ‹_›) | exact wan_y rfl rfl (beq_ff ‹_›) | exact wan_y rfl rfl (by simp [*])) (fun h0 hS => st_loadB1 rfl (kb hS rfl) rfl ⟨rfl, rfl⟩) (by repeat (first | exact kb_n _ | refine kb_c rfl ?_)) ?_
                  refine aa_t2 (i := 6) rfl rfl (by kernel_rfl) (by first | rfl | exact wan_y rfl rfl (beq_tt ‹_›) | exact wan_y rfl rfl (beq_ff ‹_›) | exact wan_y rfl rfl (by simp [*])) (fun h0 hS => st_fieldB rfl ⟨rfl, rfl⟩) (by repeat (first | exact kb_n _ | refine kb_c rfl ?_)) ?_
                  first | refine aa_t2 (i := 7) rfl rfl (by kernel_rfl) (by first | rfl | exact wan_y rfl rfl (beq_tt ‹_›) | exact wan_y rfl rfl (beq_ff ‹_›) | exact wan_y rfl rfl (by simp [*])) (fun h0 hS => st_loadB1 (row := DB f q d 7 cap cap1) rfl (kb hS rfl) hD0 ⟨rfl, rfl⟩) (by repeat (first | exact kb_n _ | refine kb_c rfl ?_)) ?_ | refine aa_t2 (i := 7) rfl rfl (by kernel_rfl) (by first | rfl | exact wan_y rfl rfl (beq_tt ‹_›) | exact wan_y rfl rfl (beq_ff ‹_›) | exact wan_y rfl rfl (by simp [*])) (fun h0 hS => st_loadB1 rfl (kb hS rfl) rfl ⟨rfl, rfl⟩) (by repeat (first | exact kb_n _ | refine kb_c rfl ?_)) ?_
                  refine aa_t2 (i := 8) rfl rfl (by kernel_rfl) (by first | rfl | exact wan_y rfl rfl (beq_tt ‹_›) | exact wan_y rfl rfl (beq_ff ‹_›) | exact wan_y rfl rfl (by simp [*])) (fun h0 hS => st_indexS (m := q) rfl rfl hdq hql ⟨rfl, rfl⟩) (by repeat (first | exact kb_n _ | refine kb_c rfl ?_)) ?_
                  refine aa_t2 (i := 9) rfl rfl (by kernel_rfl) (by first | rfl | exact wan_y rfl rfl (beq_tt ‹_›) | exact wan_y rfl rfl (beq_ff ‹_›) | exact wan_y rfl rfl (by simp [*])) (fun h0 hS => st_fieldB rfl ⟨rfl, rfl⟩) (by repeat (first | exact kb_n _ | refine kb_c rfl ?_)) ?_
                  first | refine aa_t2 (i := 10) rfl rfl (by kernel_rfl) (by first | rfl | exact wan_y rfl rfl (beq_tt ‹_›) | exact wan_y rfl rfl (beq_ff ‹_›) | exact wan_y rfl rfl (by simp [*])) (fun h0 hS => st_loadB1 (row := DB f q d 7 cap cap1) rfl (kb hS rfl) hD0 ⟨rfl, rfl⟩) (by repeat (first | exact kb_n _ | refine kb_c rfl ?_)) ?_ | refine aa_t2 (i := 10) rfl rfl (by kernel_rfl) (by first | rfl | exact wan_y rfl rfl (beq_tt ‹_›) | exact wan_y rfl rfl (beq_ff ‹_›) | exact wan_y rfl rfl (by simp [*])) (fun h0 hS => st_loadB1 rfl (kb hS rfl) rfl ⟨rfl, rfl⟩) (by repeat (first | exact kb_n _ | refine kb_c rfl ?_)) ?_
                  first | refine aa_t2 (i := 11) rfl rfl (by kernel_rfl) (by first | rfl | exact wan_y rfl rfl (beq_tt ‹_›) | exact wan_y rfl rfl (beq_ff ‹_›) | exact wan_y rfl rfl (by simp [*])) (fun h0 hS => st_loadB1 (row := DB f q d 7 cap cap1) rfl (kb hS rfl) hD0 ⟨rfl, rfl⟩) (by repeat (first | exact kb_n _ | refine kb_c rfl ?_)) ?_ | refine aa_t2 (i := 11) rfl rfl (by kernel_rfl) (by first | rfl | exact wan_y rfl rfl (beq_tt ‹_›) | exact wan_y rfl rfl (beq_ff ‹_›) | exact wan_y rfl rfl (by simp [*])) (fun h0 hS => st_loadBW rfl (kb hS rfl) rfl ⟨rfl, rfl⟩) (by repeat (first | exact kb_n _ | refine kb_c rfl ?_)) ?_
                  refine aa_t2 (i := 12) rfl rfl (by kernel_rfl) (by first | rfl | exact wan_y rfl rfl (beq_tt ‹_›) | exact wan_y rfl rfl (beq_ff ‹_›) | exact wan_y rfl rfl (by simp [*])) (fun h0 hS => st_slit (by repeat (first | exact DenseA.nil _ | (apply DenseA.cons; (focus exact rfl); (focus exact rfl); (focus exact rfl); (focus exact rfl)) | (apply DenseA.consE; (focus exact rfl); (focus exact rfl); (focus exact rfl)))) rfl rfl rfl rfl ⟨rfl, rfl⟩) (by repeat (first | exact kb_n _ | refine kb_c rfl ?_)) ?_
                  refine c_ 13 rfl (st_appendB rfl rfl rfl (by rw [NB_len hcap1]; omega) src1 (by omega) (by omega) ?_ ?_)
                  · rintro hg row2 bx2 hs hb
                    obtain rfl := NB_push hs hg
                    obtain rfl : bx2 = [_, _, _, _, _, _, _, _, _, _] := hb.one.2
                    have hgx : (d.nodes ++ [mk]).length ≤ cap1 := by simpa using hg
                    refine o_ (h:=?_)
                    refine aa_t2 (i := 14) rfl rfl (by kernel_rfl) (by first | rfl | exact wan_y rfl rfl (beq_tt ‹_›) | exact wan_y rfl rfl (beq_ff ‹_›) | exact wan_y rfl rfl (by simp [*])) (fun h0 hS => st_indexS (m := q) rfl rfl hdq hql ⟨rfl, rfl⟩) (by repeat (first | exact kb_n _ | refine kb_c rfl ?_)) ?_
                    refine aa_t2 (i := 15) rfl rfl (by kernel_rfl) (by first | rfl | exact wan_y rfl rfl (beq_tt ‹_›) | exact wan_y rfl rfl (beq_ff ‹_›) | exact wan_y rfl rfl (by simp [*])) (fun h0 hS => st_fieldB rfl ⟨rfl, rfl⟩) (by repeat (first | exact kb_n _ | refine kb_c rfl ?_)) ?_
                    refine c0_ 16 rfl (s_store rfl rfl rfl rfl rfl rfl (DB_push mk hql) (by repeat constructor) ?_)
                    refine o_ (h:=z_ (h:=?_))
                    refine x_then ?_
                    first | exact ⟨_, ⟨_, hgx, rfl⟩, weak_ren [0, 1, 2, 3, 4, 5, 6, 10, 8, 9] (fun i hi => absurd hi (Nat.not_lt_zero i)) (by decide) (.cons _ _ _ _ _ rfl rfl (.cons _ _ _ _ _ rfl rfl (.cons _ _ _ _ _ rfl rfl (.cons _ _ _ _ _ rfl rfl (.cons _ _ _ _ _ rfl rfl (.cons _ _ _ _ _ rfl rfl (.cons _ _ _ _ _ rfl (renK_DB (by rfl) _ _ _ _ _) (.cons _ _ _ _ _ rfl (renK_NB _ _ _) (.cons _ _ _ _ _ rfl rfl (.cons _ _ _ _ _ rfl rfl .nil)))))))))) (by repeat (first | exact SubK.nil | refine SubK.cons _ _ _ _ rfl (LeA.refl _) ?_))⟩ | exact ⟨_, ⟨_, hgx, rfl⟩, weak_of 10 0 rfl rfl rfl (by simp [bpLtB, bpLtL, bpLt, bp_DB, bp_NB, filA, nodA, flsA, dvcA]) ((by repeat (first | exact Sub.nil | refine Sub.cons _ _ _ rfl rfl ?_ | refine Sub.any _ _ ?_ | refine Sub.sl _ _ _ _ _ rfl ?_ | refine Sub.slnil _ _ _ rfl ?_)))⟩
                  · rintro hg cap3 k bx2 hcp3 hs
                    rw [show ((NB d.nodes cap1).drop 0).take (d.nodes.length * 8) ++ cellsA (.agg (nodA mk)) ++ List.replicate ((cap3 - (d.nodes.length + 1)) * 8) AV.any = NB (d.nodes ++ [mk]) cap3 from NB_new d.nodes mk cap1 cap3] at hs
                    obtain ⟨rfl, rfl⟩ : k = 10 ∧ bx2 = [_, _, _, _, _, _, _, _, _, _, _] := hs.eq
                    have hgx : (d.nodes ++ [mk]).length ≤ cap3 := by simpa using hcp3
                    refine o_ (h:=?_)
                    refine aa_t2 (i := 14) rfl rfl (by kernel_rfl) (by first | rfl | exact wan_y rfl rfl (beq_tt ‹_›) | exact wan_y rfl rfl (beq_ff ‹_›) | exact wan_y rfl rfl (by simp [*])) (fun h0 hS => st_indexS (m := q) rfl rfl hdq hql ⟨rfl, rfl⟩) (by repeat (first | exact kb_n _ | refine kb_c rfl ?_)) ?_
                    refine aa_t2 (i := 15) rfl rfl (by kernel_rfl) (by first | rfl | exact wan_y rfl rfl (beq_tt ‹_›) | exact wan_y rfl rfl (beq_ff ‹_›) | exact wan_y rfl rfl (by simp [*])) (fun h0 hS => st_fieldB rfl ⟨rfl, rfl⟩) (by repeat (first | exact kb_n _ | refine kb_c rfl ?_)) ?_
                    refine c0_ 16 rfl (s_store rfl rfl rfl rfl rfl rfl (DB_push mk hql) (by repeat constructor) ?_)
                    refine o_ (h:=z_ (h:=?_))
                    refine x_then ?_
                    first | exact ⟨_, ⟨_, hgx, rfl⟩, weak_ren [0, 1, 2, 3, 4, 5, 6, 10, 8, 9] (fun i hi => absurd hi (Nat.not_lt_zero i)) (by decide) (.cons _ _ _ _ _ rfl rfl (.cons _ _ _ _ _ rfl rfl (.cons _ _ _ _ _ rfl rfl (.cons _ _ _ _ _ rfl rfl (.cons _ _ _ _ _ rfl rfl (.cons _ _ _ _ _ rfl rfl (.cons _ _ _ _ _ rfl (renK_DB (by rfl) _ _ _ _ _) (.cons _ _ _ _ _ rfl (renK_NB _ _ _) (.cons _ _ _ _ _ rfl rfl (.cons _ _ _ _ _ rfl rfl .nil)))))))))) (by repeat (first | exact SubK.nil | refine SubK.cons _ _ _ _ rfl (LeA.refl _) ?_))⟩ | exact ⟨_, ⟨_, hgx, rfl⟩, weak_of 10 0 rfl rfl rfl (by simp [bpLtB, bpLtL, bpLt, bp_DB, bp_NB, filA, nodA, flsA, dvcA]) ((by repeat (first | exact Sub.nil | refine Sub.cons _ _ _ rfl rfl ?_ | refine Sub.any _ _ ?_ | refine Sub.sl _ _ _ _ _ rfl ?_ | refine Sub.slnil _ _ _ rfl ?_)))⟩
                · rintro t ⟨capx, hcapx, rfl⟩
                  have hasc2 : Asc (d.nodes ++ [mk]) := List.pairwise_append.2 ⟨hvd.asc, List.pairwise_singleton _ _, fun x hx y hy => by obtain rfl := List.mem_singleton.1 hy; rw [hmk]; exact hvd.lt x hx⟩
                  have hn2 : (d.nodes ++ [mk])[i]? = some n0 := by rw [List.getElem?_append_left hil]; exact hn0
                  have hidx2 : indexL (f.set q ⟨d.next + 1, d.nodes ++ [mk]⟩) dir = (i : Int) := index_asc hdq (d := ⟨d.next + 1, d.nodes ++ [mk]⟩) (by simp [hql]) hasc2 hn2 hino
                  have hf2 : FlsB (f.set q ⟨d.next + 1, d.nodes ++ [mk]⟩) := hf.set_ (by have := hvd.len; simp; omega) (fun m hm => by
                    rcases List.mem_append.1 hm with h | h
                    · have := hvd.many m h; omega
                    · obtain rfl := List.mem_singleton.1 h; rw [hmk]; simp [mkNod])
                  have hmki : mk.ino = d.next := by rw [hmk]; rfl
                  have hmk0 : (nodA mk)[0 + 0]? = some (.v (.int .i64 d.next)) := by rw [hmk]; rfl
                  refine w_ (f_ (h:=l_ (h:=f_ (h:=l_ (h:=?_)))))
                  refine al_p rfl (st_indexS (m := q) rfl rfl hdq hql ?_)
                  refine f_ (h:=?_)
                  refine al_p rfl (st_loadB1 rfl rfl (DB_next hql) ?_)
                  refine al_p rfl (st_add64 rfl rfl (by dsimp only; omega) ?_)
                  refine al_p rfl (st_indexS (m := q) rfl rfl hdq hql ?_)
                  refine f_ (h:=?_)
                  refine al_p0 (s_store rfl rfl rfl rfl rfl rfl (DB_set (d' := ⟨d.next + 1, d.nodes ++ [mk]⟩) (j' := 7) (cap1' := capx) (k := 0) (cs := [.v (.int .i64 (d.next + 1))]) hql (by repeat constructor) (by simp)) (by repeat constructor) ?_)
                  refine e_ (w_ (l_ (h:=l_ (h:=m_ (h:=f_ (h:=l_ (h:=?_)))))))
                  refine al_p rfl (s_callM [6, 7] rfl (.cons _ _ _ _ _ rfl (LeA.refl _) (.cons _ _ _ _ _ rfl (LeA.refl _) (.cons _ _ _ _ _ rfl (LeA.refl _) (.cons _ _ _ _ _ rfl (LeA.of_eq (show AV.v (.int .i64 mk.ino) = _ by rw [hmki])) .nil)))) (by decide) (.cons _ _ _ _ _ rfl (ren_DB (by rfl) _ _ _ _ _) (.cons _ _ _ _ _ rfl (ren_NB _ _ _) .nil)) (Renter2 f q ⟨d.next + 1, d.nodes ++ [mk]⟩ n0 i dir name d.next cap capx hf2 hql hdq hidx2 hn2 hcap hcapx) ?_)
                  rintro r bc tc ⟨rfl, rfl, rfl⟩
                  refine ⟨rfl, _, (back_two (Nat.le_of_ble_eq_true rfl) (Nat.le_of_ble_eq_true rfl) (by decide) f q ⟨d.next + 1, d.nodes ++ [mk]⟩ (entS (d.nodes ++ [mk]) i n0 name d.next) cap capx capx : Back _ [6, 7] _ [_, _, _, _, _, _, _, _, _, _]), ?_⟩
                  refine e_ (?_)
                  refine aw_midI (fun t => t = ⟨look [(8, .bp 3 0), (9, .sl 7 [chgA (dir, name, (0, 0), (dir.1, d.next))] none), (10, .v (.int .i64 0))], ⟨[flsA f, filA dir, nodA n, flsA (f.set q ⟨d.next + 1, entS (d.nodes ++ [mk]) i n0 name d.next⟩)], []⟩⟩) ?_ ?_
                  · skip
                    refine yk_ ([(0, flsA f), (1, filA dir), (2, nodA n), (4, filA (lookL f dir name).1), (5, dvcA d), (8, [.bs 6 0 2 f.length cap]), (9, nodA mk)]) 13 (h:=dl_ 0 (h:=dl_ 1 (h:=dm_ 2 (h:=?_))))
                    refine tk_ 3 rfl (fun _ hS => st_le (y := .agg (filA (0, 0))) (st_build (by repeat (first | exact FillA.nil _ | (apply FillA.cons; (focus exact rfl); (focus exact rfl); (focus exact rfl); (focus exact rfl); (focus exact rfl); (focus (repeat constructor))))) ⟨rfl, rfl⟩) (by repeat (first | exact LeA.refl _ | exact LeA.nil _ | exact LeL.refl _ | refine LeA.agg ⟨rfl, rfl⟩ | refine LeA.tup ⟨rfl, rfl⟩ | exact LeL.nil | refine LeL.cons ⟨rfl, rfl⟩ ⟨rfl, rfl⟩ | exact LeA.any _)) ⟨rfl, rfl⟩) ?_
                    refine df_ 4 (h:=dl_ 5 (h:=df_ 6 (h:=?_)))
                    refine tk_ 7 rfl (fun _ hS => st_loadB1 (row := nodA mk) rfl (kb hS rfl) hmk0 ⟨rfl, rfl⟩) ?_
                    refine dbd_ 8 (h:=?_)
                    refine c_ 9 rfl (q_call (Rone dir name (0, 0) (dir.1, d.next)) ?_)
                    rintro r rfl
                    refine o_ (h:=?_)
                    refine c0_ 10 rfl (s_store rfl rfl rfl rfl rfl rfl (by repeat constructor) (by repeat constructor) ?_)
                    refine o_ (h:=da_ 11 (h:=da_ 12 (h:=z_ (h:=?_))))
                    refine x_then ?_
                    exact ⟨_, rfl, weak_fz 4 2 rfl (congrArg (fun x => [flsA f, filA dir, nodA n, x]) (liv_upd (k := 0) (i := 6) (j := 7) (d := ⟨d.next + 1, d.nodes ++ [mk]⟩) (d' := ⟨d.next + 1, entS (d.nodes ++ [mk]) i n0 name d.next⟩) hql rfl (entS_len _ _ _ _ _) hcap (by rw [entS_len]; exact hcapx) (Nat.le_of_ble_eq_true rfl) (Nat.le_of_ble_eq_true rfl) rfl rfl)) (.cons _ _ _ _ rfl (LeA.refl _) (.cons _ _ _ _ rfl (LeA.refl _) (.cons _ _ _ _ rfl (LeA.refl _) .nil)))⟩
                  · rintro t rfl
                    refine aw_ret (?_)
                    refine e_ret ?_
                    rw [List.length_map] at hc5
                    rw [mkL, if_neg (by omega), if_neg hpn, if_neg (by omega), hatI]
                    simp only
                    rw [if_neg (by rw [hc7]; simp; omega), hdq, Int.toNat_natCast, ← hino, ← entS_D hvd hn0, hino, ← hmk, show entS d.nodes i n0 name d.next ++ [mk] = entS (d.nodes ++ [mk]) i n0 name d.next by unfold entS; rw [List.set_append_left _ _ hil], ← hdq]
                    rfl

end
end Go.Proofs.Ytaidkbnbfnaihaa
namespace Go.Proofs.Ytaidkbnbfnaihaa

theorem FlsV.set_ {f : Fls} (h : FlsV f) {q : Nat} {d' : Dvc} (hd : VD d') : FlsV (f.set q d') := by
  refine ⟨by simpa using h.few, fun d hm => ?_⟩
  rcases List.mem_or_eq_of_mem_set hm with h1 | h1
  · exact h.vd d h1
  · rw [h1]; exact hd
theorem at_ok {f : Fls} {a : Fil} (h : hasG f a = true) : ∃ (q i : Nat) (d : Dvc) (m : Nod), a.1 = (q : Int) ∧ f[q]? = some d ∧ d.nodes[i]? = some m ∧ m.ino = a.2 ∧ nodeL f a = some m ∧ nodG f a = m := by
  rcases index_node f a with ⟨_, h2⟩ | ⟨q, i, d, n, h1, h2, h3, h4, h5, h6⟩
  · simp [hasG, h2] at h
  · exact ⟨q, i, d, n, h1, h2, h3, h4, h6, by simp [nodG, h6]⟩
theorem node_asc {f : Fls} {a : Fil} {q : Nat} {d : Dvc} {m : Nod} (ha : a.1 = (q : Int)) (hq : f[q]? = some d) (hd : Asc d.nodes) (hm : m ∈ d.nodes) (hi : m.ino = a.2) : nodeL f a = some m := by
  unfold nodeL
  rw [ha, atI_nat, hq]
  simp only
  cases h : d.nodes.find? (fun n => n.ino == a.2) with
  | none =>
    have := List.find?_eq_none.1 h m hm
    simp [hi] at this
  | some n =>
    have h1 := List.mem_of_find?_eq_some h
    have h2 := List.find?_some h
    simp only [beq_iff_eq] at h2
    rw [asc_eq hd h1 hm (by omega)]
theorem look_no {f : Fls} {dir : Fil} {name : Str} {n0 : Nod} (hn : nodeL f dir = some n0) (hk : n0.kind = 2) (h : (lookL f dir name).2 ≠ 0) : entF n0.entries name = none ∧ (lookL f dir name).1 = (0, 0) := by
  unfold lookL at h ⊢
  rw [hn] at h ⊢
  simp only [hk, if_true] at h ⊢
  unfold entF
  split at h
  · rename_i he
    exact ⟨he, rfl⟩
  · exact absurd rfl h
theorem full_no {f : Fls} {dir : Fil} {n0 : Nod} (hn : nodeL f dir = some n0) (h : ¬ fullL f dir = true) : n0.entries.length < 12 := by
  unfold fullL at h
  rw [hn] at h
  simp at h
  omega
def Okay (f : Fls) (R : ChgRes) : Prop := R.2.2 = 0 → FlsV R.1 ∧ R.1.length = f.length
theorem okay_err {f : Fls} {e : Int} (h : e ≠ 0) : Okay f ([], [], e) := fun h0 => absurd h0 h
theorem dir_kind {f : Fls} {a : Fil} {m : Nod} (h : nodeL f a = some m) : dirL f a = true ↔ m.kind = 2 := by
  unfold dirL; rw [h]; simp
theorem make_okay {f : Fls} (hv : FlsV f) (dir : Fil) (name : Str) (n : Nod) : Okay f (mkL f dir name n) := by
  unfold mkL
  split
  · rename_i h; exact okay_err h
  · rename_i hp
    split
    · exact okay_err (by decide)
    · rename_i hpl
      split
      · exact okay_err (by decide)
      · rename_i hl
        obtain ⟨q, i, d, n0, hdq, hq, hn0, hino, hidx, hnode, hk0, hnm⟩ := place_ok (name := name) (dir := dir) (f := f) (by omega)
        have hat : atI f dir.1 = some d := by rw [hdq, atI_nat, hq]
        rw [hat]
        simp only
        split
        · exact okay_err (by decide)
        · rename_i hc
          intro _
          have hvd := hv.vd d (List.mem_of_getElem? hq)
          have hnm2 := hvd.nextM
          have key := hvd.make (List.mem_of_getElem? hn0) hk0 hnm (look_no hnode hk0 hl).1 (n := n) (by simpa using hpl) (by omega) (by omega) (full_no hnode (fun h => hc (.inr (.inr h))))
          refine ⟨?_, by simp⟩
          dsimp only
          rw [hdq, Int.toNat_natCast, ← hino]
          exact hv.set_ key
end Go.Proofs.Ytaidkbnbfnaihaa
namespace Go.Proofs.Ytaidkbnbfnaihaa
open Go.RowKit

theorem root_vd : VD rootDvc := by
  refine ⟨by decide, by decide, by decide, ⟨rootNod, [], rfl, rfl, rfl, rfl⟩, List.pairwise_singleton _ _, ?_, ?_, ?_, ?_, ?_, ?_, ?_, ?_, ?_, ⟨fun _ => 0, ?_⟩⟩ <;>
    (intro n hn; obtain rfl : n = rootNod := by simpa [rootDvc] using hn)
  · decide
  · decide +kernel
  · intro h; exact absurd rfl h
  · decide
  · exact List.Pairwise.nil
  · intro e he; cases he
  · intro h; exact absurd rfl h
  · intro h; exact absurd rfl h
  · intro h; exact absurd rfl h
  · intro h; exact absurd rfl h
theorem new_valid {k : Int} (h1 : 1 ≤ k) (h2 : k ≤ 3) : FlsV (newL k).1 ∧ 0 < (newL k).1.length := by
  unfold newL
  rw [if_neg (by omega)]
  refine ⟨⟨?_, fun d hd => ?_⟩, ?_⟩
  · show (List.replicate _ _).length ≤ 3
    rw [List.length_replicate]; omega
  · rw [(List.mem_replicate.1 hd).2]; exact root_vd
  · show 0 < (List.replicate _ _).length
    rw [List.length_replicate]; omega
structure MntOK (f : Fls) (ms : List Mnt) (m : Mnt) : Prop where
  dev1 : 1 ≤ m.1
  dev2 : m.1 < (f.length : Int)
  fresh : mtdL ⟨f, ms⟩ m.1 = false
  dir : dirL f m.2 = true
  there : mtdL ⟨f, ms⟩ m.2.1 = true
  free : (covL ⟨f, ms⟩ m.2).isSome = false
structure SpcV (s : Spc) : Prop where
  files : FlsV s.files
  pos : 0 < s.files.length
  mnt : ∀ i m, s.mounts[i]? = some m → MntOK s.files (s.mounts.take i) m
end Go.Proofs.Ytaidkbnbfnaihaa
namespace Go.Proofs.Ytaidkbnbfnaihaa

def stepR (s : Spc) (a : Fil) : Option Fil := if a.2 ≠ 1 then some (a.1, (nodG s.files a).parent) else onL s a.1
def ends (s : Spc) : Nat → Fil → Prop
  | 0, a => dirL s.files a = false
  | k + 1, a => dirL s.files a = false ∨ ∀ b, stepR s a = some b → ends s k b
theorem on_mem {s : Spc} {dev : Int} {on : Fil} (h : onL s dev = some on) : ∃ m ∈ s.mounts, m.1 = dev ∧ m.2 = on := by
  unfold onL at h
  cases hf : s.mounts.find? fun m : Mnt => decide (m.1 = dev) with
  | none => rw [hf] at h; cases h
  | some m =>
    rw [hf] at h
    injection h with h
    exact ⟨m, List.mem_of_find?_eq_some hf, by have := List.find?_some hf; simpa using this, h⟩
theorem dir_node {f : Fls} {a : Fil} (h : ¬ dirL f a = false) : ∃ (q : Nat) (d : Dvc) (m : Nod), a.1 = (q : Int) ∧ f[q]? = some d ∧ m ∈ d.nodes ∧ m.ino = a.2 ∧ nodG f a = m ∧ m.kind = 2 := by
  rw [Bool.not_eq_false, dirL_eq, Bool.and_eq_true, decide_eq_true_eq] at h
  obtain ⟨q, i, d, m, h1, h2, h3, h4, _, h6⟩ := at_ok h.1
  exact ⟨q, d, m, h1, h2, List.mem_of_getElem? h3, h4, h6, by rw [← h6]; exact h.2⟩
theorem step_eq {s : Spc} (hv : SpcV s) {a : Fil} (h : ¬ dirL s.files a = false) : stepC s a = stepR s a := by
  obtain ⟨q, d, m, _, _, _, h4, h5, _⟩ := dir_node h
  unfold stepC stepR
  rw [h5, h4]
  split
  · rfl
  · split
    · rename_i h0
      cases ho : onL s a.1 with
      | none => rfl
      | some on =>
        obtain ⟨m', hm, h1, _⟩ := on_mem ho
        obtain ⟨i, hi⟩ := List.getElem?_of_mem hm
        have := (hv.mnt i m' hi).dev1
        omega
    · rfl
def posM (s : Spc) (dev : Int) : Nat := match s.mounts.findIdx? fun m : Mnt => decide (m.1 = dev) with
  | none => 0
  | some i => i + 1
theorem pos_on {s : Spc} (hv : SpcV s) {dev : Int} {on : Fil} (h : onL s dev = some on) : posM s on.1 < posM s dev := by
  unfold onL at h
  cases hf : s.mounts.find? fun m : Mnt => decide (m.1 = dev) with
  | none => rw [hf] at h; cases h
  | some m =>
    rw [hf] at h
    injection h with h
    subst h
    rw [List.find?_eq_some_iff_getElem] at hf
    obtain ⟨hp, i, hi, hmi, hbefore⟩ := hf
    have e1 : s.mounts.findIdx? (fun m : Mnt => decide (m.1 = dev)) = some i := by
      rw [List.findIdx?_eq_some_iff_getElem]
      exact ⟨hi, by rw [hmi]; exact hp, fun j hj => by simpa using hbefore j hj⟩
    have hthere := (hv.mnt i m (by rw [List.getElem?_eq_getElem hi, hmi])).there
    unfold posM
    rw [e1]
    cases e2 : s.mounts.findIdx? (fun m' : Mnt => decide (m'.1 = m.2.1)) with
    | none => simp
    | some j =>
      simp only
      by_cases h0 : m.2.1 = 0
      · rw [List.findIdx?_eq_some_iff_getElem] at e2
        obtain ⟨hj, h1, _⟩ := e2
        have := (hv.mnt j _ (List.getElem?_eq_getElem hj)).dev1
        simp only [decide_eq_true_eq] at h1
        omega
      · unfold mtdL onL at hthere
        simp only [Bool.or_eq_true, decide_eq_true_eq, h0, or_false, Option.isSome_map] at hthere
        cases hg : (s.mounts.take i).find? fun m' : Mnt => decide (m'.1 = m.2.1) with
        | none => rw [hg] at hthere; cases hthere
        | some m' =>
          rw [List.find?_eq_some_iff_getElem] at hg
          obtain ⟨hp', k, hk, hmk, _⟩ := hg
          rw [List.findIdx?_eq_some_iff_getElem] at e2
          obtain ⟨hj, _, hno⟩ := e2
          have hki : k < i := by simp at hk; omega
          by_cases hjk : j ≤ k
          · omega
          · have := hno k (by omega)
            simp only [List.getElem_take] at hmk
            rw [hmk] at this
            rw [hp'] at this
            exact absurd rfl this
theorem ends_ex {s : Spc} (hv : SpcV s) : ∀ (p : Nat) (a : Fil), posM s a.1 < p → ∃ k, ends s k a := by
  intro p
  induction p with
  | zero => intro a h; omega
  | succ p ih =>
    intro a hp
    by_cases hd : dirL s.files a = false
    · exact ⟨0, hd⟩
    · obtain ⟨q, d, m, hq, hfd, _⟩ := dir_node hd
      have hvd := hv.files.vd d (List.mem_of_getElem? hfd)
      obtain ⟨rk, hrk⟩ := hvd.rank
      have key : ∀ (r : Nat) (ino : Int), rk ino < r → ∃ k, ends s k (a.1, ino) := by
        intro r
        induction r with
        | zero => intro ino h; omega
        | succ r ihr =>
          intro ino hr
          by_cases hd2 : dirL s.files (a.1, ino) = false
          · exact ⟨0, hd2⟩
          · obtain ⟨q', d', m', hq', hfd', hm', hi', hn', hk'⟩ := dir_node hd2
            have : q' = q := by simp only at hq'; omega
            subst this
            rw [hfd] at hfd'
            injection hfd' with hfd'
            subst hfd'
            simp only at hi'
            by_cases h1 : ino = 1
            · cases ho : onL s a.1 with
              | none => exact ⟨1, .inr fun b hb => by simp [stepR, h1, ho] at hb⟩
              | some on =>
                obtain ⟨k, hk⟩ := ih on (by have := pos_on hv ho; omega)
                refine ⟨k + 1, .inr fun b hb => ?_⟩
                simp [stepR, h1, ho] at hb
                rw [← hb]; exact hk
            · obtain ⟨k, hk⟩ := ihr m'.parent (by have := hrk m' hm' (by omega) hk'; rw [hi'] at this; omega)
              refine ⟨k + 1, .inr fun b hb => ?_⟩
              simp [stepR, h1, hn'] at hb
              rw [← hb]; exact hk
      exact key (rk a.2 + 1) a.2 (by omega)
theorem chain_no {s : Spc} {a : Fil} (h : dirL s.files a = false) : ∀ k, chainP s k a = []
  | 0 => rfl
  | k + 1 => by unfold chainP; rw [h]; rfl
theorem chain_yes {s : Spc} {a : Fil} (h : ¬ dirL s.files a = false) (k : Nat) : chainP s (k + 1) a = a :: (match stepC s a with
    | none => []
    | some b => chainP s k b) := by
  conv => lhs; unfold chainP
  rw [if_pos (by simpa using h)]
  cases stepC s a <;> rfl
theorem chain_irr {s : Spc} (hv : SpcV s) : ∀ (k k' : Nat) (a : Fil), ends s k a → ends s k' a → chainP s k a = chainP s k' a := by
  intro k
  induction k with
  | zero => intro k' a h _; rw [chain_no h, chain_no h]
  | succ k ih =>
    intro k' a h h'
    by_cases hd : dirL s.files a = false
    · rw [chain_no hd, chain_no hd]
    · cases k' with
      | zero => exact absurd h' hd
      | succ k' =>
        rw [chain_yes hd, chain_yes hd]
        have h1 := h.resolve_left hd
        have h2 := h'.resolve_left hd
        rw [← step_eq hv hd] at h1 h2
        cases hs : stepC s a with
        | none => rfl
        | some b => simp only; rw [ih k' b (h1 b hs) (h2 b hs)]
theorem chain_mem {s : Spc} (hv : SpcV s) : ∀ (k : Nat) (a x : Fil), ends s k a → x ∈ chainP s k a → (¬ dirL s.files x = false) ∧ ∃ j, ends s j x ∧ (chainP s j x).length ≤ (chainP s k a).length := by
  intro k
  induction k with
  | zero => intro a x h hx; cases hx
  | succ k ih =>
    intro a x h hx
    by_cases hd : dirL s.files a = false
    · rw [chain_no hd] at hx; cases hx
    · have h1 := h.resolve_left hd
      rw [← step_eq hv hd] at h1
      rw [chain_yes hd] at hx
      rcases List.mem_cons.1 hx with rfl | hx
      · exact ⟨hd, k + 1, h, Nat.le_refl _⟩
      · rw [chain_yes hd]
        cases hs : stepC s a with
        | none => rw [hs] at hx; cases hx
        | some b =>
          rw [hs] at hx
          obtain ⟨h2, j, h3, h4⟩ := ih b x (h1 b hs) hx
          exact ⟨h2, j, h3, by simp; omega⟩
theorem chain_nodup {s : Spc} (hv : SpcV s) : ∀ (k : Nat) (a : Fil), ends s k a → (chainP s k a).Nodup := by
  intro k
  induction k with
  | zero => intro a h; exact List.nodup_nil
  | succ k ih =>
    intro a h
    by_cases hd : dirL s.files a = false
    · rw [chain_no hd]; exact List.nodup_nil
    · have h1 := h.resolve_left hd
      rw [← step_eq hv hd] at h1
      cases hs : stepC s a with
      | none => rw [chain_yes hd, hs]; simp
      | some b =>
        have e : chainP s (k + 1) a = a :: chainP s k b := by rw [chain_yes hd, hs]
        rw [e, List.nodup_cons]
        refine ⟨fun hm => ?_, ih b (h1 b hs)⟩
        obtain ⟨_, j, h3, h4⟩ := chain_mem hv k b a (h1 b hs) hm
        rw [chain_irr hv j (k + 1) a h3 h, e] at h4
        simp at h4
        omega
def allN : Nat → Fls → List Fil
  | _, [] => []
  | q, d :: ds => d.nodes.map (fun n => ((q : Int), n.ino)) ++ allN (q + 1) ds
theorem allN_len : ∀ (f : Fls) (q : Nat), (allN q f).length = mostL f
  | [], _ => rfl
  | d :: ds, q => by
    have := allN_len ds (q + 1)
    unfold mostL at this ⊢
    simp only [allN, List.length_append, List.length_map, List.map_cons, List.sum_cons]
    omega
theorem allN_mem : ∀ (f : Fls) (q i : Nat) (d : Dvc) (m : Nod), f[i]? = some d → m ∈ d.nodes → (((q + i : Nat) : Int), m.ino) ∈ allN q f
  | [], _, i, _, _, h, _ => by simp at h
  | d0 :: ds, q, 0, d, m, h, hm => by
    simp only [List.getElem?_cons_zero, Option.some.injEq] at h
    subst h
    simp only [allN, Nat.add_zero]
    exact List.mem_append_left _ (List.mem_map.2 ⟨m, hm, rfl⟩)
  | d0 :: ds, q, i + 1, d, m, h, hm => by
    simp only [List.getElem?_cons_succ] at h
    have := allN_mem ds (q + 1) i d m h hm
    simp only [allN]
    refine List.mem_append_right _ ?_
    rwa [show q + (i + 1) = q + 1 + i by omega]
theorem nodup_le {l : List Fil} (hn : l.Nodup) : ∀ {m : List Fil}, (∀ x ∈ l, x ∈ m) → l.length ≤ m.length := by
  induction l with
  | nil => intro m _; simp
  | cons x xs ih =>
    intro m h
    rw [List.nodup_cons] at hn
    have h1 := ih hn.2 (m := m.erase x) fun y hy => by
      have hne : y ≠ x := fun e => hn.1 (e ▸ hy)
      exact (List.mem_erase_of_ne hne).2 (h y (List.mem_cons_of_mem _ hy))
    have h2 := List.length_erase_of_mem (h x (List.mem_cons_self ..))
    have h3 : 0 < m.length := List.length_pos_of_mem (h x (List.mem_cons_self ..))
    simp only [List.length_cons]
    omega
theorem chain_le {s : Spc} (hv : SpcV s) {k : Nat} {a : Fil} (h : ends s k a) : (chainP s k a).length ≤ mostL s.files := by
  rw [← allN_len s.files 0]
  refine nodup_le (chain_nodup hv k a h) fun x hx => ?_
  obtain ⟨hd, _⟩ := chain_mem hv k a x h hx
  obtain ⟨q, d, m, h1, h2, h3, h4, _⟩ := dir_node hd
  have := allN_mem s.files 0 q d m h2 h3
  rw [Nat.zero_add, h4, ← h1] at this
  exact this
theorem ends_len {s : Spc} (hv : SpcV s) : ∀ (k m : Nat) (a : Fil), ends s k a → (chainP s k a).length ≤ m → ends s m a := by
  intro k
  induction k with
  | zero =>
    intro m a h _
    cases m with
    | zero => exact h
    | succ m => exact .inl h
  | succ k ih =>
    intro m a h hl
    by_cases hd : dirL s.files a = false
    · cases m with
      | zero => exact hd
      | succ m => exact .inl hd
    · have h1 := h.resolve_left hd
      rw [chain_yes hd] at hl
      cases m with
      | zero => simp at hl
      | succ m =>
        refine .inr fun b hb => ?_
        have hb' := hb
        rw [← step_eq hv hd] at hb'
        rw [hb'] at hl
        exact ih m b (h1 b hb) (by simpa using hl)
theorem ends_most {s : Spc} (hv : SpcV s) (a : Fil) : ends s (mostL s.files) a := by
  obtain ⟨k, hk⟩ := ends_ex hv (posM s a.1 + 1) a (Nat.lt_succ_self _)
  exact ends_len hv k _ a hk (chain_le hv hk)
end Go.Proofs.Ytaidkbnbfnaihaa
namespace Go.Proofs.Ytaidkbnbfnaihaa

theorem chain_suf {s : Spc} (hv : SpcV s) : ∀ (k : Nat) (a x : Fil), ends s k a → x ∈ chainP s k a → ∃ j, ends s j x ∧ chainP s j x <:+ chainP s k a := by
  intro k
  induction k with
  | zero => intro a x h hx; cases hx
  | succ k ih =>
    intro a x h hx
    by_cases hd : dirL s.files a = false
    · rw [chain_no hd] at hx; cases hx
    · have h1 := h.resolve_left hd
      rw [← step_eq hv hd] at h1
      rw [chain_yes hd] at hx
      rcases List.mem_cons.1 hx with rfl | hx
      · exact ⟨k + 1, h, List.suffix_refl _⟩
      · rw [chain_yes hd]
        cases hs : stepC s a with
        | none => rw [hs] at hx; cases hx
        | some b =>
          rw [hs] at hx
          obtain ⟨j, h3, h4⟩ := ih b x (h1 b hs) hx
          exact ⟨j, h3, h4.trans (List.suffix_cons _ _)⟩
section
variable {s : Spc} (hv : SpcV s)
include hv
theorem most_suf {a b : Fil} (h : a ∈ chainP s (mostL s.files) b) : chainP s (mostL s.files) a <:+ chainP s (mostL s.files) b := by
  obtain ⟨j, h1, h2⟩ := chain_suf hv _ b a (ends_most hv b) h
  rwa [chain_irr hv j (mostL s.files) a h1 (ends_most hv a)] at h2
theorem chain_head {a : Fil} (h : dirL s.files a = true) : ∃ t, chainP s (mostL s.files) a = a :: t := by
  have hd : ¬ dirL s.files a = false := by rw [h]; simp
  have := ends_most hv a
  cases hm : mostL s.files with
  | zero => rw [hm] at this; exact absurd this hd
  | succ m => exact ⟨_, chain_yes hd m⟩
theorem within_dir {a b : Fil} (h : a ∈ chainP s (mostL s.files) b) : dirL s.files a = true := by
  have := (chain_mem hv _ b a (ends_most hv b) h).1
  simpa using this
end
end Go.Proofs.Ytaidkbnbfnaihaa
namespace Go.Proofs.Ytaidkbnbfnaihaa
open Go.RowKit Go.Shelf
section
variable {F : Fence} {n : Nat} {P : Program}

theorem wpIn_rangeFunc_sa {α : Type} {g : Operand} {ps : Array Tmp} {assign body : Code} {Q : Exit → Act → World → Prop} {a : Act} {w : World}
    (hro : F.round = none) (h1 : 1 ≤ n) {gf : Nat} {lb : Array Value} (hg : a.eval g = .func (.func gf) #[] lb) (hFg : F.fn gf) (eg : ∀ args w, (callFunc gf args).run P w = .ok (.enter gf args) w)
    {encs : α → Array Value} {own : Nat → Prop} {Kp : World → World → Prop} {Pf : List α → Prop} {S Sp : List α → Prop} {w0 : World} (hseq : SeqW F (n - 1) P gf lb encs own Kp Pf S Sp w0)
    (hown : ∀ b, own b → b < w.heap.size) (hKt : ∀ {A B C : World}, Kp A B → Kp B C → Kp A C) (hKb : ∀ (W : World) (l : Nat) (o o' : Obj), w.heap.size ≤ l → W.heap[l]? = some o → o.isCells = false → Kp W (W.putObj l o'))
    (hb0 : Below w0.heap.size w0 w) (hps : ∀ x, (encs x).size = ps.size)
    (I : List α → World → Prop) (Ix : Code → List α → World → Prop) (hI : ∀ s X Y, I s X → Moves own w.heap.size X Y → I s Y) (hIx : ∀ c s X Y, Ix c s X → Moves own w.heap.size X Y → Ix c s Y) (h0 : I [] w) (a₁ : α → World → Act) (w₁ : α → World → World) (hw1 : ∀ x W, w.heap.size + 2 ≤ W.heap.size → Below W.heap.size W (w₁ x W) ∧ Kp W (w₁ x W))
    (hassign : ∀ (l : Nat) (x : α) (W : World) (K : Act → World → Prop), w.heap.size + 2 ≤ W.heap.size → K (a₁ x W) (w₁ x W) →
      assign.wpIn (F.inRound l) (n - 1 - 1) P (Exit.then K (fun _ _ _ => False)) { tmps := (ps.zip (encs x)).foldl (fun t (p, v) => t.setIfInBounds p v) a.tmps, defers := [] } W)
    (hbody : ∀ (l : Nat) (pre : List α) (x : α) (W0 W : World), I pre W → Pf (pre ++ [x]) → w.heap.size + 2 ≤ W0.heap.size → (w₁ x W0).heap.size ≤ W.heap.size → (∀ (k : Nat) (o : Obj), (w₁ x W0).heap[k]? = some o → o.isCells = true → W.heap[k]? = some o) → w.heap.size ≤ l → (∃ r, W.heap[l]? = some (.loop r)) →
      body.wpIn (F.inRound l) (n - 1 - 1) P (ownPostG w.heap.size Kp I Ix (pre ++ [x]) W) (a₁ x W0) W)
    (hdone : ∀ (D : Nat) (xs : List α) (W : World), w.heap.size ≤ D → S xs → I xs W → W.heap[D]? = some (.deferred (some [])) → Q .normal { a with defers := { target := .collected D, args := #[] } :: a.defers } W)
    (hstop : ∀ (D : Nat) (c : Code) (pre : List α) (W : World), w.heap.size ≤ D → Sp pre → Ix c pre W → W.heap[D]? = some (.deferred (some [])) → c.wpIn F n P Q { a with defers := { target := .collected D, args := #[] } :: a.defers } W) :
    (Code.rangeFunc g ps assign body).wpIn F n P Q a w := by
  refine wpIn_rangeFunc ?_
  intro fn hfn
  rw [hro]
  obtain ⟨rec, hrec⟩ : ∃ rec : LoopState → Option Code → Loop, rec = fun st pe => { state := st, pending := pe, fn, tmps := a.tmps, params := ps, assign, body, defers := w.heap.size } := ⟨_, rfl⟩
  obtain ⟨W1, hW1⟩ : ∃ W1, (w.alloc (.deferred (some []))).alloc (.loop (rec .ready none)) = W1 := ⟨_, rfl⟩
  have hbw : Below w.heap.size w W1 := by rw [← hW1]; exact below_a2 w _ _
  have hsz : W1.heap.size = w.heap.size + 2 := by rw [← hW1]; simp
  have hL1 : W1.heap[w.heap.size + 1]? = some (.loop (rec .ready none)) := by rw [← hW1]; exact blk_a2_1 _ _ _
  have hK1 : W1.heap[w.heap.size]? = some (.deferred (some [])) := by rw [← hW1]; exact blk_a2_0 _ _ _
  have hn0 : ¬ own w.heap.size := fun h => by have := hown _ h; omega
  have hn1 : ¬ own (w.heap.size + 1) := fun h => by have := hown _ h; omega
  refine ⟨w.heap.size + 1, [{ target := .collected w.heap.size, args := #[] }], W1, { target := .fn (.func gf) lb, args := #[.func (.yield (w.heap.size + 1)) #[] #[]] }, W1, gf,
    #[.func (.yield (w.heap.size + 1)) #[] #[]] ++ lb, W1, ?_, ?_, ?_, ?_, fun _ => h1, ?_⟩
  · rw [← hW1, hrec]; exact run_enterLoop_outer _ _ _ _ _
  · simp only [resolve, hg]
    simp [go_sem]
  · intro f' hf'; simp [Target.leads] at hf'; subst hf'; exact hFg
  · simp [invoke, go_sem, eg]
  · have lt_of : ∀ {W : World} {k : Nat} {o : Obj}, W.heap[k]? = some o → k < W.heap.size := fun h => (Array.getElem?_eq_some_iff.1 h).1
    have keep : ∀ {X Y : World} {k : Nat} {o : Obj}, Moves own W1.heap.size X Y → X.heap[k]? = some o → k < W1.heap.size → ¬ own k → Y.heap[k]? = some o := fun hm hx hk hn => (hm.block _ (lt_of hx) hn (.inl hk)).trans hx
    refine (hseq (w.heap.size + 1)
      (fun pre W => I pre W ∧ W.heap[w.heap.size + 1]? = some (.loop (rec .ready none)) ∧ W.heap[w.heap.size]? = some (.deferred (some [])))
      (fun pre W => ∃ c, Ix c pre W ∧ W.heap[w.heap.size + 1]? = some (.loop (rec .done (some c))) ∧ W.heap[w.heap.size]? = some (.deferred (some [])))
      W1 (hb0.trans (hbw.mono hb0.size))
      (fun s X Y hs hm => ⟨hI s X Y hs.1 (hm.mono (by omega)), keep hm hs.2.1 (by omega) hn1, keep hm hs.2.2 (by omega) hn0⟩)
      (fun s X Y hs hm => by
        obtain ⟨c, hc, hl, hk⟩ := hs
        exact ⟨c, hIx c s X Y hc (hm.mono (by omega)), keep hm hl (by omega) hn1, keep hm hk (by omega) hn0⟩)
      ?_ ⟨hI _ _ _ h0 (.below hbw), hL1, hK1⟩).mono ?_
    · rintro pre x W0 ⟨hi0, hl0, hk0⟩ hpf
      have hlt0 : w.heap.size + 1 < W0.heap.size := lt_of hl0
      obtain ⟨hbV, hkV⟩ := hw1 x W0 hlt0
      obtain ⟨W, hWe⟩ : ∃ W, w₁ x W0 = W := ⟨_, rfl⟩
      rw [hWe] at hbV hkV
      have hi : I pre W := hI _ _ _ hi0 (.below hbV)
      have hl := (hbV.block _ (by omega)).trans hl0
      have hk := (hbV.block _ (by omega)).trans hk0
      have hlt : w.heap.size + 1 < W.heap.size := lt_of hl
      have hy := run_yield (P := P) (args := encs x) hl0 (by rw [hrec]; exact hps x)
      rw [hrec] at hy
      refine ⟨fn, _, assign, body, hy, roundIn_of_wpIn hfn (hassign _ x W0 _ hlt0 ⟨_, run_beginRound (by rw [hWe]; exact hl) (by rw [hrec]), ?_⟩)⟩
      rw [hWe]
      have hl2 : (W.putObj (w.heap.size + 1) (.loop { rec .ready none with state := .busy })).heap[w.heap.size + 1]? = some (.loop { rec .ready none with state := .busy }) := World.putObj_heap_same hlt
      have hk2 : (W.putObj (w.heap.size + 1) (.loop { rec .ready none with state := .busy })).heap[w.heap.size]? = some (.deferred (some [])) := (World.putObj_heap_other (by omega)).trans hk
      have hw2 : Kp W0 (W.putObj (w.heap.size + 1) (.loop { rec .ready none with state := .busy })) := hKt hkV (hKb _ _ _ _ (by omega) hl rfl)
      refine wpIn_mono (hbody _ pre x W0 _ (hI _ _ _ hi (.put_ _ hl rfl (by omega))) hpf hlt0 (by rw [hWe]; exact (grownBy_putObj' W (w.heap.size + 1) _).size) (fun k o hko hoc => by
        rw [hWe] at hko
        refine (World.putObj_heap_other fun e => ?_).trans hko
        subst e
        rw [hl] at hko
        injection hko with hko
        subst hko
        cases hoc) (by omega) ⟨_, hl2⟩) ?_
      have fin : ∀ (jump : Option Code) (W3 : World), KeepsFrom w.heap.size (W.putObj (w.heap.size + 1) (.loop { rec .ready none with state := .busy })) W3 →
          (Instr.endRound (w.heap.size + 1) jump).run P W3 = .ok (.bool jump.isNone) (W3.putObj (w.heap.size + 1) (.loop (rec (if jump.isNone then .ready else .done) jump))) ∧
          W3.heap[w.heap.size + 1]? = some (.loop { rec .ready none with state := .busy }) ∧
          (W3.putObj (w.heap.size + 1) (.loop (rec (if jump.isNone then .ready else .done) jump))).heap[w.heap.size + 1]? = some (.loop (rec (if jump.isNone then .ready else .done) jump)) ∧
          (W3.putObj (w.heap.size + 1) (.loop (rec (if jump.isNone then .ready else .done) jump))).heap[w.heap.size]? = some (.deferred (some [])) := fun jump W3 hk3 => by
        have hl3 := hk3.same _ _ (by omega) hl2 rfl
        have := run_endRound (P := P) jump hl3
        rw [hrec] at this ⊢
        exact ⟨this, by rw [hrec] at hl3; exact hl3, World.putObj_heap_same (lt_of hl3), (World.putObj_heap_other (by omega)).trans (hk3.same _ _ (Nat.le_refl _) hk2 rfl)⟩
      rintro e a3 W3 hp
      cases e with
      | normal =>
        obtain ⟨hk3, hkp3, hi3⟩ := hp
        obtain ⟨hr, hl3, hl4, hk4⟩ := fin none W3 hk3
        exact ⟨_, _, hr, .inl ⟨rfl, ⟨hI _ _ _ hi3 (.put_ _ hl3 rfl (by omega)), hl4, hk4⟩, hKt (hKt hw2 hkp3) (hKb _ _ _ _ (by omega) hl3 rfl)⟩⟩
      | ret =>
        obtain ⟨hk3, hi3⟩ := hp
        obtain ⟨hr, hl3, hl4, hk4⟩ := fin (some .ret) W3 hk3
        exact ⟨_, _, hr, .inr ⟨rfl, .ret, hIx _ _ _ _ hi3 (.put_ _ hl3 rfl (by omega)), hl4, hk4⟩⟩
      | exit id =>
        obtain ⟨hk3, hi3⟩ := hp
        obtain ⟨hr, hl3, hl4, hk4⟩ := fin (some (.exit id)) W3 hk3
        exact ⟨_, _, hr, .inr ⟨rfl, .exit id, hIx _ _ _ _ hi3 (.put_ _ hl3 rfl (by omega)), hl4, hk4⟩⟩
      | goto t =>
        obtain ⟨hk3, hi3⟩ := hp
        obtain ⟨hr, hl3, hl4, hk4⟩ := fin (some (.goto t)) W3 hk3
        exact ⟨_, _, hr, .inr ⟨rfl, .goto t, hIx _ _ _ _ hi3 (.put_ _ hl3 rfl (by omega)), hl4, hk4⟩⟩
      | panic ch => exact hp.elim
      | outgrown => exact hp.elim
    · rintro e W2 ⟨⟨v, rfl⟩, (⟨xs, hS, hi, hl, hk⟩ | ⟨pre, hSp, c, hi, hl, hk⟩)⟩
      · exact ⟨none, _, by have := run_endLoop (P := P) hl (by rw [hrec]; simp); rw [hrec] at this; exact this, hdone _ xs _ (Nat.le_refl _) hS (hI _ _ _ hi (.put_ _ hl rfl (by omega))) ((World.putObj_heap_other (by omega)).trans hk)⟩
      · exact ⟨some c, _, by have := run_endLoop (P := P) hl (by rw [hrec]; simp); rw [hrec] at this; exact this, hstop _ c pre _ (Nat.le_refl _) hSp (hIx _ _ _ _ hi (.put_ _ hl rfl (by omega))) ((World.putObj_heap_other (by omega)).trans hk)⟩

end
theorem lt_some {W : World} {k : Nat} {o : Obj} (h : W.heap[k]? = some o) : k < W.heap.size := (Array.getElem?_eq_some_iff.1 h).1
attribute [local go_sem] Oper.semAt_some
end Go.Proofs.Ytaidkbnbfnaihaa
namespace Go.Proofs.Ytaidkbnbfnaihaa
open Go.RowKit Go.Shelf
attribute [local go_sem] Oper.semAt_some
end Go.Proofs.Ytaidkbnbfnaihaa
namespace Go.Proofs.Ytaidkbnbfnaihaa
open Go.RowKit

def abvL (s : Spc) (a : Fil) : Nod := nodG s.files (a.1, (nodG s.files a).parent)
def nmoL (s : Spc) (a : Fil) : Str := (((abvL s a).entries.find? fun e : Ent => decide (e.2 = a.2)).map (·.1)).getD ⟨#[]⟩
section
set_option maxRecDepth 10000
set_option maxHeartbeats 1000000
theorem PnameOf (s : Spc) (a : Fil) (hs : SpcB s) : AFn Try.prog 85 [.agg (spcA s), .agg (filA a)] (fun r => r = .v (.string (nmoL s a))) := by
  have hen := nodG_ents hs.files (a.1, (nodG s.files a).parent)
  change (abvL s a).entries.length ≤ 1000 at hen
  refine enter Try.func85 rfl rfl rfl rfl rfl 0 rfl ?_
  refine w_ (b_ (h:=b_ (h:=a_ (h:=e_ (w_ (f_ (h:=l_ (h:=l_ (h:=?_)))))))))
  refine al_p rfl (q_call (Pnode s.files a hs.files) ?_)
  rintro r rfl
  · skip
    refine m_ (h:=x_ (h:=x_ (h:=al_ (h:=s_ (h:=a_ (h:=e_ (w_ (f_ (h:=l_ (h:=f_ (h:=l_ (h:=f_ (h:=l_ (h:=bd_ (h:=?_)))))))))))))))
    refine al_p rfl (q_call (Pnode s.files (a.1, (nodG s.files a).parent) hs.files) ?_)
    rintro r rfl
    · skip
      refine m_ (h:=x_ (h:=x_ (h:=al_ (h:=s_ (h:=a_ (h:=e_ (q_ (w_ (f_ (h:=l_ (h:=n_ (h:=m_ (h:=e_ (aw_block (?_)))))))))))))))
      refine aw_loopW (fun m t => ∃ j : Nat, j ≤ (abvL s a).entries.length ∧ m = (abvL s a).entries.length - j ∧ (∀ i y, i < j → (abvL s a).entries[i]? = some y → decide (y.2 = a.2) = false) ∧ t = ⟨look [(3, .bp 1 0), (30, .sl 2 ((abvL s a).entries.map entA) none), (31, .v (.int .i64 (((abvL s a).entries.map entA).length : Int))), (32, .v (.int .i64 (j : Int)))], ⟨[spcA s, filA a], []⟩⟩) ((abvL s a).entries.length) ((wk 2 0)) (⟨0, by omega, rfl, fun i y hi => by omega, rfl⟩) ?_
      rintro m t ⟨j, hj, rfl, ha, rfl⟩
      refine w_ (lt_ (h:=e_ (q_ (?_))))
      refine aw_cond rfl (fun hb1 => ?_) (fun hb1 => ?_)
      · have hc1 := bp hb1
        obtain ⟨hlt, x, hy, hrow, -⟩ := row_at entA hc1
        refine kt_ (q_ (aw_block (w_ (i_ (h:=l_ (h:=al_ (h:=s_ (h:=e_ (w_ (f_ (h:=l_ (h:=f_ (h:=l_ (h:=eq_ (h:=e_ (?_))))))))))))))))
        refine aw_cond rfl (fun hb2 => ?_) (fun hb2 => ?_)
        · have hc2 := bp hb2
          refine w_ (f_ (h:=l_ (h:=a_ (h:=e_ (aw_ret (x_blockR (x_thenR (x_thenR (x_blockR (x_thenR (?_)))))))))))
          refine e_ret ?_
          rw [show nmoL s a = x.1 by simp only [nmoL]; rw [find_at hy (by simpa using hc2) ha]; rfl]
          rfl
        · have hc2 := bp hb2
          refine aw_skip (x_blockN (t_ (aw_region (ad_ (h:=m_ (h:=al_nil (?_)))))))
          refine x_then ?_
          refine ⟨_, _, ?_, ⟨j + 1, by omega, rfl, upto_snoc hy ha (by simpa using hc2), rfl⟩, (wk 2 0)⟩
          omega
      · have hc1 := bp hb1
        have e3 := row_no entA hj hc1
        subst e3
        refine aw_exit (x_thenE (x_thenE (ABlock_out (t_ (w_ (a_ (h:=e_ (aw_ret (?_)))))))))
        refine e_ret ?_
        rw [show nmoL s a = ⟨#[]⟩ by simp only [nmoL]; rw [find_no ha]; rfl]
        rfl

end
end Go.Proofs.Ytaidkbnbfnaihaa
namespace Go.Proofs.Ytaidkbnbfnaihaa
open Go.RowKit Go.Shelf
section
variable {F : Fence} {n : Nat} {P : Program}

theorem wpIn_rangeFunc_sn {α : Type} {g : Operand} {ps : Array Tmp} {assign body : Code} {Q : Exit → Act → World → Prop} {a : Act} {w : World}
    {l₀ : Nat} {r₀ : Loop} (hro : F.round = some l₀) (hl₀ : w.heap[l₀]? = some (.loop r₀)) (h1 : 1 ≤ n) {gf : Nat} {lb : Array Value} (hg : a.eval g = .func (.func gf) #[] lb) (hFg : F.fn gf) (eg : ∀ args w, (callFunc gf args).run P w = .ok (.enter gf args) w)
    {encs : α → Array Value} {own : Nat → Prop} {Kp : World → World → Prop} {Pf : List α → Prop} {S Sp : List α → Prop} {w0 : World} (hseq : SeqW F (n - 1) P gf lb encs own Kp Pf S Sp w0)
    (hown : ∀ b, own b → b < w.heap.size) (hKt : ∀ {A B C : World}, Kp A B → Kp B C → Kp A C) (hKb : ∀ (W : World) (l : Nat) (o o' : Obj), w.heap.size ≤ l → W.heap[l]? = some o → o.isCells = false → Kp W (W.putObj l o'))
    (hb0 : Below w0.heap.size w0 w) (hps : ∀ x, (encs x).size = ps.size)
    (I : List α → World → Prop) (Ix : Code → List α → World → Prop) (hI : ∀ s X Y, I s X → Moves own w.heap.size X Y → I s Y) (hIx : ∀ c s X Y, Ix c s X → Moves own w.heap.size X Y → Ix c s Y) (h0 : I [] w) (a₁ : α → Act)
    (hassign : ∀ (l : Nat) (x : α) (W : World) (K : Act → World → Prop), K (a₁ x) W →
      assign.wpIn (F.inRound l) (n - 1 - 1) P (Exit.then K (fun _ _ _ => False)) { tmps := (ps.zip (encs x)).foldl (fun t (p, v) => t.setIfInBounds p v) a.tmps, defers := [] } W)
    (hbody : ∀ (l : Nat) (pre : List α) (x : α) (W : World), I pre W → Pf (pre ++ [x]) → w.heap.size + 1 ≤ W.heap.size → body.wpIn (F.inRound l) (n - 1 - 1) P (ownPostG w.heap.size Kp I Ix (pre ++ [x]) W) (a₁ x) W)
    (hdone : ∀ (xs : List α) (W : World), S xs → I xs W → Q .normal a W)
    (hstop : ∀ (c : Code) (pre : List α) (W : World), Sp pre → Ix c pre W → c.wpIn F n P Q a W) :
    (Code.rangeFunc g ps assign body).wpIn F n P Q a w := by
  refine wpIn_rangeFunc ?_
  intro fn hfn
  rw [hro]
  obtain ⟨rec, hrec⟩ : ∃ rec : LoopState → Option Code → Loop, rec = fun st pe => { state := st, pending := pe, fn, tmps := a.tmps, params := ps, assign, body, defers := r₀.defers } := ⟨_, rfl⟩
  obtain ⟨W1, hW1⟩ : ∃ W1, w.alloc (.loop (rec .ready none)) = W1 := ⟨_, rfl⟩
  have hbw : Below w.heap.size w W1 := by rw [← hW1]; exact below_a1 w _
  have hsz : W1.heap.size = w.heap.size + 1 := by rw [← hW1]; simp
  have hL1 : W1.heap[w.heap.size]? = some (.loop (rec .ready none)) := by rw [← hW1]; exact blk_a1_0 _ _
  have hn1 : ¬ own w.heap.size := fun h => by have := hown _ h; omega
  refine ⟨w.heap.size, [], W1, { target := .fn (.func gf) lb, args := #[.func (.yield w.heap.size) #[] #[]] }, W1, gf,
    #[.func (.yield w.heap.size) #[] #[]] ++ lb, W1, ?_, ?_, ?_, ?_, fun _ => h1, ?_⟩
  · rw [← hW1, hrec]; exact run_enterLoop_inner hl₀ _ _ _ _ _
  · simp only [resolve, hg]
    simp [go_sem]
  · intro f' hf'; simp [Target.leads] at hf'; subst hf'; exact hFg
  · simp [invoke, go_sem, eg]
  · have lt_of : ∀ {W : World} {k : Nat} {o : Obj}, W.heap[k]? = some o → k < W.heap.size := fun h => (Array.getElem?_eq_some_iff.1 h).1
    have keep : ∀ {X Y : World} {k : Nat} {o : Obj}, Moves own W1.heap.size X Y → X.heap[k]? = some o → k < W1.heap.size → ¬ own k → Y.heap[k]? = some o := fun hm hx hk hn => (hm.block _ (lt_of hx) hn (.inl hk)).trans hx
    refine (hseq w.heap.size
      (fun pre W => I pre W ∧ W.heap[w.heap.size]? = some (.loop (rec .ready none)))
      (fun pre W => ∃ c, Ix c pre W ∧ W.heap[w.heap.size]? = some (.loop (rec .done (some c))))
      W1 (hb0.trans (hbw.mono hb0.size))
      (fun s X Y hs hm => ⟨hI s X Y hs.1 (hm.mono (by omega)), keep hm hs.2 (by omega) hn1⟩)
      (fun s X Y hs hm => by
        obtain ⟨c, hc, hl⟩ := hs
        exact ⟨c, hIx c s X Y hc (hm.mono (by omega)), keep hm hl (by omega) hn1⟩)
      ?_ ⟨hI _ _ _ h0 (.below hbw), hL1⟩).mono ?_
    · rintro pre x W ⟨hi, hl⟩ hpf
      have hlt : w.heap.size < W.heap.size := lt_of hl
      have hy := run_yield (P := P) (args := encs x) hl (by rw [hrec]; exact hps x)
      rw [hrec] at hy
      refine ⟨fn, _, assign, body, hy, roundIn_of_wpIn hfn (hassign _ x W _ ⟨_, run_beginRound hl (by rw [hrec]), ?_⟩)⟩
      have hl2 : (W.putObj w.heap.size (.loop { rec .ready none with state := .busy })).heap[w.heap.size]? = some (.loop { rec .ready none with state := .busy }) := World.putObj_heap_same hlt
      have hw2 : Kp W (W.putObj w.heap.size (.loop { rec .ready none with state := .busy })) := hKb _ _ _ _ (by omega) hl rfl
      refine wpIn_mono (hbody _ pre x _ (hI _ _ _ hi (.put_ _ hl rfl (by omega))) hpf (lt_of hl2)) ?_
      have fin : ∀ (jump : Option Code) (W3 : World), KeepsFrom w.heap.size (W.putObj w.heap.size (.loop { rec .ready none with state := .busy })) W3 →
          (Instr.endRound w.heap.size jump).run P W3 = .ok (.bool jump.isNone) (W3.putObj w.heap.size (.loop (rec (if jump.isNone then .ready else .done) jump))) ∧
          W3.heap[w.heap.size]? = some (.loop { rec .ready none with state := .busy }) ∧
          (W3.putObj w.heap.size (.loop (rec (if jump.isNone then .ready else .done) jump))).heap[w.heap.size]? = some (.loop (rec (if jump.isNone then .ready else .done) jump)) := fun jump W3 hk3 => by
        have hl3 := hk3.same _ _ (by omega) hl2 rfl
        have := run_endRound (P := P) jump hl3
        rw [hrec] at this ⊢
        exact ⟨this, by rw [hrec] at hl3; exact hl3, World.putObj_heap_same (lt_of hl3)⟩
      rintro e a3 W3 hp
      cases e with
      | normal =>
        obtain ⟨hk3, hkp3, hi3⟩ := hp
        obtain ⟨hr, hl3, hl4⟩ := fin none W3 hk3
        exact ⟨_, _, hr, .inl ⟨rfl, ⟨hI _ _ _ hi3 (.put_ _ hl3 rfl (by omega)), hl4⟩, hKt (hKt hw2 hkp3) (hKb _ _ _ _ (by omega) hl3 rfl)⟩⟩
      | ret =>
        obtain ⟨hk3, hi3⟩ := hp
        obtain ⟨hr, hl3, hl4⟩ := fin (some .ret) W3 hk3
        exact ⟨_, _, hr, .inr ⟨rfl, .ret, hIx _ _ _ _ hi3 (.put_ _ hl3 rfl (by omega)), hl4⟩⟩
      | exit id =>
        obtain ⟨hk3, hi3⟩ := hp
        obtain ⟨hr, hl3, hl4⟩ := fin (some (.exit id)) W3 hk3
        exact ⟨_, _, hr, .inr ⟨rfl, .exit id, hIx _ _ _ _ hi3 (.put_ _ hl3 rfl (by omega)), hl4⟩⟩
      | goto t =>
        obtain ⟨hk3, hi3⟩ := hp
        obtain ⟨hr, hl3, hl4⟩ := fin (some (.goto t)) W3 hk3
        exact ⟨_, _, hr, .inr ⟨rfl, .goto t, hIx _ _ _ _ hi3 (.put_ _ hl3 rfl (by omega)), hl4⟩⟩
      | panic ch => exact hp.elim
      | outgrown => exact hp.elim
    · rintro e W2 ⟨⟨v, rfl⟩, (⟨xs, hS, hi, hl⟩ | ⟨pre, hSp, c, hi, hl⟩)⟩
      · exact ⟨none, _, by have := run_endLoop (P := P) hl (by rw [hrec]; simp); rw [hrec] at this; exact this, hdone xs _ hS (hI _ _ _ hi (.put_ _ hl rfl (by omega)))⟩
      · exact ⟨some c, _, by have := run_endLoop (P := P) hl (by rw [hrec]; simp); rw [hrec] at this; exact this, hstop c pre _ hSp (hIx _ _ _ _ hi (.put_ _ hl rfl (by omega)))⟩

end

theorem hasSuffix_slash' (l : Bs) : Lib.hasSuffix l [47] = decide (l.getLast? = some 47) := by
  unfold Lib.hasSuffix
  rw [Bool.eq_iff_iff, List.isSuffixOf_iff_suffix, decide_eq_true_iff]
  rcases List.eq_nil_or_concat l with rfl | ⟨a, x, rfl⟩
  · simp
  · simp only [List.concat_eq_append, List.getLast?_concat, Option.some.injEq]
    constructor
    · rintro ⟨t, ht⟩
      have := congrArg List.getLast? ht
      simpa [eq_comm] using this
    · rintro rfl
      exact ⟨a, rfl⟩
def joinS (d m : Str) : Str := if d.data.toList.getLast? = some 47 then d ++ m else d ++ ⟨#[47]⟩ ++ m
set_option maxHeartbeats 400000 in
theorem join_o (d m : Str) (w : World) (hd : d.size ≤ 1000000) (hm : m.size ≤ 1000000) :
    Calls Try.prog 60 #[.string d, .string m] w fun e w' => e = .returned (.string (joinS d m)) ∧ w' = w := by
  have HL := Lib.hid (hasSuffix_slash' d.data.toList)
  by_cases h : d.data.toList.getLast? = some 47
  · have HJ : Hid (joinS d m = d ++ m) := Lib.hid (if_pos h)
    have HD : Hid (decide (d.data.toList.getLast? = some 47) = true) := Lib.hid (decide_eq_true h)
    clear h
    go_enter Try.func60, Try.ntmps60
    go_wp2_with fail
    refine (Try.strings_HasSuffix _ _ _ (by omega)).mono ?_
    rintro e w' ⟨rfl, rfl⟩
    rw [show ({ data := #[47] } : ByteArray).data.toList = [47] from rfl, HL.out, HD.out]
    go_wp2
    go_ret
    exact ⟨by rw [HJ.out]; rfl, rfl⟩
  · have HJ : Hid (joinS d m = d ++ ⟨#[47]⟩ ++ m) := Lib.hid (if_neg h)
    have HD : Hid (decide (d.data.toList.getLast? = some 47) = false) := Lib.hid (decide_eq_false h)
    clear h
    go_enter Try.func60, Try.ntmps60
    go_wp2_with fail
    refine (Try.strings_HasSuffix _ _ _ (by omega)).mono ?_
    rintro e w' ⟨rfl, rfl⟩
    rw [show ({ data := #[47] } : ByteArray).data.toList = [47] from rfl, HL.out, HD.out]
    go_wp2
    go_ret
    exact ⟨by rw [HJ.out]; rfl, rfl⟩
end Go.Proofs.Ytaidkbnbfnaihaa
