/-
  Part 8 of the proof of FilesThereP: what the statement's proof uses of the texts in wip/tpl.
-/
import Derived.Test.YthcbdkmhamhciaaQt7
namespace Go.Proofs.Ythcbdkmhamhciaa

section
variable {p1 p2 : Int} {name name2 : Str} {a : Int} {n : Nod}
theorem renE_from {e : Ent} (h : e ∈ renE p1 p2 name name2 a n) : e ∈ n.entries ∨ (n.ino = p2 ∧ e = (name2, a)) := by
  unfold renE at h
  have base : ∀ {x : Ent}, x ∈ (if n.ino = p1 then entL n.entries name 0 else n.entries) → x ∈ n.entries := by
    intro x hx
    split at hx
    · rcases mem_entL hx with h1 | h1
      · exact h1
      exact absurd rfl h1.2
    exact hx
  simp only at h
  split at h
  · rename_i h2
    rcases mem_entL h with h1 | h1
    · exact .inl (base h1)
    exact .inr ⟨h2, h1.1⟩
  exact .inl (base h)
theorem renE_keep {e : Ent} (h : e ∈ n.entries) (h1 : n.ino = p1 → e.1 ≠ name) (h2 : n.ino = p2 → e.1 ≠ name2) : e ∈ renE p1 p2 name name2 a n := by
  unfold renE
  have base : e ∈ (if n.ino = p1 then entL n.entries name 0 else n.entries) := by
    split
    · rename_i e1; exact mem_entL_old h (h1 e1)
    exact h
  simp only
  split
  · rename_i e2; exact mem_entL_old base (h2 e2)
  exact base
theorem renE_new (h : n.ino = p2) (ha : a ≠ 0) : (name2, a) ∈ renE p1 p2 name name2 a n := by
  unfold renE
  simp only [h, if_true]
  exact mem_entL_new ha
theorem renE_sorted (h : Sorted n.entries) : Sorted (renE p1 p2 name name2 a n) := by
  unfold renE
  have base : Sorted (if n.ino = p1 then entL n.entries name 0 else n.entries) := by
    split
    · exact entL_sorted h _ _
    exact h
  simp only
  split
  · exact entL_sorted base _ _
  exact base
end
open Classical in
noncomputable def bumpR (S : Int → Prop) (rk : Int → Nat) (c : Nat) (x : Int) : Nat := if S x then rk x + c else rk x
theorem bump_t {S : Int → Prop} {rk : Int → Nat} {c : Nat} {x : Int} (h : S x) : bumpR S rk c x = rk x + c := by unfold bumpR; rw [if_pos h]
theorem bump_f {S : Int → Prop} {rk : Int → Nat} {c : Nat} {x : Int} (h : ¬ S x) : bumpR S rk c x = rk x := by unfold bumpR; rw [if_neg h]

theorem VD.renamed {d : Dvc} (h : VD d) {n1 n2 a : Nod} (hn1 : n1 ∈ d.nodes) (hn2 : n2 ∈ d.nodes) (ha : a ∈ d.nodes) (hk2 : n2.kind = 2) {name name2 : Str} {e1 : Ent} (he1 : entF n1.entries name = some e1) (hea : e1.2 = a.ino)
    (hname2 : nameL name2 = true) (hdiff : n1.ino = n2.ino → name ≠ name2) (hanc : a.kind = 2 → ¬ Anc d.nodes n2.ino a.ino) {oi : Int}
    (ho : (entF n2.entries name2 = none ∧ (n2.entries.length < 12 ∨ n1.ino = n2.ino) ∧ oi = 0) ∨ (∃ eo o, entF n2.entries name2 = some eo ∧ o ∈ d.nodes ∧ eo.2 = oi ∧ o.ino = oi ∧ oi ≠ a.ino ∧ o.entries = [])) :
    VD ⟨d.next, dropI (renD d.nodes n1.ino n2.ino name name2 a.ino) oi⟩ := by
  obtain ⟨hem, hen⟩ := entF_some he1
  have ha1 : a.ino ≠ 1 := by rw [← hea]; exact (h.ent n1 hn1 e1 hem).2.1
  have ha0 : a.ino ≠ 0 := by have := h.pos ha; omega
  have hoa : oi ≠ a.ino := by
    rcases ho with ⟨_, _, h1⟩ | ⟨_, _, _, _, _, _, h1, _⟩
    · omega
    exact h1
  have ho1 : oi ≠ 1 := by
    rcases ho with ⟨_, _, h1⟩ | ⟨eo, o, h1, _, h2, _⟩
    · omega
    obtain ⟨q1, _⟩ := entF_some h1
    rw [← h2]
    exact (h.ent n2 hn2 eo q1).2.1
  have hoe : ∀ m ∈ d.nodes, m.ino = oi → m.entries = [] := by
    intro m hm e
    rcases ho with ⟨_, _, h1⟩ | ⟨eo, o, _, h1, _, h2, _, h3⟩
    · have := h.pos hm; omega
    obtain rfl := asc_eq h.asc hm h1 (by omega)
    exact h3
  have hm2 := to_entD n1.ino name 0 hn2
  obtain ⟨m2, hm2, hw2⟩ := hm2
  have hf2 : entF m2.entries name2 = entF n2.entries name2 := by
    rw [hw2.ents]
    split
    · rename_i e
      rw [entL_zero, entF_without (hdiff e.symm)]
    rfl
  have hasc1 := entD_asc h.asc n1.ino name 0
  have hasc2 := entD_asc hasc1 n2.ino name2 a.ino
  have hsort2 : Sorted m2.entries := by
    rw [hw2.ents]
    split
    · exact entL_sorted (h.sorted n2 hn2) _ _
    exact h.sorted n2 hn2
  have hcntR : ∀ i, 1 ≤ i → cntN i (renD d.nodes n1.ino n2.ino name name2 a.ino) + b1 (oi = i) = cntN i d.nodes := by
    intro i hi
    have c1 := entD_cnt h.asc hn1 name 0 i
    have c2 := cnt_put0 (h.sorted n1 hn1) he1 i
    rw [hea] at c2
    have c3 := entD_cnt hasc1 hm2 name2 a.ino i
    rw [hw2.ino] at c3
    obtain ⟨m', hm', hw'⟩ := to_entD n1.ino name 0 ha
    obtain ⟨m'', hm'', hw''⟩ := to_entD (ns := entD d.nodes n1.ino name 0) n2.ino name2 a.ino hm'
    have c4 := cntN_updI hasc2 hm'' (setPar n2.ino) i
    have e4 : (setPar n2.ino m'').entries = m''.entries := by unfold setPar; split <;> rfl
    rw [e4, hw''.ino, hw'.ino, renD_eq] at c4
    rcases ho with ⟨h1, _, h2⟩ | ⟨eo, o, h1, _, h2, _⟩
    · have c5 := cnt_putN (hf2.trans h1) ha0 i
      rw [b1_f (show ¬ oi = i by omega)]
      omega
    have c5 := cnt_putR hsort2 (hf2.trans h1) ha0 i
    rw [h2] at c5
    omega
  have hmem : ∀ {m : Nod}, m ∈ dropI (renD d.nodes n1.ino n2.ino name name2 a.ino) oi → (∃ n ∈ d.nodes, m = renN n1.ino n2.ino name name2 a.ino n) ∧ m ∈ renD d.nodes n1.ino n2.ino name name2 a.ino ∧ (m.ino ≠ oi ∨ 0 < cntN oi (renD d.nodes n1.ino n2.ino name name2 a.ino)) := by
    intro m hm
    obtain ⟨q1, q2⟩ := mem_dropI.1 hm
    obtain ⟨n, hn, e⟩ := List.mem_map.1 q1
    exact ⟨⟨n, hn, e.symm⟩, q1, q2⟩
  have hkeep : ∀ {n : Nod}, n ∈ d.nodes → (n.ino = oi → 0 < cntN oi (renD d.nodes n1.ino n2.ino name name2 a.ino)) → renN n1.ino n2.ino name name2 a.ino n ∈ dropI (renD d.nodes n1.ino n2.ino name name2 a.ino) oi := by
    intro n hn hc
    refine mem_dropI.2 ⟨List.mem_map.2 ⟨n, hn, rfl⟩, ?_⟩
    by_cases e : n.ino = oi
    · exact .inr (hc e)
    exact .inl e
  have hcnt : ∀ i, cntN i (dropI (renD d.nodes n1.ino n2.ino name name2 a.ino) oi) = cntN i (renD d.nodes n1.ino n2.ino name name2 a.ino) := by
    refine fun i => cntN_filter (fun m hm hp => ?_) i
    have hp' := of_decide_eq_false hp
    obtain ⟨n, hn, rfl⟩ := List.mem_map.1 hm
    have hmi : n.ino = oi := Classical.byContradiction fun h => hp' (.inl h)
    have h0 := hoe n hn hmi
    have q1 : n.ino ≠ n1.ino := fun e => by
      obtain rfl := asc_eq h.asc hn hn1 e
      rw [h0] at hem
      cases hem
    have q2 : n.ino ≠ n2.ino := fun e => by
      obtain rfl := asc_eq h.asc hn hn2 e
      rcases ho with ⟨_, _, h1⟩ | ⟨eo, o, h1, _⟩
      · have := h.pos hn; omega
      obtain ⟨q, _⟩ := entF_some h1
      rw [h0] at q
      cases q
    show renE n1.ino n2.ino name name2 a.ino n = []
    unfold renE
    simp only [q1, q2, if_false]
    exact h0
  have hdo : ∀ {n : Nod}, n ∈ d.nodes → n.ino ≠ 1 → n.kind = 2 → (n.ino ≠ oi ∨ 0 < cntN oi (renD d.nodes n1.ino n2.ino name name2 a.ino)) → n.ino ≠ oi := by
    intro n hn h1 h2 hc e
    rcases hc with hc | hc
    · exact hc e
    have c1 := h.one n hn h1 h2
    have c2 := hcntR n.ino (h.pos hn)
    rw [b1_t e.symm] at c2
    rw [← e] at hc
    omega
  refine ⟨?_, h.next2, h.nextM, ?_, ?_, ?_, ?_, ?_, ?_, ?_, ?_, ?_, ?_, ?_, ?_⟩
  · have q1 : (dropI (renD d.nodes n1.ino n2.ino name name2 a.ino) oi).length ≤ (renD d.nodes n1.ino n2.ino name name2 a.ino).length := List.length_filter_le _ _
    have q2 : (renD d.nodes n1.ino n2.ino name name2 a.ino).length = d.nodes.length := by simp [renD]
    have := h.len
    show (dropI _ _).length ≤ 16
    omega
  · obtain ⟨r, rest, hr, h1, h2, h3⟩ := h.root
    refine ⟨renN n1.ino n2.ino name name2 a.ino r, (rest.map (renN n1.ino n2.ino name name2 a.ino)).filter fun m => decide (m.ino ≠ oi ∨ 0 < cntN oi (renD d.nodes n1.ino n2.ino name name2 a.ino)), ?_, h1, h2, ?_⟩
    · show dropI (renD d.nodes n1.ino n2.ino name name2 a.ino) oi = _
      have e : renD d.nodes n1.ino n2.ino name name2 a.ino = renN n1.ino n2.ino name name2 a.ino r :: rest.map (renN n1.ino n2.ino name name2 a.ino) := by unfold renD; rw [hr]; rfl
      unfold dropI
      conv => lhs; arg 2; rw [e]
      rw [List.filter_cons, if_pos (decide_eq_true (.inl (by show r.ino ≠ oi; rw [h1]; exact fun e => ho1 e.symm)))]
    show (if r.ino = a.ino ∧ r.kind = 2 then n2.ino else r.parent) = 1
    rw [if_neg (fun e => ha1 (by rw [← e.1]; exact h1))]
    exact h3
  · refine List.Pairwise.filter _ ?_
    show Asc (renD d.nodes n1.ino n2.ino name name2 a.ino)
    rw [asc_inos]
    have e : (renD d.nodes n1.ino n2.ino name name2 a.ino).map (·.ino) = d.nodes.map (·.ino) := by
      unfold renD
      rw [List.map_map]
      rfl
    rw [e, ← asc_inos]
    exact h.asc
  · intro m hm
    obtain ⟨⟨n, hn, rfl⟩, _⟩ := hmem hm
    exact h.lt n hn
  · intro m hm
    obtain ⟨⟨n, hn, rfl⟩, _⟩ := hmem hm
    exact h.plain n hn
  · intro m hm hk
    obtain ⟨⟨n, hn, rfl⟩, _⟩ := hmem hm
    have hk' : n.kind ≠ 2 := hk
    obtain ⟨q1, q2⟩ := h.leaf n hn hk'
    refine ⟨?_, ?_⟩
    · show (if n.ino = a.ino ∧ n.kind = 2 then n2.ino else n.parent) = 0
      rw [if_neg (fun e => hk' e.2)]
      exact q1
    show renE n1.ino n2.ino name name2 a.ino n = []
    have r1 : n.ino ≠ n1.ino := fun e => by
      obtain rfl := asc_eq h.asc hn hn1 e
      rw [q2] at hem
      cases hem
    have r2 : n.ino ≠ n2.ino := fun e => by
      obtain rfl := asc_eq h.asc hn hn2 e
      exact hk' hk2
    unfold renE
    simp only [r1, r2, if_false]
    exact q2
  · intro m hm
    obtain ⟨⟨n, hn, rfl⟩, _⟩ := hmem hm
    show (renE n1.ino n2.ino name name2 a.ino n).length ≤ 12
    by_cases q2 : n.ino = n2.ino
    · obtain rfl := asc_eq h.asc hn hn2 q2
      have e2 : renE n1.ino n.ino name name2 a.ino n = entL m2.entries name2 a.ino := by
        unfold renE
        simp only [if_true]
        rw [hw2.ents]
      rw [e2, (entL_perm _ name2 ha0).length_eq, List.length_cons]
      rcases ho with ⟨h1, h2, _⟩ | ⟨eo, o, h1, _⟩
      · rw [without_none (hf2.trans h1), hw2.ents]
        rcases h2 with h2 | h2
        · split
          · rw [entL_zero]
            have : (without name n.entries).length ≤ n.entries.length := List.length_filter_le _ _
            omega
          omega
        rw [if_pos h2.symm, entL_zero]
        obtain rfl := asc_eq h.asc hn1 hn h2
        have := (without_some (h.sorted n1 hn1) he1).length_eq
        rw [List.length_cons] at this
        have := h.many n1 hn1
        omega
      have c1 := (without_some hsort2 (hf2.trans h1)).length_eq
      rw [List.length_cons] at c1
      have c2 : m2.entries.length ≤ n.entries.length := by
        rw [hw2.ents]
        split
        · rw [entL_zero]; exact List.length_filter_le _ _
        exact Nat.le_refl _
      have := h.many n hn
      omega
    unfold renE
    simp only [q2, if_false]
    split
    · rw [entL_zero]
      exact Nat.le_trans (List.length_filter_le _ _) (h.many n hn)
    exact h.many n hn
  · intro m hm
    obtain ⟨⟨n, hn, rfl⟩, _⟩ := hmem hm
    exact renE_sorted (h.sorted n hn)
  · intro m hm e he
    obtain ⟨⟨n, hn, rfl⟩, hmR, _⟩ := hmem hm
    have he' : e ∈ renE n1.ino n2.ino name name2 a.ino n := he
    rcases renE_from he' with q | ⟨_, rfl⟩
    · obtain ⟨k1, k2, x, hx, k3⟩ := h.ent n hn e q
      refine ⟨k1, k2, _, hkeep hx (fun e1 => cntN_pos.2 ⟨_, hmR, e, he, ?_⟩), k3⟩
      rw [← k3, e1]
    exact ⟨hname2, ha1, _, hkeep ha (fun e1 => absurd e1.symm hoa), rfl⟩
  · intro m hm h1
    rw [hcnt]
    obtain ⟨⟨n, hn, rfl⟩, _, hc⟩ := hmem hm
    have h1' : n.ino ≠ 1 := h1
    show 0 < cntN n.ino _
    have c1 := hcntR n.ino (h.pos hn)
    by_cases e : n.ino = oi
    · rcases hc with hc | hc
      · exact absurd e hc
      rw [e]; exact hc
    rw [b1_f (fun h => e h.symm)] at c1
    have := h.link n hn h1'
    omega
  · intro m hm h1 h2
    rw [hcnt]
    obtain ⟨⟨n, hn, rfl⟩, _, hc⟩ := hmem hm
    have h1' : n.ino ≠ 1 := h1
    have h2' : n.kind = 2 := h2
    show cntN n.ino _ = 1
    have c1 := hcntR n.ino (h.pos hn)
    rw [b1_f (fun e => hdo hn h1' h2' hc e.symm)] at c1
    have := h.one n hn h1' h2'
    omega
  · intro m hm h1 h2
    obtain ⟨⟨n, hn, rfl⟩, _, hc⟩ := hmem hm
    have h1' : n.ino ≠ 1 := h1
    have h2' : n.kind = 2 := h2
    have hno := hdo hn h1' h2' hc
    by_cases hna : n.ino = a.ino
    · refine ⟨_, hkeep hn2 (fun e => ?_), ?_, (name2, a.ino), renE_new rfl ha0, hna.symm⟩
      · exfalso
        rcases ho with ⟨_, _, q⟩ | ⟨eo, o, q, _⟩
        · have := h.pos hn2; omega
        obtain ⟨q1, _⟩ := entF_some q
        rw [hoe n2 hn2 e] at q1
        cases q1
      show n2.ino = if n.ino = a.ino ∧ n.kind = 2 then n2.ino else n.parent
      rw [if_pos ⟨hna, h2'⟩]
    obtain ⟨p, hp, k1, e, he, k2⟩ := h.par n hn h1' h2'
    refine ⟨_, hkeep hp (fun e' => ?_), ?_, e, renE_keep he (fun e' hnm => ?_) (fun e' hnm => ?_), k2⟩
    · exfalso
      rw [hoe p hp e'] at he
      cases he
    · show p.ino = if n.ino = a.ino ∧ n.kind = 2 then n2.ino else n.parent
      rw [if_neg (fun q => hna q.1)]
      exact k1
    · obtain rfl := asc_eq h.asc hp hn1 e'
      have := sorted_name (h.sorted p hp) he hem (hnm.trans hen.symm)
      rw [this, hea] at k2
      exact hna k2.symm
    obtain rfl := asc_eq h.asc hp hn2 e'
    rcases ho with ⟨q, _⟩ | ⟨eo, o, q, _, q2, _⟩
    · exact entF_none q e he hnm
    obtain ⟨r1, r2⟩ := entF_some q
    have := sorted_name (h.sorted p hp) he r1 (hnm.trans r2.symm)
    rw [this, q2] at k2
    exact hno k2.symm
  obtain ⟨rk, hrk⟩ := h.rank
  by_cases hka : a.kind = 2
  · have hS := hanc hka
    refine ⟨bumpR (fun x => Anc d.nodes x a.ino) rk (rk n2.ino + 1), fun m hm h1 h2 => ?_⟩
    obtain ⟨⟨n, hn, rfl⟩, _, _⟩ := hmem hm
    have h1' : n.ino ≠ 1 := h1
    have h2' : n.kind = 2 := h2
    have eP : (renN n1.ino n2.ino name name2 a.ino n).parent = if n.ino = a.ino ∧ n.kind = 2 then n2.ino else n.parent := rfl
    have eI : (renN n1.ino n2.ino name name2 a.ino n).ino = n.ino := rfl
    rw [eP, eI]
    by_cases hna : n.ino = a.ino
    · rw [if_pos ⟨hna, h2'⟩, bump_f (S := fun x => Anc d.nodes x a.ino) hS, bump_t (S := fun x => Anc d.nodes x a.ino) (show Anc d.nodes n.ino a.ino from ⟨0, hna⟩)]
      omega
    have hlt := hrk n hn h1' h2'
    rw [if_neg (fun q => hna q.1)]
    by_cases hA : Anc d.nodes n.ino a.ino
    · have hP : Anc d.nodes n.parent a.ino := by
        obtain ⟨k, hk⟩ := hA
        cases k with
        | zero => exact absurd hk hna
        | succ k =>
          obtain ⟨n', hn', e1, _, _, q⟩ := hk
          obtain rfl := asc_eq h.asc hn' hn e1
          exact ⟨k, q⟩
      rw [bump_t (S := fun x => Anc d.nodes x a.ino) hP, bump_t (S := fun x => Anc d.nodes x a.ino) hA]
      omega
    have hP : ¬ Anc d.nodes n.parent a.ino := fun ⟨k, hk⟩ => hA ⟨k + 1, n, hn, rfl, h1', h2', hk⟩
    rw [bump_f (S := fun x => Anc d.nodes x a.ino) hP, bump_f (S := fun x => Anc d.nodes x a.ino) hA]
    exact hlt
  refine ⟨rk, fun m hm h1 h2 => ?_⟩
  obtain ⟨⟨n, hn, rfl⟩, _, _⟩ := hmem hm
  have h2' : n.kind = 2 := h2
  show rk (if n.ino = a.ino ∧ n.kind = 2 then n2.ino else n.parent) < rk n.ino
  rw [if_neg (fun q => hka (by
    obtain rfl := asc_eq h.asc hn ha q.1
    exact q.2))]
  exact hrk n hn h1 h2'

end Go.Proofs.Ythcbdkmhamhciaa
namespace Go.Proofs.Ythcbdkmhamhciaa
open Go.RowKit

theorem back_none (n : Nat) : ∀ j, backS [] n j = some (n + j) := fun j => by simp [backS]
theorem back_new2 {bx : List (List AV)} {n : Nat} (hn : bx.length = n) (f : Fls) (q : Nat) (d : Dvc) (ns : List Nod) (cap cap1 : Nat) : Back bx [] [DB f q d 1 cap cap1, NB ns cap1] (bx ++ [DB f q d (n + 1) cap cap1, NB ns cap1]) := by
  subst hn
  refine ⟨by simp, fun i row _ h => ?_, fun k i row h => by simp at h, fun k row h => ?_⟩
  · rw [List.getElem?_append_left (List.getElem?_eq_some_iff.1 h).1]; exact h
  rw [List.getElem?_append_right (by omega), show bx.length + k - bx.length = k by omega]
  simp only [List.length_nil, Nat.zero_add] at h
  match k, h with
  | 0, h => injection h with h; subst h; rw [ren_DB (back_none _ 1)]; rfl
  | 1, h => injection h with h; subst h; rw [ren_NB]; rfl
  | k + 2, h => simp at h
theorem back_two {bx : List (List AV)} {i0 i1 : Nat} (h0 : i0 < bx.length) (h1 : i1 < bx.length) (hne : i0 ≠ i1) (f : Fls) (q : Nat) (d : Dvc) (ns : List Nod) (cap cap1 cap1' : Nat) :
    Back bx [i0, i1] [DB f q d 1 cap cap1, NB ns cap1'] ((bx.set i0 (DB f q d i1 cap cap1)).set i1 (NB ns cap1')) := by
  refine ⟨by simp, fun i row hi h => ?_, fun k i row h hr => ?_, fun k row h => by simp at h⟩
  · simp only [List.mem_cons, List.not_mem_nil, or_false, not_or] at hi
    rw [List.getElem?_set_ne (Ne.symm hi.2), List.getElem?_set_ne (Ne.symm hi.1)]; exact h
  match k, h, hr with
  | 0, h, hr =>
    simp at h hr; subst h; subst hr
    rw [List.getElem?_set_ne (Ne.symm hne), List.getElem?_set_self h0, ren_DB (g := backS [i0, i1] bx.length) (j := 1) (j' := i1) rfl]
  | 1, h, hr =>
    simp at h hr; subst h; subst hr
    rw [List.getElem?_set_self (by simpa using h1), ren_NB]
  | k + 2, h, _ => simp at h
theorem back_five {bx : List (List AV)} {n i0 i1 : Nat} (hn : bx.length = n) (h0 : i0 < n) (h1 : i1 < n) (hne : i0 ≠ i1) (f : Fls) (q : Nat) (d : Dvc) (ns ns' : List Nod) (a : Fil) (l cap0 cap cap1 cap2 : Nat) :
    Back bx [i0, i1] [DB f q d 4 cap cap2, NB ns cap1, [.bs 0 0 2 l cap0], filA a, NB ns' cap2] ((bx.set i0 (DB f q d (n + 2) cap cap2)).set i1 (NB ns cap1) ++ [[.bs i0 0 2 l cap0], filA a, NB ns' cap2]) := by
  subst hn
  have hl : ((bx.set i0 (DB f q d (bx.length + 2) cap cap2)).set i1 (NB ns cap1)).length = bx.length := by simp
  refine ⟨by simp, fun i row hi h => ?_, fun k i row h hr => ?_, fun k row h => ?_⟩
  · simp only [List.mem_cons, List.not_mem_nil, or_false, not_or] at hi
    rw [List.getElem?_append_left (by rw [hl]; exact (List.getElem?_eq_some_iff.1 h).1), List.getElem?_set_ne (Ne.symm hi.2), List.getElem?_set_ne (Ne.symm hi.1)]; exact h
  · match k, h, hr with
    | 0, h, hr =>
      simp at h hr; subst h; subst hr
      rw [List.getElem?_append_left (by rw [hl]; exact h0), List.getElem?_set_ne (Ne.symm hne), List.getElem?_set_self h0, ren_DB (g := backS [i0, i1] bx.length) (j := 4) (j' := bx.length + 2) rfl]
    | 1, h, hr =>
      simp at h hr; subst h; subst hr
      rw [List.getElem?_append_left (by rw [hl]; exact h1), List.getElem?_set_self (by simpa using h1), ren_NB]
    | k + 2, h, _ => simp at h
  rw [List.getElem?_append_right (by rw [hl]; omega), hl, show bx.length + k - bx.length = k by omega]
  match k, h with
  | 0, h => injection h with h; subst h; rfl
  | 1, h => injection h with h; subst h; rfl
  | 2, h => injection h with h; subst h; rw [ren_NB]; rfl
  | k + 3, h => rw [List.getElem?_eq_none (by simp; omega)] at h; cases h
theorem back_four {bx : List (List AV)} {n i0 i1 : Nat} (hn : bx.length = n) (h0 : i0 < n) (h1 : i1 < n) (hne : i0 ≠ i1) (f : Fls) (q : Nat) (d : Dvc) (ns : List Nod) (a : Fil) (l cap0 cap cap1 cap1' : Nat) :
    Back bx [i0, i1] [DB f q d 1 cap cap1, NB ns cap1', [.bs 0 0 2 l cap0], filA a] ((bx.set i0 (DB f q d i1 cap cap1)).set i1 (NB ns cap1') ++ [[.bs i0 0 2 l cap0], filA a]) := by
  subst hn
  have hl : ((bx.set i0 (DB f q d i1 cap cap1)).set i1 (NB ns cap1')).length = bx.length := by simp
  refine ⟨by simp, fun i row hi h => ?_, fun k i row h hr => ?_, fun k row h => ?_⟩
  · simp only [List.mem_cons, List.not_mem_nil, or_false, not_or] at hi
    rw [List.getElem?_append_left (by rw [hl]; exact (List.getElem?_eq_some_iff.1 h).1), List.getElem?_set_ne (Ne.symm hi.2), List.getElem?_set_ne (Ne.symm hi.1)]; exact h
  · match k, h, hr with
    | 0, h, hr =>
      simp at h hr; subst h; subst hr
      rw [List.getElem?_append_left (by rw [hl]; exact h0), List.getElem?_set_ne (Ne.symm hne), List.getElem?_set_self h0, ren_DB (g := backS [i0, i1] bx.length) (j := 1) (j' := i1) rfl]
    | 1, h, hr =>
      simp at h hr; subst h; subst hr
      rw [List.getElem?_append_left (by rw [hl]; exact h1), List.getElem?_set_self (by simpa using h1), ren_NB]
    | k + 2, h, _ => simp at h
  rw [List.getElem?_append_right (by rw [hl]; omega), hl, show bx.length + k - bx.length = k by omega]
  match k, h with
  | 0, h => injection h with h; subst h; rfl
  | 1, h => injection h with h; subst h; rfl
  | k + 2, h => rw [List.getElem?_eq_none (by simp; omega)] at h; cases h
theorem DB_upd {f : Fls} {q : Nat} {d d' : Dvc} (hn : d'.next = d.next) (hl : d'.nodes.length = d.nodes.length) (j cap cap1 : Nat) : DB f q d j cap cap1 = DB (f.set q d') q d' j cap cap1 := by
  unfold DB devB devR
  rw [List.map_set, List.set_set, hn, hl]
theorem liv_upd {n : Nat} {bx : List (List AV)} {k i j : Nat} {f : Fls} {q : Nat} {d d' : Dvc} {cap cap0 cap1 : Nat} (hq : q < f.length) (hn : d'.next = d.next) (hl : d'.nodes.length = d.nodes.length) (hc : f.length ≤ cap) (hc1 : d'.nodes.length ≤ cap1) (hni : n ≤ i) (hnj : n ≤ j)
    (hi : bx[i]? = some (DB f q d j cap cap1)) (hj : bx[j]? = some (NB d'.nodes cap1)) : livL n (frzG n bx (k + 2)) [.bs i 0 2 f.length cap0] = flsA (f.set q d') := by
  have : Nat.blt i n = false := by rw [← Bool.not_eq_true, Nat.blt_eq]; omega
  have key := low_fls (n := n) (bx := bx) (k := k) (i := i) (j := j) (f := f.set q d') (K := q) (d := d') (cap := cap) (cap0 := cap0) (cap1 := cap1) (by simp [hq]) (by simpa using hc) hc1 hni hnj (by rw [hi, DB_upd hn hl]) hj
  rw [List.length_set] at key
  have key2 : AV.agg [lowG (frzG n bx (k + 2)) (.bs i 0 2 f.length cap0)] = AV.agg (flsA (f.set q d')) := key
  have e : livL n (frzG n bx (k + 2)) [.bs i 0 2 f.length cap0] = [lowG (frzG n bx (k + 2)) (.bs i 0 2 f.length cap0)] := by simp only [livL, liv, this]
  rw [e]
  injection key2

structure FlsV (f : Fls) : Prop where
  few : f.length ≤ 3
  vd : ∀ d ∈ f, VD d
theorem FlsV.b {f : Fls} (h : FlsV f) : FlsB f := ⟨by have := h.few; omega, fun d hd => by have := (h.vd d hd).len; omega, fun d hd n hn => by have := (h.vd d hd).many n hn; omega⟩
theorem set_updI {ns : List Nod} (h : Asc ns) {i : Nat} {n : Nod} (hi : ns[i]? = some n) (g : Nod → Nod) : ns.set i (g n) = updI ns n.ino g := by
  apply List.ext_getElem?
  intro k
  unfold updI
  rw [List.getElem?_map, List.getElem?_set]
  have hil := (List.getElem?_eq_some_iff.1 hi).1
  split
  · rename_i e
    subst e
    rw [hi]
    simp [hil]
  rename_i e
  cases hk : ns[k]? with
  | none => rfl
  | some m =>
    have : m.ino ≠ n.ino := by
      intro em
      obtain ⟨l1, e1⟩ := List.getElem?_eq_some_iff.1 hi
      obtain ⟨l2, e2⟩ := List.getElem?_eq_some_iff.1 hk
      have hp := List.pairwise_iff_getElem.1 h
      rcases Nat.lt_or_gt_of_ne e with hlt | hlt
      · have := hp i k l1 l2 hlt; rw [e1, e2] at this; omega
      have := hp k i l2 l1 hlt; rw [e1, e2] at this; omega
    simp [this]
def onD (f : Fls) (q : Nat) (g : List Nod → List Nod) : Fls := f.modify q fun d => { d with nodes := g d.nodes }
theorem onD_set {f : Fls} {q : Nat} {d : Dvc} (h : f[q]? = some d) (g : List Nod → List Nod) : onD f q g = f.set q { d with nodes := g d.nodes } := by
  apply List.ext_getElem?
  intro k
  unfold onD
  rw [List.getElem?_modify, List.getElem?_set]
  split
  · rename_i e
    subst e
    rw [h]
    simp [(List.getElem?_eq_some_iff.1 h).1]
  simp
theorem place_ok {f : Fls} {dir : Fil} {name : Str} (h : placeL f dir name = 0) : ∃ (q i : Nat) (d : Dvc) (n0 : Nod), dir.1 = (q : Int) ∧ f[q]? = some d ∧ d.nodes[i]? = some n0 ∧ n0.ino = dir.2 ∧ indexL f dir = (i : Int) ∧ nodeL f dir = some n0 ∧ n0.kind = 2 ∧ nameL name = true := by
  rcases index_node f dir with ⟨_, h2⟩ | ⟨q, i, d, n, h1, h2, h3, h4, h5, h6⟩
  · simp [placeL, h2] at h
  refine ⟨q, i, d, n, h1, h2, h3, h4, h5, h6, ?_⟩
  simp only [placeL, h6] at h
  split at h
  · rename_i hk
    split at h
    · rename_i hn; exact ⟨hk, hn⟩
    omega
  omega
def chgR (R : ChgRes) : AV := .tup [.agg (flsA R.1), .sl 7 (R.2.1.map chgA) none, .v (.int .i64 R.2.2)]
theorem err_le (e : Int) : LeA (.tup [.agg [.v (.slice none 0 0)], .v (.slice none 0 0), .v (.int .i64 e)]) (chgR ([], [], e)) := (by repeat (first | exact LeA.refl _ | exact LeA.nil _ | exact LeL.refl _ | refine LeA.agg ?_ | refine LeA.tup ?_ | exact LeL.nil | refine LeL.cons ?_ ?_ | exact LeA.any _))
def linkL (f : Fls) (dir : Fil) (name : Str) (a : Fil) : ChgRes :=
  if placeL f dir name ≠ 0 then ([], [], placeL f dir name) else if hasG f a = false then ([], [], 2) else if a.1 ≠ dir.1 then ([], [], 18) else if (nodG f a).kind = 2 then ([], [], 1) else
  if (lookL f dir name).2 = 0 then ([], [], 17) else if fullL f dir = true then ([], [], 28) else (onD f dir.1.toNat fun ns => entD ns dir.2 name a.2, [(dir, name, (0, 0), a)], 0)
section
set_option maxRecDepth 10000
set_option maxHeartbeats 2000000
theorem Rlink (f : Fls) (dir : Fil) (name : Str) (a : Fil) (hv : FlsV f) (hs : name.size ≤ 100000) : AFn Try.prog 28 [.agg (flsA f), .agg (filA dir), .v (.string name), .agg (filA a)] (fun r => r = chgR (linkL f dir name a)) := by
  have hf := hv.b
  refine enter Try.func28 rfl rfl rfl rfl rfl 0 rfl ?_
  refine w_ (b_ (h:=b_ (h:=b_ (h:=al_ (h:=a_ (h:=a_ (h:=e_ (q_ (w_ (l_ (h:=l_ (h:=m_ (h:=?_)))))))))))))
  refine al_p rfl (q_call (Rplace f dir name hf hs) ?_)
  rintro r rfl
  refine a_ (h:=e_ (w_ (m_ (h:=nq_ (h:=e_ (?_))))))
  refine aw_cond rfl (fun hb1 => ?_) (fun hb1 => ?_)
  · have hc1 := bp hb1
    refine w_ (bd_ (h:=m_ (h:=s_ (h:=a_ (h:=a_ (h:=e_ (aw_ret (x_thenR (?_)))))))))
    refine rt_ (r := chgR (linkL f dir name a)) none (h5 := ?_) (h6 := ⟨rfl, rfl, rfl⟩)
    rw [linkL, if_pos (by omega)]
    exact err_le _
  have hc1 := bp hb1
  refine kt_ (w_ (l_ (h:=l_ (h:=?_))))
  refine al_p rfl (q_call (Rnode f a hf) ?_)
  rintro r rfl
  refine m_ (h:=x_ (h:=x_ (h:=al_ (h:=s_ (h:=a_ (h:=e_ (q_ (w_ (m_ (h:=nt_ (h:=e_ (?_))))))))))))
  refine aw_cond rfl (fun hb2 => ?_) (fun hb2 => ?_)
  · have hc2 := bp hb2
    refine w_ (bd_ (h:=s_ (h:=a_ (h:=a_ (h:=e_ (aw_ret (x_thenR (?_))))))))
    refine rt_ (r := chgR (linkL f dir name a)) none (h5 := ?_) (h6 := ⟨rfl, rfl, rfl⟩)
    rw [linkL, if_neg (by omega), if_pos hc2]
    exact err_le _
  have hc2 := bp hb2
  refine kt_ (q_ (w_ (f_ (h:=l_ (h:=f_ (h:=l_ (h:=nq_ (h:=e_ (?_)))))))))
  refine aw_cond rfl (fun hb3 => ?_) (fun hb3 => ?_)
  · have hc3 := bp hb3
    refine w_ (bd_ (h:=s_ (h:=a_ (h:=a_ (h:=e_ (aw_ret (x_thenR (?_))))))))
    refine rt_ (r := chgR (linkL f dir name a)) none (h5 := ?_) (h6 := ⟨rfl, rfl, rfl⟩)
    rw [linkL, if_neg (by omega), if_neg (by simp [hc2]), if_pos (by omega)]
    exact err_le _
  have hc3 := bp hb3
  refine kt_ (q_ (w_ (f_ (h:=l_ (h:=eq_ (h:=e_ (?_)))))))
  refine aw_cond rfl (fun hb4 => ?_) (fun hb4 => ?_)
  · have hc4 := bp hb4
    refine w_ (bd_ (h:=s_ (h:=a_ (h:=a_ (h:=e_ (aw_ret (x_thenR (?_))))))))
    refine rt_ (r := chgR (linkL f dir name a)) none (h5 := ?_) (h6 := ⟨rfl, rfl, rfl⟩)
    rw [linkL, if_neg (by omega), if_neg (by simp [hc2]), if_neg (by omega), if_pos hc4]
    exact err_le _
  have hc4 := bp hb4
  refine kt_ (q_ (w_ (l_ (h:=l_ (h:=m_ (h:=?_))))))
  refine al_p rfl (q_call (Rlook f dir name hf) ?_)
  rintro r rfl
  refine m_ (h:=x_ (h:=x_ (h:=al_ (h:=s_ (h:=a_ (h:=e_ (w_ (m_ (h:=eq_ (h:=e_ (?_)))))))))))
  refine aw_cond rfl (fun hb5 => ?_) (fun hb5 => ?_)
  · have hc5 := bp hb5
    refine w_ (bd_ (h:=s_ (h:=a_ (h:=a_ (h:=e_ (aw_ret (x_thenR (?_))))))))
    refine rt_ (r := chgR (linkL f dir name a)) none (h5 := ?_) (h6 := ⟨rfl, rfl, rfl⟩)
    rw [linkL, if_neg (by omega), if_neg (by simp [hc2]), if_neg (by omega), if_neg hc4, if_pos hc5]
    exact err_le _
  have hc5 := bp hb5
  refine kt_ (q_ (w_ (l_ (h:=l_ (h:=?_)))))
  refine al_p rfl (q_call (Rfull f dir hf) ?_)
  rintro r rfl
  refine e_ (?_)
  refine aw_cond rfl (fun hb6 => ?_) (fun hb6 => ?_)
  · have hc6 := bp hb6
    refine w_ (bd_ (h:=s_ (h:=a_ (h:=a_ (h:=e_ (aw_ret (x_thenR (?_))))))))
    refine rt_ (r := chgR (linkL f dir name a)) none (h5 := ?_) (h6 := ⟨rfl, rfl, rfl⟩)
    rw [linkL, if_neg (by omega), if_neg (by simp [hc2]), if_neg (by omega), if_neg hc4, if_neg hc5, if_pos hc6]
    exact err_le _
  have hc6 := bp hb6
  obtain ⟨q, i, d, n0, hdq, hq, hn0, hino, hidx, hnode, hk0, hnm⟩ := place_ok (name := name) (dir := dir) (f := f) (by omega)
  have hil := (List.getElem?_eq_some_iff.1 hn0).1
  have hql := (List.getElem?_eq_some_iff.1 hq).1
  refine kt_ (w_ (l_ (h:=?_)))
  refine al_p rfl (s_callM [] rfl (.cons _ _ _ _ _ rfl (LeA.refl _) .nil) (by decide) .nil (RcopyK f q d hf hq (by omega)) ?_)
  rintro r bc tc ⟨rfl, cap, cap1, hcap, hcap1, rfl, rfl⟩
  refine ⟨rfl, _, (back_new2 (n := 6) rfl f q d d.nodes cap cap1 : Back _ [] _ [_, _, _, _, _, _, _, _]), ?_⟩
  refine al_ (h:=s_ (h:=e_ (w_ (l_ (h:=l_ (h:=m_ (h:=f_ (h:=l_ (h:=?_)))))))))
  refine al_p rfl (s_callM [6, 7] rfl (.cons _ _ _ _ _ rfl (LeA.refl _) (.cons _ _ _ _ _ rfl (LeA.refl _) (.cons _ _ _ _ _ rfl (LeA.refl _) (.cons _ _ _ _ _ rfl (LeA.refl _) .nil)))) (by decide) (.cons _ _ _ _ _ rfl (ren_DB (by rfl) _ _ _ _ _) (.cons _ _ _ _ _ rfl (ren_NB _ _ _) .nil)) (Renter f q d n0 i dir name a.2 cap cap1 hf hq hdq hidx hn0 hcap hcap1) ?_)
  rintro r bc tc ⟨rfl, rfl, rfl⟩
  refine ⟨rfl, _, (back_two (Nat.le_of_ble_eq_true rfl) (Nat.le_of_ble_eq_true rfl) (by decide) f q d _ cap cap1 cap1 : Back _ [6, 7] _ [_, _, _, _, _, _, _, _, _]), ?_⟩
  refine e_ (?_)
  refine aw_midI (fun t => t = ⟨look [(8, .bp 3 0), (9, .sl 7 [chgA (dir, name, (0, 0), a)] none), (10, .v (.int .i64 0))], ⟨[flsA f, filA dir, filA a, flsA (f.set q { d with nodes := d.nodes.set i { n0 with entries := entL n0.entries name a.2 } })], []⟩⟩) ?_ ?_
  · skip
    refine yk_ ([(0, flsA f), (1, filA dir), (2, filA a), (6, DB f q d 7 cap cap1), (7, NB (d.nodes.set i { n0 with entries := entL n0.entries name a.2 }) cap1), (8, [.bs 6 0 2 f.length cap])]) 9 (h:=dl_ 0 (h:=dl_ 1 (h:=dm_ 2 (h:=?_))))
    refine tk_ 3 rfl (fun _ hS => st_le (y := .agg (filA (0, 0))) (st_build (by repeat (first | exact FillA.nil _ | (apply FillA.cons; (focus exact rfl); (focus exact rfl); (focus exact rfl); (focus exact rfl); (focus exact rfl); (focus (repeat constructor))))) ⟨rfl, rfl⟩) (by repeat (first | exact LeA.refl _ | exact LeA.nil _ | exact LeL.refl _ | refine LeA.agg ⟨rfl, rfl⟩ | refine LeA.tup ⟨rfl, rfl⟩ | exact LeL.nil | refine LeL.cons ⟨rfl, rfl⟩ ⟨rfl, rfl⟩ | exact LeA.any _)) ⟨rfl, rfl⟩) ?_
    refine dl_ 4 (h:=?_)
    refine c_ 5 rfl (q_call (Rone dir name (0, 0) a) ?_)
    rintro r rfl
    refine o_ (h:=?_)
    refine c0_ 6 rfl (s_store rfl rfl rfl rfl rfl rfl (by repeat constructor) (by repeat constructor) ?_)
    refine o_ (h:=da_ 7 (h:=da_ 8 (h:=z_ (h:=?_))))
    refine x_then ?_
    exact ⟨_, rfl, weak_fz 4 2 rfl (by show [_, _, _, livL 4 (frzG 4 _ 2) [.bs 6 0 2 f.length cap]] = _; rw [liv_upd (k := 0) (i := 6) (j := 7) (d := d) (d' := { d with nodes := d.nodes.set i { n0 with entries := entL n0.entries name a.2 } }) hql rfl (by simp) hcap (by simpa using hcap1) (by decide) (by decide) rfl rfl]; rfl) (.cons _ _ _ _ rfl (LeA.refl _) (.cons _ _ _ _ rfl (LeA.refl _) (.cons _ _ _ _ rfl (LeA.refl _) .nil)))⟩
  rintro t rfl
  refine aw_ret (?_)
  refine e_ret ?_
  rw [linkL, if_neg (by omega), if_neg (by simp [hc2]), if_neg (by omega), if_neg hc4, if_neg hc5, if_neg (by simp [hc6]), hdq, Int.toNat_natCast, onD_set hq, ← hino]
  unfold entD
  rw [← set_updI (hv.vd d (List.mem_of_getElem? hq)).asc hn0]
  rfl

end
end Go.Proofs.Ythcbdkmhamhciaa
namespace Go.Proofs.Ythcbdkmhamhciaa
open Go.RowKit

theorem look_ok {f : Fls} {dir : Fil} {name : Str} {n0 : Nod} (hn : nodeL f dir = some n0) (hk : n0.kind = 2) (h : (lookL f dir name).2 = 0) : ∃ e, entF n0.entries name = some e ∧ lookL f dir name = ((dir.1, e.2), 0) := by
  unfold lookL at h ⊢
  rw [hn] at h ⊢
  simp only [hk, if_true] at h ⊢
  unfold entF
  split at h
  · exact absurd h (by decide)
  rename_i e he
  exact ⟨e, he, rfl⟩
def entS (ns : List Nod) (i : Nat) (n0 : Nod) (name : Str) (ino : Int) : List Nod := ns.set i { n0 with entries := entL n0.entries name ino }
theorem entS_len (ns : List Nod) (i : Nat) (n0 : Nod) (name : Str) (ino : Int) : (entS ns i n0 name ino).length = ns.length := by simp [entS]
theorem entL_len (es : List Ent) (name : Str) (ino : Int) : (entL es name ino).length ≤ es.length + 1 := by
  by_cases h : ino = 0
  · subst h
    rw [entL_zero]
    have : (without name es).length ≤ es.length := List.length_filter_le _ _
    omega
  rw [(entL_perm es name h).length_eq, List.length_cons]
  have : (without name es).length ≤ es.length := List.length_filter_le _ _
  omega
theorem FlsB.set_ {f : Fls} (hf : FlsB f) {q : Nat} {d' : Dvc} (hn : d'.nodes.length ≤ 1000) (he : ∀ n ∈ d'.nodes, n.entries.length ≤ 1000) : FlsB (f.set q d') := by
  refine ⟨by simpa using hf.few, fun d hd => ?_, fun d hd n hn' => ?_⟩
  · rcases List.mem_or_eq_of_mem_set hd with h | h
    · exact hf.nodes d h
    rw [h]; exact hn
  rcases List.mem_or_eq_of_mem_set hd with h | h
  · exact hf.ents d h n hn'
  subst h; exact he n hn'
theorem FlsV.entS {f : Fls} (hv : FlsV f) {q : Nat} {d : Dvc} (hq : f[q]? = some d) {i : Nat} {n0 : Nod} (hn : d.nodes[i]? = some n0) (name : Str) (ino : Int) : FlsB (f.set q { d with nodes := entS d.nodes i n0 name ino }) := by
  have hd := hv.vd d (List.mem_of_getElem? hq)
  refine hv.b.set_ ?_ ?_
  · show (Go.Proofs.Ythcbdkmhamhciaa.entS d.nodes i n0 name ino).length ≤ 1000
    rw [entS_len]; have := hd.len; omega
  intro m hm
  rcases List.mem_or_eq_of_mem_set hm with h | h
  · have := hd.many m h; omega
  rw [h]
  have := entL_len n0.entries name ino
  have := hd.many n0 (List.mem_of_getElem? hn)
  show (entL n0.entries name ino).length ≤ 1000
  omega
theorem entS_D {d : Dvc} (hd : VD d) {i : Nat} {n0 : Nod} (hn : d.nodes[i]? = some n0) (name : Str) (ino : Int) : entS d.nodes i n0 name ino = entD d.nodes n0.ino name ino := by
  unfold entS entD
  rw [← set_updI hd.asc hn]
  rfl
theorem links_at {f : Fls} {a : Fil} {q : Nat} {d : Dvc} (ha : a.1 = (q : Int)) (hq : f[q]? = some d) : linksF f a = if (d.nodes.any fun n => n.ino == a.2) then cntN a.2 d.nodes else 0 := by
  unfold linksF nodeL
  rw [ha, atI_nat, hq]
  simp only
  cases h : d.nodes.find? (fun n => n.ino == a.2) with
  | none =>
    have : d.nodes.any (fun n => n.ino == a.2) = false := by
      rw [List.any_eq_false]
      exact List.find?_eq_none.1 h
    simp [this]
  | some n =>
    have : d.nodes.any (fun n => n.ino == a.2) = true := by
      have h2 := List.find?_some h
      exact List.any_eq_true.2 ⟨n, List.mem_of_find?_eq_some h, h2⟩
    simp [this]
theorem drop_pos {f : Fls} {a : Fil} {q : Nat} {d : Dvc} (ha : a.1 = (q : Int)) (hq : f[q]? = some d) (hl : 0 < linksF f a) : dropI d.nodes a.2 = d.nodes := by
  rw [links_at ha hq] at hl
  split at hl
  · unfold dropI
    rw [List.filter_eq_self]
    intro m _
    exact decide_eq_true (.inr hl)
  omega
theorem drop_zero {f : Fls} {a : Fil} {q : Nat} {d : Dvc} (ha : a.1 = (q : Int)) (hq : f[q]? = some d) (hl : linksF f a = 0) : dropI d.nodes a.2 = keepNot a.2 d.nodes := by
  rw [links_at ha hq] at hl
  unfold dropI keepNot
  apply List.filter_congr
  intro m hm
  split at hl
  · rw [hl, Bool.eq_iff_iff]; simp
  rename_i h
  have hne : m.ino ≠ a.2 := by
    intro e
    exact h (List.any_eq_true.2 ⟨m, hm, by simpa using e⟩)
  rw [Bool.eq_iff_iff]; simp [hne]
theorem keep_pos {ns : List Nod} {m : Nod} {i : Int} (hm : m ∈ ns) (h : m.ino ≠ i) : 0 < (keepNot i ns).length := List.length_pos_of_mem (List.mem_filter.2 ⟨hm, by simpa using h⟩)
theorem entS_root {d : Dvc} (hd : VD d) {i : Nat} {n0 : Nod} (hn : d.nodes[i]? = some n0) (name : Str) (ino : Int) : ∃ m ∈ entS d.nodes i n0 name ino, m.ino = 1 := by
  obtain ⟨r, hr, h1, _⟩ := hd.rootMem
  rw [entS_D hd hn]
  obtain ⟨m, hm, hw⟩ := to_entD n0.ino name ino hr
  exact ⟨m, hm, hw.ino.trans h1⟩
theorem Rdrop2 (f : Fls) (q : Nat) (d d' : Dvc) (a : Fil) (cap cap1 : Nat) (hf : FlsB (f.set q d')) (hq : q < f.length) (ha : a.1 = (q : Int)) (hcap : f.length ≤ cap) (hcap1 : d'.nodes.length ≤ cap1) (hne : 0 < (keepNot a.2 d'.nodes).length) (hn : d'.next = d.next) (hl : d'.nodes.length = d.nodes.length) :
    ACall Try.prog 83 [.agg [.bs 0 0 2 f.length cap], .agg (filA a)] [DB f q d 1 cap cap1, NB d'.nodes cap1] (fun r b t => t = [] ∧ r = .tup [] ∧ ((dropI d'.nodes a.2 = d'.nodes ∧ b = [DB f q d 1 cap cap1, NB d'.nodes cap1, [.bs 0 0 2 f.length cap], filA a]) ∨ (dropI d'.nodes a.2 = keepNot a.2 d'.nodes ∧ ∃ cap2, (keepNot a.2 d'.nodes).length ≤ cap2 ∧ b = [DB f q { d' with nodes := keepNot a.2 d'.nodes } 4 cap cap2, NB d'.nodes cap1, [.bs 0 0 2 f.length cap], filA a, NB (keepNot a.2 d'.nodes) cap2]))) := by
  have hq' : (f.set q d')[q]? = some d' := by simp [hq]
  have key := Rdrop (f.set q d') q d' a cap cap1 hf hq' ha (by simpa using hcap) hcap1 hne
  rw [List.length_set, ← DB_upd hn hl] at key
  refine key.mono fun r b t ⟨h1, h2, h3⟩ => ⟨h1, h2, ?_⟩
  rcases h3 with ⟨h4, h5⟩ | ⟨h4, cap2, h5, h6⟩
  · exact .inl ⟨drop_pos ha hq' h4, h5⟩
  refine .inr ⟨drop_zero ha hq' h4, cap2, h5, ?_⟩
  rw [DB_any] at h6
  exact h6
def unlinkL (f : Fls) (dir : Fil) (name : Str) : ChgRes :=
  if placeL f dir name ≠ 0 then ([], [], placeL f dir name) else if (lookL f dir name).2 ≠ 0 then ([], [], (lookL f dir name).2) else if dirL f (lookL f dir name).1 = true then ([], [], 21) else
  (onD f dir.1.toNat fun ns => dropI (entD ns dir.2 name 0) (lookL f dir name).1.2, [(dir, name, (lookL f dir name).1, (0, 0))], 0)
def rmdirL (f : Fls) (dir : Fil) (name : Str) : ChgRes :=
  if placeL f dir name ≠ 0 then ([], [], placeL f dir name) else if (lookL f dir name).2 ≠ 0 then ([], [], (lookL f dir name).2) else if dirL f (lookL f dir name).1 = false then ([], [], 20) else if emptyL f (lookL f dir name).1 = false then ([], [], 39) else
  (onD f dir.1.toNat fun ns => dropI (entD ns dir.2 name 0) (lookL f dir name).1.2, [(dir, name, (lookL f dir name).1, (0, 0))], 0)
section
set_option maxRecDepth 10000
set_option maxHeartbeats 2000000
theorem Runlink (f : Fls) (dir : Fil) (name : Str) (hv : FlsV f) (hs : name.size ≤ 100000) : AFn Try.prog 44 [.agg (flsA f), .agg (filA dir), .v (.string name)] (fun r => r = chgR (unlinkL f dir name)) := by
  have hf := hv.b
  refine enter Try.func44 rfl rfl rfl rfl rfl 0 rfl ?_
  refine w_ (b_ (h:=b_ (h:=al_ (h:=a_ (h:=a_ (h:=e_ (q_ (w_ (l_ (h:=l_ (h:=m_ (h:=?_))))))))))))
  refine al_p rfl (q_call (Rplace f dir name hf hs) ?_)
  rintro r rfl
  refine a_ (h:=e_ (w_ (m_ (h:=nq_ (h:=e_ (?_))))))
  refine aw_cond rfl (fun hb1 => ?_) (fun hb1 => ?_)
  · have hc1 := bp hb1
    refine w_ (bd_ (h:=m_ (h:=s_ (h:=a_ (h:=a_ (h:=e_ (aw_ret (x_thenR (?_)))))))))
    refine rt_ (r := chgR (unlinkL f dir name)) none (h5 := ?_) (h6 := ⟨rfl, rfl, rfl⟩)
    rw [unlinkL, if_pos (by omega)]
    exact err_le _
  have hc1 := bp hb1
  refine kt_ (w_ (l_ (h:=l_ (h:=m_ (h:=?_)))))
  refine al_p rfl (q_call (Rlook f dir name hf) ?_)
  rintro r rfl
  refine m_ (h:=x_ (h:=x_ (h:=al_ (h:=s_ (h:=a_ (h:=e_ (q_ (w_ (m_ (h:=nq_ (h:=e_ (?_))))))))))))
  refine aw_cond rfl (fun hb2 => ?_) (fun hb2 => ?_)
  · have hc2 := bp hb2
    refine w_ (bd_ (h:=m_ (h:=s_ (h:=a_ (h:=a_ (h:=e_ (aw_ret (x_thenR (?_)))))))))
    refine rt_ (r := chgR (unlinkL f dir name)) none (h5 := ?_) (h6 := ⟨rfl, rfl, rfl⟩)
    rw [unlinkL, if_neg (by omega), if_pos (by omega)]
    exact err_le _
  have hc2 := bp hb2
  have hlk : (lookL f dir name).2 = 0 := by omega
  refine kt_ (q_ (w_ (l_ (h:=l_ (h:=?_)))))
  refine al_p rfl (q_call (Rdir f (lookL f dir name).1 hf) ?_)
  rintro r rfl
  refine e_ (?_)
  refine aw_cond rfl (fun hb3 => ?_) (fun hb3 => ?_)
  · have hc3 := bp hb3
    refine w_ (bd_ (h:=s_ (h:=a_ (h:=a_ (h:=e_ (aw_ret (x_thenR (?_))))))))
    refine rt_ (r := chgR (unlinkL f dir name)) none (h5 := ?_) (h6 := ⟨rfl, rfl, rfl⟩)
    rw [unlinkL, if_neg (by omega), if_neg (by omega), if_pos hc3]
    exact err_le _
  have hc3 := bp hb3
  obtain ⟨q, i, d, n0, hdq, hq, hn0, hino, hidx, hnode, hk0, hnm⟩ := place_ok (name := name) (dir := dir) (f := f) (by omega)
  have hil := (List.getElem?_eq_some_iff.1 hn0).1
  have hql := (List.getElem?_eq_some_iff.1 hq).1
  have hvd := hv.vd d (List.mem_of_getElem? hq)
  obtain ⟨e, he, hle⟩ := look_ok hnode hk0 hlk
  have hat1 : (lookL f dir name).1.1 = (q : Int) := by rw [hle]; exact hdq
  have hat2 : (lookL f dir name).1.2 ≠ 1 := by rw [hle]; exact (hvd.ent n0 (List.mem_of_getElem? hn0) e (entF_some he).1).2.1
  have hxl : (entS d.nodes i n0 name 0).length = d.nodes.length := entS_len _ _ _ _ _
  have hkp : 0 < (keepNot (lookL f dir name).1.2 (entS d.nodes i n0 name 0)).length := by
    obtain ⟨m, hm, hm1⟩ := entS_root hvd hn0 name 0
    exact keep_pos hm (by rw [hm1]; exact hat2.symm)
  refine kt_ (w_ (l_ (h:=?_)))
  refine al_p rfl (s_callM [] rfl (.cons _ _ _ _ _ rfl (LeA.refl _) .nil) (by decide) .nil (RcopyK f q d hf hq (by omega)) ?_)
  rintro r bc tc ⟨rfl, cap, cap1, hcap, hcap1, rfl, rfl⟩
  refine ⟨rfl, _, (back_new2 (n := 4) rfl f q d d.nodes cap cap1 : Back _ [] _ [_, _, _, _, _, _]), ?_⟩
  refine al_ (h:=s_ (h:=e_ (w_ (l_ (h:=l_ (h:=m_ (h:=?_)))))))
  refine al_p rfl (s_callM [4, 5] rfl (.cons _ _ _ _ _ rfl (LeA.refl _) (.cons _ _ _ _ _ rfl (LeA.refl _) (.cons _ _ _ _ _ rfl (LeA.refl _) (.cons _ _ _ _ _ rfl (LeA.refl _) .nil)))) (by decide) (.cons _ _ _ _ _ rfl (ren_DB (by rfl) _ _ _ _ _) (.cons _ _ _ _ _ rfl (ren_NB _ _ _) .nil)) (Renter f q d n0 i dir name 0 cap cap1 hf hq hdq hidx hn0 hcap hcap1) ?_)
  rintro r bc tc ⟨rfl, rfl, rfl⟩
  refine ⟨rfl, _, (back_two (Nat.le_of_ble_eq_true rfl) (Nat.le_of_ble_eq_true rfl) (by decide) f q d (entS d.nodes i n0 name 0) cap cap1 cap1 : Back _ [4, 5] _ [_, _, _, _, _, _, _]), ?_⟩
  refine e_ (w_ (l_ (h:=l_ (h:=?_))))
  refine al_p rfl (s_callM [4, 5] rfl (.cons _ _ _ _ _ rfl (LeA.refl _) (.cons _ _ _ _ _ rfl (LeA.refl _) .nil)) (by decide) (.cons _ _ _ _ _ rfl (ren_DB (by rfl) _ _ _ _ _) (.cons _ _ _ _ _ rfl (ren_NB _ _ _) .nil)) (Rdrop2 f q d { d with nodes := entS d.nodes i n0 name 0 } (lookL f dir name).1 cap cap1 (hv.entS hq hn0 name 0) hql hat1 hcap (by rw [entS_len]; exact hcap1) hkp rfl hxl) ?_)
  rintro r bc tc ⟨rfl, rfl, ⟨hns, rfl⟩ | ⟨hns, cap2, hcap2, rfl⟩⟩
  · refine ⟨rfl, _, (back_four (n := 7) rfl (by decide) (by decide) (by decide) f q d (entS d.nodes i n0 name 0) (lookL f dir name).1 f.length cap cap cap1 cap1 : Back _ [4, 5] _ [_, _, _, _, _, _, _, _, _]), ?_⟩
    have hx1 : (entS d.nodes i n0 name 0).length ≤ cap1 := by omega
    refine e_ (?_)
    refine aw_midI (fun t => t = ⟨look [(6, .bp 2 0), (7, .sl 7 [chgA (dir, name, (lookL f dir name).1, (0, 0))] none), (8, .v (.int .i64 0))], ⟨[flsA f, filA dir, flsA (f.set q { d with nodes := dropI (entS d.nodes i n0 name 0) (lookL f dir name).1.2 })], []⟩⟩) ?_ ?_
    · skip
      refine yk_ ([(0, flsA f), (1, filA dir), (3, filA (lookL f dir name).1), (6, [.bs 4 0 2 f.length cap])]) 9 (h:=dl_ 0 (h:=dl_ 1 (h:=dm_ 2 (h:=dl_ 3 (h:=?_)))))
      refine tk_ 4 rfl (fun _ hS => st_le (y := .agg (filA (0, 0))) (st_build (by repeat (first | exact FillA.nil _ | (apply FillA.cons; (focus exact rfl); (focus exact rfl); (focus exact rfl); (focus exact rfl); (focus exact rfl); (focus (repeat constructor))))) ⟨rfl, rfl⟩) (by repeat (first | exact LeA.refl _ | exact LeA.nil _ | exact LeL.refl _ | refine LeA.agg ⟨rfl, rfl⟩ | refine LeA.tup ⟨rfl, rfl⟩ | exact LeL.nil | refine LeL.cons ⟨rfl, rfl⟩ ⟨rfl, rfl⟩ | exact LeA.any _)) ⟨rfl, rfl⟩) ?_
      refine c_ 5 rfl (q_call (Rone dir name (lookL f dir name).1 (0, 0)) ?_)
      rintro r rfl
      refine o_ (h:=?_)
      refine c0_ 6 rfl (s_store rfl rfl rfl rfl rfl rfl (by repeat constructor) (by repeat constructor) ?_)
      refine o_ (h:=da_ 7 (h:=da_ 8 (h:=z_ (h:=?_))))
      refine x_then ?_
      refine ⟨_, rfl, ?_⟩
      rw [show dropI (entS d.nodes i n0 name 0) (lookL f dir name).1.2 = _ from hns]
      first | exact weak_fz 3 2 rfl (congrArg (fun x => [flsA f, filA dir, x]) (liv_upd (k := 0) (i := 4) (j := 9) (d := { d with nodes := keepNot (lookL f dir name).1.2 (entS d.nodes i n0 name 0) }) (d' := { d with nodes := keepNot (lookL f dir name).1.2 (entS d.nodes i n0 name 0) }) hql rfl rfl hcap hcap2 (Nat.le_of_ble_eq_true rfl) (Nat.le_of_ble_eq_true rfl) rfl rfl)) (.cons _ _ _ _ rfl (LeA.refl _) (.cons _ _ _ _ rfl (LeA.refl _) (.cons _ _ _ _ rfl (LeA.refl _) .nil))) | exact weak_fz 3 2 rfl (congrArg (fun x => [flsA f, filA dir, x]) (liv_upd (k := 0) (i := 4) (j := 5) (d := d) (d' := { d with nodes := entS d.nodes i n0 name 0 }) hql rfl hxl hcap hx1 (Nat.le_of_ble_eq_true rfl) (Nat.le_of_ble_eq_true rfl) rfl rfl)) (.cons _ _ _ _ rfl (LeA.refl _) (.cons _ _ _ _ rfl (LeA.refl _) (.cons _ _ _ _ rfl (LeA.refl _) .nil)))
    rintro t rfl
    refine aw_ret (?_)
    refine e_ret ?_
    rw [unlinkL, if_neg (by omega), if_neg (by omega), if_neg (by simp [hc3]), hdq, Int.toNat_natCast, onD_set hq, ← hino, ← entS_D (hv.vd d (List.mem_of_getElem? hq)) hn0]
    rfl
  refine ⟨rfl, _, (back_five (n := 7) rfl (by decide) (by decide) (by decide) f q { d with nodes := keepNot (lookL f dir name).1.2 (entS d.nodes i n0 name 0) } (entS d.nodes i n0 name 0) (keepNot (lookL f dir name).1.2 (entS d.nodes i n0 name 0)) (lookL f dir name).1 f.length cap cap cap1 cap2 : Back _ [4, 5] _ [_, _, _, _, _, _, _, _, _, _]), ?_⟩
  refine e_ (?_)
  refine aw_midI (fun t => t = ⟨look [(6, .bp 2 0), (7, .sl 7 [chgA (dir, name, (lookL f dir name).1, (0, 0))] none), (8, .v (.int .i64 0))], ⟨[flsA f, filA dir, flsA (f.set q { d with nodes := dropI (entS d.nodes i n0 name 0) (lookL f dir name).1.2 })], []⟩⟩) ?_ ?_
  · skip
    refine yk_ ([(0, flsA f), (1, filA dir), (3, filA (lookL f dir name).1), (6, [.bs 4 0 2 f.length cap])]) 9 (h:=dl_ 0 (h:=dl_ 1 (h:=dm_ 2 (h:=dl_ 3 (h:=?_)))))
    refine tk_ 4 rfl (fun _ hS => st_le (y := .agg (filA (0, 0))) (st_build (by repeat (first | exact FillA.nil _ | (apply FillA.cons; (focus exact rfl); (focus exact rfl); (focus exact rfl); (focus exact rfl); (focus exact rfl); (focus (repeat constructor))))) ⟨rfl, rfl⟩) (by repeat (first | exact LeA.refl _ | exact LeA.nil _ | exact LeL.refl _ | refine LeA.agg ⟨rfl, rfl⟩ | refine LeA.tup ⟨rfl, rfl⟩ | exact LeL.nil | refine LeL.cons ⟨rfl, rfl⟩ ⟨rfl, rfl⟩ | exact LeA.any _)) ⟨rfl, rfl⟩) ?_
    refine c_ 5 rfl (q_call (Rone dir name (lookL f dir name).1 (0, 0)) ?_)
    rintro r rfl
    refine o_ (h:=?_)
    refine c0_ 6 rfl (s_store rfl rfl rfl rfl rfl rfl (by repeat constructor) (by repeat constructor) ?_)
    refine o_ (h:=da_ 7 (h:=da_ 8 (h:=z_ (h:=?_))))
    refine x_then ?_
    refine ⟨_, rfl, ?_⟩
    rw [show dropI (entS d.nodes i n0 name 0) (lookL f dir name).1.2 = _ from hns]
    first | exact weak_fz 3 2 rfl (congrArg (fun x => [flsA f, filA dir, x]) (liv_upd (k := 0) (i := 4) (j := 9) (d := { d with nodes := keepNot (lookL f dir name).1.2 (entS d.nodes i n0 name 0) }) (d' := { d with nodes := keepNot (lookL f dir name).1.2 (entS d.nodes i n0 name 0) }) hql rfl rfl hcap hcap2 (Nat.le_of_ble_eq_true rfl) (Nat.le_of_ble_eq_true rfl) rfl rfl)) (.cons _ _ _ _ rfl (LeA.refl _) (.cons _ _ _ _ rfl (LeA.refl _) (.cons _ _ _ _ rfl (LeA.refl _) .nil))) | exact weak_fz 3 2 rfl (congrArg (fun x => [flsA f, filA dir, x]) (liv_upd (k := 0) (i := 4) (j := 5) (d := d) (d' := { d with nodes := entS d.nodes i n0 name 0 }) hql rfl hxl hcap hx1 (Nat.le_of_ble_eq_true rfl) (Nat.le_of_ble_eq_true rfl) rfl rfl)) (.cons _ _ _ _ rfl (LeA.refl _) (.cons _ _ _ _ rfl (LeA.refl _) (.cons _ _ _ _ rfl (LeA.refl _) .nil)))
  rintro t rfl
  refine aw_ret (?_)
  refine e_ret ?_
  rw [unlinkL, if_neg (by omega), if_neg (by omega), if_neg (by simp [hc3]), hdq, Int.toNat_natCast, onD_set hq, ← hino, ← entS_D (hv.vd d (List.mem_of_getElem? hq)) hn0]
  rfl

theorem Rrmdir (f : Fls) (dir : Fil) (name : Str) (hv : FlsV f) (hs : name.size ≤ 100000) : AFn Try.prog 46 [.agg (flsA f), .agg (filA dir), .v (.string name)] (fun r => r = chgR (rmdirL f dir name)) := by
  have hf := hv.b
  refine enter Try.func46 rfl rfl rfl rfl rfl 0 rfl ?_
  refine w_ (b_ (h:=b_ (h:=al_ (h:=a_ (h:=a_ (h:=e_ (q_ (w_ (l_ (h:=l_ (h:=m_ (h:=?_))))))))))))
  refine al_p rfl (q_call (Rplace f dir name hf hs) ?_)
  rintro r rfl
  refine a_ (h:=e_ (w_ (m_ (h:=nq_ (h:=e_ (?_))))))
  refine aw_cond rfl (fun hb1 => ?_) (fun hb1 => ?_)
  · have hc1 := bp hb1
    refine w_ (bd_ (h:=m_ (h:=s_ (h:=a_ (h:=a_ (h:=e_ (aw_ret (x_thenR (?_)))))))))
    refine rt_ (r := chgR (rmdirL f dir name)) none (h5 := ?_) (h6 := ⟨rfl, rfl, rfl⟩)
    rw [rmdirL, if_pos (by omega)]
    exact err_le _
  have hc1 := bp hb1
  refine kt_ (w_ (l_ (h:=l_ (h:=m_ (h:=?_)))))
  refine al_p rfl (q_call (Rlook f dir name hf) ?_)
  rintro r rfl
  refine m_ (h:=x_ (h:=x_ (h:=al_ (h:=s_ (h:=a_ (h:=e_ (q_ (w_ (m_ (h:=nq_ (h:=e_ (?_))))))))))))
  refine aw_cond rfl (fun hb2 => ?_) (fun hb2 => ?_)
  · have hc2 := bp hb2
    refine w_ (bd_ (h:=m_ (h:=s_ (h:=a_ (h:=a_ (h:=e_ (aw_ret (x_thenR (?_)))))))))
    refine rt_ (r := chgR (rmdirL f dir name)) none (h5 := ?_) (h6 := ⟨rfl, rfl, rfl⟩)
    rw [rmdirL, if_neg (by omega), if_pos (by omega)]
    exact err_le _
  have hc2 := bp hb2
  have hlk : (lookL f dir name).2 = 0 := by omega
  refine kt_ (q_ (w_ (l_ (h:=l_ (h:=?_)))))
  refine al_p rfl (q_call (Rdir f (lookL f dir name).1 hf) ?_)
  rintro r rfl
  refine nt_ (h:=e_ (?_))
  refine aw_cond rfl (fun hb3 => ?_) (fun hb3 => ?_)
  · have hc3 := bp hb3
    refine w_ (bd_ (h:=s_ (h:=a_ (h:=a_ (h:=e_ (aw_ret (x_thenR (?_))))))))
    refine rt_ (r := chgR (rmdirL f dir name)) none (h5 := ?_) (h6 := ⟨rfl, rfl, rfl⟩)
    rw [rmdirL, if_neg (by omega), if_neg (by omega), if_pos hc3]
    exact err_le _
  have hc3 := bp hb3
  refine kt_ (q_ (w_ (l_ (h:=l_ (h:=?_)))))
  refine al_p rfl (q_call (Rempty f (lookL f dir name).1 hf) ?_)
  rintro r rfl
  refine nt_ (h:=e_ (?_))
  refine aw_cond rfl (fun hb4 => ?_) (fun hb4 => ?_)
  · have hc4 := bp hb4
    refine w_ (bd_ (h:=s_ (h:=a_ (h:=a_ (h:=e_ (aw_ret (x_thenR (?_))))))))
    refine rt_ (r := chgR (rmdirL f dir name)) none (h5 := ?_) (h6 := ⟨rfl, rfl, rfl⟩)
    rw [rmdirL, if_neg (by omega), if_neg (by omega), if_neg (by simp [hc3]), if_pos hc4]
    exact err_le _
  have hc4 := bp hb4
  obtain ⟨q, i, d, n0, hdq, hq, hn0, hino, hidx, hnode, hk0, hnm⟩ := place_ok (name := name) (dir := dir) (f := f) (by omega)
  have hil := (List.getElem?_eq_some_iff.1 hn0).1
  have hql := (List.getElem?_eq_some_iff.1 hq).1
  have hvd := hv.vd d (List.mem_of_getElem? hq)
  obtain ⟨e, he, hle⟩ := look_ok hnode hk0 hlk
  have hat1 : (lookL f dir name).1.1 = (q : Int) := by rw [hle]; exact hdq
  have hat2 : (lookL f dir name).1.2 ≠ 1 := by rw [hle]; exact (hvd.ent n0 (List.mem_of_getElem? hn0) e (entF_some he).1).2.1
  have hxl : (entS d.nodes i n0 name 0).length = d.nodes.length := entS_len _ _ _ _ _
  have hkp : 0 < (keepNot (lookL f dir name).1.2 (entS d.nodes i n0 name 0)).length := by
    obtain ⟨m, hm, hm1⟩ := entS_root hvd hn0 name 0
    exact keep_pos hm (by rw [hm1]; exact hat2.symm)
  refine kt_ (w_ (l_ (h:=?_)))
  refine al_p rfl (s_callM [] rfl (.cons _ _ _ _ _ rfl (LeA.refl _) .nil) (by decide) .nil (RcopyK f q d hf hq (by omega)) ?_)
  rintro r bc tc ⟨rfl, cap, cap1, hcap, hcap1, rfl, rfl⟩
  refine ⟨rfl, _, (back_new2 (n := 4) rfl f q d d.nodes cap cap1 : Back _ [] _ [_, _, _, _, _, _]), ?_⟩
  refine al_ (h:=s_ (h:=e_ (w_ (l_ (h:=l_ (h:=m_ (h:=?_)))))))
  refine al_p rfl (s_callM [4, 5] rfl (.cons _ _ _ _ _ rfl (LeA.refl _) (.cons _ _ _ _ _ rfl (LeA.refl _) (.cons _ _ _ _ _ rfl (LeA.refl _) (.cons _ _ _ _ _ rfl (LeA.refl _) .nil)))) (by decide) (.cons _ _ _ _ _ rfl (ren_DB (by rfl) _ _ _ _ _) (.cons _ _ _ _ _ rfl (ren_NB _ _ _) .nil)) (Renter f q d n0 i dir name 0 cap cap1 hf hq hdq hidx hn0 hcap hcap1) ?_)
  rintro r bc tc ⟨rfl, rfl, rfl⟩
  refine ⟨rfl, _, (back_two (Nat.le_of_ble_eq_true rfl) (Nat.le_of_ble_eq_true rfl) (by decide) f q d (entS d.nodes i n0 name 0) cap cap1 cap1 : Back _ [4, 5] _ [_, _, _, _, _, _, _]), ?_⟩
  refine e_ (w_ (l_ (h:=l_ (h:=?_))))
  refine al_p rfl (s_callM [4, 5] rfl (.cons _ _ _ _ _ rfl (LeA.refl _) (.cons _ _ _ _ _ rfl (LeA.refl _) .nil)) (by decide) (.cons _ _ _ _ _ rfl (ren_DB (by rfl) _ _ _ _ _) (.cons _ _ _ _ _ rfl (ren_NB _ _ _) .nil)) (Rdrop2 f q d { d with nodes := entS d.nodes i n0 name 0 } (lookL f dir name).1 cap cap1 (hv.entS hq hn0 name 0) hql hat1 hcap (by rw [entS_len]; exact hcap1) hkp rfl hxl) ?_)
  rintro r bc tc ⟨rfl, rfl, ⟨hns, rfl⟩ | ⟨hns, cap2, hcap2, rfl⟩⟩
  · refine ⟨rfl, _, (back_four (n := 7) rfl (by decide) (by decide) (by decide) f q d (entS d.nodes i n0 name 0) (lookL f dir name).1 f.length cap cap cap1 cap1 : Back _ [4, 5] _ [_, _, _, _, _, _, _, _, _]), ?_⟩
    have hx1 : (entS d.nodes i n0 name 0).length ≤ cap1 := by omega
    refine e_ (?_)
    refine aw_midI (fun t => t = ⟨look [(6, .bp 2 0), (7, .sl 7 [chgA (dir, name, (lookL f dir name).1, (0, 0))] none), (8, .v (.int .i64 0))], ⟨[flsA f, filA dir, flsA (f.set q { d with nodes := dropI (entS d.nodes i n0 name 0) (lookL f dir name).1.2 })], []⟩⟩) ?_ ?_
    · skip
      refine yk_ ([(0, flsA f), (1, filA dir), (3, filA (lookL f dir name).1), (6, [.bs 4 0 2 f.length cap])]) 9 (h:=dl_ 0 (h:=dl_ 1 (h:=dm_ 2 (h:=dl_ 3 (h:=?_)))))
      refine tk_ 4 rfl (fun _ hS => st_le (y := .agg (filA (0, 0))) (st_build (by repeat (first | exact FillA.nil _ | (apply FillA.cons; (focus exact rfl); (focus exact rfl); (focus exact rfl); (focus exact rfl); (focus exact rfl); (focus (repeat constructor))))) ⟨rfl, rfl⟩) (by repeat (first | exact LeA.refl _ | exact LeA.nil _ | exact LeL.refl _ | refine LeA.agg ⟨rfl, rfl⟩ | refine LeA.tup ⟨rfl, rfl⟩ | exact LeL.nil | refine LeL.cons ⟨rfl, rfl⟩ ⟨rfl, rfl⟩ | exact LeA.any _)) ⟨rfl, rfl⟩) ?_
      refine c_ 5 rfl (q_call (Rone dir name (lookL f dir name).1 (0, 0)) ?_)
      rintro r rfl
      refine o_ (h:=?_)
      refine c0_ 6 rfl (s_store rfl rfl rfl rfl rfl rfl (by repeat constructor) (by repeat constructor) ?_)
      refine o_ (h:=da_ 7 (h:=da_ 8 (h:=z_ (h:=?_))))
      refine x_then ?_
      refine ⟨_, rfl, ?_⟩
      rw [show dropI (entS d.nodes i n0 name 0) (lookL f dir name).1.2 = _ from hns]
      first | exact weak_fz 3 2 rfl (congrArg (fun x => [flsA f, filA dir, x]) (liv_upd (k := 0) (i := 4) (j := 9) (d := { d with nodes := keepNot (lookL f dir name).1.2 (entS d.nodes i n0 name 0) }) (d' := { d with nodes := keepNot (lookL f dir name).1.2 (entS d.nodes i n0 name 0) }) hql rfl rfl hcap hcap2 (Nat.le_of_ble_eq_true rfl) (Nat.le_of_ble_eq_true rfl) rfl rfl)) (.cons _ _ _ _ rfl (LeA.refl _) (.cons _ _ _ _ rfl (LeA.refl _) (.cons _ _ _ _ rfl (LeA.refl _) .nil))) | exact weak_fz 3 2 rfl (congrArg (fun x => [flsA f, filA dir, x]) (liv_upd (k := 0) (i := 4) (j := 5) (d := d) (d' := { d with nodes := entS d.nodes i n0 name 0 }) hql rfl hxl hcap hx1 (Nat.le_of_ble_eq_true rfl) (Nat.le_of_ble_eq_true rfl) rfl rfl)) (.cons _ _ _ _ rfl (LeA.refl _) (.cons _ _ _ _ rfl (LeA.refl _) (.cons _ _ _ _ rfl (LeA.refl _) .nil)))
    rintro t rfl
    refine aw_ret (?_)
    refine e_ret ?_
    rw [rmdirL, if_neg (by omega), if_neg (by omega), if_neg (by simp [hc3]), if_neg (by simp [hc4]), hdq, Int.toNat_natCast, onD_set hq, ← hino, ← entS_D (hv.vd d (List.mem_of_getElem? hq)) hn0]
    rfl
  refine ⟨rfl, _, (back_five (n := 7) rfl (by decide) (by decide) (by decide) f q { d with nodes := keepNot (lookL f dir name).1.2 (entS d.nodes i n0 name 0) } (entS d.nodes i n0 name 0) (keepNot (lookL f dir name).1.2 (entS d.nodes i n0 name 0)) (lookL f dir name).1 f.length cap cap cap1 cap2 : Back _ [4, 5] _ [_, _, _, _, _, _, _, _, _, _]), ?_⟩
  refine e_ (?_)
  refine aw_midI (fun t => t = ⟨look [(6, .bp 2 0), (7, .sl 7 [chgA (dir, name, (lookL f dir name).1, (0, 0))] none), (8, .v (.int .i64 0))], ⟨[flsA f, filA dir, flsA (f.set q { d with nodes := dropI (entS d.nodes i n0 name 0) (lookL f dir name).1.2 })], []⟩⟩) ?_ ?_
  · skip
    refine yk_ ([(0, flsA f), (1, filA dir), (3, filA (lookL f dir name).1), (6, [.bs 4 0 2 f.length cap])]) 9 (h:=dl_ 0 (h:=dl_ 1 (h:=dm_ 2 (h:=dl_ 3 (h:=?_)))))
    refine tk_ 4 rfl (fun _ hS => st_le (y := .agg (filA (0, 0))) (st_build (by repeat (first | exact FillA.nil _ | (apply FillA.cons; (focus exact rfl); (focus exact rfl); (focus exact rfl); (focus exact rfl); (focus exact rfl); (focus (repeat constructor))))) ⟨rfl, rfl⟩) (by repeat (first | exact LeA.refl _ | exact LeA.nil _ | exact LeL.refl _ | refine LeA.agg ⟨rfl, rfl⟩ | refine LeA.tup ⟨rfl, rfl⟩ | exact LeL.nil | refine LeL.cons ⟨rfl, rfl⟩ ⟨rfl, rfl⟩ | exact LeA.any _)) ⟨rfl, rfl⟩) ?_
    refine c_ 5 rfl (q_call (Rone dir name (lookL f dir name).1 (0, 0)) ?_)
    rintro r rfl
    refine o_ (h:=?_)
    refine c0_ 6 rfl (s_store rfl rfl rfl rfl rfl rfl (by repeat constructor) (by repeat constructor) ?_)
    refine o_ (h:=da_ 7 (h:=da_ 8 (h:=z_ (h:=?_))))
    refine x_then ?_
    refine ⟨_, rfl, ?_⟩
    rw [show dropI (entS d.nodes i n0 name 0) (lookL f dir name).1.2 = _ from hns]
    first | exact weak_fz 3 2 rfl (congrArg (fun x => [flsA f, filA dir, x]) (liv_upd (k := 0) (i := 4) (j := 9) (d := { d with nodes := keepNot (lookL f dir name).1.2 (entS d.nodes i n0 name 0) }) (d' := { d with nodes := keepNot (lookL f dir name).1.2 (entS d.nodes i n0 name 0) }) hql rfl rfl hcap hcap2 (Nat.le_of_ble_eq_true rfl) (Nat.le_of_ble_eq_true rfl) rfl rfl)) (.cons _ _ _ _ rfl (LeA.refl _) (.cons _ _ _ _ rfl (LeA.refl _) (.cons _ _ _ _ rfl (LeA.refl _) .nil))) | exact weak_fz 3 2 rfl (congrArg (fun x => [flsA f, filA dir, x]) (liv_upd (k := 0) (i := 4) (j := 5) (d := d) (d' := { d with nodes := entS d.nodes i n0 name 0 }) hql rfl hxl hcap hx1 (Nat.le_of_ble_eq_true rfl) (Nat.le_of_ble_eq_true rfl) rfl rfl)) (.cons _ _ _ _ rfl (LeA.refl _) (.cons _ _ _ _ rfl (LeA.refl _) (.cons _ _ _ _ rfl (LeA.refl _) .nil)))
  rintro t rfl
  refine aw_ret (?_)
  refine e_ret ?_
  rw [rmdirL, if_neg (by omega), if_neg (by omega), if_neg (by simp [hc3]), if_neg (by simp [hc4]), hdq, Int.toNat_natCast, onD_set hq, ← hino, ← entS_D (hv.vd d (List.mem_of_getElem? hq)) hn0]
  rfl

end
end Go.Proofs.Ythcbdkmhamhciaa
namespace Go.Proofs.Ythcbdkmhamhciaa
open Go.RowKit

section
variable {P : Program} {N : Dim} {ops : Array Oper} {Q : Exit → AS → Prop} {S : AH → Prop} {tl : Nat}
def Clo (ops : Array Oper) (listed : Array Bool) : Prop := ∀ (k : Nat) (o : Oper), ops[k]? = some o → listed.getD k false = true → ∀ e ∈ o.after, Region.binds .any e = true → listed.getD e.on false = true
def cloB (ops : Array Oper) (listed : Array Bool) : Bool :=
  (List.range ops.size).all fun k => !listed.getD k false || match ops[k]? with
    | none => true
    | some o => o.after.all fun e => !Region.binds .any e || listed.getD e.on false
theorem cloB_spec {listed : Array Bool} (h : cloB ops listed = true) : Clo ops listed := by
  intro k o hk hl e he hb
  have h1 := List.all_eq_true.1 h k (List.mem_range.2 (Array.getElem?_eq_some_iff.1 hk).1)
  simp only [hl, Bool.not_true, Bool.false_or, hk] at h1
  have h2 := Array.all_eq_true'.1 h1 e he
  simpa [hb] using h2
theorem Clo.step {listed : Array Bool} (h : Clo ops listed) {j : Nat} {oj : Oper} (hj : ops[j]? = some oj) (hall : ∀ e ∈ oj.after, Region.binds .any e = true → listed.getD e.on false = true) : Clo ops (listed.setIfInBounds j true) := by
  intro k o hk hl e he hb
  refine getD_set_true ?_
  by_cases hjk : j = k
  · subst hjk
    rw [hj] at hk
    injection hk with hk
    subst hk
    exact hall e he hb
  rw [getD_set_ne false hjk] at hl
  exact h k o hk hl e he hb
def tail2 (ops : Array Oper) (tl : Nat) : Bool :=
  match ops[tl]? with
  | none => true
  | some o => (List.range ops.size).all fun j => j == tl || (o.after.any fun e => Region.binds .any e && e.on == j) || (o.after.any fun e => Region.binds .any e && match ops[e.on]? with
    | none => false
    | some o2 => o2.after.any fun e2 => Region.binds .any e2 && e2.on == j)
theorem AAny.first2 {i : Nat} {oi : Oper} {x : AV} (hi : ops[i]? = some oi) (hd : dstIn oi.dst N = true) (htl : tail2 ops tl = true) (hit : i ≠ tl) :
    ∀ (fuel : Nat) (listed : Array Bool) (s : AS), Clo ops listed →
      (∀ j oj, ops[j]? = some oj → j ≠ i → listed.getD j true = false → (∀ e ∈ oj.after, Region.binds .any e = true → e.on ≠ i) → oi.apart ops oj = true) →
      i ∈ Region.ready .any ops listed → Steady P ops S oi x s.sl → S s.h →
      AAny P N ops Q S tl fuel (listed.setIfInBounds i true) ⟨put oi.dst x s.sl, s.h⟩ → AAny P N ops Q S tl (fuel + 1) listed s := by
  intro fuel
  induction fuel with
  | zero =>
    intro listed s _ _ hr hy hS H
    refine ⟨fun h => (by rw [h] at hr; cases hr), fun j hj => ?_⟩
    by_cases hji : j = i
    · subst hji; exact hy.op hi hd hS ⟨.inr hS, H⟩
    have := ready_mono hj hji
    rw [H.1] at this
    cases this
  | succ fuel ih =>
    intro listed s hcl hfree hr hy hS H
    refine ⟨fun h => (by rw [h] at hr; cases hr), fun j hj => ?_⟩
    by_cases hji : j = i
    · subst hji; exact hy.op hi hd hS ⟨.inr hS, H⟩
    have h1 := H.2 j (ready_mono hj hji)
    obtain ⟨hjun, oj, hoj, hall⟩ := mem_ready.1 hj
    have hun : ∀ k, k = i → listed.getD k false = true → False := fun k hk h1 => by
      have h0 := (mem_ready.1 hr).1
      rw [hk] at h1
      rcases Nat.lt_or_ge i listed.size with h' | h'
      · simp [h'] at h0 h1; rw [h0] at h1; cases h1
      simp [Array.getElem?_eq_none h'] at h1
    have hnot : ∀ e ∈ oj.after, Region.binds .any e = true → e.on ≠ i := fun e he hb heq => hun _ heq (hall e he hb)
    obtain ⟨a1, a2, a3⟩ := Oper.apart_spec (hfree j oj hoj hji hjun hnot)
    have hfree' : ∀ k ok, ops[k]? = some ok → k ≠ i → (listed.setIfInBounds j true).getD k true = false →
        (∀ e ∈ ok.after, Region.binds .any e = true → e.on ≠ i) → oi.apart ops ok = true := fun k ok hk hki hun hno => by
      refine hfree k ok hk hki ?_ hno
      by_cases hjk : j = k
      · subst hjk; exact hjun
      rw [getD_set_ne true hjk] at hun; exact hun
    have hjt : j ≠ tl := by
      intro e
      subst e
      unfold tail2 at htl
      simp only [hoj] at htl
      have h1 := List.all_eq_true.1 htl i (List.mem_range.2 (Array.getElem?_eq_some_iff.1 hi).1)
      simp only [Bool.or_eq_true, beq_iff_eq, Ne.symm hji, false_or] at h1
      rcases h1 with h1 | h1
      · obtain ⟨e, he, hb⟩ := Array.any_eq_true'.1 h1
        simp only [Bool.and_eq_true, beq_iff_eq] at hb
        exact hnot e he hb.1 hb.2
      obtain ⟨e, he, hb⟩ := Array.any_eq_true'.1 h1
      simp only [Bool.and_eq_true] at hb
      obtain ⟨hb1, hb2⟩ := hb
      cases ho2 : ops[e.on]? with
      | none => rw [ho2] at hb2; cases hb2
      | some o2 =>
        rw [ho2] at hb2
        obtain ⟨e2, he2, hb3⟩ := Array.any_eq_true'.1 hb2
        simp only [Bool.and_eq_true, beq_iff_eq] at hb3
        exact hun _ hb3.2 (hcl _ o2 ho2 (hall e he hb1) e2 he2 hb3.1)
    have hgo : ∀ (y : AV) (h' : AH), S h' → AAny P N ops Q S tl fuel ((listed.setIfInBounds i true).setIfInBounds j true) ⟨put oj.dst y (put oi.dst x s.sl), h'⟩ →
        AAny P N ops Q S tl (fuel + 1) (listed.setIfInBounds j true) ⟨put oj.dst y s.sl, h'⟩ := fun y h' hS' hA => by
      refine ih (listed.setIfInBounds j true) ⟨put oj.dst y s.sl, h'⟩ (hcl.step hoj hall) hfree' (ready_mono hr (Ne.symm hji)) (hy.put y a3) hS' ?_
      rw [Array.setIfInBounds_comm _ _ hji, ← put_comm s.sl x y a2]
      exact hA
    unfold AOp at h1 ⊢
    simp only [hoj] at h1 ⊢
    obtain ⟨k1, t, k2, k3, k4⟩ := h1
    rw [wantedA_put s.sl x a1] at k2
    refine ⟨k1, t, k2, fun ht => ?_, fun ht => ?_⟩
    · refine ((k3 ht).congr fun z hz => (evs_put s.sl x fun u e he => a1 u e (mem_looks (he ▸ hz))).symm).mono ?_
      rintro y h' ⟨q1, q2⟩
      have q1' := q1.resolve_left hjt
      exact ⟨.inr q1', hgo y h' q1' q2⟩
    obtain ⟨q1, q2⟩ := k4 ht
    have q1' := q1.resolve_left hjt
    exact ⟨.inr q1', hgo (.v undef) s.h q1' q2⟩
end
section
variable {P : Program} {N : Dim} {Q : Exit → AS → Prop} {l : List Oper} {S : AH → Prop} {tl : Nat} {fuel : Nat} {listed : Array Bool} {m : List (Nat × AV)} {h : AH} {op : Op} {ty : TypeId} {pos : String} {af : Array Edge} {gd : Option (Nat × Bool)}
theorem aa_t2 {i d : Nat} {x : AV} (hi : l[i]? = some ⟨some d, op, ty, pos, af, gd⟩) (hd : Nat.blt d N.n = true) (htl : (tail2 l.toArray tl && cloB l.toArray listed && !Nat.beq i tl && Region.free .any l.toArray listed i && (Region.ready .any l.toArray listed).contains i) = true)
    (hw : wantedA l.toArray (look m) ⟨some d, op, ty, pos, af, gd⟩ = some true) (hst : ∀ h, S h → AStep P ⟨some d, op, ty, pos, af, gd⟩ (evs (look m)) h (fun x' h' => x' = x ∧ h' = h)) (hS : S h)
    (H : AAny P N l.toArray Q S tl fuel (listed.setIfInBounds i true) ⟨look ((d, x) :: m), h⟩) : AAny P N l.toArray Q S tl (fuel + 1) listed ⟨look m, h⟩ := by
  simp only [Bool.and_eq_true, Bool.not_eq_true'] at htl
  obtain ⟨⟨⟨⟨t1, t0⟩, t2⟩, t3⟩, t4⟩ := htl
  exact AAny.first2 (oi := ⟨some d, op, ty, pos, af, gd⟩) (get_arr hi) hd t1 (fun e => by subst e; simp at t2) fuel listed ⟨look m, h⟩ (cloB_spec t0) (Region.free_spec (get_arr hi) t3) (List.contains_iff_mem.1 t4) (.inl ⟨hw, hst⟩) hS H
end
end Go.Proofs.Ythcbdkmhamhciaa
