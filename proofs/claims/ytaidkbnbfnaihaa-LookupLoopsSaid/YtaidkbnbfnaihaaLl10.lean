/-
  Part 10 of the proof of LookupLoopsP: what the statement's proof uses of the texts in wip/tpl.
-/
import Derived.Test.YtaidkbnbfnaihaaShelf
import Derived.Laws.RangeAny
import Derived.Deep.LoopGhost
import Derived.Lib.OthersKept
import Derived.Shelf.Abstract
import Derived.Shelf.RegionOpen
import Derived.OwnWalkIn
import Derived.TacticsInMore
import Derived.LoopNIn
import Derived.LoopIn
import Derived.Maps.AppendAt
import Derived.OwnWalk
import Derived.StillTailTactics
import Derived.Lib.IndexLaws
import Derived.Test.YtaidkbnbfnaihaaLl9
namespace Go.Proofs.Ytaidkbnbfnaihaa

section
variable {s : Spc} (hv : SpcV s)
include hv
def wvis (s : Spc) (a : Fil) : Prop := (whereP s a).2 = true ∧ ∀ i, 0 < i → okAt s (chainP s (mostL s.files) a) i = true
theorem where_ok2 {a : Fil} (h : dirL s.files a = true) (hm : mtdL s a.1 = true) : (whereP s a).2 = true := by rw [where_yes hv h hm]
omit hv in
theorem okAt_two (a : Fil) (L : List Fil) (i : Nat) : okAt s (a :: L) (i + 2) = okAt s L (i + 1) := by
  unfold okAt
  have h1 : (a :: L)[i + 2]? = L[i + 1]? := List.getElem?_cons_succ
  have h2 : (a :: L)[i + 2 - 1]? = L[i + 1 - 1]? := List.getElem?_cons_succ
  rw [h1, h2]
  simp
omit hv in
theorem okAt_one (a b : Fil) (L : List Fil) : okAt s (a :: b :: L) 1 = true ↔ ∀ dev, covL s b = some dev → a = (dev, 1) := by
  unfold okAt
  simp only [List.getElem?_cons_succ, List.getElem?_cons_zero, Nat.sub_self]
  cases covL s b with
  | none => simp
  | some dev => simp
omit hv in
theorem okAt_none {L : List Fil} {i : Nat} (h : L.length ≤ i) : okAt s L i = true := by
  unfold okAt
  rw [List.getElem?_eq_none h]
theorem vis_iff (a : Fil) : visP s a = true ↔ wvis s a ∧ covL s a = none := by
  rw [vis_eq hv, Bool.and_eq_true, List.all_eq_true]
  constructor
  · rintro ⟨h1, h2⟩
    obtain ⟨t, ht⟩ := chain_head hv (where_ok h1).1
    refine ⟨⟨h1, fun i hi => ?_⟩, ?_⟩
    · by_cases hl : i < (chainP s (mostL s.files) a).length
      · exact h2 i (List.mem_range.2 hl)
      · exact okAt_none (by omega)
    · have h3 := h2 0 (List.mem_range.2 (by rw [ht]; simp))
      rw [ht] at h3
      unfold okAt at h3
      simp only [List.getElem?_cons_zero] at h3
      cases hc : covL s a with
      | none => rfl
      | some dev => rw [hc] at h3; simp at h3
  · rintro ⟨⟨h1, h2⟩, hc⟩
    refine ⟨h1, fun i _ => ?_⟩
    obtain ⟨t, ht⟩ := chain_head hv (where_ok h1).1
    by_cases h0 : i = 0
    · subst h0
      rw [ht]
      unfold okAt
      simp only [List.getElem?_cons_zero, hc]
    · exact h2 i (by omega)
theorem wvis_step {a b : Fil} (h : dirL s.files a = true) (hm : mtdL s a.1 = true) (hs : stepR s a = some b) : wvis s a ↔ wvis s b ∧ ∀ dev, covL s b = some dev → a = (dev, 1) := by
  have hb := step_dir hv h hs
  have hbm := step_mtd hv hm hs
  obtain ⟨t, ht⟩ := chain_head hv hb
  have hc : chainP s (mostL s.files) a = a :: chainP s (mostL s.files) b := by rw [chain_cons hv h, hs]
  unfold wvis
  rw [hc]
  constructor
  · rintro ⟨_, h2⟩
    refine ⟨⟨where_ok2 hv hb hbm, fun i hi => ?_⟩, ?_⟩
    · obtain ⟨j, rfl⟩ : ∃ j, i = j + 1 := ⟨i - 1, by omega⟩
      rw [← okAt_two a]
      exact h2 _ (by omega)
    · have h3 := h2 1 (by omega)
      rw [ht] at h3
      exact (okAt_one a b t).1 h3
  · rintro ⟨⟨_, h2⟩, h3⟩
    refine ⟨where_ok2 hv h hm, fun i hi => ?_⟩
    by_cases h1 : i = 1
    · subst h1
      rw [ht]
      exact (okAt_one a b t).2 h3
    · obtain ⟨j, rfl⟩ : ∃ j, i = j + 2 := ⟨i - 2, by omega⟩
      rw [okAt_two]
      exact h2 _ (by omega)
theorem wvis_root (h : dirL s.files (0, 1) = true) : wvis s (0, 1) := by
  have hs : stepR s (0, 1) = none := by unfold stepR; rw [if_neg (by simp)]; exact on_zero hv
  refine ⟨where_ok2 hv h (by unfold mtdL; simp), fun i hi => ?_⟩
  rw [chain_cons hv h, hs]
  exact okAt_none (by simp; omega)
theorem cov_step {a : Fil} {dev : Int} (hc : covL s a = some dev) : stepR s (dev, 1) = some a ∧ dirL s.files (dev, 1) = true ∧ mtdL s dev = true ∧ dev ≠ 0 ∧ dirL s.files a = true := by
  obtain ⟨i, hi⟩ := cov_mem hc
  have hm := hv.mnt i _ hi
  have h1 := hm.dev1
  have h2 := hm.dev2
  simp only at h1 h2
  have hs : stepR s (dev, 1) = some a := by
    unfold stepR
    rw [if_neg (by simp)]
    exact on_of hv hi
  exact ⟨hs, root_dir hv (by omega) h2, mtd_mem (s := s) (m := (dev, a)) (List.mem_of_getElem? hi), by omega, hm.dir⟩
theorem wvis_stepD {a : Fil} (h : wvis s a) : wvis s (stepD s a) := by
  unfold stepD
  cases hc : covL s a with
  | none => exact h
  | some dev =>
    obtain ⟨h1, h2, h3, _⟩ := cov_step hv hc
    refine (wvis_step hv (a := (dev, 1)) h2 h3 h1).2 ⟨h, fun d hd => ?_⟩
    rw [hc] at hd
    injection hd with hd
    rw [hd]
theorem wvis_down : ∀ (n : Nat) (a : Fil), wvis s a → wvis s (itD s n a)
  | 0, _, h => h
  | n + 1, a, h => by rw [itD]; exact wvis_down n _ (wvis_stepD hv h)
theorem vis_down {a : Fil} (h : wvis s a) : visP s (itD s s.mounts.length a) = true := (vis_iff hv _).2 ⟨wvis_down hv _ a h, down_end hv _ a fun i m _ _ => by omega⟩
omit hv in
theorem one_from {d : Dvc} (hd : VD d) {a b m : Nod} (ha : a ∈ d.nodes) (hb : b ∈ d.nodes) (hm : m ∈ d.nodes) (h1 : m.ino ≠ 1) (hk : m.kind = 2) (hea : ∃ e ∈ a.entries, e.2 = m.ino) (heb : ∃ e ∈ b.entries, e.2 = m.ino) : a = b := by
  have hc := hd.one m hm h1 hk
  obtain ⟨A, B, hAB, _, _⟩ := asc_split hd.asc ha
  rw [hAB, cntN_append, cntN_cons] at hc
  have h2 := cntE_pos.2 hea
  rw [hAB] at hb
  rcases List.mem_append.1 hb with hb | hb
  · have := cntN_pos.2 ⟨b, hb, heb⟩; omega
  · rcases List.mem_cons.1 hb with hb | hb
    · exact hb.symm
    · have := cntN_pos.2 ⟨b, hb, heb⟩; omega
theorem ent_to {a b : Fil} {p : Str} (hl : lookL s.files a p = (b, 0)) : dirL s.files a = true ∧ nameL p = true ∧ b.1 = a.1 ∧ b.2 ≠ 1 ∧ hasG s.files b = true ∧ (dirL s.files b = true → stepR s b = some a) := by
  unfold lookL at hl
  cases hn : nodeL s.files a with
  | none => rw [hn] at hl; simp at hl
  | some n =>
    rw [hn] at hl
    simp only at hl
    by_cases hk : n.kind = 2
    · rw [if_pos hk] at hl
      have hdir : dirL s.files a = true := (dir_kind hn).2 hk
      cases hf : n.entries.find? fun e : Ent => decide (e.1 = p) with
      | none => rw [hf] at hl; simp at hl
      | some e =>
        rw [hf] at hl
        simp only [Prod.mk.injEq, and_true] at hl
        subst hl
        have he := List.mem_of_find?_eq_some hf
        have hep := List.find?_some hf
        simp only [decide_eq_true_eq] at hep
        obtain ⟨q, d, n', e1, e2, e3, e4, e5, e6⟩ := dir_node (f := s.files) (a := a) (by rw [hdir]; simp)
        have hn' : n' = n := by
          have : nodG s.files a = n := by unfold nodG; rw [hn]; rfl
          rw [← this]; exact e5.symm
        subst hn'
        have hd := hv.files.vd d (List.mem_of_getElem? e2)
        obtain ⟨h1, h2, m, hm, hme⟩ := hd.ent n' e3 e he
        have hnb : nodeL s.files (a.1, e.2) = some m := by rw [e1]; exact node_in hv e2 hm hme
        refine ⟨hdir, by rw [← hep]; exact h1, rfl, h2, by unfold hasG; rw [hnb]; rfl, fun hdb => ?_⟩
        have hmk : m.kind = 2 := (dir_kind hnb).1 hdb
        have hm1 : m.ino ≠ 1 := by rw [hme]; exact h2
        obtain ⟨p', hp', hpi, hpe⟩ := hd.par m hm hm1 hmk
        have := one_from hd e3 hp' hm hm1 hmk ⟨e, he, hme.symm⟩ hpe
        subst this
        unfold stepR
        rw [if_pos h2]
        unfold nodG
        rw [hnb]
        simp only [Option.getD_some]
        rw [← hpi, e4]
    · rw [if_neg hk] at hl; simp at hl
end
end Go.Proofs.Ytaidkbnbfnaihaa
namespace Go.Proofs.Ytaidkbnbfnaihaa

theorem nm_free {p : Str} (h : nameL p = true) : p ≠ dot1 ∧ p ≠ dot2 ∧ p.size ≤ 12 ∧ p ≠ ⟨#[]⟩ ∧ (47 : UInt8) ∉ p.data.toList := by
  rw [nameL_eq] at h
  obtain ⟨h1, h2, h3, h4, h5, h6⟩ := nmL_iff.1 h
  refine ⟨?_, ?_, by rw [Lib.size_eq]; exact h2, ?_, h6⟩ <;> (intro e; subst e; first | exact h3 rfl | exact h4 rfl | exact h1 rfl)
theorem str_nil {p : Str} (h : p.data.toList = []) : p = ⟨#[]⟩ := str_eqS h
theorem pieces_rel {l : Bs} (h1 : l ≠ []) (h2 : l.head? ≠ some 47) : pieces l ≠ [] := by
  intro h
  have h3 : flatS (segs l) = 47 :: l := flat_segs l
  cases hs : segs l with
  | nil => exact segs_ne l hs
  | cons p ps =>
    rw [hs, flatS_cons] at h3
    injection h3 with _ h3
    have h4 : p = [] := by
      unfold pieces at h
      rw [hs, List.filter_cons] at h
      split at h
      · cases h
      · rename_i hne
        simpa [ne_] using hne
    rw [h4, List.nil_append] at h3
    cases ps with
    | nil => exact h1 h3.symm
    | cons q ps =>
      rw [flatS_cons] at h3
      rw [← h3] at h2
      simp at h2
theorem splS_rel {p : Str} (h1 : p ≠ ⟨#[]⟩) (h2 : hdL p = false) : splS p ≠ [] := by
  intro h
  unfold splS at h
  rw [List.map_eq_nil_iff] at h
  refine pieces_rel (fun e => h1 (str_nil e)) ?_ h
  unfold hdL at h2
  simpa using h2
end Go.Proofs.Ytaidkbnbfnaihaa
namespace Go.Proofs.Ytaidkbnbfnaihaa

def lpNames : List Str := [⟨#[97]⟩, ⟨#[98]⟩, ⟨#[99]⟩, ⟨#[100]⟩, ⟨#[101]⟩, ⟨#[103]⟩, ⟨#[104]⟩, ⟨#[105]⟩, ⟨#[106]⟩, ⟨#[107]⟩, ⟨#[109]⟩, ⟨#[110]⟩]
def lpLast : Nat → Str
  | 0 => ⟨#[102]⟩
  | i + 1 => lpNames.getD i ⟨#[]⟩
def lpNod (t : Str) : Nod := ⟨0, 3, 0, 0, 0, 0, t, []⟩
def lpFile : Nod := ⟨0, 1, 0, 0, 0, 0, ⟨#[]⟩, []⟩
def lpF : Nat → Fls
  | 0 => (mkL (newL 1).1 (0, 1) ⟨#[102]⟩ lpFile).1
  | i + 1 => (mkL (lpF i) (0, 1) (lpLast (i + 1)) (lpNod (lpLast i))).1
def lpZ (i : Nat) : Fls := (mkL (lpF i) (0, 1) ⟨#[122]⟩ (lpNod ⟨#[47, 122]⟩)).1
set_option maxRecDepth 100000 in
theorem lp_make0 : (mkL (newL 1).1 (0, 1) ⟨#[102]⟩ lpFile).2.2 = 0 := by decide +kernel
set_option maxRecDepth 100000 in
theorem lp_make : ∀ i < 10, (mkL (lpF i) (0, 1) (lpLast (i + 1)) (lpNod (lpLast i))).2.2 = 0 := by decide +kernel
set_option maxRecDepth 100000 in
theorem lp_makeZ : ∀ i < 11, (mkL (lpF i) (0, 1) ⟨#[122]⟩ (lpNod ⟨#[47, 122]⟩)).2.2 = 0 := by decide +kernel
set_option maxRecDepth 100000 in
theorem lp_find : ∀ i < 11, (findL ⟨lpF i, []⟩ (0, 1) (lpLast i) true).2 = if i ≤ 8 then 0 else 40 := by decide +kernel
set_option maxRecDepth 100000 in
theorem lp_name : ∀ i < 11, i ≤ 8 → (findL ⟨lpF i, []⟩ (0, 1) (lpLast i) true).1.name = ⟨#[102]⟩ := by decide +kernel
set_option maxRecDepth 100000 in
theorem lp_loop : ∀ i < 11, (findL ⟨lpZ i, []⟩ (0, 1) ⟨#[122]⟩ true).2 = 40 := by decide +kernel
set_option maxRecDepth 100000 in
theorem lp_link : ∀ i < 11, (findL ⟨lpZ i, []⟩ (0, 1) ⟨#[122]⟩ false).2 = 0 := by decide +kernel
def aw7F1 : Fls := (mkL (newL 1).1 (0, 1) ⟨#[102]⟩ ⟨0, 1, 420, 0, 0, 0, ⟨#[]⟩, []⟩).1
def aw7F2 : Fls := (mkL aw7F1 (0, 1) ⟨#[108]⟩ ⟨0, 3, 511, 0, 0, 0, ⟨#[102]⟩, []⟩).1
set_option maxRecDepth 100000 in
theorem aw7_make : (mkL (newL 1).1 (0, 1) ⟨#[102]⟩ ⟨0, 1, 420, 0, 0, 0, ⟨#[]⟩, []⟩).2.2 = 0 ∧ (mkL aw7F1 (0, 1) ⟨#[108]⟩ ⟨0, 3, 511, 0, 0, 0, ⟨#[102]⟩, []⟩).2.2 = 0 := by decide +kernel
set_option maxRecDepth 100000 in
theorem aw7_yes : (findL ⟨aw7F2, []⟩ (0, 1) ⟨#[47, 108]⟩ true).2 = 0 ∧ (findL ⟨aw7F2, []⟩ (0, 1) ⟨#[47, 108]⟩ true).1.path = ⟨#[47, 102]⟩ ∧ (findL ⟨aw7F2, []⟩ (0, 1) ⟨#[47, 108]⟩ true).1.file.2 = 2 := by decide +kernel
set_option maxRecDepth 100000 in
theorem aw7_no : (findL ⟨aw7F2, []⟩ (0, 1) ⟨#[47, 108]⟩ false).2 = 0 ∧ (findL ⟨aw7F2, []⟩ (0, 1) ⟨#[47, 108]⟩ false).1.path = ⟨#[47, 108]⟩ ∧ (findL ⟨aw7F2, []⟩ (0, 1) ⟨#[47, 108]⟩ false).1.file.2 = 3 := by decide +kernel
theorem new_valid1 : FlsV (newL 1).1 := (new_valid (by decide) (by decide)).1
theorem lp_valid0 : FlsV (lpF 0) := (make_okay new_valid1 _ _ _ lp_make0).1
theorem lp_valid : ∀ i, i ≤ 10 → FlsV (lpF i)
  | 0, _ => lp_valid0
  | i + 1, h => (make_okay (lp_valid i (by omega)) _ _ _ (lp_make i (by omega))).1
theorem lp_validZ {i : Nat} (h : i < 11) : FlsV (lpZ i) := (make_okay (lp_valid i (by omega)) _ _ _ (lp_makeZ i h)).1
theorem aw7_valid : FlsV aw7F1 ∧ FlsV aw7F2 := by
  have h1 : FlsV aw7F1 := (make_okay new_valid1 _ _ _ aw7_make.1).1
  exact ⟨h1, (make_okay h1 _ _ _ aw7_make.2).1⟩
end Go.Proofs.Ytaidkbnbfnaihaa
namespace Go.Proofs.Ytaidkbnbfnaihaa

abbrev zz : Str := ⟨#[122, 122]⟩
end Go.Proofs.Ytaidkbnbfnaihaa
namespace Go.Proofs.Ytaidkbnbfnaihaa

structure Wk where
  ps : List Str
  at_ : Fil
  dir : Fil
  name : Str
  missing : Bool
  links : Nat
def stp (s : Spc) (fl : Bool) (p : Str) (ps : List Str) (w : Wk) : Int ⊕ Wk :=
  if dirL s.files w.at_ = false then .inl 20
  else if 12 < p.size then .inl 36
  else if p = dot2 then .inr ⟨ps, itD s s.mounts.length (upF s (s.mounts.length + 1) w.at_), (0, 0), ⟨#[]⟩, w.missing, w.links⟩
  else if p = dot1 then .inr ⟨ps, w.at_, (0, 0), ⟨#[]⟩, w.missing, w.links⟩
  else if nameL p = false then .inl 2
  else if (lookL s.files w.at_ p).2 ≠ 0 then (if ps ≠ [] then .inl 2 else .inr ⟨ps, w.at_, w.at_, p, true, w.links⟩)
  else if (nodG s.files (lookL s.files w.at_ p).1).kind = 3 ∧ (ps ≠ [] ∨ fl = true) then
    (if w.links = 8 then .inl 40 else
      .inr ⟨splS (nodG s.files (lookL s.files w.at_ p).1).target ++ ps, if hdL (nodG s.files (lookL s.files w.at_ p).1).target = true then rootD s else w.at_, if hdL (nodG s.files (lookL s.files w.at_ p).1).target = true then (0, 0) else w.dir, if hdL (nodG s.files (lookL s.files w.at_ p).1).target = true then ⟨#[]⟩ else w.name, w.missing, w.links + 1⟩)
  else .inr ⟨ps, itD s s.mounts.length (lookL s.files w.at_ p).1, w.at_, p, w.missing, w.links⟩
def fndW (s : Spc) (sl : Bool) (w : Wk) : Fnd :=
  if w.name = ⟨#[]⟩ then ⟨w.at_, ⟨#[]⟩, w.at_, !w.missing, sl, (whereP s w.at_).1⟩
  else ⟨w.dir, w.name, if w.missing = true then (0, 0) else w.at_, !w.missing, sl, if (whereP s w.dir).2 = true then joinS (whereP s w.dir).1 w.name else ⟨#[]⟩⟩
structure Sim (w : Wk) (σ : Lk) : Prop where
  ps : w.ps = σ.ps
  links : w.links = σ.links
  ex : σ.ex = !w.missing
  here : w.missing = false → w.at_ = σ.file
  gone : w.missing = true → σ.file = (0, 0) ∧ w.ps = [] ∧ w.dir = σ.dir ∧ w.name = σ.name ∧ w.name ≠ ⟨#[]⟩
  last : w.ps = [] → w.missing = false → (w.name = ⟨#[]⟩ → σ.name = ⟨#[]⟩ ∧ σ.dir = σ.file) ∧ (w.name ≠ ⟨#[]⟩ → w.dir = σ.dir ∧ w.name = σ.name)
section
variable {s : Spc} (hv : SpcV s)
include hv
theorem look_nm {a : Fil} {p : Str} (h : nameL p = false) : (lookL s.files a p).2 ≠ 0 := by
  intro e
  have := (ent_to hv (a := a) (p := p) (b := (lookL s.files a p).1) (Prod.ext rfl e)).2.1
  rw [this] at h; cases h
theorem target_ne {a b : Fil} {p : Str} (hl : lookL s.files a p = (b, 0)) (hk : (nodG s.files b).kind = 3) : (nodG s.files b).target ≠ ⟨#[]⟩ := by
  have hb := (ent_to hv hl).2.2.2.2.1
  obtain ⟨q, i, d, m, h1, h2, h3, h4, h5, h6⟩ := at_ok hb
  rw [h6] at hk ⊢
  have hp := (hv.files.vd d (List.mem_of_getElem? h2)).plain m (List.mem_of_getElem? h3)
  unfold plainL at hp
  split at hp
  · cases hp
  · try rw [if_pos hk] at hp
    unfold targetL at hp
    intro e
    rw [e] at hp
    revert hp
    decide +kernel
theorem sim_step (fl : Bool) {p : Str} {ps : List Str} {w : Wk} {σ : Lk} (h : Sim w σ) (hm : w.missing = false) : (∃ e, stp s fl p ps w = .inl e ∧ lkS s fl p ps σ.file σ.links = .inl e) ∨ ∃ w' τ, stp s fl p ps w = .inr w' ∧ lkS s fl p ps σ.file σ.links = .inr τ ∧ Sim w' τ := by
  have ha := h.here hm
  have hex : (true : Bool) = !w.missing := by rw [hm]; rfl
  rw [← ha, ← h.links]
  unfold stp lkS
  by_cases c1 : dirL s.files w.at_ = false
  · simp only [if_pos c1]; exact .inl ⟨_, rfl, rfl⟩
  · simp only [if_neg c1]
    by_cases c2 : 12 < p.size
    · simp only [if_pos c2]; exact .inl ⟨_, rfl, rfl⟩
    · simp only [if_neg c2]
      by_cases c3 : p = dot1
      · have c4 : ¬ p = dot2 := by rw [c3]; decide
        simp only [if_pos c3, if_neg c4]
        exact .inr ⟨_, _, rfl, rfl, rfl, rfl, hex, fun _ => rfl, fun c => (by rw [hm] at c; cases c), fun _ _ => ⟨fun _ => ⟨rfl, rfl⟩, fun c => absurd rfl c⟩⟩
      · simp only [if_neg c3]
        by_cases c4 : p = dot2
        · simp only [if_pos c4]
          exact .inr ⟨_, _, rfl, rfl, rfl, rfl, hex, fun _ => rfl, fun c => (by rw [hm] at c; cases c), fun _ _ => ⟨fun _ => ⟨rfl, rfl⟩, fun c => absurd rfl c⟩⟩
        · simp only [if_neg c4]
          by_cases c5 : nameL p = false
          · have c6 := look_nm hv (a := w.at_) c5
            simp only [if_pos c5, if_pos c6, if_pos (show ps ≠ [] ∨ nameL p = false from .inr c5)]
            exact .inl ⟨_, rfl, rfl⟩
          · simp only [if_neg c5]
            have hp0 : p ≠ ⟨#[]⟩ := (nm_free (by simpa using c5)).2.2.2.1
            by_cases c6 : (lookL s.files w.at_ p).2 ≠ 0
            · simp only [if_pos c6]
              by_cases c7 : ps ≠ []
              · simp only [if_pos c7, if_pos (show ps ≠ [] ∨ nameL p = false from .inl c7)]
                exact .inl ⟨_, rfl, rfl⟩
              · simp only [if_neg c7, if_neg (show ¬ (ps ≠ [] ∨ nameL p = false) from fun c => c.elim c7 c5)]
                have c8 : ps = [] := Decidable.not_not.1 c7
                exact .inr ⟨_, _, rfl, rfl, c8, rfl, rfl, fun c => (by cases c), fun _ => ⟨rfl, c8, rfl, rfl, hp0⟩, fun _ c => by cases c⟩
            · simp only [if_neg c6]
              by_cases c7 : (nodG s.files (lookL s.files w.at_ p).1).kind = 3 ∧ (ps ≠ [] ∨ fl = true)
              · simp only [if_pos c7]
                by_cases c8 : w.links = 8
                · simp only [if_pos c8]; exact .inl ⟨_, rfl, rfl⟩
                · simp only [if_neg c8]
                  have ht := target_ne hv (a := w.at_) (p := p) (b := (lookL s.files w.at_ p).1) (Prod.ext rfl (Decidable.not_not.1 c6)) c7.1
                  refine .inr ⟨_, _, rfl, rfl, rfl, rfl, hex, fun _ => rfl, fun c => (by rw [hm] at c; cases c), fun hps _ => ?_⟩
                  by_cases c9 : hdL (nodG s.files (lookL s.files w.at_ p).1).target = true
                  · simp only [if_pos c9]
                    exact ⟨fun _ => ⟨trivial, trivial⟩, fun c => absurd rfl c⟩
                  · have := splS_rel ht (by simpa using c9)
                    exact absurd (List.append_eq_nil_iff.1 hps).1 this
              · simp only [if_neg c7]
                exact .inr ⟨_, _, rfl, rfl, rfl, rfl, hex, fun _ => rfl, fun c => (by rw [hm] at c; cases c), fun _ _ => ⟨fun c => absurd c hp0, fun _ => ⟨rfl, rfl⟩⟩⟩
theorem sim_end {sl : Bool} {w : Wk} {σ : Lk} (h : Sim w σ) (hps : w.ps = []) : fndW s sl w = fndOf s sl σ := by
  unfold fndW fndOf
  cases hm : w.missing with
  | true =>
    obtain ⟨g1, _, g2, g3, g4⟩ := h.gone hm
    rw [if_neg g4, h.ex, hm, g1, ← g2, ← g3]
    simp only [if_true, g4, if_false]
  | false =>
    have ha := h.here hm
    obtain ⟨k1, k2⟩ := h.last hps hm
    by_cases c : w.name = ⟨#[]⟩
    · obtain ⟨e1, e2⟩ := k1 c
      rw [if_pos c, h.ex, hm, e1, e2, ← ha]
      simp only [if_true]
      by_cases cw : (whereP s w.at_).2 = true
      · rw [if_pos cw]
      · rw [if_neg cw]
        have : whereP s w.at_ = (⟨#[]⟩, false) := where_no hv fun c => cw (where_ok2 hv c.1 c.2)
        rw [this]
    · obtain ⟨e1, e2⟩ := k2 c
      rw [if_neg c, h.ex, hm, ← e1, ← e2, ← ha]
      simp only [c, if_false, Bool.false_eq_true]
end
end Go.Proofs.Ytaidkbnbfnaihaa
namespace Go.Proofs.Ytaidkbnbfnaihaa
open Go.RowKit

theorem toL (s : ByteArray) : s.toList = s.data.toList := Lib.toList_data s
theorem str_ext {a b : ByteArray} (h : a.data.toList = b.data.toList) : a = b := by
  cases a; cases b; simp at h; simp [h]
theorem str_eq_iff {a b : ByteArray} : a.data.toList = b.data.toList ↔ a = b := ⟨str_ext, fun h => by rw [h]⟩
theorem beq_str (a b : ByteArray) : (a.toList == b.toList) = decide (a = b) := by
  rw [toL, toL, Bool.eq_iff_iff, beq_iff_eq, decide_eq_true_iff]
  exact str_eq_iff
theorem empty_iff' (s : ByteArray) : s.toList.isEmpty = decide (s.size = 0) := by
  rw [toL, Lib.size_eq, Bool.eq_iff_iff, List.isEmpty_iff, decide_eq_true_iff, List.length_eq_zero_iff]
set_option maxRecDepth 100000 in
set_option maxHeartbeats 400000 in
theorem Index_slash (s : ByteArray) (w : World) :
    Calls Try.prog 96 #[.string s, .string ⟨#[47]⟩] w fun e w' => e = .returned (.int .i64 (Lib.indexByte s.data.toList 47)) ∧ w = w' := by
  by_cases h : s = ⟨#[47]⟩
  · subst h
    go_enter Try.func96, Try.ntmps96
    go_wp2
    go_ret
    exact ⟨rfl, rfl⟩
  · have h1 : ([47] == s.toList) = false := by
      have := beq_str ⟨#[47]⟩ s
      rw [decide_eq_false (fun e => h e.symm), toL ⟨#[47]⟩] at this
      exact this
    go_enter Try.func96, Try.ntmps96
    go_wp2_with (go_at_call 101; refine (Try.stringslite_IndexByte _ _ _).mono ?_; rintro e w' ⟨rfl, rfl⟩)
    go_ret
    exact ⟨rfl, rfl⟩
theorem index_some {l : Bs} (h : (47 : UInt8) ∈ l) : ∃ i : Nat, Lib.indexByte l 47 = i ∧ i < l.length ∧ l = l.take i ++ 47 :: l.drop (i + 1) ∧ (47 : UInt8) ∉ l.take i := by
  have hge := Lib.indexByte_ge l 47
  by_cases hm : Lib.indexByte l 47 = -1
  · have := Lib.indexByte_none hm
    obtain ⟨k, hk⟩ := List.mem_iff_getElem?.1 h
    exact absurd hk (this k)
  · obtain ⟨i, hi⟩ := Int.eq_ofNat_of_zero_le (show 0 ≤ Lib.indexByte l 47 by omega)
    obtain ⟨h1, h2⟩ := Lib.indexByte_some hi
    have hlt : i < l.length := (List.getElem?_eq_some_iff.1 h1).1
    refine ⟨i, hi, hlt, ?_, ?_⟩
    · have h3 : l[i] = 47 := (List.getElem?_eq_some_iff.1 h1).2
      rw [← h3, List.getElem_cons_drop, List.take_append_drop]
    · intro hmem
      obtain ⟨k, hk⟩ := List.mem_iff_getElem?.1 hmem
      rw [List.getElem?_take] at hk
      split at hk
      · exact h2 k (by assumption) hk
      · cases hk
theorem index_none {l : Bs} (h : (47 : UInt8) ∉ l) : Lib.indexByte l 47 = -1 := by
  have hge := Lib.indexByte_ge l 47
  by_cases hm : Lib.indexByte l 47 = -1
  · exact hm
  · obtain ⟨i, hi⟩ := Int.eq_ofNat_of_zero_le (show 0 ≤ Lib.indexByte l 47 by omega)
    obtain ⟨h1, _⟩ := Lib.indexByte_some hi
    exact absurd (List.mem_of_getElem? h1) h

end Go.Proofs.Ytaidkbnbfnaihaa
namespace Go.Proofs.Ytaidkbnbfnaihaa
open Go.RowKit

theorem encode_high (r : Int) (h0 : 128 ≤ r) (h1 : Lib.validRune r = true) :
    (∃ a b : UInt8, Utf8.encode r = ⟨#[a, b]⟩ ∧ 128 ≤ b.toNat) ∨ (∃ a b c : UInt8, Utf8.encode r = ⟨#[a, b, c]⟩) ∨ (∃ a b c d : UInt8, Utf8.encode r = ⟨#[a, b, c, d]⟩) := by
  have hv : Utf8.valid r = true := by
    have := of_decide_eq_true h1
    unfold Utf8.valid
    simp only [Bool.or_eq_true, Bool.and_eq_true, decide_eq_true_iff]
    omega
  unfold Utf8.encode
  simp only [hv, if_true]
  have hn : ¬ r.toNat < 128 := by omega
  rw [if_neg hn]
  by_cases h2 : r.toNat < 2048
  · rw [if_pos h2]
    refine .inl ⟨_, _, rfl, ?_⟩
    simp only [UInt8.toNat_ofNat']
    omega
  · rw [if_neg h2]
    by_cases h3 : r.toNat < 65536
    · rw [if_pos h3]
      exact .inr (.inl ⟨_, _, _, rfl⟩)
    · rw [if_neg h3]
      exact .inr (.inr ⟨_, _, _, _, rfl⟩)

set_option maxRecDepth 1000000 in
set_option maxHeartbeats 2000000 in
theorem IndexRune_bad (r : Int) (w : World) (h0 : 128 ≤ r) (h1 : r ≤ 2147483647) (h2 : r ≠ 65533) (hv : Lib.validRune r = false) :
    Calls Try.prog 97 #[.string ⟨#[0, 47]⟩, .int .i32 r] w fun e w' => e = .returned (.int .i64 (-1)) ∧ w = w' := by
  have h2' : (r == 65533) = false := by simpa using h2
  go_enter Try.func97, Try.ntmps97
  go_wp2_with (go_at_call 106; refine (Try.utf8_ValidRune _ _).mono ?_; rintro e w' ⟨rfl, rfl⟩; rw [hv])
  go_ret
  exact ⟨rfl, rfl⟩
set_option maxRecDepth 1000000 in
set_option maxHeartbeats 2000000 in
theorem IndexRune_good (r : Int) (w : World) (h0 : 128 ≤ r) (h1 : r ≤ 2147483647) (h2 : r ≠ 65533) (hv : Lib.validRune r = true) :
    Calls Try.prog 97 #[.string ⟨#[0, 47]⟩, .int .i32 r] w fun e w' => e = .returned (.int .i64 (-1)) ∧ Below w.heap.size w w' := by
  have h2' : (r == 65533) = false := by simpa using h2
  have hlt : decide (r < 128) = false := by simpa using h0
  rcases encode_high r h0 hv with ⟨a, b, he, hb⟩ | ⟨a, b, c, he⟩ | ⟨a, b, c, d, he⟩
  · have hne : ((((⟨#[0, 47]⟩ : ByteArray)[1]'(by decide)).toNat : Int) != (((⟨#[a, b]⟩ : ByteArray)[1]'(by show 1 < 2; decide)).toNat : Int)) = true := by
      show ((47 : Int) != (b.toNat : Int)) = true
      rw [bne_iff_ne]
      omega
    go_enter Try.func97, Try.ntmps97
    go_wp2_with (go_at_call 106; refine (Try.utf8_ValidRune _ _).mono ?_; rintro e w' ⟨rfl, rfl⟩; rw [hv])
    go_step3
    go_wp2
    refine wp_loop_rounds 1 ?_
    rw [rounds_succ]
    go_wp2
    go_step3
    go_wp2
    go_quiet (fail)
    have hb := below_drewN (Below.refl w'.heap.size w') nq
    generalize w'.drewN nq = wq at *
    go_wp2
    go_quiet ((go_at_call 105; exact Calls.quiet_of_same (Try.strings_IndexByte _ _ _)))
    go_wp2
    rw [Exit.noGoto_ret]
    go_wp2
    rw [Exit.noGoto_ret]
    go_wp2
    go_ret
    exact ⟨rfl, below_drewN hb _⟩
  · go_enter Try.func97, Try.ntmps97
    go_wp2_with (go_at_call 106; refine (Try.utf8_ValidRune _ _).mono ?_; rintro e w' ⟨rfl, rfl⟩; rw [hv])
    go_step3
    go_wp2
    refine wp_loop_rounds 1 ?_
    rw [rounds_succ]
    go_wp2
    rw [Exit.noGoto_ret]
    go_wp2
    go_ret
    exact ⟨rfl, Below.refl _ _⟩
  · go_enter Try.func97, Try.ntmps97
    go_wp2_with (go_at_call 106; refine (Try.utf8_ValidRune _ _).mono ?_; rintro e w' ⟨rfl, rfl⟩; rw [hv])
    go_step3
    go_wp2
    refine wp_loop_rounds 1 ?_
    rw [rounds_succ]
    go_wp2
    rw [Exit.noGoto_ret]
    go_wp2
    go_ret
    exact ⟨rfl, Below.refl _ _⟩

theorem two_at (i : Nat) (hi : i < 2) : ((⟨#[0, 47]⟩ : ByteArray)[i]'hi).toNat < 128 := by
  match i, hi with
  | 0, _ => show (0 : UInt8).toNat < 128; decide
  | 1, _ => show (47 : UInt8).toNat < 128; decide
set_option maxRecDepth 1000000 in
set_option maxHeartbeats 2000000 in
theorem IndexRune_err (w : World) :
    Calls Try.prog 97 #[.string ⟨#[0, 47]⟩, .int .i32 65533] w fun e w' => e = .returned (.int .i64 (-1)) ∧ Below w.heap.size w w' := by
  go_enter Try.func97, Try.ntmps97
  go_wp2
  go_loopg [5, 6] 2 (fun g _ _ wx => ∃ i : Nat, i + g = 2 ∧ wx = w.iter ⟨#[0, 47]⟩ i)
  case atStart => exact ⟨0, by omega, rfl⟩
  case round =>
    obtain ⟨i, hig, rfl⟩ := hrel
    cases gk with
    | zero =>
      obtain rfl : i = 2 := by omega
      have hnx := run_next_end (P := Try.prog) w ⟨#[0, 47]⟩ 2
      go_wp2
      go_ret
      exact ⟨rfl, (Below.refl _ _).alloc (Nat.le_refl _) _⟩
    | succ g =>
      have hi : i < 2 := by omega
      have hx := two_at i hi
      have hnx := fun ty => run_next_ascii (P := Try.prog) w ⟨#[0, 47]⟩ i ty hi hx
      generalize ((⟨#[0, 47]⟩ : ByteArray)[i]'hi) = x at *
      have hne : ((x.toNat : Int) == 65533) = false := beq_eq_false_iff_ne.2 (by omega)
      go_wp2
      go_roundg g
      case measure => omega
      case rel => exact ⟨i + 1, by omega, rfl⟩

end Go.Proofs.Ytaidkbnbfnaihaa
namespace Go.Proofs.Ytaidkbnbfnaihaa
open Go.RowKit

theorem decode_span (s : ByteArray) (i : Nat) (h : i < s.size) (ha : 128 ≤ (s[i]'h).toNat) :
    1 ≤ (Utf8.decode s i).2 ∧ i + (Utf8.decode s i).2 ≤ s.size ∧ ∀ k, k < (Utf8.decode s i).2 → 128 ≤ (s.get! (i + k)).toNat := by
  have hn : ¬ (s[i]'h).toNat < 128 := by omega
  have h0 : s.get! (i + 0) = s[i]'h := get_at s i h
  have g0 : 128 ≤ (s.get! (i + 0)).toNat := by rw [h0]; exact ha
  have c1 : ∀ k, (decide (i + k < s.size) && (s.get! (i + k)).toNat / 64 == 2) = true → i + k < s.size ∧ 128 ≤ (s.get! (i + k)).toNat := by
    intro k hk
    simp only [Bool.and_eq_true, decide_eq_true_iff, beq_iff_eq] at hk
    exact ⟨hk.1, by omega⟩
  have one : 1 ≤ 1 ∧ i + 1 ≤ s.size ∧ ∀ k, k < 1 → 128 ≤ (s.get! (i + k)).toNat := by
    refine ⟨Nat.le_refl _, h, fun k hk => ?_⟩
    obtain rfl : k = 0 := by omega
    exact g0
  unfold Utf8.decode
  simp only [h0, hn, if_false]
  split
  · rename_i hc
    rw [Bool.and_eq_true] at hc
    obtain ⟨a1, b1⟩ := c1 1 hc.2
    split
    · refine ⟨by simp, a1, fun k hk => ?_⟩
      have : k = 0 ∨ k = 1 := by simp at hk; omega
      rcases this with rfl | rfl
      · exact g0
      · exact b1
    · exact one
  · split
    · rename_i hc
      rw [Bool.and_eq_true, Bool.and_eq_true] at hc
      obtain ⟨a1, b1⟩ := c1 1 hc.1.2
      obtain ⟨a2, b2⟩ := c1 2 hc.2
      split
      · refine ⟨by simp, a2, fun k hk => ?_⟩
        have : k = 0 ∨ k = 1 ∨ k = 2 := by simp at hk; omega
        rcases this with rfl | rfl | rfl
        · exact g0
        · exact b1
        · exact b2
      · exact one
    · split
      · rename_i hc
        rw [Bool.and_eq_true, Bool.and_eq_true, Bool.and_eq_true] at hc
        obtain ⟨a1, b1⟩ := c1 1 hc.1.1.2
        obtain ⟨a2, b2⟩ := c1 2 hc.1.2
        obtain ⟨a3, b3⟩ := c1 3 hc.2
        split
        · refine ⟨by simp, a3, fun k hk => ?_⟩
          have : k = 0 ∨ k = 1 ∨ k = 2 ∨ k = 3 := by simp at hk; omega
          rcases this with rfl | rfl | rfl | rfl
          · exact g0
          · exact b1
          · exact b2
          · exact b3
        · exact one
      · exact one
theorem get!_at (s : ByteArray) (j : Nat) (hj : j < s.size) : s.data.toList[j]? = some (s.get! j) := by
  have := get_at s j hj
  rw [Nat.add_zero] at this
  rw [this]
  exact Lib.data_getElem? s j hj
theorem noAny_span {s : ByteArray} {i : Nat} (h : i < s.size) (ha : 128 ≤ (s[i]'h).toNat) (hno : Lib.NoAny s.data.toList [0, 47] i) : Lib.NoAny s.data.toList [0, 47] (i + (Utf8.decode s i).2) := by
  obtain ⟨_, h2, h3⟩ := decode_span s i h ha
  intro j b hj hb
  by_cases hlt : j < i
  · exact hno j b hlt hb
  · have := h3 (j - i) (by omega)
    rw [show i + (j - i) = j by omega] at this
    rw [get!_at s j (by omega)] at hb
    injection hb with hb
    rw [hb] at this
    have h0 : b ≠ 0 := by rintro rfl; simp at this
    have h47 : b ≠ 47 := by
      rintro rfl
      have : (47 : UInt8).toNat = 47 := rfl
      omega
    simp [h0, h47]

theorem IndexRune_high (r : Int) (w : World) (h0 : 128 ≤ r) (h1 : r ≤ 2147483647) :
    Calls Try.prog 97 #[.string ⟨#[0, 47]⟩, .int .i32 r] w fun e w' => e = .returned (.int .i64 (-1)) ∧ Below w.heap.size w w' := by
  by_cases h2 : r = 65533
  · subst h2; exact IndexRune_err w
  · cases hv : Lib.validRune r with
    | true => exact IndexRune_good r w h0 h1 h2 hv
    | false => exact (IndexRune_bad r w h0 h1 h2 hv).mono fun e w' h => ⟨h.1, by rw [← h.2]; exact Below.refl _ _⟩

def AnyQ (s : ByteArray) (w : World) (e : Ending) (w' : World) : Prop := ∃ v : Int, e = .returned (.int .i64 v) ∧ Below w.heap.size w w' ∧ ((0 ≤ v) ↔ ((0 : UInt8) ∈ s.data.toList ∨ (47 : UInt8) ∈ s.data.toList))
theorem any_none {s : ByteArray} (h : Lib.NoAny s.data.toList [0, 47] s.size) : ¬ ((0 : UInt8) ∈ s.data.toList ∨ (47 : UInt8) ∈ s.data.toList) := by
  rintro (h' | h')
  · obtain ⟨j, hj⟩ := List.mem_iff_getElem?.1 h'
    have := h j 0 (by rw [Lib.size_eq]; exact (List.getElem?_eq_some_iff.1 hj).1) hj
    simp at this
  · obtain ⟨j, hj⟩ := List.mem_iff_getElem?.1 h'
    have := h j 47 (by rw [Lib.size_eq]; exact (List.getElem?_eq_some_iff.1 hj).1) hj
    simp at this
theorem any_hit {s : ByteArray} {i : Nat} {x : UInt8} (hx : s.data.toList[i]? = some x) (h : [0, 47].contains x = true) : ((0 : UInt8) ∈ s.data.toList ∨ (47 : UInt8) ∈ s.data.toList) := by
  have hm := List.mem_of_getElem? hx
  simp at h
  rcases h with rfl | rfl
  · exact .inl hm
  · exact .inr hm

set_option maxRecDepth 1000000 in
set_option maxHeartbeats 4000000 in
theorem IndexAny_short (s : ByteArray) (w : World) (h8 : s.size ≤ 8) : Calls Try.prog 92 #[.string s, .string ⟨#[0, 47]⟩] w (AnyQ s w) := by
  have h8z : decide ((8 : Int) < (s.size : Int)) = false := decide_eq_false (by omega)
  go_enter Try.func92, Try.ntmps92
  go_wp2_with (go_at_call 98; refine (Try.strings_shouldUseASCIISet _ _).mono ?_; rintro e w' ⟨rfl, hw⟩; rw [hw, h8z])
  clear hw
  go_loopg [9, 10] s.size (fun g _ _ wx => ∃ i : Nat, s.size ≤ i + g ∧ i ≤ s.size ∧ wx.heap[w.heap.size]? = some (.stringIter s i) ∧ Below w.heap.size w wx ∧ Hid (Lib.NoAny s.data.toList [0, 47] i))
  case atStart => exact ⟨0, by omega, by omega, World.iter_heap w s 0, (Below.refl _ _).alloc (Nat.le_refl _) _, Lib.hid (Lib.NoAny.zero _ _)⟩
  case round =>
    obtain ⟨i, hg, hi, hit, hbel, hno⟩ := hrel
    have hks := hbel.size
    by_cases hlt : i < s.size
    · obtain ⟨g, rfl⟩ : ∃ g, gk = g + 1 := ⟨gk - 1, by omega⟩
      by_cases hx : (s[i]'hlt).toNat < 128
      · have hnx := fun ty => Lib.run_next_ascii_at (P := Try.prog) wr w.heap.size s i ty hit hlt hx
        have hxl : s.data.toList[i]? = some (s[i]'hlt) := Lib.data_getElem? s i hlt
        generalize (s[i]'hlt) = x at *
        have Hx := Lib.hid hxl
        have hit' := Lib.iterAt_heap wr w.heap.size s i (i + 1) hit
        have hbel' := Lib.below_iterAt hbel (Nat.le_refl _) s (i + 1)
        generalize wr.iterAt w.heap.size s (i + 1) = w1 at *
        have hcon := Lib.contains_iff_indexByte [0, 47] x
        have hback : ((x.toNat : Int)).toNat.toUInt8 = x := by simp
        have HI := Lib.hid hit'
        clear hxl hit hit'
        cases hin : [0, 47].contains x
        · rw [hin] at hcon
          have hneg : ¬ ((0 : Int) ≤ Lib.indexByte [0, 47] x) := of_decide_eq_false hcon.symm
          clear hcon
          go_wp2_with (go_at_call 97; refine (Try.strings_IndexRune_ascii _ _ _ (by omega) (by omega)).mono ?_; rintro e w' ⟨rfl, hw⟩; rw [hw, hback])
          go_roundg g
          case measure => omega
          case rel => exact ⟨i + 1, by omega, by omega, HI.out, hbel', Lib.hid (hno.out.succ Hx.out hin)⟩
        · rw [hin] at hcon
          have hpos : (0 : Int) ≤ Lib.indexByte [0, 47] x := of_decide_eq_true hcon.symm
          clear hcon
          go_wp2_with (go_at_call 97; refine (Try.strings_IndexRune_ascii _ _ _ (by omega) (by omega)).mono ?_; rintro e w' ⟨rfl, hw⟩; rw [hw, hback])
          go_ret
          exact ⟨_, rfl, hbel', ⟨fun _ => any_hit Hx.out hin, fun _ => by omega⟩⟩
      · have hx' : 128 ≤ (s[i]'hlt).toNat := by omega
        obtain ⟨p1, p2, _⟩ := decode_span s i hlt hx'
        have HN := Lib.hid (noAny_span hlt hx' hno.out)
        have q1 := (decode_high s i hlt hx').1
        have q2 := decode_le s i
        have hnx := fun ty => Lib.run_next_any_at (P := Try.prog) wr w.heap.size s i ty hit hlt
        generalize Utf8.decode s i = d at *
        obtain ⟨d1, d2⟩ := d
        simp only at *
        have hit' := Lib.iterAt_heap wr w.heap.size s i (i + d2) hit
        have hbel' := Lib.below_iterAt hbel (Nat.le_refl _) s (i + d2)
        have hsz := Lib.iterAt_size wr w.heap.size s (i + d2)
        generalize wr.iterAt w.heap.size s (i + d2) = w1 at *
        have hk1 : w.heap.size < w1.heap.size := (Array.getElem?_eq_some_iff.1 hit').1
        have HI := Lib.hid hit'
        clear hit hit' hsz
        go_wp2_with fail
        refine (IndexRune_high _ _ (by omega) (by omega)).mono ?_
        rintro e w2 ⟨rfl, hb2⟩
        go_wp2
        go_roundg g
        case measure => omega
        case rel => exact ⟨i + d2, by omega, by omega, (hb2.block _ hk1).trans HI.out, hbel'.trans (hb2.mono (by omega)), HN⟩
    · obtain rfl : i = s.size := by omega
      have hnx := fun ty => Lib.run_next_end_at (P := Try.prog) wr w.heap.size s s.size ty hit hlt
      go_wp2
      go_ret
      exact ⟨_, rfl, hbel, ⟨fun h => absurd h (by decide), fun h => absurd h (any_none hno.out)⟩⟩

end Go.Proofs.Ytaidkbnbfnaihaa
namespace Go.Proofs.Ytaidkbnbfnaihaa
open Go.RowKit

theorem indexAny_mem (s : ByteArray) : (0 ≤ Lib.indexAny s.data.toList [0, 47]) ↔ ((0 : UInt8) ∈ s.data.toList ∨ (47 : UInt8) ∈ s.data.toList) := by
  generalize s.data.toList = l
  induction l with
  | nil => simp [Lib.indexAny]
  | cons b l ih =>
    have hge := Lib.indexAny_ge [0, 47] l
    unfold Lib.indexAny
    by_cases hb : [0, 47].contains b = true
    · rw [if_pos hb]
      simp only [List.contains_cons, List.contains_nil, Bool.or_false, Bool.or_eq_true, beq_iff_eq] at hb
      rcases hb with rfl | rfl <;> simp
    · rw [if_neg hb]
      have h0 : (0 : UInt8) ≠ b := by rintro rfl; simp at hb
      have h47 : (47 : UInt8) ≠ b := by rintro rfl; simp at hb
      simp only [List.mem_cons, h0, h47, false_or]
      rw [← ih]
      split
      · rename_i h
        have : Lib.indexAny l [0, 47] = -1 := by simpa using h
        rw [this]
      · rename_i h
        have : Lib.indexAny l [0, 47] ≠ -1 := by simpa using h
        constructor <;> intro h' <;> omega
theorem IndexAny_any (s : ByteArray) (w : World) (hs : s.size ≤ 1000000) : Calls Try.prog 92 #[.string s, .string ⟨#[0, 47]⟩] w (AnyQ s w) := by
  by_cases h8 : s.size ≤ 8
  · exact IndexAny_short s w h8
  · refine (Try.strings_IndexAny_long (fun w => by kernel_rfl) s ⟨#[0, 47]⟩ w (by decide) (by omega) (by omega) (by decide) ?_).mono ?_
    · intro j b hj
      have : b ∈ [0, 47] := List.mem_of_getElem? hj
      simp at this
      rcases this with rfl | rfl <;> decide
    · rintro e w' ⟨rfl, rfl⟩
      exact ⟨_, rfl, below_a2 _ _ _, indexAny_mem s⟩
def badB (s : ByteArray) : Bool := decide ((0 : UInt8) ∈ s.data.toList ∨ (47 : UInt8) ∈ s.data.toList)
theorem ContainsAny_any (s : ByteArray) (w : World) (hs : s.size ≤ 1000000) :
    Calls Try.prog 78 #[.string s, .string ⟨#[0, 47]⟩] w fun e w' => e = .returned (.bool (badB s)) ∧ Below w.heap.size w w' := by
  go_enter Try.func78, Try.ntmps78
  go_wp2_with fail
  refine (IndexAny_any s w hs).mono ?_
  rintro e w' ⟨v, rfl, hb, hv⟩
  have HV := Lib.hid hv
  clear hv
  go_wp2
  go_ret
  exact ⟨ret_bool (decide_eq_decide.2 HV.out), hb⟩

theorem eq_dot (s : ByteArray) : (s.toList == [46]) = decide (s.data.toList = [46]) := by rw [toL, Bool.eq_iff_iff]; simp
theorem eq_dots (s : ByteArray) : (s.toList == [46, 46]) = decide (s.data.toList = [46, 46]) := by rw [toL, Bool.eq_iff_iff]; simp
set_option maxHeartbeats 1000000 in
theorem PName_any (s : ByteArray) (w : World) :
    Calls Try.prog 56 #[.string s] w fun e w' => e = .returned (.bool (nmL s.data.toList)) ∧ Below w.heap.size w w' := by
  have hsz := Lib.size_eq s
  by_cases h0 : s.size = 0
  · have he : s.toList.isEmpty = true := by rw [empty_iff']; simp [h0]
    have he' : s.toList = [] := List.isEmpty_iff.1 he
    have HF : Hid (nmL s.data.toList = false) := Lib.hid (by
      rw [← toL, he']; rfl)
    clear hsz
    go_enter Try.func56, Try.ntmps56
    go_wp2
    go_ret
    exact ⟨ret_bool HF.out.symm, Below.refl _ _⟩
  · have he : s.toList.isEmpty = false := by rw [empty_iff']; simp [h0]
    have hne : s.data.toList ≠ [] := by intro e; rw [e] at hsz; exact h0 hsz
    by_cases h12 : s.size ≤ 12
    · have hle : decide ((s.size : Int) ≤ 12) = true := decide_eq_true (by omega)
      by_cases h1 : s.data.toList = [46]
      · have e1 : (s.toList == [46]) = true := by rw [eq_dot]; simp [h1]
        have e1' : (s.toList != [46]) = false := by simp [bne, e1]
        have HF : Hid (nmL s.data.toList = false) := Lib.hid (by rw [h1]; rfl)
        clear hsz hne h1
        go_enter Try.func56, Try.ntmps56
        go_wp2
        go_ret
        exact ⟨ret_bool HF.out.symm, Below.refl _ _⟩
      · have e1 : (s.toList == [46]) = false := by rw [eq_dot]; simp [h1]
        have e1' : (s.toList != [46]) = true := by simp [bne, e1]
        by_cases h2 : s.data.toList = [46, 46]
        · have e2 : (s.toList == [46, 46]) = true := by rw [eq_dots]; simp [h2]
          have e2' : (s.toList != [46, 46]) = false := by simp [bne, e2]
          have HF : Hid (nmL s.data.toList = false) := Lib.hid (by rw [h2]; rfl)
          clear hsz hne h1 h2
          go_enter Try.func56, Try.ntmps56
          go_wp2
          go_ret
          exact ⟨ret_bool HF.out.symm, Below.refl _ _⟩
        · have e2 : (s.toList == [46, 46]) = false := by rw [eq_dots]; simp [h2]
          have e2' : (s.toList != [46, 46]) = true := by simp [bne, e2]
          have HF : Hid (nmL s.data.toList = !badB s) := Lib.hid (by
            unfold badB
            rw [Bool.eq_iff_iff, nmL_iff]
            simp only [Bool.not_eq_true', decide_eq_false_iff_not, not_or]
            exact ⟨fun h => h.2.2.2.2, fun h => ⟨hne, by omega, h1, h2, h⟩⟩)
          clear hsz hne h1 h2
          go_enter Try.func56, Try.ntmps56
          go_wp2_with fail
          refine (ContainsAny_any s _ (by omega)).mono ?_
          rintro e w' ⟨rfl, hb⟩
          go_wp2
          go_ret
          exact ⟨ret_bool HF.out.symm, hb⟩
    · have hle : decide ((s.size : Int) ≤ 12) = false := decide_eq_false (by omega)
      have HF : Hid (nmL s.data.toList = false) := Lib.hid (decide_eq_false (fun h => by have := h.2.1; omega))
      clear hsz hne
      go_enter Try.func56, Try.ntmps56
      go_wp2
      go_ret
      exact ⟨ret_bool HF.out.symm, Below.refl _ _⟩

end Go.Proofs.Ytaidkbnbfnaihaa
namespace Go.Proofs.Ytaidkbnbfnaihaa
open Go.RowKit Go.Shelf
attribute [local go_sem] Oper.semAt_some

def boxLen (w : World) (b : Nat) : Nat := match w.cell? ⟨b, 0, none⟩ with
  | some (.string r) => r.size
  | _ => 0
theorem boxLen_eq {w : World} {b : Nat} {t : TypeId} {r : ByteArray} (h : Boxed w b t (.string r)) : boxLen w b = r.size := by simp [boxLen, h.cell]
theorem size_lt_of_extract (s : ByteArray) (i : Nat) (h : i < s.size) : (s.extract (i + 1) s.size).size < s.size := by
  rw [ByteArray.size_extract]; omega
def bls (xs : List Str) : List Bs := xs.map fun x => x.data.toList
end Go.Proofs.Ytaidkbnbfnaihaa
namespace Go.Proofs.Ytaidkbnbfnaihaa
open Go.RowKit Go.Shelf
attribute [local go_sem] Oper.semAt_some

theorem hasPrefix_slash (l : Bs) : Lib.hasPrefix l [47] = decide (l.head? = some 47) := by
  unfold Lib.hasPrefix
  cases l with
  | nil => simp
  | cons c t =>
    rw [Bool.eq_iff_iff, List.isPrefixOf_iff_prefix]
    simp [List.cons_prefix_cons, eq_comm]
end Go.Proofs.Ytaidkbnbfnaihaa
namespace Go.Proofs.Ytaidkbnbfnaihaa
open Go.RowKit

def flat {α : Type} (sz : Nat) (cell : α → Nat → Value) (xs : List α) : List Value := xs.flatMap fun x => (List.range sz).map (cell x)

section
variable {α : Type} {sz : Nat} {cell : α → Nat → Value}
theorem flat_get (xs : List α) : ∀ (i j : Nat) (x : α), xs[i]? = some x → j < sz → (flat sz cell xs)[i * sz + j]? = some (cell x j) := by
  induction xs with
  | nil => intro i j x h; simp at h
  | cons y ys ih =>
    intro i j x h hj
    have e : flat sz cell (y :: ys) = (List.range sz).map (cell y) ++ flat sz cell ys := by simp [flat]
    rw [e]
    cases i with
    | zero =>
      simp at h
      subst h
      rw [List.getElem?_append_left (by simpa using hj)]
      simp [hj]
    | succ i =>
      rw [List.getElem?_append_right (by simp [Nat.add_mul]; omega)]
      simp only [List.getElem?_cons_succ] at h
      have := ih i j x h hj
      rw [← this]
      congr 1
      simp [Nat.add_mul]
      omega
def OwnL (sz : Nat) (cell : α → Nat → Value) (E : TypeId) (w : World) (base : Nat) (v : Value) (xs : List α) : Prop :=
  w.ownsRow base E sz v xs.length (flat sz cell xs)

theorem OwnL.list {E : TypeId} {w : World} {base : Nat} {v : Value} {xs : List α} (h : OwnL sz cell E w base v xs) (hf : xs.length ≤ few) {D : Nat → Prop} (hD : ∀ b, base ≤ b → b < w.heap.size → D b) : ListR sz cell w D v xs := by
  rcases h.2 with ⟨rfl, hn⟩ | ⟨g, cap, cur, rfl, hb, hg, hnc, _, hcs, htake⟩
  · obtain rfl : xs = [] := List.eq_nil_of_length_eq_zero hn
    exact ListR.nil_
  · refine ⟨_, _, rfl, hnc, hf, fun _ => ⟨g, 0, rfl, hD g hb (Array.getElem?_eq_some_iff.1 hg).1, fun i x j hi hj => ?_⟩⟩
    have hlt : i * sz + j < xs.length * sz := by
      have h1 := (List.getElem?_eq_some_iff.1 hi).1
      have h2 : (i + 1) * sz ≤ xs.length * sz := Nat.mul_le_mul_right sz h1
      rw [Nat.add_mul] at h2
      omega
    rw [Nat.zero_add, cell_of_row w g _ cur E (0, 0) hg, ← flat_get xs i j x hi hj, ← htake, List.getElem?_take, if_pos hlt]
    simp
end


end Go.Proofs.Ytaidkbnbfnaihaa
namespace Go.Proofs.Ytaidkbnbfnaihaa
open Go.RowKit

theorem hasSuffix_slash (l : Bs) : Lib.hasSuffix l [47] = decide (l.getLast? = some 47) := by
  unfold Lib.hasSuffix
  rw [Bool.eq_iff_iff, List.isSuffixOf_iff_suffix, decide_eq_true_iff]
  rcases List.eq_nil_or_concat l with rfl | ⟨a, x, rfl⟩
  · simp
  · simp only [List.concat_eq_append, List.getLast?_concat, Option.some.injEq]
    constructor
    · rintro ⟨t, ht⟩
      have := congrArg List.getLast? ht
      simpa [eq_comm] using this
    · rintro rfl
      exact ⟨a, rfl⟩
theorem pieces_len (l : Bs) : (pieces l).length ≤ l.length + 1 := by
  have h1 : (pieces l).length ≤ (segs l).length := List.length_filter_le _ _
  have h2 : (segs l).length ≤ l.length + 1 := by
    clear h1
    induction l with
    | nil => simp [segs]
    | cons c t ih =>
      rw [segs_cons]
      split
      · simp; omega
      · split
        · simp
        · rename_i h
          rw [h] at ih
          simp at ih ⊢
          omega
  omega
theorem flat_str (xs : List Str) : flat 1 strCell xs = xs.map Value.string := by
  induction xs with
  | nil => rfl
  | cons x xs ih =>
    unfold flat at ih ⊢
    rw [List.flatMap_cons, ih]
    rfl
theorem Try.infoStr : (Try.prog.info? 9).map (fun i => (i.zero, i.size, i.bytes)) = some (some (.string ⟨#[]⟩), 1, 16) := by kernel_rfl

end Go.Proofs.Ytaidkbnbfnaihaa
namespace Go.Proofs.Ytaidkbnbfnaihaa
open Go.RowKit

set_option maxHeartbeats 400000 in
theorem Cut_yes (s : ByteArray) (w : World) (i : Nat) (hi : Lib.indexByte s.data.toList 47 = i) (hlt : i < s.size) (hmax : s.size ≤ 1000000) :
    Calls Try.prog 71 #[.string s, .string ⟨#[47]⟩] w fun e w' => e = .returned (.tuple #[.string (s.extract 0 i), .string (s.extract (i + 1) s.size), .bool true]) ∧ ∃ n, w' = w.drewN n := by
  have HI := Lib.hid hi
  clear hi
  have h1 : Calls Try.prog 89 #[.string s, .string ⟨#[47]⟩] w fun e w' => e = .returned (.tuple #[.string (s.extract 0 i), .string (s.extract (i + 1) s.size), .bool true]) ∧ ∃ n, w' = w.drewN n := by
    go_enter Try.func89, Try.ntmps89
    go_wp2_with fail
    refine (Index_slash _ _).mono ?_
    rintro e w' ⟨rfl, rfl⟩
    rw [HI.out]
    go_wp2_with fail
    go_quiet (fail)
    go_wp2
    go_ret3
    exact ⟨rfl, _, rfl⟩
  go_enter Try.func71, Try.ntmps71
  go_wp2_with fail
  refine h1.mono ?_
  rintro e w' ⟨rfl, n, rfl⟩
  go_wp2
  go_ret3
  exact ⟨rfl, _, rfl⟩
set_option maxHeartbeats 400000 in
theorem Cut_no (s : ByteArray) (w : World) (hi : Lib.indexByte s.data.toList 47 = -1) :
    Calls Try.prog 71 #[.string s, .string ⟨#[47]⟩] w fun e w' => e = .returned (.tuple #[.string s, .string ⟨#[]⟩, .bool false]) ∧ w = w' := by
  have HI := Lib.hid hi
  clear hi
  have h1 : Calls Try.prog 89 #[.string s, .string ⟨#[47]⟩] w fun e w' => e = .returned (.tuple #[.string s, .string ⟨#[]⟩, .bool false]) ∧ w = w' := by
    go_enter Try.func89, Try.ntmps89
    go_wp2_with fail
    refine (Index_slash _ _).mono ?_
    rintro e w' ⟨rfl, rfl⟩
    rw [HI.out]
    go_wp2
    go_ret3
    exact ⟨rfl, rfl⟩
  go_enter Try.func71, Try.ntmps71
  go_wp2_with fail
  refine h1.mono ?_
  rintro e w' ⟨rfl, rfl⟩
  go_wp2
  go_ret3
  exact ⟨rfl, rfl⟩

end Go.Proofs.Ytaidkbnbfnaihaa
namespace Go.Proofs.Ytaidkbnbfnaihaa
open Go.RowKit Go.Shelf
attribute [local go_sem] Oper.semAt_some

def CutQ (s : Str) (w : World) (e : Ending) (w' : World) : Prop := ∃ (p q : Str) (b : Bool) (n : Nat), e = .returned (.tuple #[.string p, .string q, .bool b]) ∧ w' = w.drewN n ∧ pieces s.data.toList = one_ p.data.toList ++ pieces q.data.toList ∧ (0 < s.size → q.size < s.size)
theorem Cut_any (s : ByteArray) (w : World) (hmax : s.size ≤ 1000000) : Calls Try.prog 71 #[.string s, .string ⟨#[47]⟩] w (CutQ s w) := by
  by_cases h : (47 : UInt8) ∈ s.data.toList
  · obtain ⟨i, hi, hlt, hl, hn⟩ := index_some h
    have hlt' : i < s.size := by rw [Lib.size_eq]; exact hlt
    refine (Cut_yes s w i hi hlt' hmax).mono ?_
    rintro e w' ⟨rfl, n, rfl⟩
    refine ⟨_, _, _, n, rfl, rfl, ?_, fun _ => size_lt_of_extract s i hlt'⟩
    rw [Lib.extract_data, Lib.extract_to_end]
    simp only [List.drop_zero, Nat.sub_zero]
    conv => lhs; rw [hl]
    exact pieces_cut hn _
  · refine (Cut_no s w (index_none h)).mono ?_
    rintro e w' ⟨rfl, rfl⟩
    refine ⟨_, _, _, 0, rfl, rfl, ?_, fun h => h⟩
    rw [pieces_none h]
    simp [pieces_nil]

theorem parts_any (s : ByteArray) (w : World) :
    Calls Try.prog 50 #[.string s] w fun e w' =>
      e = .returned (.func (.func 70) #[] #[.pointer (some ⟨w.heap.size, 0, none⟩)]) ∧ w' = w.alloc (.cells #[.string s] 9) := by
  go_enter Try.func50, Try.ntmps50
  go_wp2
  go_ret
  exact ⟨rfl, rfl⟩

theorem empty_iff (s : ByteArray) : s.toList.isEmpty = decide (s.size = 0) := by
  rw [toL, Lib.size_eq, Bool.eq_iff_iff, List.isEmpty_iff, decide_eq_true_iff, List.length_eq_zero_iff]
def Keep1 (a : Nat) (X Y : World) : Prop := Y.heap[a]? = X.heap[a]?
set_option maxRecDepth 100000 in
set_option maxHeartbeats 1000000 in
theorem parts1 (n : Nat) (s : ByteArray) (hs : s.size ≤ 1000000) (b0 : Nat) (w : World) (h0 : Boxed w b0 9 (.string s)) :
    SeqW Fence.wide n Try.prog 70 #[.pointer (some ⟨b0, 0, none⟩)] (fun x : Str => #[.string x]) (fun b => b = b0) (Keep1 b0) (fun xs => bls xs <+: pieces s.data.toList)
      (fun xs => bls xs = pieces s.data.toList) (fun pre => bls pre <+: pieces s.data.toList) w := fun l J Jx W hW hJ hJx hY hst => by
  have k0 : Boxed W b0 9 (.string s) := blk_below h0 hW h0.lt
  refine callsIn_of_wp Try.func70 rfl trivial ?_ rfl
  simp only [Try.ntmps70, List.size_toArray, List.length_cons, List.length_nil, Nat.reduceAdd, Nat.reduceSub, Array.replicate_succ, Array.replicate_zero, List.push_toArray, List.append_toArray, List.nil_append, List.cons_append]
  gi_wp2
  gi_loopw [3] (fun _ wr => ∃ (pre : List Str) (r : ByteArray), Boxed wr b0 9 (.string r) ∧ J pre wr ∧ Hid (bls pre ++ pieces r.data.toList = pieces s.data.toList) ∧ r.size ≤ s.size) (fun _ wr => boxLen wr b0)
  case atStart => exact ⟨[], s, k0, hst, rfl, Nat.le_refl _⟩
  case round =>
    obtain ⟨pre, r, m0, hj, hpre, hle⟩ := hrel
    clear k0 hst
    have c0 := m0.cell
    have f0 := m0.frozen
    by_cases hr : r.size = 0
    · have he : r.toList.isEmpty = true := by rw [empty_iff]; simp [hr]
      have he' : r.toList = [] := List.isEmpty_iff.1 he
      have HP : Hid (pieces r.data.toList = []) := by rw [← toL, he']; exact Lib.hid pieces_nil
      gi_wp2
      go_end0
      exact ⟨⟨_, rfl⟩, .inl ⟨pre, by rw [← hpre.out, HP.out]; simp, hj⟩⟩
    · have he : r.toList.isEmpty = false := by rw [empty_iff]; simp [hr]
      gi_wp2_with fail
      refine wideCall ((callsIn_wide.2 (Cut_any _ _ (by omega))).mono ?_)
      rintro e w' ⟨p, q, b, nd, rfl, rfl, hpq, hq⟩
      have hql := hq (by omega)
      have HP := Lib.hid hpq
      clear hpq hq
      have hj' : J pre ((wr.drewN nd).setCell ⟨b0, 0, none⟩ (.string q)) := hJ _ _ _ (hJ _ _ _ hj (Moves.below (below_drewN (Below.refl _ _) nd))) (Moves.set_ (own := fun b => b = b0) _ rfl _)
      have m0' : Boxed ((wr.drewN nd).setCell ⟨b0, 0, none⟩ (.string q)) b0 9 (.string q) := Boxed.set _ (show Boxed (wr.drewN nd) b0 9 (.string r) from m0)
      by_cases hp : p.size = 0
      · have hpe : p.toList.isEmpty = true := by rw [empty_iff]; simp [hp]
        have hpe' : p.toList = [] := List.isEmpty_iff.1 hpe
        have HO : Hid (one_ p.data.toList = []) := by rw [← toL, hpe']; exact Lib.hid rfl
        gi_wp2
        refine ⟨fun _ h => (by cases h), ?_⟩
        gi_wp2
        go_roundw
        case rel => exact ⟨pre, q, m0', hj', Lib.hid (by rw [← hpre.out, HP.out, HO.out]; simp), by omega⟩
        case measure => rw [boxLen_eq m0', boxLen_eq m0]; exact hql
      · have HO : Hid (one_ p.data.toList = [p.data.toList]) := Lib.hid (if_neg (fun e => hp (by rw [Lib.size_eq, e]; rfl)))
        have hpe : p.toList.isEmpty = false := by rw [empty_iff]; simp [hp]
        obtain ⟨fn, tmps, assign, body, hy, hR⟩ := hY pre p _ hj' (by rw [← hpre.out, HP.out, HO.out]; simp [bls])
        gi_wp2
        refine ⟨(fun h => by cases h), hR.mono ?_⟩
        rintro e W3 (⟨rfl, hJ3, hk3⟩ | ⟨rfl, hJx3⟩)
        · have q0 : Boxed W3 b0 9 (.string q) := hk3.trans m0'
          clear c0 f0 hy hR
          gi_wp2
          go_roundw
          case rel => exact ⟨pre ++ [p], q, q0, hJ3, Lib.hid (by rw [← hpre.out, HP.out, HO.out]; simp [bls]), by omega⟩
          case measure => rw [boxLen_eq q0, boxLen_eq m0]; exact hql
        · gi_wp2
          refine bodyPost_ret (results_none rfl _ _ _) rfl ?_
          exact ⟨⟨_, rfl⟩, .inr ⟨pre ++ [p], by rw [← hpre.out, HP.out, HO.out]; simp [bls], hJx3⟩⟩

end Go.Proofs.Ytaidkbnbfnaihaa
namespace Go.Proofs.Ytaidkbnbfnaihaa
open Go.RowKit Go.Shelf
attribute [local go_sem] Oper.semAt_some

theorem Moves.row {own : Nat → Prop} {B : Nat} {X Y : World} (h : Moves own B X Y) {base e size k : Nat} {v : Value} {xs : List Value} (hr : X.ownsRow base e size v k xs) (ho : ∀ b, own b → b < base) : Y.ownsRow base e size v k xs := by
  refine ⟨hr.1, ?_⟩
  rcases hr.2 with h' | ⟨g, cap, cur, hv, hg, hb, r⟩
  · exact .inl h'
  · refine .inr ⟨g, cap, cur, hv, hg, ?_, r⟩
    exact (h.block g (Array.getElem?_eq_some_iff.1 hb).1 (fun e => by have := ho g e; omega) (.inr ⟨_, hb, rfl⟩)).trans hb
theorem appended_ {W w1 : World} {base B : Nat} {t e : TypeId} {size : Nat} {v v' : Value} {k m : Nat} {xs ys : List Value} {tmp : Obj}
    (hv : Boxed W B t v) (hrow : W.ownsRow base e size v k xs) (hbase : base ≤ W.heap.size) (hB : B < base)
    (hown' : w1.ownsRow base e size v' m ys) (hgrow : (W.alloc tmp).grownBy w1 v.ownBlock) :
    Boxed w1 B t v ∧ Boxed (w1.setCell ⟨B, 0, none⟩ v') B t v' ∧ (w1.setCell ⟨B, 0, none⟩ v').ownsRow base e size v' m ys ∧ KeepsOthers W (w1.setCell ⟨B, 0, none⟩ v') ∧
      Below B W (w1.setCell ⟨B, 0, none⟩ v') ∧ ∀ j, j < base → j ≠ B → (w1.setCell ⟨B, 0, none⟩ v').heap[j]? = W.heap[j]? := by
  have hne : ∀ j, j < base → some j ≠ v.ownBlock := by
    intro j hj e
    have := World.ownsRow.lt hrow j e.symm
    omega
  have hblk : ∀ j, j < base → w1.heap[j]? = W.heap[j]? := fun j hj => (hgrow.block j (by simp; omega) (hne j hj)).trans (Below.heap_alloc W tmp j (by omega))
  have hv1 : Boxed w1 B t v := (hblk B hB).trans hv
  refine ⟨hv1, hv1.set v', ownsRow_setCell_below hown' hB v', ?_, ?_, fun j hj hj' => (Below.heap_setCell w1 ⟨B, 0, none⟩ v' j hj').trans (hblk j hj)⟩
  · refine ((KeepsOthers.alloc W tmp).trans (KeepsOthers.of_grownBy hgrow fun j o ej hj => ?_)).trans (KeepsOthers.setCell _ _ _)
    rcases (hrow.alloc tmp).2 with ⟨rfl, _⟩ | ⟨g, cap, cur, rfl, _, hgb, _⟩
    · simp [Value.ownBlock] at ej
    · obtain rfl : g = j := by simpa [Value.ownBlock] using ej
      rw [hgb] at hj; cases hj; rfl
  · have hs := hgrow.size
    simp at hs
    exact ⟨hgrow.os, hgrow.tape, hgrow.output, by simp [World.setCell]; omega, fun j hj => (Below.heap_setCell w1 ⟨B, 0, none⟩ v' j (by show j ≠ B; omega)).trans (hblk j (by omega))⟩

def SplitC (l : Bs) (w : World) (e : Ending) (w' : World) : Prop := ∃ (v : Value) (ss : List Str), e = .returned (.tuple #[v, .bool (decide (l.head? = some 47)), .bool (decide (l.getLast? = some 47))]) ∧ StrsR w' (Fresh w w') v ss ∧ bls ss = pieces l ∧ Below w.heap.size w w' ∧ ∃ A c, v = .slice A ss.length c ∧ c ≤ maxLen
set_option maxRecDepth 100000 in
set_option maxHeartbeats 2000000 in
theorem PSplit_b (n : Nat) (hn : Hid (1 ≤ n)) (s : ByteArray) (w : World) (hs : s.size ≤ 60000) :
    CallsIn Fence.wide n Try.prog 26 #[.string s] w (SplitC s.data.toList w) := by
  obtain ⟨i0, hi, hz0, hz1, hz2⟩ := info_parts Try.infoStr
  refine callsIn_of_wp_marks Try.func26 rfl trivial ?_ rfl
  simp only [Try.ntmps26, List.size_toArray, List.length_cons, List.length_nil, Nat.reduceAdd, Nat.reduceSub, Array.replicate_succ, Array.replicate_zero, List.push_toArray, List.append_toArray, List.nil_append, List.cons_append]
  gi_wp2_with fail
  refine wideCall ((callsIn_wide.2 (parts_any _ _)).mono ?_)
  rintro e w' ⟨rfl, rfl⟩
  gi_wp2_with fail
  obtain ⟨WL, hWL⟩ : ∃ WL, (w.alloc (.cells #[.slice none 0 0] 60)).alloc (.cells #[.string s] 9) = WL := ⟨_, rfl⟩
  have hzL : WL.heap.size = w.heap.size + 1 + 1 := by rw [← hWL]; simp
  have hBw : Below w.heap.size w WL := by rw [← hWL]; exact below_a2 _ _ _
  have kR : Boxed WL w.heap.size 60 (.slice none 0 0) := by rw [← hWL]; exact blk_a2_0 _ _ _
  have k0 : Boxed WL (w.heap.size + 1) 9 (.string s) := by rw [← hWL]; exact blk_a2_1 _ _ _
  rw [hWL]
  have HZ := Lib.hid hzL
  clear hWL hzL
  refine wpIn_rangeFunc_st rfl hn.out (gf := 70) rfl trivial (enters_of Try.func70 (by kernel_rfl) rfl)
    (parts1 (n - 1) s (by omega) (w.heap.size + 1) WL k0)
    (fun b hb => by have := HZ.out; omega) (fun h k => Eq.trans k h) (fun W l o o' hl _ _ => by have := HZ.out; exact World.putObj_heap_other (by omega)) (Below.refl _ _) (fun _ => rfl)
    (fun pre W => ∃ v, Boxed W w.heap.size 60 v ∧ W.ownsRow WL.heap.size 9 1 v pre.length (pre.map Value.string) ∧ Below w.heap.size w W)
    (fun _ _ _ => False)
    (fun s X Y h hm => by
      obtain ⟨v, h1, h2, h3⟩ := h
      have := HZ.out
      exact ⟨v, hm.boxed h1 (by omega), hm.row h2 (fun b hb => by omega), hm.under h3 (Nat.le_refl _) (fun b hb => by omega) (by omega)⟩)
    (fun _ _ _ _ h _ => h)
    ⟨_, kR, World.ownsRow_nil _ _ _ _, hBw⟩
    (fun x => { tmps := #[.string s, undef, .pointer (some ⟨w.heap.size, 0, none⟩), .bool false, .bool false, .string x, .string s, .func (.func 70) #[] #[.pointer (some ⟨w.heap.size + 1, 0, none⟩)], .string x, undef, undef, undef, undef, undef, undef, undef, undef, undef], defers := [] }) ?assign ?body ?done ?stop
  case assign =>
    intro l x W K hK
    gi_wp2
    exact hK
  case body =>
    rintro l pre x W ⟨v, hc, hrow, hbw⟩ hpf hsz
    have hcell := hc.cell
    have HZW := Lib.hid hsz
    have hpl : pre.length ≤ 1000000 := by
      have h1 := hpf.length_le
      have h2 := pieces_len s.data.toList
      rw [← Lib.size_eq] at h2
      simp [bls] at h1
      omega
    have hmx : pre.length + 1 ≤ maxLen := by unfold maxLen; omega
    clear hsz hpf
    gi_wp2_with (gi_at_builtin; refine wpListIn_append_own _ rfl _ _ 60 rfl WL.heap.size 9 i0 (.string ⟨#[]⟩) 1 16 Try.underlying60 hi hz0 hz1 hz2 rfl (by decide) _ _ _ rfl (hrow.alloc _) ⟨W.heap.size, 0, none⟩ 1 1 [.string x] rfl rfl (cell_one_new _ _ _) (by simp [Value.oneCell']) (by omega) (by omega) (by have := HZW.out; simp; omega) ?_; intro v' w1 hown' hgrow _; obtain ⟨g', cap', rfl⟩ := ownsRow_succ hown'; obtain ⟨hv1, hv2, hr2, hk2, hb2, hj2⟩ := appended_ hc hrow (by have := HZW.out; omega) (by have := HZ.out; omega) hown' hgrow; have hc1 := hv1.cell; have hf1 := hv1.frozen)
    have h1 := HZ.out
    exact ⟨hk2.from _, hj2 _ (by omega) (by omega), ⟨_, hv2, by simpa using hr2, hbw.trans hb2⟩⟩
  case done =>
    rintro D xs W hD hS ⟨v, hc, hrow, hbw⟩ hK
    have HS := Lib.hid hS
    clear hS
    obtain ⟨A, cc, rfl⟩ : ∃ A c, v = .slice A xs.length c := by
      rcases hrow.2 with ⟨rfl, hn⟩ | ⟨g, cap, cur, rfl, _⟩
      · exact ⟨none, 0, by rw [hn]⟩
      · exact ⟨_, _, rfl⟩
    have hccm : cc ≤ maxLen := by
      rcases hrow.2 with ⟨h1, _⟩ | ⟨g, cap, cur, h1, h2, h3, h4, h5, _⟩
      · injection h1 with _ _ h1
        rw [h1]
        exact Nat.zero_le _
      · injection h1 with _ _ h1
        rw [h1]
        exact h5
    have hcell := hc.cell
    have hfz := hc.frozen
    gi_wp2_with fail
    refine wpIn_wide.2 ?_
    refine wp_region_still_tail 5 (by kernel_rfl) (by kernel_rfl) ?_
    simp only [List.take_succ_cons, List.take_zero, List.drop_succ_cons, List.drop_zero]
    still_step
    still_step
    still_call (Try.strings_HasPrefix _ _ _)
    still_step
    still_call (Try.strings_HasSuffix _ _ _ (by omega))
    refine wpStill_nil ?_
    change wpList _ _ _ _ _ W.drew
    have hc2 : Boxed W.drew w.heap.size 60 (.slice A xs.length cc) := hc
    have hr2 : W.drew.ownsRow WL.heap.size 9 1 (.slice A xs.length cc) xs.length (xs.map Value.string) := hrow
    have hb2 : Below w.heap.size w W.drew := hbw.drew
    have hK2 : W.drew.heap[D]? = some (.deferred (some [])) := hK
    clear hc hrow hbw hK hcell hfz
    generalize W.drew = W2 at *
    have hcell := hc2.cell
    have hfz := hc2.frozen
    go_wp2
    gi_wp2
    refine ⟨by simp, .inl ⟨_, _, rfl, run_takeDeferred ((KeepsOthers.setCell _ _ _).same D _ hK2 rfl), ?_⟩⟩
    have h1 := HZ.out
    have hcb := (boxed_put (hc2.set (.slice A xs.length cc)) (show w.heap.size ≠ D by omega) (.deferred none)).cell
    refine ⟨.tuple #[.slice A xs.length cc, .bool (Lib.hasPrefix s.data.toList [47]), .bool (Lib.hasSuffix s.data.toList [47])], by simp [results, Try.f26, go_sem, hcb], .slice A xs.length cc, xs, by rw [hasPrefix_slash, hasSuffix_slash], ?_, HS.out, below_put (hb2.setCell (p := ⟨w.heap.size, 0, none⟩) (Nat.le_refl _) _) (by omega) _, A, cc, rfl, hccm⟩
    have hrow' := ownsRow_putObj (ownsRow_setCell_below hr2 (a := ⟨w.heap.size, 0, none⟩) (by show w.heap.size < _; omega) (.slice A xs.length cc)) (.deferred none) ((KeepsOthers.setCell _ _ _).same D _ hK2 rfl) rfl
    have hlen : xs.length ≤ few := by
      have h2 := pieces_len s.data.toList
      rw [← HS.out, ← Lib.size_eq] at h2
      simp [bls] at h2
      unfold few
      omega
    refine OwnL.list (sz := 1) (cell := strCell) (E := 9) (base := WL.heap.size) ?_ hlen (fun b hb hlt => ⟨by omega, hlt⟩)
    unfold OwnL
    rw [flat_str]
    exact hrow'
  case stop =>
    rintro D c pre W hD hSp h hK
    exact h.elim

theorem PSplit_cap (s : ByteArray) (w : World) (hs : s.size ≤ 60000) : Calls Try.prog 26 #[.string s] w (SplitC s.data.toList w) :=
  callsIn_wide.1 (PSplit_b 6 (Lib.hid (by omega)) s w hs)
end Go.Proofs.Ytaidkbnbfnaihaa
namespace Go.Proofs.Ytaidkbnbfnaihaa
open Go.RowKit

theorem run_app_full {P : Program} {St : Nat → Nat → Prop} {w : World} (hst : ∀ b o, St b o → b < w.heap.size) {T T' sz bytes : Nat} (hE : elmOf P T = some (T', sz, bytes)) (hby : bytes ≤ 100000) {rows new : List (List AV)} {A : Option Addr} {cap : Nat} {y : Value}
    (hs : fro St w (.sl sz rows none) (.slice A rows.length cap)) (hy : fro St w (.sl sz new none) y) (hsm : rows.length + new.length ≤ 1000000) (rt : TypeId) :
    ∃ (v' : Value) (w' : World) (N : Nat → Nat → Prop), (Builtin.append_ #[T, T] rt #[.slice A rows.length rows.length, y]).run P w = .ok v' w' ∧ Below w.heap.size w w' ∧ (∀ b o, N b o → w.heap.size ≤ b ∧ b < w'.heap.size) ∧ fro (fun b o => St b o ∨ N b o) w' (.sl sz (rows ++ new) none) v' := by
  obtain ⟨hu, inf, z, hinf, hz, hzs, hsz, hbts, hp⟩ := elm_spec hE
  obtain ⟨A', cap', vs, e1, e2, e3, e4, e5⟩ := fro_flat hy
  obtain ⟨A0, cap0, us, f1, f2, f3, f4, f5⟩ := fro_flat hs
  injection f1 with f1a f1b f1c
  subst f1a
  by_cases h0 : new = []
  · subst h0
    refine ⟨.slice A rows.length rows.length, w, fun _ _ => False, ?_, Below.refl _ _, fun _ _ h => h.elim, ?_⟩
    · rw [e1]
      rcases A' with _ | ad <;> rcases A with _ | ad0 <;> simp [Builtin.append_, run_underlying hu, sizeOf, typeInfo, hinf, Builtin.lenOf, Builtin.firstCells, storeCells, loadCells, loadCellsFrom]
    · rw [List.append_nil]
      have k : fro St w (.sl sz rows none) (.slice A rows.length rows.length) := by
        simp only [fro] at hs ⊢
        obtain ⟨_, B, c, h1, h2, h3, h4⟩ := hs
        injection h1 with h1 _ _
        subst h1
        exact ⟨trivial, _, _, rfl, Nat.le_refl _, Nat.le_trans h2 h3, h4⟩
      exact fro_mono (fun b o hb => ⟨.inl hb, rfl⟩) _ _ k
  · obtain ⟨b, off, q1, q2⟩ := e5 h0
    subst q1
    rw [e1]
    have hnl : 0 < new.length := List.length_pos_iff.2 h0
    have hnews : ∀ j u, vs[j]? = some u → w.cell? ((⟨b, off, none⟩ : Addr).add j) = some u := fun j u hj => by rw [Addr.add_mid]; exact q2 j u hj
    have hbt : (rows.length + new.length) * bytes ≤ 140737488355328 := by
      have : (rows.length + new.length) * bytes ≤ 1000000 * 100000 := Nat.mul_le_mul hsm hby
      omega
    have key : ∃ v' w', (Builtin.append_ #[T, T] rt #[.slice A rows.length rows.length, .slice (some ⟨b, off, none⟩) new.length cap']).run P w = .ok v' w' ∧ w'.ownsRow w.heap.size T' sz v' (rows.length + new.length) (us ++ vs) ∧ w.grownBy w' none := by
      by_cases hr0 : rows = []
      · subst hr0
        have hus : us = [] := List.eq_nil_of_length_eq_zero (by simpa using f4.1)
        subst hus
        rcases A with _ | ad
        · obtain ⟨v', w', r1, r2, r3, r4, r5⟩ := run_append_own_at (P := P) w w.heap.size T rt T' inf z sz bytes hu hinf hz hsz hbts hzs hp (.slice none 0 0) 0 [] (World.ownsRow_nil w _ _ _) ⟨b, off, none⟩ new.length cap' vs (by rw [e4.1]) hnews e4.2.2.1 (by simp at hsm; unfold maxLen; omega) (by simpa using hbt) (Nat.le_refl _)
          exact ⟨v', w', by simpa using r1, by simpa using r2, by simpa [Value.ownBlock] using r3⟩
        · obtain ⟨v', w', r1, r2, r3⟩ := run_append_arg_grows (P := P) w T rt T' inf z sz bytes hu hinf hz hsz hbts hzs hp ad 0 0 [] (by simp) (by simp) ⟨b, off, none⟩ new.length cap' vs (by rw [e4.1]) hnews (by omega) (by simp at hsm; unfold maxLen; omega) (by simpa using hbt)
          exact ⟨v', w', by simpa using r1, by simpa using r2, r3⟩
      · obtain ⟨b0, off0, p1, p2⟩ := f5 hr0
        subst p1
        exact run_append_arg_grows (P := P) w T rt T' inf z sz bytes hu hinf hz hsz hbts hzs hp ⟨b0, off0, none⟩ rows.length rows.length us (by rw [f4.1]) (fun j u hj => by rw [Addr.add_mid]; exact p2 j u hj) ⟨b, off, none⟩ new.length cap' vs (by rw [e4.1]) hnews (by omega) (by unfold maxLen; omega) hbt
    obtain ⟨v', w', r1, r2, r3⟩ := key
    have hbel : Below w.heap.size w w' := ⟨r3.os, r3.tape, r3.output, r3.size, fun k hk => r3.block k hk (by simp)⟩
    have hlt := World.ownsRow.lt r2
    refine ⟨v', w', fun b _ => v'.ownBlock = some b, r1, hbel, fun b o hb => hlt b hb, ?_⟩
    have hflat : FlatR (fun b o => St b o ∨ v'.ownBlock = some b) w' sz (rows ++ new) (us ++ vs) := (f4.append e4).mono fun b o hb => ⟨.inl hb, hbel.cell (p := ⟨b, o, none⟩) (hst b o hb)⟩
    rcases r2.2 with ⟨c1, c2⟩ | ⟨gb, cp, cur, c1, c2, c3, c4, c5, c6, c7⟩
    · omega
    · subst c1
      simp only [fro]
      refine ⟨trivial, _, cp, by rw [List.length_append], by rw [List.length_append]; exact c4, c5, .inr ⟨gb, 0, rfl, hflat.froR fun j u hj => ⟨.inr rfl, ?_⟩⟩⟩
      have hj2 : j < (rows.length + new.length) * sz := by
        have := (List.getElem?_eq_some_iff.1 hj).1
        rwa [r2.1] at this
      rw [Nat.zero_add]
      simp only [World.cell?, c3]
      rw [← c7, List.getElem?_take, if_pos hj2, Array.getElem?_toList] at hj
      simpa using hj
theorem eval_put {a : Act} {d n : Nat} (v : Value) (hn : a.tmps.size = n) (hd : d < n) : (a.put (some d) v).eval (.tmp d) = v := by
  show (a.put (some d) v).tmps.getD d undef = v
  simp [Act.put, hn, hd]
theorem eval_put_ne {a : Act} {d t : Nat} (v : Value) (h : d ≠ t) : (a.put (some d) v).eval (.tmp t) = a.eval (.tmp t) := by
  show (a.put (some d) v).tmps.getD t undef = a.tmps.getD t undef
  simp [Act.put, Array.getElem?_setIfInBounds_ne h]
theorem al_app3 {P : Program} {N : Dim} {ops : Array Oper} {Q : Exit → AS → Prop} {rest : List Oper} {l : List (Nat × AV)} {hh : AH} {d1 d2 d3 : Nat} {ty1 ty2 ty3 : TypeId} {pos1 pos2 pos3 : String} {af1 af2 af3 : Array Edge} {T : TypeId} {x hi mx y : Operand} {T' sz bytes : Nat} {rows new : List (List AV)} {tok tok' : Option Nat} [hE : Elm P T T' sz bytes] {i j : Int}
    (h1 : Nat.blt d1 N.n = true) (h2 : Nat.blt d2 N.n = true) (h3 : Nat.blt d3 N.n = true) (hne : Nat.beq d2 d1 = false)
    (hx : evs (look l) x = some (.sl sz rows tok)) (hhi : evs (look l) hi = some (.v (.int .i64 i))) (hmx : evs (look l) mx = some (.v (.int .i64 j))) (hi' : i = (rows.length : Int)) (hj' : j = (rows.length : Int)) (hy : evs (look ((d1, .sl sz rows none) :: l)) y = some (.sl sz new tok')) (hsm : rows.length + new.length ≤ 1000000)
    (h : AL P N ops Q rest ⟨look ((d3, .sl sz (rows ++ new) none) :: (d2, .sl sz new tok') :: (d1, .sl sz rows none) :: l), hh⟩) :
    AL P N ops Q (⟨some d1, .slice T x none (some hi) (some mx), ty1, pos1, af1, none⟩ :: ⟨some d2, .move y, ty2, pos2, af2, none⟩ :: ⟨some d3, .call { callee := .builtin .append, args := #[.tmp d1, .tmp d2], argTypes := #[T, T] }, ty3, pos3, af3, none⟩ :: rest) ⟨look l, hh⟩ := by
  obtain ⟨hu, inf, z, hinf, hz, hzs, hsz, hbts, hp⟩ := elm_spec hE.eq
  intro E a w hr
  obtain ⟨G, g1, g2, g3, g4, g5⟩ := hr
  have kx := fro_era _ _ (g2.ev hx)
  have ki := g2.ev hhi
  have kj := g2.ev hmx
  simp only [era] at kx
  simp only [rep] at ki kj
  subst hi' hj'
  obtain ⟨A, cap, us, e1, e2, e3, e4, e5⟩ := fro_flat kx
  rw [e1] at kx
  refine wpList_plain rfl fun K hK => ?_
  have run1 : (execOp a.eval ⟨some d1, .slice T x none (some hi) (some mx), ty1, pos1, af1, none⟩).run P w = .ok (.value (.slice A rows.length rows.length)) w := by
    have hA : Option.map (fun x : Addr => x.add 0) A = A := by cases A with
      | none => rfl
      | some ad => cases ad; rfl
    have e0 : (if rows.length = 0 then A else Option.map (fun x : Addr => x.add 0) A) = A := by rw [hA]; split <;> rfl
    simp [execOp, e1, ki, kj, Instr.sliceAt, Instr.slice, Instr.sliceBounds, Instr.sliceBound, asIntOf, run_underlying hu, sizeOf, typeInfo, hinf, hsz, e2, hA]
  refine upon_of (E := E) (w := w) (R := fun x' h' => x' = .v (.slice A rows.length rows.length) ∧ h' = hh) (G := G) ?_ ?_
  · rw [run1]
    exact ⟨_, _, G, ⟨rfl, rfl⟩, g1, Ext.refl G w, by simp only [rep]⟩
  rintro v1 w1 ⟨x1, h1', G1, ⟨rfl, rfl⟩, k1, k2, k3⟩
  simp only [rep] at k3
  subst k3
  have kx1 : fro G1.St w1 (.sl sz rows none) (.slice A rows.length cap) := fro_mono k2.st _ _ kx
  have kn1 : fro G1.St w1 (.sl sz rows none) (.slice A rows.length rows.length) := by
    have := kx1
    simp only [fro] at this ⊢
    obtain ⟨_, B, c, q1, q2, q3, q4⟩ := this
    injection q1 with q1 _ _
    subst q1
    exact ⟨trivial, _, _, rfl, Nat.le_refl _, Nat.le_trans q2 q3, q4⟩
  obtain ⟨s1, s2, s3⟩ := g2.put (d := some d1) (x := .sl sz rows none) k2 g3 h1 (rep_fro _ _ kn1)
  apply hK
  refine wpList_plain rfl fun K2 hK2 => ?_
  have ky := s1.ev hy
  refine upon_of (E := E) (R := fun x' h' => x' = .sl sz new tok' ∧ h' = h1') (G := G1) (w := w1) (r := .ok (.value ((a.put (some d1) (.slice A rows.length rows.length)).eval y)) w1) ⟨_, _, G1, ⟨rfl, rfl⟩, k1, Ext.refl G1 w1, ky⟩ ?_
  rintro v2 w2 ⟨x2, h2', G2, ⟨rfl, rfl⟩, m1, m2, m3⟩
  obtain ⟨t1, t2, t3⟩ := s1.put (d := some d2) (x := .sl sz new tok') m2 s2 h2 m3
  have kn2 : fro G2.St w2 (.sl sz rows none) (.slice A rows.length rows.length) := fro_mono m2.st _ _ kn1
  have ky2 := fro_era _ _ m3
  simp only [era] at ky2
  apply hK2
  refine wpList_plain rfl fun K3 hK3 => ?_
  obtain ⟨v', w', Nw, r1, r2, r3, r4⟩ := run_app_full (P := P) m1.stlt hE.eq hE.few kn2 ky2 hsm ty3
  obtain ⟨u1, u2⟩ := m1.grow r2 Nw r3
  have hd12 : d2 ≠ d1 := fun e => by rw [e, Nat.beq_refl] at hne; cases hne
  have q1 : ((a.put (some d1) (.slice A rows.length rows.length)).put (some d2) v2).eval (.tmp d1) = .slice A rows.length rows.length := by
    rw [eval_put_ne _ hd12]
    exact eval_put _ g3 (Nat.le_of_ble_eq_true h1)
  have q2 : ((a.put (some d1) (.slice A rows.length rows.length)).put (some d2) v2).eval (.tmp d2) = v2 := eval_put _ s2 (Nat.le_of_ble_eq_true h2)
  refine upon_of (E := E) (R := fun x' h' => x' = .sl sz (rows ++ new) none ∧ h' = h2') (G := G2) (w := w2) ?_ ?_
  · simp only [execOp, resolve, invoke, builtin, Sem.run_bind, Sem.run_pure, Result.andThen_ok, List.map_toArray, List.map_cons, List.map_nil, q1, q2, r1]
    exact ⟨_, _, _, ⟨rfl, rfl⟩, u1, u2, rep_fro _ _ r4⟩
  rintro v3 w3 ⟨x3, h3', G3, ⟨rfl, rfl⟩, n1, n2, n3⟩
  obtain ⟨o1, o2, o3⟩ := t1.put (d := some d3) (x := .sl sz (rows ++ new) none) n2 t2 h3 n3
  apply hK3
  exact h E _ w3 ⟨G3, n1, o1, o2, o3.trans (t3.trans (s3.trans g4)), g5⟩
theorem Psplit (s : Str) (hs : s.size ≤ 60000) : AFn Try.prog 26 [.v (.string s)] (fun r => r = .tup [.sl 1 ((splS s).map strA) none, .v (.bool (hdL s)), .v (.bool (lsL s))]) := by
  intro w St bl vs hr hv
  have hbl : bl = [] := by have := hr.bxlen; simpa using this
  subst hbl
  simp only [repL, rep] at hv
  obtain ⟨z, zs, rfl, rfl, rfl⟩ := hv
  refine (PSplit_cap s w hs).mono ?_
  rintro e w' ⟨v, ss, rfl, hv, hp, hB, A, c, rfl, hc⟩
  obtain rfl := splS_of (ps := ss) hp
  obtain ⟨k1, k2⟩ := hr.grow hB (fun b _ => Fresh w w' b) (fun b _ hb => hb)
  refine ⟨_, _, _, _, ⟨rfl, rfl, rfl⟩, k1, k2, ?_⟩
  simp only [rep, repL]
  refine ⟨_, rfl, _, _, rfl, ?_, _, _, rfl, rfl, _, _, rfl, rfl, rfl⟩
  obtain ⟨A', c', h1, h2, h3, h4⟩ := hv
  injection h1 with h1 _ h1c
  subst h1 h1c
  simp only [fro]
  refine ⟨trivial, A, c, by rw [List.length_map], by rw [List.length_map]; exact h2, hc, ?_⟩
  by_cases h0 : (splS s).length = 0
  · exact .inl (by rw [List.eq_nil_of_length_eq_zero h0]; rfl)
  · obtain ⟨b, off, rfl, hb, hcell⟩ := h4 (by omega)
    refine .inr ⟨b, off, rfl, froR_of fun i r hi => ?_⟩
    rw [List.getElem?_map] at hi
    cases hy : (splS s)[i]? with
    | none => rw [hy] at hi; cases hi
    | some x =>
      rw [hy] at hi
      injection hi with hi
      subst hi
      refine ⟨rfl, froC_of fun j av hj => ?_⟩
      match j, hj with
      | 0, hj =>
        injection hj with hj
        subst hj
        exact ⟨.inr hb, .string x, hcell i x 0 hy (by omega), rfl, by simp only [fro]⟩
      | j + 1, hj => simp [strA] at hj
end Go.Proofs.Ytaidkbnbfnaihaa
namespace Go.Proofs.Ytaidkbnbfnaihaa
open Go.RowKit

theorem Pname (s : Str) : AFn Try.prog 56 [.v (.string s)] (fun r => r = .v (.bool (nameL s))) := by
  rw [nameL_eq]
  exact afn_of (us := [.string s]) fun w => PName_any s w
end Go.Proofs.Ytaidkbnbfnaihaa
namespace Go.Proofs.Ytaidkbnbfnaihaa
open Go.RowKit

def dirE (f : Fls) (a : Fil) : Int := match nodeL f a with
  | none => 2
  | some n => if n.kind = 2 then 0 else 20
def entP (f : Fls) (a : Fil) (name : Str) : Fil × Bool := match nodeL f a with
  | none => ((0, 0), false)
  | some n => match n.entries.find? (fun e : Ent => decide (e.1 = name)) with
    | none => ((0, 0), false)
    | some e => ((a.1, e.2), true)
theorem lkE_no {f : Fls} {a : Fil} {name : Str} (h : ¬ dirE f a = 0) : lookL f a name = ((0, 0), dirE f a) := by
  unfold dirE at h ⊢
  unfold lookL
  cases hn : nodeL f a with
  | none => rfl
  | some n =>
    simp only [hn] at h ⊢
    by_cases hk : n.kind = 2
    · rw [if_pos hk] at h; exact absurd rfl h
    · rw [if_neg hk, if_neg hk]
theorem lkE_two {f : Fls} {a : Fil} {name : Str} (h : dirE f a = 0) (h2 : (entP f a name).2 = false) : lookL f a name = ((0, 0), 2) := by
  unfold dirE at h
  unfold entP at h2
  unfold lookL
  cases hn : nodeL f a with
  | none => rfl
  | some n =>
    simp only [hn] at h h2 ⊢
    by_cases hk : n.kind = 2
    · rw [if_pos hk]
      cases hf : n.entries.find? (fun e : Ent => decide (e.1 = name)) with
      | none => rfl
      | some e => rw [hf] at h2; cases h2
    · rw [if_neg hk] at h; exact absurd h (by decide)
theorem lkE_yes {f : Fls} {a : Fil} {name : Str} (h : dirE f a = 0) (h2 : (entP f a name).2 = true) : lookL f a name = ((entP f a name).1, 0) := by
  unfold dirE at h
  unfold entP at h2 ⊢
  unfold lookL
  cases hn : nodeL f a with
  | none => rw [hn] at h2; cases h2
  | some n =>
    simp only [hn] at h h2 ⊢
    by_cases hk : n.kind = 2
    · rw [if_pos hk]
      cases hf : n.entries.find? (fun e : Ent => decide (e.1 = name)) with
      | none => rw [hf] at h2; cases h2
      | some e => rfl
    · rw [if_neg hk] at h; exact absurd h (by decide)
def wkA (s : Spc) (fl : Bool) (w : Wk) : List AV := [.sl 2 (s.files.map dvcA) none, .sl 3 (s.mounts.map mntA) none, .sl 1 (w.ps.map strA) none, .v (.int .i64 w.at_.1), .v (.int .i64 w.at_.2), .v (.int .i64 w.dir.1), .v (.int .i64 w.dir.2), .v (.string w.name), .v (.bool w.missing), .v (.bool fl), .v (.int .i64 (w.links : Int))]
theorem PjoinT (d m : Str) (hd : d.size ≤ 1000000) (hm : m.size ≤ 1000000) : AFn Try.prog 60 [.v (.string d), .v (.string m)] (fun r => r = .v (.string (joinS d m))) :=
  afn_of (us := [.string d, .string m]) fun w => (join_o d m w hd hm).mono fun e w' h => by
    obtain ⟨h1, rfl⟩ := h
    exact ⟨h1, Below.refl _ _⟩
theorem PhasP (t : Str) : AFn Try.prog 51 [.v (.string t), .v (.string ⟨#[47]⟩)] (fun r => r = .v (.bool (hdL t))) :=
  afn_of (us := [.string t, .string ⟨#[47]⟩]) fun w => (Try.strings_HasPrefix t ⟨#[47]⟩ w).mono fun e w' h => by
    obtain ⟨h1, rfl⟩ := h
    refine ⟨?_, Below.refl _ _⟩
    rw [h1]
    unfold hdL
    rw [← hasPrefix_slash]
section
set_option maxRecDepth 10000
set_option maxHeartbeats 1000000
theorem PdirF (f : Fls) (a : Fil) (hf : FlsB f) : AFn Try.prog 79 [.agg (flsA f), .agg (filA a)] (fun r => r = .v (.int .i64 (dirE f a))) := by
  refine enter Try.func79 rfl rfl rfl rfl rfl 0 rfl ?_
  refine w_ (b_ (h:=b_ (h:=a_ (h:=e_ (w_ (l_ (h:=l_ (h:=?_))))))))
  refine al_p rfl (q_call (Pfind f a hf) ?_)
  rintro r (⟨e, rfl⟩ | ⟨n, e, rfl⟩)
  · skip
    refine a_ (h:=e_ (q_ (aw_block (w_ (m_ (h:=?_))))))
    first | refine al_p rfl (st_eqPnil (by kernel_rfl) rfl rfl ?_) | refine al_p rfl (st_eqPfp (by kernel_rfl) rfl rfl ?_)
    refine a_ (h:=e_ (?_))
    refine aw_cond rfl (fun hb1 => ?_) (fun hb1 => ?_)
    · have hc1 := bp hb1
      refine w_ (a_ (h:=e_ (aw_ret (x_blockR (x_thenR (?_))))))
      refine e_ret ?_
      rw [show dirE f a = 2 by simp only [dirE, e]]
      rfl
    · have hc1 := bp hb1
      exfalso; first | contradiction | omega
  · skip
    refine a_ (h:=e_ (q_ (aw_block (w_ (m_ (h:=?_))))))
    first | refine al_p rfl (st_eqPnil (by kernel_rfl) rfl rfl ?_) | refine al_p rfl (st_eqPfp (by kernel_rfl) rfl rfl ?_)
    refine a_ (h:=e_ (?_))
    refine aw_cond rfl (fun hb2 => ?_) (fun hb2 => ?_)
    · have hc2 := bp hb2
      exfalso; first | contradiction | omega
    · have hc2 := bp hb2
      refine w_ (m_ (h:=k_ (h:=f_ (h:=l_ (h:=nq_ (h:=a_ (h:=e_ (?_))))))))
      refine aw_cond rfl (fun hb3 => ?_) (fun hb3 => ?_)
      · have hc3 := bp hb3
        refine w_ (a_ (h:=e_ (aw_ret (x_blockR (x_thenR (?_))))))
        refine e_ret ?_
        rw [show dirE f a = 20 by simp only [dirE, e]; exact if_neg hc3]
        rfl
      · have hc3 := bp hb3
        refine aw_skip (x_blockN (t_ (w_ (a_ (h:=e_ (aw_ret (?_)))))))
        refine e_ret ?_
        rw [show dirE f a = 0 by simp only [dirE, e]; exact if_pos hc3]
        rfl

theorem Pentry (f : Fls) (a : Fil) (name : Str) (hf : FlsB f) : AFn Try.prog 80 [.agg (flsA f), .agg (filA a), .v (.string name)] (fun r => r = .tup [.agg (filA (entP f a name).1), .v (.bool (entP f a name).2)]) := by
  have hen := nodG_ents hf a
  refine enter Try.func80 rfl rfl rfl rfl rfl 0 rfl ?_
  refine w_ (b_ (h:=b_ (h:=al_ (h:=a_ (h:=e_ (w_ (l_ (h:=l_ (h:=?_)))))))))
  refine al_p rfl (q_call (Pfind f a hf) ?_)
  rintro r (⟨e, rfl⟩ | ⟨n, e, rfl⟩)
  · skip
    refine a_ (h:=e_ (q_ (w_ (m_ (h:=?_)))))
    first | refine al_p rfl (st_eqPnil (by kernel_rfl) rfl rfl ?_) | refine al_p rfl (st_eqPfp (by kernel_rfl) rfl rfl ?_)
    refine e_ (?_)
    refine aw_cond rfl (fun hb1 => ?_) (fun hb1 => ?_)
    · have hc1 := bp hb1
      refine w_ (bd_ (h:=s_ (h:=a_ (h:=e_ (aw_ret (x_thenR (?_)))))))
      refine e_ret ?_
      rw [show entP f a name = ((0, 0), false) by simp only [entP, e]]
      rfl
    · have hc1 := bp hb1
      exfalso; first | contradiction | omega
  · have hnl : n.entries.length ≤ 1000 := by simpa [nodG, e] using hen
    refine a_ (h:=e_ (q_ (w_ (m_ (h:=?_)))))
    first | refine al_p rfl (st_eqPnil (by kernel_rfl) rfl rfl ?_) | refine al_p rfl (st_eqPfp (by kernel_rfl) rfl rfl ?_)
    refine e_ (?_)
    refine aw_cond rfl (fun hb2 => ?_) (fun hb2 => ?_)
    · have hc2 := bp hb2
      exfalso; first | contradiction | omega
    · have hc2 := bp hb2
      refine kt_ (q_ (w_ (m_ (h:=k_ (h:=f_ (h:=l_ (h:=n_ (h:=m_ (h:=e_ (aw_block (?_)))))))))))
      refine aw_loopW (fun m t => ∃ j : Nat, j ≤ n.entries.length ∧ m = n.entries.length - j ∧ (∀ i y, i < j → n.entries[i]? = some y → decide (y.1 = name) = false) ∧ t = ⟨look [(2, .v (.string name)), (4, .bp 1 0), (6, .bp 2 0), (20, .sl 2 (n.entries.map entA) none), (21, .v (.int .i64 ((n.entries.map entA).length : Int))), (22, .v (.int .i64 (j : Int)))], ⟨[flsA f, filA a, [.v (.int .i64 0), .v (.int .i64 0)]], []⟩⟩) (n.entries.length) ((wk 3 0)) (⟨0, by omega, rfl, fun i y hi => by omega, rfl⟩) ?_
      rintro m t ⟨j, hj, rfl, ha, rfl⟩
      refine w_ (lt_ (h:=e_ (q_ (?_))))
      refine aw_cond rfl (fun hb3 => ?_) (fun hb3 => ?_)
      · have hc3 := bp hb3
        obtain ⟨hlt, x, hy, hrow, -⟩ := row_at entA hc3
        refine kt_ (q_ (aw_block (w_ (i_ (h:=l_ (h:=al_ (h:=s_ (h:=e_ (w_ (f_ (h:=l_ (h:=m_ (h:=eq_ (h:=e_ (?_)))))))))))))))
        refine aw_cond rfl (fun hb4 => ?_) (fun hb4 => ?_)
        · have hc4 := bp hb4
          refine w_ (f_ (h:=l_ (h:=f_ (h:=l_ (h:=bd_ (h:=s_ (h:=a_ (h:=e_ (aw_ret (x_blockR (x_thenR (x_thenR (x_blockR (x_thenR (?_)))))))))))))))
          refine e_ret ?_
          rw [show entP f a name = ((a.1, x.2), true) by simp only [entP, e]; rw [find_at hy (by simpa using hc4) ha]]
          rfl
        · have hc4 := bp hb4
          refine aw_skip (x_blockN (t_ (aw_region (ad_ (h:=m_ (h:=al_nil (?_)))))))
          refine x_then ?_
          refine ⟨_, _, ?_, ⟨j + 1, by omega, rfl, upto_snoc hy ha (by simpa using hc4), rfl⟩, (wk 3 0)⟩
          omega
      · have hc3 := bp hb3
        have e3 := row_no entA hj hc3
        subst e3
        refine aw_exit (x_thenE (x_thenE (ABlock_out (t_ (w_ (bd_ (h:=s_ (h:=a_ (h:=e_ (aw_ret (?_)))))))))))
        refine e_ret ?_
        rw [show entP f a name = ((0, 0), false) by simp only [entP, e]; rw [find_no ha]]
        rfl

theorem Plook (f : Fls) (a : Fil) (name : Str) (hf : FlsB f) : AFn Try.prog 57 [.agg (flsA f), .agg (filA a), .v (.string name)] (fun r => r = .tup [.agg (filA (lookL f a name).1), .v (.int .i64 (lookL f a name).2)]) := by
  refine enter Try.func57 rfl rfl rfl rfl rfl 0 rfl ?_
  refine w_ (b_ (h:=b_ (h:=al_ (h:=a_ (h:=e_ (q_ (w_ (l_ (h:=l_ (h:=?_))))))))))
  refine al_p rfl (q_call (PdirF f a hf) ?_)
  rintro r rfl
  refine a_ (h:=e_ (w_ (m_ (h:=nq_ (h:=e_ (?_))))))
  refine aw_cond rfl (fun hb1 => ?_) (fun hb1 => ?_)
  · have hc1 := bp hb1
    refine w_ (bd_ (h:=m_ (h:=s_ (h:=a_ (h:=e_ (aw_ret (x_thenR (?_))))))))
    refine e_ret ?_
    rw [lkE_no hc1]
    rfl
  · have hc1 := bp hb1
    refine kt_ (w_ (l_ (h:=l_ (h:=m_ (h:=?_)))))
    refine al_p rfl (q_call (Pentry f a name hf) ?_)
    rintro r rfl
    refine m_ (h:=x_ (h:=x_ (h:=al_ (h:=s_ (h:=a_ (h:=e_ (q_ (w_ (m_ (h:=nt_ (h:=e_ (?_))))))))))))
    refine aw_cond rfl (fun hb2 => ?_) (fun hb2 => ?_)
    · have hc2 := bp hb2
      refine w_ (bd_ (h:=s_ (h:=a_ (h:=e_ (aw_ret (x_thenR (?_)))))))
      refine e_ret ?_
      rw [lkE_two hc1 (by simpa using hc2)]
      rfl
    · have hc2 := bp hb2
      refine kt_ (w_ (l_ (h:=s_ (h:=a_ (h:=e_ (aw_ret (?_)))))))
      refine e_ret ?_
      rw [lkE_yes hc1 (by simpa using hc2)]
      rfl

theorem Proot (s : Spc) (hs : SpcB s) : AFn Try.prog 27 [.agg (spcA s)] (fun r => r = .agg (filA (rootD s))) := by
  refine enter Try.func27 rfl rfl rfl rfl rfl 0 rfl ?_
  refine w_ (b_ (h:=al_ (h:=e_ (w_ (l_ (h:=bd_ (h:=?_)))))))
  refine al_p rfl (q_call (Pdown s (0, 1) hs) ?_)
  rintro r rfl
  refine s_ (h:=e_ (aw_ret (?_)))
  refine e_ret ?_
  rfl

theorem PdirW (s : Spc) (fl : Bool) (w : Wk) (hs : SpcB s) : AFn Try.prog 28 [.fp (wkA s fl w)] (fun r => r = .v (.bool (dirL s.files w.at_))) := by
  have hde := dirL_eq s.files w.at_
  refine enter Try.func28 rfl rfl rfl rfl rfl 0 rfl ?_
  refine w_ (a_ (h:=e_ (q_ (yk_ ([]) 16 (h:=dm_ 0 (h:=dk_ 1 (h:=df_ 2 (h:=df_ 3 (h:=dl_ 4 (h:=dm_ 5 (h:=dk_ 6 (h:=df_ 7 (h:=dl_ 8 (h:=?_))))))))))))))
  refine c2_ 9 13 rfl rfl ?_ ?_
  · refine q_call (Pnode s.files w.at_ hs.files) ?_
    rintro r rfl
    refine o_ (h:=?_)
    refine dm_ 10 (h:=dx_ 11 (h:=dx_ 12 (h:=?_)))
    refine c_ 13 rfl (s_alloc (by repeat constructor) ?_)
    refine o_ (h:=?_)
    refine c0_ 14 rfl (s_store rfl rfl rfl rfl rfl rfl (by repeat constructor) (by repeat constructor) ?_)
    refine o_ (h:=da_ 15 (h:=z_ (h:=t_ (w_ (m_ (h:=m_ (h:=?_)))))))
    refine al_gs true rfl rfl (fun hb1 => ?_) (fun hb1 => ?_)
    · have hc1 := bp hb1
      refine f_ (h:=l_ (h:=eq_ (h:=pt_ (h:=a_ (h:=e_ (aw_ret (?_)))))))
      refine e_ret ?_
      first | (rw [hde, hb1]; rfl) | (rw [hde, hb2]; rfl)
    · have hc1 := bp hb1
      refine g0_ (h:=g0_ (h:=g0_ (h:=pf_ (h:=a_ (h:=e_ (aw_ret (?_)))))))
      refine e_ret ?_
      first | (rw [hde, hb1]; rfl) | (rw [hde, hb2]; rfl)
  · refine s_alloc (by repeat constructor) ?_
    refine o_ (h:=?_)
    refine c_ 9 rfl (q_call (Pnode s.files w.at_ hs.files) ?_)
    rintro r rfl
    refine o_ (h:=dm_ 10 (h:=dx_ 11 (h:=dx_ 12 (h:=?_))))
    refine c0_ 14 rfl (s_store rfl rfl rfl rfl rfl rfl (by repeat constructor) (by repeat constructor) ?_)
    refine o_ (h:=da_ 15 (h:=z_ (h:=t_ (w_ (m_ (h:=m_ (h:=?_)))))))
    refine al_gs true rfl rfl (fun hb2 => ?_) (fun hb2 => ?_)
    · have hc2 := bp hb2
      refine f_ (h:=l_ (h:=eq_ (h:=pt_ (h:=a_ (h:=e_ (aw_ret (?_)))))))
      refine e_ret ?_
      first | (rw [hde, hb1]; rfl) | (rw [hde, hb2]; rfl)
    · have hc2 := bp hb2
      refine g0_ (h:=g0_ (h:=g0_ (h:=pf_ (h:=a_ (h:=e_ (aw_ret (?_)))))))
      refine e_ret ?_
      first | (rw [hde, hb1]; rfl) | (rw [hde, hb2]; rfl)

theorem Pfound (s : Spc) (fl sl : Bool) (w : Wk) (hs : SpcN s) (hw : ∀ a, (whereP s a).1.size ≤ 1000) (hn : w.name.size ≤ 1000000) : AFn Try.prog 30 [.fp (wkA s fl w), .v (.bool sl)] (fun r => r = .agg (fndA (fndW s sl w))) := by
  refine enter Try.func30 rfl rfl rfl rfl rfl 0 rfl ?_
  refine w_ (al_ (h:=e_ (q_ (yk_ ([(0, fndA fnd0)]) 17 (h:=dm_ 0 (h:=dk_ 1 (h:=df_ 2 (h:=dl_ 3 (h:=dm_ 4 (h:=dk_ 5 (h:=df_ 6 (h:=dl_ 7 (h:=dm_ 8 (h:=dk_ 9 (h:=df_ 10 (h:=dl_ 11 (h:=dnt_ 12 (h:=dm_ 13 (h:=dbd_ 14 (h:=?_))))))))))))))))))))
  refine c_ 15 rfl (s_alloc (by repeat constructor) ?_)
  refine o_ (h:=?_)
  refine c0_ 16 rfl (s_store rfl rfl rfl rfl rfl rfl (by repeat constructor) (by repeat constructor) ?_)
  refine o_ (h:=z_ (h:=t_ (q_ (w_ (m_ (h:=k_ (h:=f_ (h:=l_ (h:=eq_ (h:=e_ (?_)))))))))))
  refine aw_cond rfl (fun hb1 => ?_) (fun hb1 => ?_)
  · have hc1 := bp hb1
    refine q_ (yk_ ([(0, fndA fnd0)]) 12 (h:=dm_ 0 (h:=dk_ 1 (h:=df_ 2 (h:=dl_ 3 (h:=dm_ 4 (h:=dk_ 5 (h:=df_ 6 (h:=dl_ 7 (h:=df_ 8 (h:=?_)))))))))))
    refine c0_ 9 rfl (s_store rfl rfl rfl rfl rfl rfl (by repeat constructor) (by repeat constructor) ?_)
    refine o_ (h:=df_ 10 (h:=?_))
    refine c0_ 11 rfl (s_store rfl rfl rfl rfl rfl rfl (by repeat constructor) (by repeat constructor) ?_)
    refine o_ (h:=z_ (h:=t_ (q_ (yk_ ([(0, fndA fnd0)]) 12 (h:=dm_ 0 (h:=dk_ 1 (h:=df_ 2 (h:=dl_ 3 (h:=df_ 4 (h:=?_))))))))))
    refine c_ 5 rfl (st_loadBN rfl rfl rfl ?_)
    refine o_ (h:=?_)
    refine c_ 6 rfl (q_call (Pwhere hs w.at_) ?_)
    rintro r rfl
    refine o_ (h:=dm_ 7 (h:=dx_ 8 (h:=dx_ 9 (h:=df_ 10 (h:=?_)))))
    refine c0_ 11 rfl (s_store rfl rfl rfl rfl rfl rfl (by repeat constructor) (by repeat constructor) ?_)
    refine o_ (h:=z_ (h:=t_ (w_ (l_ (h:=s_ (h:=e_ (aw_ret (x_thenR (?_)))))))))
    refine e_ret ?_
    rw [show fndW s sl w = ⟨w.at_, ⟨#[]⟩, w.at_, !w.missing, sl, (whereP s w.at_).1⟩ from if_pos hc1, hc1]
    rfl
  · have hc1 := bp hb1
    refine kt_ (q_ (w_ (f_ (h:=l_ (h:=e_ (?_))))))
    refine aw_cond rfl (fun hb2 => ?_) (fun hb2 => ?_)
    · have hc2 := bp hb2
      refine aw_region (m_ (h:=k_ (h:=f_ (h:=l_ (h:=f_ (h:=s_ (h:=e_ (q_ (q_ (yr_ 12 (h:=dm_ 0 (h:=dk_ 1 (h:=df_ 2 (h:=dl_ 3 (h:=df_ 4 (h:=dl_ 5 (h:=?_)))))))))))))))))
      refine c_ 6 rfl (q_call (Pwhere hs w.dir) ?_)
      rintro r rfl
      refine o_ (h:=dm_ 7 (h:=dx_ 8 (h:=dx_ 9 (h:=da_ 10 (h:=da_ 11 (h:=z_ (h:=t_ (w_ (m_ (h:=e_ (?_)))))))))))
      refine aw_cond rfl (fun hb3 => ?_) (fun hb3 => ?_)
      · have hc3 := bp hb3
        refine aw_region (m_ (h:=f_ (h:=l_ (h:=?_))))
        refine al_p rfl (q_call (PjoinT (whereP s w.dir).1 w.name (by have := hw w.dir; omega) hn) ?_)
        rintro r rfl
        refine f_ (h:=s_ (h:=e_ (w_ (l_ (h:=s_ (h:=e_ (aw_ret (?_))))))))
        refine e_ret ?_
        rw [show fndW s sl w = ⟨w.dir, w.name, w.at_, !w.missing, sl, joinS (whereP s w.dir).1 w.name⟩ by unfold fndW; rw [if_neg hc1, if_neg (by simp [hc2]), if_pos hc3]]
        rfl
      · have hc3 := bp hb3
        refine kt_ (w_ (l_ (h:=s_ (h:=e_ (aw_ret (?_))))))
        refine e_ret ?_
        rw [show fndW s sl w = ⟨w.dir, w.name, w.at_, !w.missing, sl, ⟨#[]⟩⟩ by unfold fndW; rw [if_neg hc1, if_neg (by simp [hc2]), if_neg (by simp [hc3])]]
        rfl
    · have hc2 := bp hb2
      refine kt_ (q_ (q_ (yr_ 12 (h:=dm_ 0 (h:=dk_ 1 (h:=df_ 2 (h:=dl_ 3 (h:=df_ 4 (h:=dl_ 5 (h:=?_))))))))))
      refine c_ 6 rfl (q_call (Pwhere hs w.dir) ?_)
      rintro r rfl
      refine o_ (h:=dm_ 7 (h:=dx_ 8 (h:=dx_ 9 (h:=da_ 10 (h:=da_ 11 (h:=z_ (h:=t_ (w_ (m_ (h:=e_ (?_)))))))))))
      refine aw_cond rfl (fun hb4 => ?_) (fun hb4 => ?_)
      · have hc4 := bp hb4
        refine aw_region (m_ (h:=f_ (h:=l_ (h:=?_))))
        refine al_p rfl (q_call (PjoinT (whereP s w.dir).1 w.name (by have := hw w.dir; omega) hn) ?_)
        rintro r rfl
        refine f_ (h:=s_ (h:=e_ (w_ (l_ (h:=s_ (h:=e_ (aw_ret (?_))))))))
        refine e_ret ?_
        rw [show fndW s sl w = ⟨w.dir, w.name, (0, 0), !w.missing, sl, joinS (whereP s w.dir).1 w.name⟩ by unfold fndW; rw [if_neg hc1, if_pos (by simp [hc2]), if_pos hc4]]
        rfl
      · have hc4 := bp hb4
        refine kt_ (w_ (l_ (h:=s_ (h:=e_ (aw_ret (?_))))))
        refine e_ret ?_
        rw [show fndW s sl w = ⟨w.dir, w.name, (0, 0), !w.missing, sl, ⟨#[]⟩⟩ by unfold fndW; rw [if_neg hc1, if_pos (by simp [hc2]), if_neg (by simp [hc4])]]
        rfl

end
end Go.Proofs.Ytaidkbnbfnaihaa
