/-
  Part 13 of the proof of LookupDotsP: what the statement's proof uses of the texts in wip/tpl.
-/
import Derived.Test.YtaidkbnbfnaihaaShelf
import Derived.Laws.RangeAny
import Derived.Deep.LoopGhost
import Derived.Lib.OthersKept
import Derived.Shelf.Abstract
import Derived.Shelf.RegionOpen
import Derived.OwnWalkIn
import Derived.TacticsInMore
import Derived.LoopNIn
import Derived.LoopIn
import Derived.Maps.AppendAt
import Derived.OwnWalk
import Derived.Test.YtaidkbnbfnaihaaLd12
namespace Go.Proofs.Ytaidkbnbfnaihaa

section
variable {s : Spc} (hv : SpcV s)
include hv
theorem node_in {q : Nat} {d : Dvc} {p : Nod} {x : Int} (hq : s.files[q]? = some d) (hp : p ∈ d.nodes) (hx : p.ino = x) : nodeL s.files ((q : Int), x) = some p :=
  node_asc (a := ((q : Int), x)) rfl hq (hv.files.vd d (List.mem_of_getElem? hq)).asc hp hx
theorem step_dir {a b : Fil} (h : dirL s.files a = true) (hs : stepR s a = some b) : dirL s.files b = true := by
  obtain ⟨q, d, m, h1, h2, h3, h4, h5, h6⟩ := dir_node (f := s.files) (a := a) (by rw [h]; simp)
  have hd := hv.files.vd d (List.mem_of_getElem? h2)
  unfold stepR at hs
  by_cases h0 : a.2 ≠ 1
  · rw [if_pos h0] at hs
    injection hs with hs
    subst hs
    rw [h5, h1]
    obtain ⟨p, hp, hpi, e, he, _⟩ := hd.par m h3 (by rw [h4]; exact h0) h6
    have hk : p.kind = 2 := by
      by_cases hk : p.kind = 2
      · exact hk
      · have := (hd.leaf p hp hk).2
        rw [this] at he; cases he
    exact (dir_kind (node_in hv h2 hp hpi)).2 hk
  · rw [if_neg h0] at hs
    obtain ⟨m', hm', _, e⟩ := on_mem hs
    obtain ⟨i, hi⟩ := List.getElem?_of_mem hm'
    rw [← e]
    exact (hv.mnt i m' hi).dir
theorem step_mtd {a b : Fil} (h : mtdL s a.1 = true) (hs : stepR s a = some b) : mtdL s b.1 = true := by
  unfold stepR at hs
  by_cases h0 : a.2 ≠ 1
  · rw [if_pos h0] at hs
    injection hs with hs
    subst hs
    exact h
  · rw [if_neg h0] at hs
    obtain ⟨m', hm', _, e⟩ := on_mem hs
    obtain ⟨i, hi⟩ := List.getElem?_of_mem hm'
    rw [← e]
    exact mtd_mono (f := s.files) (hv.mnt i m' hi).there (fun x hx => List.mem_of_mem_take hx)
theorem on_zero : onL s 0 = none := by
  cases h : onL s 0 with
  | none => rfl
  | some on =>
    obtain ⟨m', hm', e, _⟩ := on_mem h
    obtain ⟨i, hi⟩ := List.getElem?_of_mem hm'
    have := (hv.mnt i m' hi).dev1
    omega
theorem step_some {a : Fil} (h : mtdL s a.1 = true) (h0 : a ≠ (0, 1)) : ∃ b, stepR s a = some b := by
  have _ := hv
  unfold stepR
  by_cases h1 : a.2 ≠ 1
  · exact ⟨_, if_pos h1⟩
  · rw [if_neg h1]
    have h2 : a.1 ≠ 0 := fun e => h0 (Prod.ext e (by simpa using h1))
    unfold mtdL at h
    rw [decide_eq_false h2, Bool.or_false] at h
    cases ho : onL s a.1 with
    | none => rw [ho] at h; cases h
    | some b => exact ⟨b, rfl⟩
theorem chain_cons {a : Fil} (h : dirL s.files a = true) : chainP s (mostL s.files) a = a :: (match stepR s a with
    | none => []
    | some b => chainP s (mostL s.files) b) := by
  have hd : ¬ dirL s.files a = false := by rw [h]; simp
  have he := ends_most hv a
  cases hm : mostL s.files with
  | zero => rw [hm] at he; exact absurd he hd
  | succ m =>
    rw [hm] at he
    rw [chain_yes hd, step_eq hv hd]
    cases hs : stepR s a with
    | none => rfl
    | some b =>
      simp only
      have h1 := he.resolve_left hd b hs
      have h2 := ends_most hv b
      rw [hm] at h2
      rw [chain_irr hv m (m + 1) b h1 h2]
theorem root_in {a : Fil} (h : dirL s.files a = true) (hm : mtdL s a.1 = true) : (0, 1) ∈ chainP s (mostL s.files) a := by
  have key : ∀ (k : Nat) (a : Fil), ends s k a → dirL s.files a = true → mtdL s a.1 = true → (0, 1) ∈ chainP s (mostL s.files) a := by
    intro k
    induction k with
    | zero => intro a he h _; rw [show dirL s.files a = false from he] at h; cases h
    | succ k ih =>
      intro a he h hm
      by_cases h0 : a = (0, 1)
      · rw [chain_cons hv h, h0]; exact List.mem_cons_self ..
      · obtain ⟨b, hb⟩ := step_some hv hm h0
        rw [chain_cons hv h, hb]
        exact List.mem_cons_of_mem _ (ih b (he.resolve_left (by rw [h]; simp) b hb) (step_dir hv h hb) (step_mtd hv hm hb))
  exact key _ a (ends_most hv a) h hm
theorem where_no {a : Fil} (h : ¬(dirL s.files a = true ∧ mtdL s a.1 = true)) : whereP s a = (⟨#[]⟩, false) := by
  have _ := hv
  unfold whereP
  rw [if_neg fun c => h ⟨c.1, c.2.1⟩]
theorem where_yes {a : Fil} (h : dirL s.files a = true) (hm : mtdL s a.1 = true) : whereP s a = (pathW s ((chainP s (mostL s.files) a).takeWhile fun x => decide (x ≠ (0, 1))), true) := by
  unfold whereP
  rw [if_pos ⟨h, hm, root_in hv h hm⟩]
def upF (s : Spc) : Nat → Fil → Fil
  | 0, a => a
  | k + 1, a => if dirL s.files a = true then (if a.2 ≠ 1 then (a.1, (nodG s.files a).parent) else match onL s a.1 with
    | some on => upF s k on
    | none => a) else (0, 0)
theorem mnt_one {i j : Nat} {m m' : Mnt} (hi : s.mounts[i]? = some m) (hj : s.mounts[j]? = some m') (h : m.1 = m'.1) : i = j := by
  have key : ∀ {i j : Nat} {m m' : Mnt}, s.mounts[i]? = some m → s.mounts[j]? = some m' → m.1 = m'.1 → ¬ i < j := by
    intro i j m m' hi hj h hlt
    have hf := (hv.mnt j m' hj).fresh
    have hm : m ∈ s.mounts.take j := by
      refine List.mem_of_getElem? (i := i) ?_
      rw [List.getElem?_take, if_pos hlt]; exact hi
    have := mtd_mem (s := ⟨s.files, s.mounts.take j⟩) hm
    rw [h, hf] at this
    cases this
  have h1 := key hi hj h
  have h2 := key hj hi h.symm
  omega
omit hv in
theorem cov_mem {a : Fil} {d : Int} (h : covL s a = some d) : ∃ i : Nat, s.mounts[i]? = some ((d, a) : Mnt) := by
  unfold covL at h
  cases hf : s.mounts.find? fun m : Mnt => decide (m.2 = a) with
  | none => rw [hf] at h; cases h
  | some m =>
    rw [hf] at h
    injection h with h
    have h2 := List.find?_some hf
    simp only [decide_eq_true_eq] at h2
    obtain ⟨i, hi⟩ := List.getElem?_of_mem (List.mem_of_find?_eq_some hf)
    exact ⟨i, by rw [hi, ← h, ← h2]⟩
omit hv in
theorem cov_none {a : Fil} (h : ∀ (i : Nat) (m : Mnt), s.mounts[i]? = some m → m.2 ≠ a) : covL s a = none := by
  cases hc : covL s a with
  | none => rfl
  | some d => obtain ⟨i, hi⟩ := cov_mem hc; exact absurd rfl (h i _ hi)
theorem down_end : ∀ (n : Nat) (a : Fil), (∀ (i : Nat) (m : Mnt), s.mounts[i]? = some m → m.2 = a → s.mounts.length ≤ i + n) → covL s (itD s n a) = none := by
  intro n
  induction n with
  | zero =>
    intro a h
    refine cov_none fun i m hi e => ?_
    have h1 := h i m hi e
    have h2 := (List.getElem?_eq_some_iff.1 hi).1
    omega
  | succ n ih =>
    intro a h
    cases hc : covL s a with
    | none => rw [itD_fix (by rw [hc]; rfl)]; exact hc
    | some d =>
      obtain ⟨i, hi⟩ := cov_mem hc
      rw [itD]
      refine ih _ fun j m hj e => ?_
      have he : stepD s a = (d, 1) := by unfold stepD; rw [hc]
      rw [he] at e
      have h1 := h i _ hi rfl
      have hth := (hv.mnt j m hj).there
      have hd1 := (hv.mnt i _ hi).dev1
      rw [e] at hth
      obtain ⟨m'', hm'', e2⟩ := mtd_of hth (by simp only at hd1 ⊢; omega)
      obtain ⟨k, hk⟩ := List.getElem?_of_mem hm''
      have hkj : k < j := by
        have := (List.getElem?_eq_some_iff.1 hk).1
        simp at this
        omega
      rw [List.getElem?_take, if_pos hkj] at hk
      have := mnt_one hv hk hi e2
      omega
theorem on_of {i : Nat} {m : Mnt} (hi : s.mounts[i]? = some m) : onL s m.1 = some m.2 := by
  have h1 : mtdL s m.1 = true := mtd_mem (List.mem_of_getElem? hi)
  have hd := (hv.mnt i m hi).dev1
  unfold mtdL at h1
  rw [decide_eq_false (by omega), Bool.or_false] at h1
  cases ho : onL s m.1 with
  | none => rw [ho] at h1; cases h1
  | some on =>
    obtain ⟨m', hm', e1, e2⟩ := on_mem ho
    obtain ⟨j, hj⟩ := List.getElem?_of_mem hm'
    have := mnt_one hv hj hi e1
    subst this
    rw [hi] at hj
    injection hj with hj
    rw [← e2, hj]
theorem seg {x : Fil} {dev : Int} (hc : covL s x = some dev) : ∀ (k : Nat) (y : Fil), ends s k y → dirL s.files y = true → y.1 = dev → ∃ t r, chainP s (mostL s.files) y = t ++ (dev, 1) :: x :: r := by
  intro k
  induction k with
  | zero => intro y he h _; rw [show dirL s.files y = false from he] at h; cases h
  | succ k ih =>
    intro y he h hy
    obtain ⟨i, hi⟩ := cov_mem hc
    by_cases h1 : y.2 = 1
    · have hs : stepR s y = some x := by
        unfold stepR
        rw [if_neg (by simpa using h1), hy]
        exact on_of hv hi
      obtain ⟨t, ht⟩ := chain_head hv (step_dir hv h hs)
      refine ⟨[], t, ?_⟩
      rw [chain_cons hv h, hs]
      simp only [List.nil_append]
      rw [ht, ← hy, ← h1]
    · have hs : stepR s y = some (y.1, (nodG s.files y).parent) := if_pos h1
      obtain ⟨t, r, ht⟩ := ih _ (he.resolve_left (by rw [h]; simp) _ hs) (step_dir hv h hs) hy
      refine ⟨y :: t, r, ?_⟩
      rw [chain_cons hv h, hs]
      simp only [List.cons_append]
      rw [ht]
def okAt (s : Spc) (L : List Fil) (i : Nat) : Bool := match L[i]? with
  | none => true
  | some x => match covL s x with
    | none => true
    | some dev => decide (0 < i) && decide (L[i - 1]? = some (dev, 1))
theorem sees_ok {a : Fil} {i : Nat} {x : Fil} (hi : (chainP s (mostL s.files) a)[i]? = some x) : okAt s (chainP s (mostL s.files) a) i = seesP s a x := by
  unfold okAt seesP
  simp only [hi]
  cases hc : covL s x with
  | none => rfl
  | some dev =>
    simp only
    rw [Bool.eq_iff_iff]
    simp only [Bool.and_eq_true, decide_eq_true_eq]
    constructor
    · rintro ⟨_, h2⟩
      exact ⟨_, List.mem_of_getElem? h2, rfl⟩
    · rintro ⟨y, hy, hyd⟩
      obtain ⟨t, r, ht⟩ := seg hv hc _ y (ends_most hv y) (within_dir hv hy) hyd
      obtain ⟨p, hp⟩ := most_suf hv hy
      have hL : chainP s (mostL s.files) a = (p ++ t) ++ (dev, 1) :: x :: r := by rw [← hp, ht, List.append_assoc]
      have hn := chain_nodup hv _ a (ends_most hv a)
      have hx : (chainP s (mostL s.files) a)[(p ++ t).length + 1]? = some x := by
        rw [hL, List.getElem?_append_right (by omega)]
        simp
      have hx0 : (chainP s (mostL s.files) a)[(p ++ t).length]? = some (dev, 1) := by
        rw [hL, List.getElem?_append_right (by omega)]
        simp
      have e : i = (p ++ t).length + 1 := by
        obtain ⟨h1, h2⟩ := List.getElem?_eq_some_iff.1 hi
        obtain ⟨h3, h4⟩ := List.getElem?_eq_some_iff.1 hx
        exact (List.getElem_inj hn).1 (h2.trans h4.symm)
      subst e
      exact ⟨by omega, hx0⟩
theorem vis_eq (a : Fil) : visP s a = ((whereP s a).2 && (List.range (chainP s (mostL s.files) a).length).all (okAt s (chainP s (mostL s.files) a))) := by
  unfold visP
  congr 1
  rw [Bool.eq_iff_iff, List.all_eq_true, List.all_eq_true]
  constructor
  · intro h i hi
    have hl := List.mem_range.1 hi
    rw [sees_ok hv (List.getElem?_eq_getElem hl)]
    exact h _ (List.getElem_mem hl)
  · intro h x hx
    obtain ⟨i, hi⟩ := List.getElem?_of_mem hx
    rw [← sees_ok hv hi]
    exact h i (List.mem_range.2 (List.getElem?_eq_some_iff.1 hi).1)
end
end Go.Proofs.Ytaidkbnbfnaihaa
namespace Go.Proofs.Ytaidkbnbfnaihaa
open Go.RowKit

theorem jn_size (d m : Str) : (joinS d m).size ≤ d.size + 1 + m.size := by
  unfold joinS
  split
  · rw [ByteArray.size_append]; omega
  · rw [ByteArray.size_append, ByteArray.size_append]
    show d.size + 1 + m.size ≤ _
    omega
theorem path_size {s : Spc} (hv : SpcV s) (pre : List Fil) : (pathW s pre).size ≤ 1 + 13 * pre.length := by
  have key : ∀ (l : List Str) (d : Str), (∀ x ∈ l, x.size ≤ 12) → (l.foldl joinS d).size ≤ d.size + 13 * l.length := by
    intro l
    induction l with
    | nil => intro d _; simp
    | cons x l ih =>
      intro d h
      have h1 := ih (joinS d x) fun y hy => h y (List.mem_cons_of_mem _ hy)
      have h2 := h x (List.mem_cons_self ..)
      have h3 := jn_size d x
      rw [List.foldl_cons, List.length_cons]
      omega
  have h := key (accW s pre).reverse ⟨#[47]⟩ (fun x hx => by
    rw [List.mem_reverse] at hx
    obtain ⟨y, _, rfl⟩ := List.mem_map.1 hx
    exact nmo_size hv.files y)
  have h2 : (accW s pre).length ≤ pre.length := by unfold accW; rw [List.length_map]; exact List.length_filter_le _ _
  rw [List.length_reverse] at h
  have : (⟨#[47]⟩ : Str).size = 1 := rfl
  unfold pathW
  omega
theorem where_size {s : Spc} (hv : SpcV s) (a : Fil) : (whereP s a).1.size ≤ 1000 := by
  unfold whereP
  split
  · have h3 := chainP_len' s (mostL s.files) a
    have h4 := most_le hv.files
    refine Nat.le_trans (path_size hv _) ?_
    refine Nat.le_trans (Nat.add_le_add_left (Nat.mul_le_mul_left 13 ((List.takeWhile_sublist _).length_le)) 1) ?_
    omega
  · exact Nat.zero_le _
end Go.Proofs.Ytaidkbnbfnaihaa
namespace Go.Proofs.Ytaidkbnbfnaihaa
open Go.RowKit

def strA (s : Str) : List AV := [.v (.string s)]
theorem st_sliceS {P : Program} {ev : Operand → Option AV} {h : AH} {R : AV → AH → Prop} {d : Option Tmp} {ty : TypeId} {pos : String} {af : Array Edge} {gd : Option (Nat × Bool)} {T : TypeId} {x lo hi : Operand} {s : ByteArray} {a k : Nat} {i j : Int} (hu : P.underlying T = some .string)
    (hx : ev x = some (.v (.string s))) (hl : ev lo = some (.v (.int .i64 i))) (hh : ev hi = some (.v (.int .i64 j))) (hi' : i = (a : Int)) (hj : j = (k : Int)) (h1 : a ≤ k) (h2 : k ≤ s.size) (hR : R (.v (.string (s.extract a k))) h) : AStep P ⟨d, .slice T x (some lo) (some hi) none, ty, pos, af, gd⟩ ev h R := by
  refine st_val (fun _ G w ec _ he => ?_) hR
  have k1 := he x (by simp [Op.operands]) _ hx
  have k2 := he lo (by simp [Op.operands]) _ hl
  have k3 := he hi (by simp [Op.operands]) _ hh
  simp only [rep] at k1 k2 k3
  subst hi' hj
  refine ⟨.string (s.extract a k), ?_, by simp only [rep]⟩
  simp [execOp, k1, k2, k3, Instr.sliceAt, Instr.slice, Instr.sliceBounds, Instr.sliceBound, asIntOf, run_underlying hu, h1, h2]
def hdL (s : Str) : Bool := decide (s.data.toList.head? = some 47)
def lsL (s : Str) : Bool := decide (s.data.toList.getLast? = some 47)
theorem hd_pos {s : Str} (h : 0 < s.size) : hdL s = decide (((s[0]'h).toNat : Int) = 47) := by
  unfold hdL
  rw [head_dec s h, Bool.eq_iff_iff]; simp
theorem ls_pos {s : Str} (h : 0 < s.size) : lsL s = decide (((s[s.size - 1]'(by omega)).toNat : Int) = 47) := by
  unfold lsL
  rw [last_dec s h, Bool.eq_iff_iff]; simp
theorem hd_nil {s : Str} (h : ¬ 0 < s.size) : hdL s = false := by
  have : s.data.toList = [] := List.eq_nil_of_length_eq_zero (by rw [← Lib.size_eq]; omega)
  unfold hdL
  rw [this]; rfl
theorem ls_nil {s : Str} (h : ¬ 0 < s.size) : lsL s = false := by
  have : s.data.toList = [] := List.eq_nil_of_length_eq_zero (by rw [← Lib.size_eq]; omega)
  unfold lsL
  rw [this]; rfl
theorem byte_at {s : Str} {k : Nat} (h : k < s.size) (h47 : ((s[k]'h).toNat : Int) = 47) : s.data.toList[k]? = some 47 := by
  rw [Lib.data_getElem? s k h]
  congr 1
  refine UInt8.toNat_inj.1 ?_
  show _ = 47
  omega
theorem sp_cut {s : Str} {f k : Nat} {ps : List Str} (hI : SplitI s.data.toList f k (bsL ps)) (h : k = s.size ∨ s.data.toList[k]? = some 47) : SplitI s.data.toList (k + 1) (k + 1) (bsL ps ++ one_ ((s.data.toList.drop f).take (k - f))) := by
  rcases h with h | h
  · rw [Lib.size_eq] at h
    subst h
    exact splitI_end hI
  · exact splitI_slash hI h
theorem sp_app {s : Str} {f k : Nat} {ps : List Str} (hI : SplitI s.data.toList f k (bsL ps)) (hk : k ≤ s.size) (h : k = s.size ∨ s.data.toList[k]? = some 47) (hf : f < k) : SplitI s.data.toList (k + 1) (k + 1) (bsL (ps ++ [s.extract f k])) := splitI_app (sp_cut hI h) (one_pos (extract_ne s hf hk))
theorem sp_app0 {s : Str} {f k : Nat} {ps : List Str} (hI : SplitI s.data.toList f k (bsL ps)) (h : k = s.size ∨ s.data.toList[k]? = some 47) (hf : ¬ f < k) : SplitI s.data.toList (k + 1) (k + 1) (bsL ps) := splitI_app0 (sp_cut hI h) (by omega)
theorem sp_next {s : Str} {f k : Nat} {ps : List Str} (hI : SplitI s.data.toList f k (bsL ps)) (h : k < s.size) (h47 : ¬ ((s[k]'h).toNat : Int) = 47) : SplitI s.data.toList f (k + 1) (bsL ps) := splitI_next hI (Lib.data_getElem? s k h) (fun e => h47 (by rw [e]; rfl))
theorem ps_len (ps : List Str) : ps.length ≤ (flatS (bsL ps)).length := by
  induction ps with
  | nil => simp
  | cons p ps ih =>
    have : bsL (p :: ps) = p.data.toList :: bsL ps := rfl
    rw [this, flatS_cons]
    simp
    omega
theorem piece_mem {s : Str} {ps : List Str} (h : bsL ps = pieces s.data.toList) {i : Nat} {x : Str} (hx : ps[i]? = some x) : x.size ≤ s.size := by
  rw [Lib.size_eq, Lib.size_eq s]
  refine piece_len ?_
  rw [← h]
  exact List.mem_map.2 ⟨x, List.mem_of_getElem? hx, rfl⟩
theorem str_eqS {a b : Str} (h : a.data.toList = b.data.toList) : a = b := ByteArray.ext (Array.toList_inj.1 h)
section
set_option maxRecDepth 10000
set_option maxHeartbeats 1000000
theorem Rsplit (s : Str) (hs : s.size ≤ 100000) : AFn Try.prog 22 [.v (.string s)] (fun r => ∃ ps : List Str, bsL ps = pieces s.data.toList ∧ r = .tup [.sl 1 (ps.map strA) none, .v (.bool (hdL s)), .v (.bool (lsL s))]) := by
  have hsz := Lib.size_eq s
  refine enter Try.func22 rfl rfl rfl rfl rfl 0 rfl ?_
  refine w_ (a_ (h:=a_ (h:=a_ (h:=e_ (w_ (a_ (h:=e_ (w_ (a_ (h:=e_ (q_ (w_ (a_ (h:=e_ (aw_block (?_))))))))))))))))
  refine aw_nilTok 5 9 1 rfl (by repeat constructor) ?_
  refine aw_loopW (fun m t => ∃ (f k : Nat) (ps : List Str), k ≤ s.size + 1 ∧ f ≤ k ∧ ps.length ≤ k ∧ m = s.size + 1 - k ∧ SplitI s.data.toList f k (bsL ps) ∧ t = ⟨look [(0, .v (.string s)), (5, .sl 1 (ps.map strA) (some 0)), (6, .v (.int .i64 (f : Int))), (7, .v (.int .i64 (k : Int)))], ⟨[], [(9, 1, ps.map strA)]⟩⟩) (s.size + 1) ((wk 0 1)) (⟨0, 0, [], by omega, by omega, by simp, rfl, splitI_start _, rfl⟩) ?_
  rintro m t ⟨f, k, ps, hk, hfk, hpl, rfl, hI, rfl⟩
  refine q_ (w_ (m_ (h:=m_ (h:=n_ (h:=le_ (h:=e_ (?_)))))))
  refine aw_cond rfl (fun hb1 => ?_) (fun hb1 => ?_)
  · have hc1 := bp hb1
    refine kt_ (q_ (aw_block (w_ (m_ (h:=m_ (h:=n_ (h:=eq_ (h:=m_ (h:=?_)))))))))
    refine al_gs false rfl rfl (fun hb2 => ?_) (fun hb2 => ?_)
    · have hc2 := bp hb2
      refine g0_ (h:=g0_ (h:=g0_ (h:=g0_ (h:=pt_ (h:=e_ (cy_ (h:=q_ (w_ (m_ (h:=m_ (h:=gt_ (h:=e_ (?_)))))))))))))
      refine aw_cond rfl (fun hb3 => ?_) (fun hb3 => ?_)
      · have hc3 := bp hb3
        have hnx := sp_app hI (by omega) (.inl (by omega)) (by omega)
        refine aw_region (m_ (h:=m_ (h:=m_ (h:=m_ (h:=?_)))))
        refine al_p rfl (st_sliceS (a := f) (k := k) Try.underlying9 rfl rfl rfl rfl rfl (by omega) (by omega) ?_)
        refine bs_ (h:=?_)
        first | refine al_p rfl (s_append rfl rfl rfl (by simp; omega) (by repeat constructor) ?_) | refine al_p rfl (s_append0 rfl rfl (by simp; omega) (by repeat constructor) ?_)
        refine a_ (h:=e_ (aw_region (m_ (h:=ad_ (h:=a_ (h:=al_nil (x_blockN (t_ (aw_region (m_ (h:=ad_ (h:=a_ (h:=al_nil (?_))))))))))))))
        refine x_then ?_
        refine ⟨_, _, ?_, ⟨_, k + 1, _, by omega, by omega, (by (try simp only [List.length_append, List.length_cons, List.length_nil]); omega), rfl, hnx, rfl⟩, (by (try simp only [List.map_append, List.map_cons, List.map_nil]); exact weak_of 0 1 rfl rfl rfl rfl ((by repeat (first | exact Sub.nil | refine Sub.cons _ _ _ rfl rfl ?_ | refine Sub.any _ _ ?_ | refine Sub.sl _ _ _ _ _ rfl ?_ | refine Sub.slnil _ _ _ rfl ?_))))⟩
        omega
      · have hc3 := bp hb3
        have hnx := sp_app0 hI (.inl (by omega)) (by omega)
        refine kt_ (aw_region (m_ (h:=ad_ (h:=a_ (h:=al_nil (x_blockN (t_ (aw_region (m_ (h:=ad_ (h:=a_ (h:=al_nil (?_)))))))))))))
        refine x_then ?_
        refine ⟨_, _, ?_, ⟨_, k + 1, _, by omega, by omega, (by (try simp only [List.length_append, List.length_cons, List.length_nil]); omega), rfl, hnx, rfl⟩, (by (try simp only [List.map_append, List.map_cons, List.map_nil]); exact weak_of 0 1 rfl rfl rfl rfl ((by repeat (first | exact Sub.nil | refine Sub.cons _ _ _ rfl rfl ?_ | refine Sub.any _ _ ?_ | refine Sub.sl _ _ _ _ _ rfl ?_ | refine Sub.slnil _ _ _ rfl ?_))))⟩
        omega
    · have hc2 := bp hb2
      refine m_ (h:=m_ (h:=?_))
      refine g_y (st_strIdx (n := k) Try.underlying9 rfl rfl rfl (by omega) ?_)
      refine eq_ (h:=pf_ (h:=e_ (?_)))
      refine aw_cond rfl (fun hb4 => ?_) (fun hb4 => ?_)
      · have hc4 := bp hb4
        refine q_ (w_ (m_ (h:=m_ (h:=gt_ (h:=e_ (?_))))))
        refine aw_cond rfl (fun hb5 => ?_) (fun hb5 => ?_)
        · have hc5 := bp hb5
          have hnx := sp_app hI (by omega) (.inr (byte_at (by omega) hc4)) (by omega)
          refine aw_region (m_ (h:=m_ (h:=m_ (h:=m_ (h:=?_)))))
          refine al_p rfl (st_sliceS (a := f) (k := k) Try.underlying9 rfl rfl rfl rfl rfl (by omega) (by omega) ?_)
          refine bs_ (h:=?_)
          first | refine al_p rfl (s_append rfl rfl rfl (by simp; omega) (by repeat constructor) ?_) | refine al_p rfl (s_append0 rfl rfl (by simp; omega) (by repeat constructor) ?_)
          refine a_ (h:=e_ (aw_region (m_ (h:=ad_ (h:=a_ (h:=al_nil (x_blockN (t_ (aw_region (m_ (h:=ad_ (h:=a_ (h:=al_nil (?_))))))))))))))
          refine x_then ?_
          refine ⟨_, _, ?_, ⟨_, k + 1, _, by omega, by omega, (by (try simp only [List.length_append, List.length_cons, List.length_nil]); omega), rfl, hnx, rfl⟩, (by (try simp only [List.map_append, List.map_cons, List.map_nil]); exact weak_of 0 1 rfl rfl rfl rfl ((by repeat (first | exact Sub.nil | refine Sub.cons _ _ _ rfl rfl ?_ | refine Sub.any _ _ ?_ | refine Sub.sl _ _ _ _ _ rfl ?_ | refine Sub.slnil _ _ _ rfl ?_))))⟩
          omega
        · have hc5 := bp hb5
          have hnx := sp_app0 hI (.inr (byte_at (by omega) hc4)) (by omega)
          refine kt_ (aw_region (m_ (h:=ad_ (h:=a_ (h:=al_nil (x_blockN (t_ (aw_region (m_ (h:=ad_ (h:=a_ (h:=al_nil (?_)))))))))))))
          refine x_then ?_
          refine ⟨_, _, ?_, ⟨_, k + 1, _, by omega, by omega, (by (try simp only [List.length_append, List.length_cons, List.length_nil]); omega), rfl, hnx, rfl⟩, (by (try simp only [List.map_append, List.map_cons, List.map_nil]); exact weak_of 0 1 rfl rfl rfl rfl ((by repeat (first | exact Sub.nil | refine Sub.cons _ _ _ rfl rfl ?_ | refine Sub.any _ _ ?_ | refine Sub.sl _ _ _ _ _ rfl ?_ | refine Sub.slnil _ _ _ rfl ?_))))⟩
          omega
      · have hc4 := bp hb4
        have hnx := sp_next hI (by omega) hc4
        refine aw_skip (x_blockN (t_ (aw_region (m_ (h:=ad_ (h:=a_ (h:=al_nil (?_))))))))
        refine x_then ?_
        refine ⟨_, _, ?_, ⟨_, k + 1, _, by omega, by omega, (by (try simp only [List.length_append, List.length_cons, List.length_nil]); omega), rfl, hnx, rfl⟩, (by (try simp only [List.map_append, List.map_cons, List.map_nil]); exact weak_of 0 1 rfl rfl rfl rfl ((by repeat (first | exact Sub.nil | refine Sub.cons _ _ _ rfl rfl ?_ | refine Sub.any _ _ ?_ | refine Sub.sl _ _ _ _ _ rfl ?_ | refine Sub.slnil _ _ _ rfl ?_))))⟩
        omega
  · have hc1 := bp hb1
    refine aw_exit (x_thenE (x_thenE (ABlock_out (t_ (q_ (yr_ 23 (h:=dm_ 0 (h:=dm_ 1 (h:=dn_ 2 (h:=dgt_ 3 (h:=dm_ 4 (h:=?_))))))))))))
    refine aa_both (j := 4) rfl (fun hb6 => ?_) (fun hb6 => ?_)
    · have hc6 := bp hb6
      refine dm_ 5 (h:=?_)
      refine r_y (i := 6) rfl (st_strIdx (n := 0) Try.underlying9 rfl rfl rfl (by omega) ⟨rfl, rfl⟩) ?_
      refine deq_ 7 (h:=dpt_ 8 (h:=dm_ 9 (h:=dn_ 10 (h:=dgt_ 11 (h:=dm_ 12 (h:=?_))))))
      refine aa_both (j := 12) rfl (fun hb7 => ?_) (fun hb7 => ?_)
      · have hc7 := bp hb7
        refine dm_ 13 (h:=dm_ 14 (h:=dn_ 15 (h:=dsb_ 16 (h:=?_))))
        refine r_y (i := 17) rfl (st_strIdx (n := s.size - 1) Try.underlying9 rfl rfl (by omega) (by omega) ⟨rfl, rfl⟩) ?_
        refine deq_ 18 (h:=dpt_ 19 (h:=da_ 20 (h:=da_ 21 (h:=da_ 22 (h:=z_ (h:=t_ (aw_ret (?_))))))))
        refine e_ret ?_
        refine ⟨ps, splitI_done hI (by omega), ?_⟩
        first | (rw [hd_pos (by omega), ls_pos (by omega)]; rfl) | (rw [hd_nil (by omega), ls_nil (by omega)]; rfl) | (exfalso; omega)
      · have hc7 := bp hb7
        refine d0_ 13 (h:=d0_ 14 (h:=d0_ 15 (h:=d0_ 16 (h:=d0_ 17 (h:=d0_ 18 (h:=dpf_ 19 (h:=da_ 20 (h:=da_ 21 (h:=da_ 22 (h:=z_ (h:=t_ (aw_ret (?_)))))))))))))
        refine e_ret ?_
        refine ⟨ps, splitI_done hI (by omega), ?_⟩
        first | (rw [hd_pos (by omega), ls_pos (by omega)]; rfl) | (rw [hd_nil (by omega), ls_nil (by omega)]; rfl) | (exfalso; omega)
    · have hc6 := bp hb6
      refine d0_ 5 (h:=d0_ 6 (h:=d0_ 7 (h:=dpf_ 8 (h:=dm_ 9 (h:=dn_ 10 (h:=dgt_ 11 (h:=dm_ 12 (h:=?_))))))))
      refine aa_both (j := 12) rfl (fun hb8 => ?_) (fun hb8 => ?_)
      · have hc8 := bp hb8
        refine dm_ 13 (h:=dm_ 14 (h:=dn_ 15 (h:=dsb_ 16 (h:=?_))))
        refine r_y (i := 17) rfl (st_strIdx (n := s.size - 1) Try.underlying9 rfl rfl (by omega) (by omega) ⟨rfl, rfl⟩) ?_
        refine deq_ 18 (h:=dpt_ 19 (h:=da_ 20 (h:=da_ 21 (h:=da_ 22 (h:=z_ (h:=t_ (aw_ret (?_))))))))
        refine e_ret ?_
        refine ⟨ps, splitI_done hI (by omega), ?_⟩
        first | (rw [hd_pos (by omega), ls_pos (by omega)]; rfl) | (rw [hd_nil (by omega), ls_nil (by omega)]; rfl) | (exfalso; omega)
      · have hc8 := bp hb8
        refine d0_ 13 (h:=d0_ 14 (h:=d0_ 15 (h:=d0_ 16 (h:=d0_ 17 (h:=d0_ 18 (h:=dpf_ 19 (h:=da_ 20 (h:=da_ 21 (h:=da_ 22 (h:=z_ (h:=t_ (aw_ret (?_)))))))))))))
        refine e_ret ?_
        refine ⟨ps, splitI_done hI (by omega), ?_⟩
        first | (rw [hd_pos (by omega), ls_pos (by omega)]; rfl) | (rw [hd_nil (by omega), ls_nil (by omega)]; rfl) | (exfalso; omega)

end
end Go.Proofs.Ytaidkbnbfnaihaa
namespace Go.Proofs.Ytaidkbnbfnaihaa
open Go.RowKit

theorem dir_ino {f : Fls} {a : Fil} (h : dirL f a = true) : (nodG f a).ino = a.2 := by
  obtain ⟨q, d, m, _, _, _, h4, h5, _⟩ := dir_node (f := f) (a := a) (by rw [h]; simp)
  rw [h5, h4]
theorem on_get {s : Spc} {d : Int} (h : (onL s d).isSome = true) : onL s d = some ((onL s d).getD (0, 0)) := by
  cases ho : onL s d with
  | none => rw [ho] at h; cases h
  | some o => rfl
theorem on_no {s : Spc} {d : Int} (h : (onL s d).isSome = false) : onL s d = none := by
  cases ho : onL s d with
  | none => rfl
  | some o => rw [ho] at h; cases h
theorem up_no {s : Spc} {a : Fil} (k : Nat) (h : dirL s.files a = false) : upF s (k + 1) a = (0, 0) := by unfold upF; rw [h]; rfl
theorem up_in {s : Spc} {a : Fil} (k : Nat) (h : dirL s.files a = true) (h1 : ¬ a.2 = 1) : upF s (k + 1) a = (a.1, (nodG s.files a).parent) := by unfold upF; rw [if_pos h, if_pos h1]
theorem up_on {s : Spc} {a : Fil} (k : Nat) (h : dirL s.files a = true) (h1 : a.2 = 1) (ho : (onL s a.1).isSome = true) : upF s (k + 1) a = upF s k ((onL s a.1).getD (0, 0)) := by
  conv => lhs; unfold upF
  rw [if_pos h, if_neg (by simpa using h1), on_get ho]
  rfl
theorem up_root {s : Spc} {a : Fil} (k : Nat) (h : dirL s.files a = true) (h1 : a.2 = 1) (ho : (onL s a.1).isSome = false) : upF s (k + 1) a = a := by
  conv => lhs; unfold upF
  rw [if_pos h, if_neg (by simpa using h1), on_no ho]
section
set_option maxRecDepth 10000
set_option maxHeartbeats 1000000
theorem PupS {s : Spc} (hs : SpcB s) (hv : SpcV s) (a : Fil) : AFn Try.prog 55 [.agg (spcA s), .agg (filA a)] (fun r => r = .agg (filA (upF s (s.mounts.length + 1) a))) := by
  have hfew := hs.few
  have hml : (s.mounts.map mntA).length = s.mounts.length := by simp
  refine enter Try.func55 rfl rfl rfl rfl rfl 0 rfl ?_
  refine w_ (b_ (h:=b_ (h:=al_ (h:=e_ (q_ (w_ (f_ (h:=l_ (h:=n_ (h:=ad_ (h:=m_ (h:=e_ (aw_block (?_))))))))))))))
  refine aw_loopW (fun m t => ∃ (j : Nat) (b : Fil), j ≤ s.mounts.length + 1 ∧ m = s.mounts.length + 1 - j ∧ upF s (s.mounts.length + 1 - j) b = upF s (s.mounts.length + 1) a ∧ t = ⟨look [(2, .bp 0 0), (3, .bp 1 0), (4, .bp 2 0), (11, .v (.int .i64 (((s.mounts.map mntA).length : Int) + 1))), (12, .v (.int .i64 (j : Int)))], ⟨[spcA s, filA b, [.v (.int .i64 0), .v (.int .i64 0)]], []⟩⟩) (s.mounts.length + 1) ((wk 3 0)) (⟨0, a, by omega, rfl, rfl, rfl⟩) ?_
  rintro m t ⟨j, b, hj, rfl, hit, rfl⟩
  have hde := dirL_eq s.files b
  refine w_ (lt_ (h:=e_ (q_ (?_))))
  refine aw_cond rfl (fun hb1 => ?_) (fun hb1 => ?_)
  · have hc1 := bp hb1
    obtain ⟨k, hk⟩ : ∃ k, s.mounts.length + 1 - j = k + 1 := ⟨s.mounts.length - j, by omega⟩
    rw [hk] at hit
    refine kt_ (q_ (aw_block (w_ (f_ (h:=l_ (h:=l_ (h:=?_)))))))
    refine al_p rfl (q_call (Pnode s.files b hs.files) ?_)
    rintro r rfl
    refine m_ (h:=x_ (h:=x_ (h:=al_ (h:=s_ (h:=a_ (h:=e_ (q_ (w_ (m_ (h:=nt_ (h:=m_ (h:=?_))))))))))))
    refine al_gs false rfl rfl (fun hb2 => ?_) (fun hb2 => ?_)
    · have hc2 := bp hb2
      refine g0_ (h:=g0_ (h:=g0_ (h:=pt_ (h:=e_ (cy_ (h:=w_ (bd_ (h:=s_ (h:=e_ (aw_ret (x_thenR (x_blockR (x_thenR (x_thenR (x_blockR (x_thenR (?_)))))))))))))))))
      refine e_ret ?_
      rw [← hit, up_no k (by rw [hde, hc2]; rfl)]
      rfl
    · have hc2 := bp hb2
      refine f_ (h:=l_ (h:=nq_ (h:=pf_ (h:=e_ (?_)))))
      refine aw_cond rfl (fun hb3 => ?_) (fun hb3 => ?_)
      · have hc3 := bp hb3
        refine w_ (bd_ (h:=s_ (h:=e_ (aw_ret (x_thenR (x_blockR (x_thenR (x_thenR (x_blockR (x_thenR (?_)))))))))))
        refine e_ret ?_
        rw [← hit, up_no k (by rw [hde, decide_eq_false hc3, Bool.and_false])]
        rfl
      · have hc3 := bp hb3
        refine kt_ (q_ (w_ (f_ (h:=l_ (h:=nq_ (h:=e_ (?_)))))))
        refine aw_cond rfl (fun hb4 => ?_) (fun hb4 => ?_)
        · have hc4 := bp hb4
          have hdd : dirL s.files b = true := by rw [hde, hc2, decide_eq_true hc3]; rfl
          have hb1 : ¬ b.2 = 1 := by rw [← dir_ino hdd]; exact hc4
          refine w_ (f_ (h:=l_ (h:=f_ (h:=l_ (h:=bd_ (h:=s_ (h:=e_ (aw_ret (x_thenR (x_blockR (x_thenR (x_thenR (x_blockR (x_thenR (?_)))))))))))))))
          refine e_ret ?_
          rw [← hit, up_in k hdd hb1]
          rfl
        · have hc4 := bp hb4
          have hdd : dirL s.files b = true := by rw [hde, hc2, decide_eq_true hc3]; rfl
          have hb1 : b.2 = 1 := by rw [← dir_ino hdd]; exact hc4
          refine kt_ (w_ (l_ (h:=f_ (h:=l_ (h:=?_)))))
          refine al_p rfl (q_call (Pplace s b.1 hs) ?_)
          rintro r rfl
          refine m_ (h:=x_ (h:=x_ (h:=al_ (h:=s_ (h:=a_ (h:=e_ (q_ (w_ (m_ (h:=nt_ (h:=m_ (h:=?_))))))))))))
          refine al_gs false rfl rfl (fun hb5 => ?_) (fun hb5 => ?_)
          · have hc5 := bp hb5
            refine g0_ (h:=g0_ (h:=g0_ (h:=pt_ (h:=e_ (cy_ (h:=w_ (l_ (h:=s_ (h:=e_ (aw_ret (x_thenR (x_blockR (x_thenR (x_thenR (x_blockR (x_thenR (?_)))))))))))))))))
            refine e_ret ?_
            rw [← hit, up_root k hdd hb1 hc5]
            rfl
          · have hc5 := bp hb5
            refine f_ (h:=l_ (h:=eq_ (h:=pf_ (h:=e_ (?_)))))
            refine aw_cond rfl (fun hb6 => ?_) (fun hb6 => ?_)
            · have hc6 := bp hb6
              refine w_ (l_ (h:=s_ (h:=e_ (aw_ret (x_thenR (x_blockR (x_thenR (x_thenR (x_blockR (x_thenR (?_)))))))))))
              refine e_ret ?_
              exfalso
              rw [hc6, on_zero hv] at hc5
              cases hc5
            · have hc6 := bp hb6
              refine kt_ (aw_region (l_ (h:=s_ (h:=al_nil (x_blockN (t_ (aw_region (ad_ (h:=m_ (h:=al_nil (?_)))))))))))
              refine x_then ?_
              refine ⟨_, _, ?_, ⟨j + 1, ((onL s b.1).getD (0, 0)), by omega, rfl, (by rw [← hit, up_on k hdd hb1 hc5, show s.mounts.length + 1 - (j + 1) = k by omega]), rfl⟩, (wk 3 0)⟩
              omega
  · have hc1 := bp hb1
    refine aw_exit (x_thenE (x_thenE (ABlock_out (t_ (w_ (l_ (h:=s_ (h:=e_ (aw_ret (?_))))))))))
    refine e_ret ?_
    have ej : s.mounts.length + 1 - j = 0 := by omega
    rw [ej] at hit
    rw [← hit]
    rfl

end
end Go.Proofs.Ytaidkbnbfnaihaa
namespace Go.Proofs.Ytaidkbnbfnaihaa

section
variable {s : Spc} (hv : SpcV s)
include hv
omit hv in
theorem where_ok {a : Fil} (h : (whereP s a).2 = true) : dirL s.files a = true ∧ mtdL s a.1 = true := by
  unfold whereP at h
  split at h
  · rename_i c; exact ⟨c.1, c.2.1⟩
  · cases h
theorem root_dir {d : Int} (h0 : 0 ≤ d) (h1 : d < (s.files.length : Int)) : dirL s.files (d, 1) = true := by
  obtain ⟨q, rfl⟩ := Int.eq_ofNat_of_zero_le h0
  have hq : s.files[q]? = some s.files[q] := List.getElem?_eq_getElem (by omega)
  obtain ⟨r, rest, hr, h2, h3, _⟩ := (hv.files.vd _ (List.mem_of_getElem? hq)).root
  exact (dir_kind (node_in hv hq (by rw [hr]; exact List.mem_cons_self ..) h2)).2 h3
end
end Go.Proofs.Ytaidkbnbfnaihaa
namespace Go.Proofs.Ytaidkbnbfnaihaa

structure Fnd where
  dir : Fil
  name : Str
  file : Fil
  ex : Bool
  slash : Bool
  path : Str
def fnd0 : Fnd := ⟨(0, 0), ⟨#[]⟩, (0, 0), false, false, ⟨#[]⟩⟩
def fndA (x : Fnd) : List AV := [.v (.int .i64 x.dir.1), .v (.int .i64 x.dir.2), .v (.string x.name), .v (.int .i64 x.file.1), .v (.int .i64 x.file.2), .v (.bool x.ex), .v (.bool x.slash), .v (.string x.path)]
def splS (s : Str) : List Str := (pieces s.data.toList).map fun l => ⟨l.toArray⟩
theorem bls_splS (s : Str) : bsL (splS s) = pieces s.data.toList := by
  unfold bsL splS
  rw [List.map_map]
  have : ((fun x : Str => x.data.toList) ∘ fun l : Bs => (⟨l.toArray⟩ : Str)) = id := by funext l; simp
  rw [this, List.map_id]
theorem bls_inj : ∀ {a b : List Str}, bsL a = bsL b → a = b
  | [], [], _ => rfl
  | [], _ :: _, h => by simp [bsL] at h
  | _ :: _, [], h => by simp [bsL] at h
  | x :: a, y :: b, h => by
    simp only [bsL, List.map_cons, List.cons.injEq] at h
    rw [str_eqS h.1, bls_inj (a := a) (b := b) h.2]
theorem splS_of {s : Str} {ps : List Str} (h : bsL ps = pieces s.data.toList) : ps = splS s := bls_inj (h.trans (bls_splS s).symm)
theorem splS_len (s : Str) : (splS s).length ≤ s.size + 1 := by
  have h1 := ps_len (splS s)
  have h2 := flat_pieces s.data.toList
  rw [← bls_splS] at h2
  rw [Lib.size_eq]
  omega
def rootD (s : Spc) : Fil := itD s s.mounts.length (0, 1)
structure Lk where
  ps : List Str
  dir : Fil
  name : Str
  file : Fil
  ex : Bool
  links : Nat
abbrev dot1 : Str := ⟨#[46]⟩
abbrev dot2 : Str := ⟨#[46, 46]⟩
def lkS (s : Spc) (fl : Bool) (p : Str) (ps : List Str) (a : Fil) (lk : Nat) : Int ⊕ Lk :=
  if dirL s.files a = false then .inl 20
  else if 12 < p.size then .inl 36
  else if p = dot1 then .inr ⟨ps, a, ⟨#[]⟩, a, true, lk⟩
  else if p = dot2 then .inr ⟨ps, itD s s.mounts.length (upF s (s.mounts.length + 1) a), ⟨#[]⟩, itD s s.mounts.length (upF s (s.mounts.length + 1) a), true, lk⟩
  else if (lookL s.files a p).2 ≠ 0 then (if ps ≠ [] ∨ nameL p = false then .inl 2 else .inr ⟨[], a, p, (0, 0), false, lk⟩)
  else if (nodG s.files (lookL s.files a p).1).kind = 3 ∧ (ps ≠ [] ∨ fl = true) then
    (if lk = 8 then .inl 40 else
      .inr ⟨splS (nodG s.files (lookL s.files a p).1).target ++ ps, if hdL (nodG s.files (lookL s.files a p).1).target = true then rootD s else a, ⟨#[]⟩, if hdL (nodG s.files (lookL s.files a p).1).target = true then rootD s else a, true, lk + 1⟩)
  else .inr ⟨ps, a, p, itD s s.mounts.length (lookL s.files a p).1, true, lk⟩
def lkZ : Lk := ⟨[], (0, 0), ⟨#[]⟩, (0, 0), false, 0⟩
def lkG (s : Spc) (fl : Bool) : Nat → Lk → Int × Lk
  | 0, σ => (0, σ)
  | k + 1, σ => match σ.ps with
    | [] => (0, σ)
    | p :: ps => match lkS s fl p ps σ.file σ.links with
      | .inl e => (e, lkZ)
      | .inr τ => lkG s fl k τ
def lkM (σ : Lk) : Nat := (8 - σ.links) * 200 + σ.ps.length
section
variable {s : Spc} (hv : FlsV s.files)
include hv
theorem lk_less {fl : Bool} {p : Str} {ps : List Str} {a : Fil} {lk : Nat} {τ : Lk} (h8 : lk ≤ 8) (h : lkS s fl p ps a lk = .inr τ) : τ.links ≤ 8 ∧ lkM τ < (8 - lk) * 200 + (ps.length + 1) := by
  unfold lkS at h
  split at h
  · cases h
  · split at h
    · cases h
    · split at h
      · injection h with h; subst h; exact ⟨h8, by unfold lkM; simp only; omega⟩
      · split at h
        · injection h with h; subst h; exact ⟨h8, by unfold lkM; simp only; omega⟩
        · split at h
          · split at h
            · cases h
            · injection h with h; subst h; exact ⟨h8, by unfold lkM; simp only [List.length_nil]; omega⟩
          · split at h
            · split at h
              · cases h
              · rename_i h9
                injection h with h
                subst h
                have ht := nodG_target hv (lookL s.files a p).1
                have hl := splS_len (nodG s.files (lookL s.files a p).1).target
                refine ⟨by simp only; omega, ?_⟩
                unfold lkM
                simp only [List.length_append]
                have : (8 - lk) * 200 = (8 - (lk + 1)) * 200 + 200 := by
                  rw [show 8 - lk = (8 - (lk + 1)) + 1 by omega, Nat.add_mul]
                omega
            · injection h with h; subst h; exact ⟨h8, by unfold lkM; simp only; omega⟩
theorem lk_irr (fl : Bool) : ∀ (k k' : Nat) (σ : Lk), σ.links ≤ 8 → lkM σ ≤ k → lkM σ ≤ k' → lkG s fl k σ = lkG s fl k' σ := by
  intro k
  induction k with
  | zero =>
    intro k' σ h8 h h'
    have he : σ.ps = [] := by
      unfold lkM at h
      exact List.eq_nil_of_length_eq_zero (by omega)
    cases k' with
    | zero => rfl
    | succ k' => unfold lkG; rw [he]
  | succ k ih =>
    intro k' σ h8 h h'
    cases hps : σ.ps with
    | nil => cases k' <;> (unfold lkG; rw [hps])
    | cons p ps =>
      have hm : lkM σ = (8 - σ.links) * 200 + (ps.length + 1) := by unfold lkM; rw [hps]; rfl
      cases k' with
      | zero => rw [hm] at h'; omega
      | succ k' =>
        unfold lkG
        rw [hps]
        simp only
        cases hs : lkS s fl p ps σ.file σ.links with
        | inl e => rfl
        | inr τ =>
          simp only
          obtain ⟨h1, h2⟩ := lk_less hv h8 hs
          exact ih k' τ h1 (by omega) (by omega)
end
def lkT (s : Spc) (fl : Bool) (σ : Lk) : Int × Lk := lkG s fl (lkM σ) σ
theorem lkT_nil {s : Spc} {fl : Bool} {σ : Lk} (h : σ.ps = []) : lkT s fl σ = (0, σ) := by
  unfold lkT
  cases lkM σ with
  | zero => rfl
  | succ k => unfold lkG; rw [h]
theorem lkT_cons {s : Spc} (hv : FlsV s.files) {fl : Bool} {σ : Lk} {p : Str} {ps : List Str} (h8 : σ.links ≤ 8) (h : σ.ps = p :: ps) : lkT s fl σ = match lkS s fl p ps σ.file σ.links with
    | .inl e => (e, lkZ)
    | .inr τ => lkT s fl τ := by
  have hm : lkM σ = ((8 - σ.links) * 200 + ps.length) + 1 := by unfold lkM; rw [h]; rfl
  unfold lkT
  rw [hm]
  conv => lhs; unfold lkG
  rw [h]
  simp only
  cases hs : lkS s fl p ps σ.file σ.links with
  | inl e => rfl
  | inr τ =>
    simp only
    obtain ⟨h1, h2⟩ := lk_less hv h8 hs
    exact lk_irr hv fl _ _ τ h1 (by omega) (Nat.le_refl _)
def fndOf (s : Spc) (sl : Bool) (τ : Lk) : Fnd := ⟨τ.dir, τ.name, τ.file, τ.ex, sl, if (whereP s τ.dir).2 = true then (if τ.name = ⟨#[]⟩ then (whereP s τ.dir).1 else joinS (whereP s τ.dir).1 τ.name) else ⟨#[]⟩⟩
def lk0 (ps : List Str) (a : Fil) : Lk := ⟨ps, a, ⟨#[]⟩, a, true, 0⟩
def findL (s : Spc) (start : Fil) (p : Str) (fl : Bool) : Fnd × Int :=
  if p = ⟨#[]⟩ then (fnd0, 2) else if 128 < p.size then (fnd0, 36)
  else if dirL s.files (if hdL p = true then rootD s else start) = false then (fnd0, 2)
  else if (lkT s (fl || lsL p) (lk0 (splS p) (if hdL p = true then rootD s else start))).1 ≠ 0 then (fnd0, (lkT s (fl || lsL p) (lk0 (splS p) (if hdL p = true then rootD s else start))).1)
  else if lsL p = true ∧ (lkT s (fl || lsL p) (lk0 (splS p) (if hdL p = true then rootD s else start))).2.ex = true ∧ dirL s.files (lkT s (fl || lsL p) (lk0 (splS p) (if hdL p = true then rootD s else start))).2.file = false then (fnd0, 20)
  else (fndOf s (lsL p) (lkT s (fl || lsL p) (lk0 (splS p) (if hdL p = true then rootD s else start))).2, 0)
end Go.Proofs.Ytaidkbnbfnaihaa
namespace Go.Proofs.Ytaidkbnbfnaihaa

section
variable {s : Spc} (hv : SpcV s)
include hv
def wvis (s : Spc) (a : Fil) : Prop := (whereP s a).2 = true ∧ ∀ i, 0 < i → okAt s (chainP s (mostL s.files) a) i = true
theorem where_ok2 {a : Fil} (h : dirL s.files a = true) (hm : mtdL s a.1 = true) : (whereP s a).2 = true := by rw [where_yes hv h hm]
omit hv in
theorem okAt_two (a : Fil) (L : List Fil) (i : Nat) : okAt s (a :: L) (i + 2) = okAt s L (i + 1) := by
  unfold okAt
  have h1 : (a :: L)[i + 2]? = L[i + 1]? := List.getElem?_cons_succ
  have h2 : (a :: L)[i + 2 - 1]? = L[i + 1 - 1]? := List.getElem?_cons_succ
  rw [h1, h2]
  simp
omit hv in
theorem okAt_one (a b : Fil) (L : List Fil) : okAt s (a :: b :: L) 1 = true ↔ ∀ dev, covL s b = some dev → a = (dev, 1) := by
  unfold okAt
  simp only [List.getElem?_cons_succ, List.getElem?_cons_zero, Nat.sub_self]
  cases covL s b with
  | none => simp
  | some dev => simp
omit hv in
theorem okAt_none {L : List Fil} {i : Nat} (h : L.length ≤ i) : okAt s L i = true := by
  unfold okAt
  rw [List.getElem?_eq_none h]
theorem vis_iff (a : Fil) : visP s a = true ↔ wvis s a ∧ covL s a = none := by
  rw [vis_eq hv, Bool.and_eq_true, List.all_eq_true]
  constructor
  · rintro ⟨h1, h2⟩
    obtain ⟨t, ht⟩ := chain_head hv (where_ok h1).1
    refine ⟨⟨h1, fun i hi => ?_⟩, ?_⟩
    · by_cases hl : i < (chainP s (mostL s.files) a).length
      · exact h2 i (List.mem_range.2 hl)
      · exact okAt_none (by omega)
    · have h3 := h2 0 (List.mem_range.2 (by rw [ht]; simp))
      rw [ht] at h3
      unfold okAt at h3
      simp only [List.getElem?_cons_zero] at h3
      cases hc : covL s a with
      | none => rfl
      | some dev => rw [hc] at h3; simp at h3
  · rintro ⟨⟨h1, h2⟩, hc⟩
    refine ⟨h1, fun i _ => ?_⟩
    obtain ⟨t, ht⟩ := chain_head hv (where_ok h1).1
    by_cases h0 : i = 0
    · subst h0
      rw [ht]
      unfold okAt
      simp only [List.getElem?_cons_zero, hc]
    · exact h2 i (by omega)
theorem wvis_step {a b : Fil} (h : dirL s.files a = true) (hm : mtdL s a.1 = true) (hs : stepR s a = some b) : wvis s a ↔ wvis s b ∧ ∀ dev, covL s b = some dev → a = (dev, 1) := by
  have hb := step_dir hv h hs
  have hbm := step_mtd hv hm hs
  obtain ⟨t, ht⟩ := chain_head hv hb
  have hc : chainP s (mostL s.files) a = a :: chainP s (mostL s.files) b := by rw [chain_cons hv h, hs]
  unfold wvis
  rw [hc]
  constructor
  · rintro ⟨_, h2⟩
    refine ⟨⟨where_ok2 hv hb hbm, fun i hi => ?_⟩, ?_⟩
    · obtain ⟨j, rfl⟩ : ∃ j, i = j + 1 := ⟨i - 1, by omega⟩
      rw [← okAt_two a]
      exact h2 _ (by omega)
    · have h3 := h2 1 (by omega)
      rw [ht] at h3
      exact (okAt_one a b t).1 h3
  · rintro ⟨⟨_, h2⟩, h3⟩
    refine ⟨where_ok2 hv h hm, fun i hi => ?_⟩
    by_cases h1 : i = 1
    · subst h1
      rw [ht]
      exact (okAt_one a b t).2 h3
    · obtain ⟨j, rfl⟩ : ∃ j, i = j + 2 := ⟨i - 2, by omega⟩
      rw [okAt_two]
      exact h2 _ (by omega)
theorem wvis_root (h : dirL s.files (0, 1) = true) : wvis s (0, 1) := by
  have hs : stepR s (0, 1) = none := by unfold stepR; rw [if_neg (by simp)]; exact on_zero hv
  refine ⟨where_ok2 hv h (by unfold mtdL; simp), fun i hi => ?_⟩
  rw [chain_cons hv h, hs]
  exact okAt_none (by simp; omega)
theorem cov_step {a : Fil} {dev : Int} (hc : covL s a = some dev) : stepR s (dev, 1) = some a ∧ dirL s.files (dev, 1) = true ∧ mtdL s dev = true ∧ dev ≠ 0 ∧ dirL s.files a = true := by
  obtain ⟨i, hi⟩ := cov_mem hc
  have hm := hv.mnt i _ hi
  have h1 := hm.dev1
  have h2 := hm.dev2
  simp only at h1 h2
  have hs : stepR s (dev, 1) = some a := by
    unfold stepR
    rw [if_neg (by simp)]
    exact on_of hv hi
  exact ⟨hs, root_dir hv (by omega) h2, mtd_mem (s := s) (m := (dev, a)) (List.mem_of_getElem? hi), by omega, hm.dir⟩
theorem wvis_stepD {a : Fil} (h : wvis s a) : wvis s (stepD s a) := by
  unfold stepD
  cases hc : covL s a with
  | none => exact h
  | some dev =>
    obtain ⟨h1, h2, h3, _⟩ := cov_step hv hc
    refine (wvis_step hv (a := (dev, 1)) h2 h3 h1).2 ⟨h, fun d hd => ?_⟩
    rw [hc] at hd
    injection hd with hd
    rw [hd]
theorem wvis_down : ∀ (n : Nat) (a : Fil), wvis s a → wvis s (itD s n a)
  | 0, _, h => h
  | n + 1, a, h => by rw [itD]; exact wvis_down n _ (wvis_stepD hv h)
theorem vis_down {a : Fil} (h : wvis s a) : visP s (itD s s.mounts.length a) = true := (vis_iff hv _).2 ⟨wvis_down hv _ a h, down_end hv _ a fun i m _ _ => by omega⟩
omit hv in
theorem one_from {d : Dvc} (hd : VD d) {a b m : Nod} (ha : a ∈ d.nodes) (hb : b ∈ d.nodes) (hm : m ∈ d.nodes) (h1 : m.ino ≠ 1) (hk : m.kind = 2) (hea : ∃ e ∈ a.entries, e.2 = m.ino) (heb : ∃ e ∈ b.entries, e.2 = m.ino) : a = b := by
  have hc := hd.one m hm h1 hk
  obtain ⟨A, B, hAB, _, _⟩ := asc_split hd.asc ha
  rw [hAB, cntN_append, cntN_cons] at hc
  have h2 := cntE_pos.2 hea
  rw [hAB] at hb
  rcases List.mem_append.1 hb with hb | hb
  · have := cntN_pos.2 ⟨b, hb, heb⟩; omega
  · rcases List.mem_cons.1 hb with hb | hb
    · exact hb.symm
    · have := cntN_pos.2 ⟨b, hb, heb⟩; omega
theorem ent_to {a b : Fil} {p : Str} (hl : lookL s.files a p = (b, 0)) : dirL s.files a = true ∧ nameL p = true ∧ b.1 = a.1 ∧ b.2 ≠ 1 ∧ hasG s.files b = true ∧ (dirL s.files b = true → stepR s b = some a) := by
  unfold lookL at hl
  cases hn : nodeL s.files a with
  | none => rw [hn] at hl; simp at hl
  | some n =>
    rw [hn] at hl
    simp only at hl
    by_cases hk : n.kind = 2
    · rw [if_pos hk] at hl
      have hdir : dirL s.files a = true := (dir_kind hn).2 hk
      cases hf : n.entries.find? fun e : Ent => decide (e.1 = p) with
      | none => rw [hf] at hl; simp at hl
      | some e =>
        rw [hf] at hl
        simp only [Prod.mk.injEq, and_true] at hl
        subst hl
        have he := List.mem_of_find?_eq_some hf
        have hep := List.find?_some hf
        simp only [decide_eq_true_eq] at hep
        obtain ⟨q, d, n', e1, e2, e3, e4, e5, e6⟩ := dir_node (f := s.files) (a := a) (by rw [hdir]; simp)
        have hn' : n' = n := by
          have : nodG s.files a = n := by unfold nodG; rw [hn]; rfl
          rw [← this]; exact e5.symm
        subst hn'
        have hd := hv.files.vd d (List.mem_of_getElem? e2)
        obtain ⟨h1, h2, m, hm, hme⟩ := hd.ent n' e3 e he
        have hnb : nodeL s.files (a.1, e.2) = some m := by rw [e1]; exact node_in hv e2 hm hme
        refine ⟨hdir, by rw [← hep]; exact h1, rfl, h2, by unfold hasG; rw [hnb]; rfl, fun hdb => ?_⟩
        have hmk : m.kind = 2 := (dir_kind hnb).1 hdb
        have hm1 : m.ino ≠ 1 := by rw [hme]; exact h2
        obtain ⟨p', hp', hpi, hpe⟩ := hd.par m hm hm1 hmk
        have := one_from hd e3 hp' hm hm1 hmk ⟨e, he, hme.symm⟩ hpe
        subst this
        unfold stepR
        rw [if_pos h2]
        unfold nodG
        rw [hnb]
        simp only [Option.getD_some]
        rw [← hpi, e4]
    · rw [if_neg hk] at hl; simp at hl
end
end Go.Proofs.Ytaidkbnbfnaihaa
namespace Go.Proofs.Ytaidkbnbfnaihaa

theorem nm_free {p : Str} (h : nameL p = true) : p ≠ dot1 ∧ p ≠ dot2 ∧ p.size ≤ 12 ∧ p ≠ ⟨#[]⟩ ∧ (47 : UInt8) ∉ p.data.toList := by
  rw [nameL_eq] at h
  obtain ⟨h1, h2, h3, h4, h5, h6⟩ := nmL_iff.1 h
  refine ⟨?_, ?_, by rw [Lib.size_eq]; exact h2, ?_, h6⟩ <;> (intro e; subst e; first | exact h3 rfl | exact h4 rfl | exact h1 rfl)
theorem str_nil {p : Str} (h : p.data.toList = []) : p = ⟨#[]⟩ := str_eqS h
theorem pieces_rel {l : Bs} (h1 : l ≠ []) (h2 : l.head? ≠ some 47) : pieces l ≠ [] := by
  intro h
  have h3 : flatS (segs l) = 47 :: l := flat_segs l
  cases hs : segs l with
  | nil => exact segs_ne l hs
  | cons p ps =>
    rw [hs, flatS_cons] at h3
    injection h3 with _ h3
    have h4 : p = [] := by
      unfold pieces at h
      rw [hs, List.filter_cons] at h
      split at h
      · cases h
      · rename_i hne
        simpa [ne_] using hne
    rw [h4, List.nil_append] at h3
    cases ps with
    | nil => exact h1 h3.symm
    | cons q ps =>
      rw [flatS_cons] at h3
      rw [← h3] at h2
      simp at h2
theorem splS_rel {p : Str} (h1 : p ≠ ⟨#[]⟩) (h2 : hdL p = false) : splS p ≠ [] := by
  intro h
  unfold splS at h
  rw [List.map_eq_nil_iff] at h
  refine pieces_rel (fun e => h1 (str_nil e)) ?_ h
  unfold hdL at h2
  simpa using h2
end Go.Proofs.Ytaidkbnbfnaihaa
namespace Go.Proofs.Ytaidkbnbfnaihaa

section
variable {s : Spc} (hv : SpcV s)
include hv
inductive Dots : List Str → List Str → Prop
  | nil : Dots [] []
  | same {p : Str} {ps qs : List Str} : Dots ps qs → Dots (p :: ps) (p :: qs)
  | dot {ps qs : List Str} : Dots ps qs → ps ≠ [] → Dots ps (dot1 :: qs)
omit hv in
theorem Dots.nil_iff {ps qs : List Str} (h : Dots ps qs) : ps = [] ↔ qs = [] := by
  cases h with
  | nil => simp
  | same _ => simp
  | dot _ hne => simp [hne]
omit hv in
theorem Dots.pre {ps qs : List Str} (h : Dots ps qs) : ∀ t : List Str, Dots (t ++ ps) (t ++ qs)
  | [] => h
  | _ :: t => .same (h.pre t)
omit hv in
theorem lks_dots (fl : Bool) (p : Str) {ps qs : List Str} (h : Dots ps qs) (a : Fil) (l : Nat) : (∃ e, lkS s fl p ps a l = .inl e ∧ lkS s fl p qs a l = .inl e) ∨ ∃ τ τ', lkS s fl p ps a l = .inr τ ∧ lkS s fl p qs a l = .inr τ' ∧ Dots τ.ps τ'.ps ∧ τ'.dir = τ.dir ∧ τ'.name = τ.name ∧ τ'.file = τ.file ∧ τ'.ex = τ.ex ∧ τ'.links = τ.links := by
  have hn : ps ≠ [] ↔ qs ≠ [] := not_congr h.nil_iff
  unfold lkS
  by_cases c1 : dirL s.files a = false
  · simp only [if_pos c1]; exact .inl ⟨_, rfl, rfl⟩
  · simp only [if_neg c1]
    by_cases c2 : 12 < p.size
    · simp only [if_pos c2]; exact .inl ⟨_, rfl, rfl⟩
    · simp only [if_neg c2]
      by_cases c3 : p = dot1
      · simp only [if_pos c3]; exact .inr ⟨_, _, rfl, rfl, h, rfl, rfl, rfl, rfl, rfl⟩
      · simp only [if_neg c3]
        by_cases c4 : p = dot2
        · simp only [if_pos c4]; exact .inr ⟨_, _, rfl, rfl, h, rfl, rfl, rfl, rfl, rfl⟩
        · simp only [if_neg c4]
          by_cases c5 : (lookL s.files a p).2 ≠ 0
          · simp only [if_pos c5]
            have e6 : (ps ≠ [] ∨ nameL p = false) ↔ (qs ≠ [] ∨ nameL p = false) := by rw [hn]
            by_cases c6 : qs ≠ [] ∨ nameL p = false
            · simp only [if_pos c6, if_pos (e6.2 c6)]; exact .inl ⟨_, rfl, rfl⟩
            · simp only [if_neg c6, if_neg (fun c => c6 (e6.1 c))]; exact .inr ⟨_, _, rfl, rfl, .nil, rfl, rfl, rfl, rfl, rfl⟩
          · simp only [if_neg c5]
            have e6 : ((nodG s.files (lookL s.files a p).1).kind = 3 ∧ (ps ≠ [] ∨ fl = true)) ↔ ((nodG s.files (lookL s.files a p).1).kind = 3 ∧ (qs ≠ [] ∨ fl = true)) := by rw [hn]
            by_cases c6 : (nodG s.files (lookL s.files a p).1).kind = 3 ∧ (qs ≠ [] ∨ fl = true)
            · simp only [if_pos c6, if_pos (e6.2 c6)]
              by_cases c7 : l = 8
              · simp only [if_pos c7]; exact .inl ⟨_, rfl, rfl⟩
              · simp only [if_neg c7]; exact .inr ⟨_, _, rfl, rfl, h.pre _, rfl, rfl, rfl, rfl, rfl⟩
            · simp only [if_neg c6, if_neg (fun c => c6 (e6.1 c))]; exact .inr ⟨_, _, rfl, rfl, h, rfl, rfl, rfl, rfl, rfl⟩
theorem lkt_dots (fl : Bool) : ∀ (k : Nat) (σ σ' : Lk), lkM σ' ≤ k → σ'.links ≤ 8 → Dots σ.ps σ'.ps → σ'.file = σ.file → σ'.links = σ.links → (σ.ps = [] → σ'.dir = σ.dir ∧ σ'.name = σ.name ∧ σ'.ex = σ.ex) → lkT s fl σ' = lkT s fl σ := by
  intro k
  induction k with
  | zero =>
    intro σ σ' hk h8 hd hf hl hz
    have e : σ'.ps = [] := by
      unfold lkM at hk
      exact List.eq_nil_of_length_eq_zero (by omega)
    have e' := hd.nil_iff.2 e
    obtain ⟨z1, z2, z3⟩ := hz e'
    rw [lkT_nil e, lkT_nil e']
    cases σ; cases σ'
    simp_all
  | succ k ih =>
    intro σ σ' hk h8 hd hf hl hz
    rcases hsp : σ.ps with _ | ⟨p, ps⟩
    · have e := hd.nil_iff.1 hsp
      obtain ⟨z1, z2, z3⟩ := hz hsp
      rw [lkT_nil e, lkT_nil hsp]
      cases σ; cases σ'
      simp_all
    · rcases hsq : σ'.ps with _ | ⟨q, qs⟩
      · exact absurd (hd.nil_iff.2 hsq) (by rw [hsp]; simp)
      · rw [hsp, hsq] at hd
        have hm : lkM σ' = (8 - σ'.links) * 200 + (qs.length + 1) := by unfold lkM; rw [hsq]; rfl
        cases hd with
        | same hd =>
          rw [lkT_cons hv.files h8 hsq, lkT_cons hv.files (by omega) hsp, hf, hl]
          rcases lks_dots (s := s) fl p hd σ.file σ.links with ⟨e, e1, e2⟩ | ⟨τ, τ', e1, e2, e3, e4, e5, e6, e7, e8⟩
          · rw [e1, e2]
          · rw [e1, e2]
            rw [← hl, ← hf] at e2
            obtain ⟨m1, m2⟩ := lk_less hv.files h8 e2
            exact ih τ τ' (by omega) m1 e3 e6 e8 fun _ => ⟨e4, e5, e7⟩
        | dot hd hne =>
          rw [lkT_cons hv.files h8 hsq]
          by_cases hdir : dirL s.files σ'.file = false
          · have e1 : lkS s fl dot1 qs σ'.file σ'.links = .inl 20 := by unfold lkS; rw [if_pos hdir]
            have e2 : lkS s fl p ps σ.file σ.links = .inl 20 := by unfold lkS; rw [if_pos (by rw [← hf]; exact hdir)]
            rw [e1, lkT_cons hv.files (by omega) hsp, e2]
          · have e1 : lkS s fl dot1 qs σ'.file σ'.links = .inr ⟨qs, σ'.file, ⟨#[]⟩, σ'.file, true, σ'.links⟩ := by unfold lkS; rw [if_neg hdir, if_neg (by decide), if_pos rfl]
            rw [e1]
            refine ih σ _ ?_ h8 (by rw [hsp]; exact hd) hf hl (fun c => by rw [hsp] at c; cases c)
            unfold lkM
            simp only
            omega
theorem dots_law {p q : Str} (hp0 : p ≠ ⟨#[]⟩) (hq0 : q ≠ ⟨#[]⟩) (hp : p.size ≤ 128) (hq : q.size ≤ 128) (hh : hdL q = hdL p) (hls : lsL q = lsL p) (hd : Dots (splS p) (splS q)) (st : Fil) (fl : Bool) : findL s st q fl = findL s st p fl := by
  have hT : ∀ d fl, lkT s fl (lk0 (splS q) d) = lkT s fl (lk0 (splS p) d) := fun d fl => lkt_dots hv fl _ _ _ (Nat.le_refl _) (by unfold lk0; simp) hd rfl rfl fun _ => ⟨rfl, rfl, rfl⟩
  unfold findL
  rw [if_neg hp0, if_neg hq0, if_neg (show ¬ 128 < p.size by omega), if_neg (show ¬ 128 < q.size by omega), hh, hls]
  simp only [hT]
end
end Go.Proofs.Ytaidkbnbfnaihaa
namespace Go.Proofs.Ytaidkbnbfnaihaa

def aw7F1 : Fls := (mkL (newL 1).1 (0, 1) ⟨#[102]⟩ ⟨0, 1, 420, 0, 0, 0, ⟨#[]⟩, []⟩).1
def aw7F2 : Fls := (mkL aw7F1 (0, 1) ⟨#[108]⟩ ⟨0, 3, 511, 0, 0, 0, ⟨#[102]⟩, []⟩).1
set_option maxRecDepth 100000 in
theorem aw7_make : (mkL (newL 1).1 (0, 1) ⟨#[102]⟩ ⟨0, 1, 420, 0, 0, 0, ⟨#[]⟩, []⟩).2.2 = 0 ∧ (mkL aw7F1 (0, 1) ⟨#[108]⟩ ⟨0, 3, 511, 0, 0, 0, ⟨#[102]⟩, []⟩).2.2 = 0 := by decide +kernel
set_option maxRecDepth 100000 in
theorem aw7_yes : (findL ⟨aw7F2, []⟩ (0, 1) ⟨#[47, 108]⟩ true).2 = 0 ∧ (findL ⟨aw7F2, []⟩ (0, 1) ⟨#[47, 108]⟩ true).1.path = ⟨#[47, 102]⟩ ∧ (findL ⟨aw7F2, []⟩ (0, 1) ⟨#[47, 108]⟩ true).1.file.2 = 2 := by decide +kernel
set_option maxRecDepth 100000 in
theorem aw7_no : (findL ⟨aw7F2, []⟩ (0, 1) ⟨#[47, 108]⟩ false).2 = 0 ∧ (findL ⟨aw7F2, []⟩ (0, 1) ⟨#[47, 108]⟩ false).1.path = ⟨#[47, 108]⟩ ∧ (findL ⟨aw7F2, []⟩ (0, 1) ⟨#[47, 108]⟩ false).1.file.2 = 3 := by decide +kernel
theorem new_valid1 : FlsV (newL 1).1 := (new_valid (by decide) (by decide)).1
theorem aw7_valid : FlsV aw7F1 ∧ FlsV aw7F2 := by
  have h1 : FlsV aw7F1 := (make_okay new_valid1 _ _ _ aw7_make.1).1
  exact ⟨h1, (make_okay h1 _ _ _ aw7_make.2).1⟩
end Go.Proofs.Ytaidkbnbfnaihaa
namespace Go.Proofs.Ytaidkbnbfnaihaa

abbrev zz : Str := ⟨#[122, 122]⟩
end Go.Proofs.Ytaidkbnbfnaihaa
namespace Go.Proofs.Ytaidkbnbfnaihaa

structure Wk where
  ps : List Str
  at_ : Fil
  dir : Fil
  name : Str
  missing : Bool
  links : Nat
def stp (s : Spc) (fl : Bool) (p : Str) (ps : List Str) (w : Wk) : Int ⊕ Wk :=
  if dirL s.files w.at_ = false then .inl 20
  else if 12 < p.size then .inl 36
  else if p = dot2 then .inr ⟨ps, itD s s.mounts.length (upF s (s.mounts.length + 1) w.at_), (0, 0), ⟨#[]⟩, w.missing, w.links⟩
  else if p = dot1 then .inr ⟨ps, w.at_, (0, 0), ⟨#[]⟩, w.missing, w.links⟩
  else if nameL p = false then .inl 2
  else if (lookL s.files w.at_ p).2 ≠ 0 then (if ps ≠ [] then .inl 2 else .inr ⟨ps, w.at_, w.at_, p, true, w.links⟩)
  else if (nodG s.files (lookL s.files w.at_ p).1).kind = 3 ∧ (ps ≠ [] ∨ fl = true) then
    (if w.links = 8 then .inl 40 else
      .inr ⟨splS (nodG s.files (lookL s.files w.at_ p).1).target ++ ps, if hdL (nodG s.files (lookL s.files w.at_ p).1).target = true then rootD s else w.at_, if hdL (nodG s.files (lookL s.files w.at_ p).1).target = true then (0, 0) else w.dir, if hdL (nodG s.files (lookL s.files w.at_ p).1).target = true then ⟨#[]⟩ else w.name, w.missing, w.links + 1⟩)
  else .inr ⟨ps, itD s s.mounts.length (lookL s.files w.at_ p).1, w.at_, p, w.missing, w.links⟩
def fndW (s : Spc) (sl : Bool) (w : Wk) : Fnd :=
  if w.name = ⟨#[]⟩ then ⟨w.at_, ⟨#[]⟩, w.at_, !w.missing, sl, (whereP s w.at_).1⟩
  else ⟨w.dir, w.name, if w.missing = true then (0, 0) else w.at_, !w.missing, sl, if (whereP s w.dir).2 = true then joinS (whereP s w.dir).1 w.name else ⟨#[]⟩⟩
structure Sim (w : Wk) (σ : Lk) : Prop where
  ps : w.ps = σ.ps
  links : w.links = σ.links
  ex : σ.ex = !w.missing
  here : w.missing = false → w.at_ = σ.file
  gone : w.missing = true → σ.file = (0, 0) ∧ w.ps = [] ∧ w.dir = σ.dir ∧ w.name = σ.name ∧ w.name ≠ ⟨#[]⟩
  last : w.ps = [] → w.missing = false → (w.name = ⟨#[]⟩ → σ.name = ⟨#[]⟩ ∧ σ.dir = σ.file) ∧ (w.name ≠ ⟨#[]⟩ → w.dir = σ.dir ∧ w.name = σ.name)
section
variable {s : Spc} (hv : SpcV s)
include hv
theorem look_nm {a : Fil} {p : Str} (h : nameL p = false) : (lookL s.files a p).2 ≠ 0 := by
  intro e
  have := (ent_to hv (a := a) (p := p) (b := (lookL s.files a p).1) (Prod.ext rfl e)).2.1
  rw [this] at h; cases h
theorem target_ne {a b : Fil} {p : Str} (hl : lookL s.files a p = (b, 0)) (hk : (nodG s.files b).kind = 3) : (nodG s.files b).target ≠ ⟨#[]⟩ := by
  have hb := (ent_to hv hl).2.2.2.2.1
  obtain ⟨q, i, d, m, h1, h2, h3, h4, h5, h6⟩ := at_ok hb
  rw [h6] at hk ⊢
  have hp := (hv.files.vd d (List.mem_of_getElem? h2)).plain m (List.mem_of_getElem? h3)
  unfold plainL at hp
  split at hp
  · cases hp
  · try rw [if_pos hk] at hp
    unfold targetL at hp
    intro e
    rw [e] at hp
    revert hp
    decide +kernel
theorem sim_step (fl : Bool) {p : Str} {ps : List Str} {w : Wk} {σ : Lk} (h : Sim w σ) (hm : w.missing = false) : (∃ e, stp s fl p ps w = .inl e ∧ lkS s fl p ps σ.file σ.links = .inl e) ∨ ∃ w' τ, stp s fl p ps w = .inr w' ∧ lkS s fl p ps σ.file σ.links = .inr τ ∧ Sim w' τ := by
  have ha := h.here hm
  have hex : (true : Bool) = !w.missing := by rw [hm]; rfl
  rw [← ha, ← h.links]
  unfold stp lkS
  by_cases c1 : dirL s.files w.at_ = false
  · simp only [if_pos c1]; exact .inl ⟨_, rfl, rfl⟩
  · simp only [if_neg c1]
    by_cases c2 : 12 < p.size
    · simp only [if_pos c2]; exact .inl ⟨_, rfl, rfl⟩
    · simp only [if_neg c2]
      by_cases c3 : p = dot1
      · have c4 : ¬ p = dot2 := by rw [c3]; decide
        simp only [if_pos c3, if_neg c4]
        exact .inr ⟨_, _, rfl, rfl, rfl, rfl, hex, fun _ => rfl, fun c => (by rw [hm] at c; cases c), fun _ _ => ⟨fun _ => ⟨rfl, rfl⟩, fun c => absurd rfl c⟩⟩
      · simp only [if_neg c3]
        by_cases c4 : p = dot2
        · simp only [if_pos c4]
          exact .inr ⟨_, _, rfl, rfl, rfl, rfl, hex, fun _ => rfl, fun c => (by rw [hm] at c; cases c), fun _ _ => ⟨fun _ => ⟨rfl, rfl⟩, fun c => absurd rfl c⟩⟩
        · simp only [if_neg c4]
          by_cases c5 : nameL p = false
          · have c6 := look_nm hv (a := w.at_) c5
            simp only [if_pos c5, if_pos c6, if_pos (show ps ≠ [] ∨ nameL p = false from .inr c5)]
            exact .inl ⟨_, rfl, rfl⟩
          · simp only [if_neg c5]
            have hp0 : p ≠ ⟨#[]⟩ := (nm_free (by simpa using c5)).2.2.2.1
            by_cases c6 : (lookL s.files w.at_ p).2 ≠ 0
            · simp only [if_pos c6]
              by_cases c7 : ps ≠ []
              · simp only [if_pos c7, if_pos (show ps ≠ [] ∨ nameL p = false from .inl c7)]
                exact .inl ⟨_, rfl, rfl⟩
              · simp only [if_neg c7, if_neg (show ¬ (ps ≠ [] ∨ nameL p = false) from fun c => c.elim c7 c5)]
                have c8 : ps = [] := Decidable.not_not.1 c7
                exact .inr ⟨_, _, rfl, rfl, c8, rfl, rfl, fun c => (by cases c), fun _ => ⟨rfl, c8, rfl, rfl, hp0⟩, fun _ c => by cases c⟩
            · simp only [if_neg c6]
              by_cases c7 : (nodG s.files (lookL s.files w.at_ p).1).kind = 3 ∧ (ps ≠ [] ∨ fl = true)
              · simp only [if_pos c7]
                by_cases c8 : w.links = 8
                · simp only [if_pos c8]; exact .inl ⟨_, rfl, rfl⟩
                · simp only [if_neg c8]
                  have ht := target_ne hv (a := w.at_) (p := p) (b := (lookL s.files w.at_ p).1) (Prod.ext rfl (Decidable.not_not.1 c6)) c7.1
                  refine .inr ⟨_, _, rfl, rfl, rfl, rfl, hex, fun _ => rfl, fun c => (by rw [hm] at c; cases c), fun hps _ => ?_⟩
                  by_cases c9 : hdL (nodG s.files (lookL s.files w.at_ p).1).target = true
                  · simp only [if_pos c9]
                    exact ⟨fun _ => ⟨trivial, trivial⟩, fun c => absurd rfl c⟩
                  · have := splS_rel ht (by simpa using c9)
                    exact absurd (List.append_eq_nil_iff.1 hps).1 this
              · simp only [if_neg c7]
                exact .inr ⟨_, _, rfl, rfl, rfl, rfl, hex, fun _ => rfl, fun c => (by rw [hm] at c; cases c), fun _ _ => ⟨fun c => absurd c hp0, fun _ => ⟨rfl, rfl⟩⟩⟩
theorem sim_end {sl : Bool} {w : Wk} {σ : Lk} (h : Sim w σ) (hps : w.ps = []) : fndW s sl w = fndOf s sl σ := by
  unfold fndW fndOf
  cases hm : w.missing with
  | true =>
    obtain ⟨g1, _, g2, g3, g4⟩ := h.gone hm
    rw [if_neg g4, h.ex, hm, g1, ← g2, ← g3]
    simp only [if_true, g4, if_false]
  | false =>
    have ha := h.here hm
    obtain ⟨k1, k2⟩ := h.last hps hm
    by_cases c : w.name = ⟨#[]⟩
    · obtain ⟨e1, e2⟩ := k1 c
      rw [if_pos c, h.ex, hm, e1, e2, ← ha]
      simp only [if_true]
      by_cases cw : (whereP s w.at_).2 = true
      · rw [if_pos cw]
      · rw [if_neg cw]
        have : whereP s w.at_ = (⟨#[]⟩, false) := where_no hv fun c => cw (where_ok2 hv c.1 c.2)
        rw [this]
    · obtain ⟨e1, e2⟩ := k2 c
      rw [if_neg c, h.ex, hm, ← e1, ← e2, ← ha]
      simp only [c, if_false, Bool.false_eq_true]
end
end Go.Proofs.Ytaidkbnbfnaihaa
namespace Go.Proofs.Ytaidkbnbfnaihaa
open Go.RowKit

theorem toL (s : ByteArray) : s.toList = s.data.toList := Lib.toList_data s
theorem str_ext {a b : ByteArray} (h : a.data.toList = b.data.toList) : a = b := by
  cases a; cases b; simp at h; simp [h]
theorem str_eq_iff {a b : ByteArray} : a.data.toList = b.data.toList ↔ a = b := ⟨str_ext, fun h => by rw [h]⟩
theorem beq_str (a b : ByteArray) : (a.toList == b.toList) = decide (a = b) := by
  rw [toL, toL, Bool.eq_iff_iff, beq_iff_eq, decide_eq_true_iff]
  exact str_eq_iff
theorem empty_iff' (s : ByteArray) : s.toList.isEmpty = decide (s.size = 0) := by
  rw [toL, Lib.size_eq, Bool.eq_iff_iff, List.isEmpty_iff, decide_eq_true_iff, List.length_eq_zero_iff]
set_option maxRecDepth 100000 in
set_option maxHeartbeats 400000 in
theorem Index_slash (s : ByteArray) (w : World) :
    Calls Try.prog 96 #[.string s, .string ⟨#[47]⟩] w fun e w' => e = .returned (.int .i64 (Lib.indexByte s.data.toList 47)) ∧ w = w' := by
  by_cases h : s = ⟨#[47]⟩
  · subst h
    go_enter Try.func96, Try.ntmps96
    go_wp2
    go_ret
    exact ⟨rfl, rfl⟩
  · have h1 : ([47] == s.toList) = false := by
      have := beq_str ⟨#[47]⟩ s
      rw [decide_eq_false (fun e => h e.symm), toL ⟨#[47]⟩] at this
      exact this
    go_enter Try.func96, Try.ntmps96
    go_wp2_with (go_at_call 101; refine (Try.stringslite_IndexByte _ _ _).mono ?_; rintro e w' ⟨rfl, rfl⟩)
    go_ret
    exact ⟨rfl, rfl⟩
theorem index_some {l : Bs} (h : (47 : UInt8) ∈ l) : ∃ i : Nat, Lib.indexByte l 47 = i ∧ i < l.length ∧ l = l.take i ++ 47 :: l.drop (i + 1) ∧ (47 : UInt8) ∉ l.take i := by
  have hge := Lib.indexByte_ge l 47
  by_cases hm : Lib.indexByte l 47 = -1
  · have := Lib.indexByte_none hm
    obtain ⟨k, hk⟩ := List.mem_iff_getElem?.1 h
    exact absurd hk (this k)
  · obtain ⟨i, hi⟩ := Int.eq_ofNat_of_zero_le (show 0 ≤ Lib.indexByte l 47 by omega)
    obtain ⟨h1, h2⟩ := Lib.indexByte_some hi
    have hlt : i < l.length := (List.getElem?_eq_some_iff.1 h1).1
    refine ⟨i, hi, hlt, ?_, ?_⟩
    · have h3 : l[i] = 47 := (List.getElem?_eq_some_iff.1 h1).2
      rw [← h3, List.getElem_cons_drop, List.take_append_drop]
    · intro hmem
      obtain ⟨k, hk⟩ := List.mem_iff_getElem?.1 hmem
      rw [List.getElem?_take] at hk
      split at hk
      · exact h2 k (by assumption) hk
      · cases hk
theorem index_none {l : Bs} (h : (47 : UInt8) ∉ l) : Lib.indexByte l 47 = -1 := by
  have hge := Lib.indexByte_ge l 47
  by_cases hm : Lib.indexByte l 47 = -1
  · exact hm
  · obtain ⟨i, hi⟩ := Int.eq_ofNat_of_zero_le (show 0 ≤ Lib.indexByte l 47 by omega)
    obtain ⟨h1, _⟩ := Lib.indexByte_some hi
    exact absurd (List.mem_of_getElem? h1) h

end Go.Proofs.Ytaidkbnbfnaihaa
namespace Go.Proofs.Ytaidkbnbfnaihaa
open Go.RowKit

theorem encode_high (r : Int) (h0 : 128 ≤ r) (h1 : Lib.validRune r = true) :
    (∃ a b : UInt8, Utf8.encode r = ⟨#[a, b]⟩ ∧ 128 ≤ b.toNat) ∨ (∃ a b c : UInt8, Utf8.encode r = ⟨#[a, b, c]⟩) ∨ (∃ a b c d : UInt8, Utf8.encode r = ⟨#[a, b, c, d]⟩) := by
  have hv : Utf8.valid r = true := by
    have := of_decide_eq_true h1
    unfold Utf8.valid
    simp only [Bool.or_eq_true, Bool.and_eq_true, decide_eq_true_iff]
    omega
  unfold Utf8.encode
  simp only [hv, if_true]
  have hn : ¬ r.toNat < 128 := by omega
  rw [if_neg hn]
  by_cases h2 : r.toNat < 2048
  · rw [if_pos h2]
    refine .inl ⟨_, _, rfl, ?_⟩
    simp only [UInt8.toNat_ofNat']
    omega
  · rw [if_neg h2]
    by_cases h3 : r.toNat < 65536
    · rw [if_pos h3]
      exact .inr (.inl ⟨_, _, _, rfl⟩)
    · rw [if_neg h3]
      exact .inr (.inr ⟨_, _, _, _, rfl⟩)

set_option maxRecDepth 1000000 in
set_option maxHeartbeats 2000000 in
theorem IndexRune_bad (r : Int) (w : World) (h0 : 128 ≤ r) (h1 : r ≤ 2147483647) (h2 : r ≠ 65533) (hv : Lib.validRune r = false) :
    Calls Try.prog 97 #[.string ⟨#[0, 47]⟩, .int .i32 r] w fun e w' => e = .returned (.int .i64 (-1)) ∧ w = w' := by
  have h2' : (r == 65533) = false := by simpa using h2
  go_enter Try.func97, Try.ntmps97
  go_wp2_with (go_at_call 106; refine (Try.utf8_ValidRune _ _).mono ?_; rintro e w' ⟨rfl, rfl⟩; rw [hv])
  go_ret
  exact ⟨rfl, rfl⟩
set_option maxRecDepth 1000000 in
set_option maxHeartbeats 2000000 in
theorem IndexRune_good (r : Int) (w : World) (h0 : 128 ≤ r) (h1 : r ≤ 2147483647) (h2 : r ≠ 65533) (hv : Lib.validRune r = true) :
    Calls Try.prog 97 #[.string ⟨#[0, 47]⟩, .int .i32 r] w fun e w' => e = .returned (.int .i64 (-1)) ∧ Below w.heap.size w w' := by
  have h2' : (r == 65533) = false := by simpa using h2
  have hlt : decide (r < 128) = false := by simpa using h0
  rcases encode_high r h0 hv with ⟨a, b, he, hb⟩ | ⟨a, b, c, he⟩ | ⟨a, b, c, d, he⟩
  · have hne : ((((⟨#[0, 47]⟩ : ByteArray)[1]'(by decide)).toNat : Int) != (((⟨#[a, b]⟩ : ByteArray)[1]'(by show 1 < 2; decide)).toNat : Int)) = true := by
      show ((47 : Int) != (b.toNat : Int)) = true
      rw [bne_iff_ne]
      omega
    go_enter Try.func97, Try.ntmps97
    go_wp2_with (go_at_call 106; refine (Try.utf8_ValidRune _ _).mono ?_; rintro e w' ⟨rfl, rfl⟩; rw [hv])
    go_step3
    go_wp2
    refine wp_loop_rounds 1 ?_
    rw [rounds_succ]
    go_wp2
    go_step3
    go_wp2
    go_quiet (fail)
    have hb := below_drewN (Below.refl w'.heap.size w') nq
    generalize w'.drewN nq = wq at *
    go_wp2
    go_quiet ((go_at_call 105; exact Calls.quiet_of_same (Try.strings_IndexByte _ _ _)))
    go_wp2
    rw [Exit.noGoto_ret]
    go_wp2
    rw [Exit.noGoto_ret]
    go_wp2
    go_ret
    exact ⟨rfl, below_drewN hb _⟩
  · go_enter Try.func97, Try.ntmps97
    go_wp2_with (go_at_call 106; refine (Try.utf8_ValidRune _ _).mono ?_; rintro e w' ⟨rfl, rfl⟩; rw [hv])
    go_step3
    go_wp2
    refine wp_loop_rounds 1 ?_
    rw [rounds_succ]
    go_wp2
    rw [Exit.noGoto_ret]
    go_wp2
    go_ret
    exact ⟨rfl, Below.refl _ _⟩
  · go_enter Try.func97, Try.ntmps97
    go_wp2_with (go_at_call 106; refine (Try.utf8_ValidRune _ _).mono ?_; rintro e w' ⟨rfl, rfl⟩; rw [hv])
    go_step3
    go_wp2
    refine wp_loop_rounds 1 ?_
    rw [rounds_succ]
    go_wp2
    rw [Exit.noGoto_ret]
    go_wp2
    go_ret
    exact ⟨rfl, Below.refl _ _⟩

theorem two_at (i : Nat) (hi : i < 2) : ((⟨#[0, 47]⟩ : ByteArray)[i]'hi).toNat < 128 := by
  match i, hi with
  | 0, _ => show (0 : UInt8).toNat < 128; decide
  | 1, _ => show (47 : UInt8).toNat < 128; decide
set_option maxRecDepth 1000000 in
set_option maxHeartbeats 2000000 in
theorem IndexRune_err (w : World) :
    Calls Try.prog 97 #[.string ⟨#[0, 47]⟩, .int .i32 65533] w fun e w' => e = .returned (.int .i64 (-1)) ∧ Below w.heap.size w w' := by
  go_enter Try.func97, Try.ntmps97
  go_wp2
  go_loopg [5, 6] 2 (fun g _ _ wx => ∃ i : Nat, i + g = 2 ∧ wx = w.iter ⟨#[0, 47]⟩ i)
  case atStart => exact ⟨0, by omega, rfl⟩
  case round =>
    obtain ⟨i, hig, rfl⟩ := hrel
    cases gk with
    | zero =>
      obtain rfl : i = 2 := by omega
      have hnx := run_next_end (P := Try.prog) w ⟨#[0, 47]⟩ 2
      go_wp2
      go_ret
      exact ⟨rfl, (Below.refl _ _).alloc (Nat.le_refl _) _⟩
    | succ g =>
      have hi : i < 2 := by omega
      have hx := two_at i hi
      have hnx := fun ty => run_next_ascii (P := Try.prog) w ⟨#[0, 47]⟩ i ty hi hx
      generalize ((⟨#[0, 47]⟩ : ByteArray)[i]'hi) = x at *
      have hne : ((x.toNat : Int) == 65533) = false := beq_eq_false_iff_ne.2 (by omega)
      go_wp2
      go_roundg g
      case measure => omega
      case rel => exact ⟨i + 1, by omega, rfl⟩

end Go.Proofs.Ytaidkbnbfnaihaa
namespace Go.Proofs.Ytaidkbnbfnaihaa
open Go.RowKit

theorem decode_span (s : ByteArray) (i : Nat) (h : i < s.size) (ha : 128 ≤ (s[i]'h).toNat) :
    1 ≤ (Utf8.decode s i).2 ∧ i + (Utf8.decode s i).2 ≤ s.size ∧ ∀ k, k < (Utf8.decode s i).2 → 128 ≤ (s.get! (i + k)).toNat := by
  have hn : ¬ (s[i]'h).toNat < 128 := by omega
  have h0 : s.get! (i + 0) = s[i]'h := get_at s i h
  have g0 : 128 ≤ (s.get! (i + 0)).toNat := by rw [h0]; exact ha
  have c1 : ∀ k, (decide (i + k < s.size) && (s.get! (i + k)).toNat / 64 == 2) = true → i + k < s.size ∧ 128 ≤ (s.get! (i + k)).toNat := by
    intro k hk
    simp only [Bool.and_eq_true, decide_eq_true_iff, beq_iff_eq] at hk
    exact ⟨hk.1, by omega⟩
  have one : 1 ≤ 1 ∧ i + 1 ≤ s.size ∧ ∀ k, k < 1 → 128 ≤ (s.get! (i + k)).toNat := by
    refine ⟨Nat.le_refl _, h, fun k hk => ?_⟩
    obtain rfl : k = 0 := by omega
    exact g0
  unfold Utf8.decode
  simp only [h0, hn, if_false]
  split
  · rename_i hc
    rw [Bool.and_eq_true] at hc
    obtain ⟨a1, b1⟩ := c1 1 hc.2
    split
    · refine ⟨by simp, a1, fun k hk => ?_⟩
      have : k = 0 ∨ k = 1 := by simp at hk; omega
      rcases this with rfl | rfl
      · exact g0
      · exact b1
    · exact one
  · split
    · rename_i hc
      rw [Bool.and_eq_true, Bool.and_eq_true] at hc
      obtain ⟨a1, b1⟩ := c1 1 hc.1.2
      obtain ⟨a2, b2⟩ := c1 2 hc.2
      split
      · refine ⟨by simp, a2, fun k hk => ?_⟩
        have : k = 0 ∨ k = 1 ∨ k = 2 := by simp at hk; omega
        rcases this with rfl | rfl | rfl
        · exact g0
        · exact b1
        · exact b2
      · exact one
    · split
      · rename_i hc
        rw [Bool.and_eq_true, Bool.and_eq_true, Bool.and_eq_true] at hc
        obtain ⟨a1, b1⟩ := c1 1 hc.1.1.2
        obtain ⟨a2, b2⟩ := c1 2 hc.1.2
        obtain ⟨a3, b3⟩ := c1 3 hc.2
        split
        · refine ⟨by simp, a3, fun k hk => ?_⟩
          have : k = 0 ∨ k = 1 ∨ k = 2 ∨ k = 3 := by simp at hk; omega
          rcases this with rfl | rfl | rfl | rfl
          · exact g0
          · exact b1
          · exact b2
          · exact b3
        · exact one
      · exact one
theorem get!_at (s : ByteArray) (j : Nat) (hj : j < s.size) : s.data.toList[j]? = some (s.get! j) := by
  have := get_at s j hj
  rw [Nat.add_zero] at this
  rw [this]
  exact Lib.data_getElem? s j hj
theorem noAny_span {s : ByteArray} {i : Nat} (h : i < s.size) (ha : 128 ≤ (s[i]'h).toNat) (hno : Lib.NoAny s.data.toList [0, 47] i) : Lib.NoAny s.data.toList [0, 47] (i + (Utf8.decode s i).2) := by
  obtain ⟨_, h2, h3⟩ := decode_span s i h ha
  intro j b hj hb
  by_cases hlt : j < i
  · exact hno j b hlt hb
  · have := h3 (j - i) (by omega)
    rw [show i + (j - i) = j by omega] at this
    rw [get!_at s j (by omega)] at hb
    injection hb with hb
    rw [hb] at this
    have h0 : b ≠ 0 := by rintro rfl; simp at this
    have h47 : b ≠ 47 := by
      rintro rfl
      have : (47 : UInt8).toNat = 47 := rfl
      omega
    simp [h0, h47]

theorem IndexRune_high (r : Int) (w : World) (h0 : 128 ≤ r) (h1 : r ≤ 2147483647) :
    Calls Try.prog 97 #[.string ⟨#[0, 47]⟩, .int .i32 r] w fun e w' => e = .returned (.int .i64 (-1)) ∧ Below w.heap.size w w' := by
  by_cases h2 : r = 65533
  · subst h2; exact IndexRune_err w
  · cases hv : Lib.validRune r with
    | true => exact IndexRune_good r w h0 h1 h2 hv
    | false => exact (IndexRune_bad r w h0 h1 h2 hv).mono fun e w' h => ⟨h.1, by rw [← h.2]; exact Below.refl _ _⟩

def AnyQ (s : ByteArray) (w : World) (e : Ending) (w' : World) : Prop := ∃ v : Int, e = .returned (.int .i64 v) ∧ Below w.heap.size w w' ∧ ((0 ≤ v) ↔ ((0 : UInt8) ∈ s.data.toList ∨ (47 : UInt8) ∈ s.data.toList))
theorem any_none {s : ByteArray} (h : Lib.NoAny s.data.toList [0, 47] s.size) : ¬ ((0 : UInt8) ∈ s.data.toList ∨ (47 : UInt8) ∈ s.data.toList) := by
  rintro (h' | h')
  · obtain ⟨j, hj⟩ := List.mem_iff_getElem?.1 h'
    have := h j 0 (by rw [Lib.size_eq]; exact (List.getElem?_eq_some_iff.1 hj).1) hj
    simp at this
  · obtain ⟨j, hj⟩ := List.mem_iff_getElem?.1 h'
    have := h j 47 (by rw [Lib.size_eq]; exact (List.getElem?_eq_some_iff.1 hj).1) hj
    simp at this
theorem any_hit {s : ByteArray} {i : Nat} {x : UInt8} (hx : s.data.toList[i]? = some x) (h : [0, 47].contains x = true) : ((0 : UInt8) ∈ s.data.toList ∨ (47 : UInt8) ∈ s.data.toList) := by
  have hm := List.mem_of_getElem? hx
  simp at h
  rcases h with rfl | rfl
  · exact .inl hm
  · exact .inr hm

set_option maxRecDepth 1000000 in
set_option maxHeartbeats 4000000 in
theorem IndexAny_short (s : ByteArray) (w : World) (h8 : s.size ≤ 8) : Calls Try.prog 92 #[.string s, .string ⟨#[0, 47]⟩] w (AnyQ s w) := by
  have h8z : decide ((8 : Int) < (s.size : Int)) = false := decide_eq_false (by omega)
  go_enter Try.func92, Try.ntmps92
  go_wp2_with (go_at_call 98; refine (Try.strings_shouldUseASCIISet _ _).mono ?_; rintro e w' ⟨rfl, hw⟩; rw [hw, h8z])
  clear hw
  go_loopg [9, 10] s.size (fun g _ _ wx => ∃ i : Nat, s.size ≤ i + g ∧ i ≤ s.size ∧ wx.heap[w.heap.size]? = some (.stringIter s i) ∧ Below w.heap.size w wx ∧ Hid (Lib.NoAny s.data.toList [0, 47] i))
  case atStart => exact ⟨0, by omega, by omega, World.iter_heap w s 0, (Below.refl _ _).alloc (Nat.le_refl _) _, Lib.hid (Lib.NoAny.zero _ _)⟩
  case round =>
    obtain ⟨i, hg, hi, hit, hbel, hno⟩ := hrel
    have hks := hbel.size
    by_cases hlt : i < s.size
    · obtain ⟨g, rfl⟩ : ∃ g, gk = g + 1 := ⟨gk - 1, by omega⟩
      by_cases hx : (s[i]'hlt).toNat < 128
      · have hnx := fun ty => Lib.run_next_ascii_at (P := Try.prog) wr w.heap.size s i ty hit hlt hx
        have hxl : s.data.toList[i]? = some (s[i]'hlt) := Lib.data_getElem? s i hlt
        generalize (s[i]'hlt) = x at *
        have Hx := Lib.hid hxl
        have hit' := Lib.iterAt_heap wr w.heap.size s i (i + 1) hit
        have hbel' := Lib.below_iterAt hbel (Nat.le_refl _) s (i + 1)
        generalize wr.iterAt w.heap.size s (i + 1) = w1 at *
        have hcon := Lib.contains_iff_indexByte [0, 47] x
        have hback : ((x.toNat : Int)).toNat.toUInt8 = x := by simp
        have HI := Lib.hid hit'
        clear hxl hit hit'
        cases hin : [0, 47].contains x
        · rw [hin] at hcon
          have hneg : ¬ ((0 : Int) ≤ Lib.indexByte [0, 47] x) := of_decide_eq_false hcon.symm
          clear hcon
          go_wp2_with (go_at_call 97; refine (Try.strings_IndexRune_ascii _ _ _ (by omega) (by omega)).mono ?_; rintro e w' ⟨rfl, hw⟩; rw [hw, hback])
          go_roundg g
          case measure => omega
          case rel => exact ⟨i + 1, by omega, by omega, HI.out, hbel', Lib.hid (hno.out.succ Hx.out hin)⟩
        · rw [hin] at hcon
          have hpos : (0 : Int) ≤ Lib.indexByte [0, 47] x := of_decide_eq_true hcon.symm
          clear hcon
          go_wp2_with (go_at_call 97; refine (Try.strings_IndexRune_ascii _ _ _ (by omega) (by omega)).mono ?_; rintro e w' ⟨rfl, hw⟩; rw [hw, hback])
          go_ret
          exact ⟨_, rfl, hbel', ⟨fun _ => any_hit Hx.out hin, fun _ => by omega⟩⟩
      · have hx' : 128 ≤ (s[i]'hlt).toNat := by omega
        obtain ⟨p1, p2, _⟩ := decode_span s i hlt hx'
        have HN := Lib.hid (noAny_span hlt hx' hno.out)
        have q1 := (decode_high s i hlt hx').1
        have q2 := decode_le s i
        have hnx := fun ty => Lib.run_next_any_at (P := Try.prog) wr w.heap.size s i ty hit hlt
        generalize Utf8.decode s i = d at *
        obtain ⟨d1, d2⟩ := d
        simp only at *
        have hit' := Lib.iterAt_heap wr w.heap.size s i (i + d2) hit
        have hbel' := Lib.below_iterAt hbel (Nat.le_refl _) s (i + d2)
        have hsz := Lib.iterAt_size wr w.heap.size s (i + d2)
        generalize wr.iterAt w.heap.size s (i + d2) = w1 at *
        have hk1 : w.heap.size < w1.heap.size := (Array.getElem?_eq_some_iff.1 hit').1
        have HI := Lib.hid hit'
        clear hit hit' hsz
        go_wp2_with fail
        refine (IndexRune_high _ _ (by omega) (by omega)).mono ?_
        rintro e w2 ⟨rfl, hb2⟩
        go_wp2
        go_roundg g
        case measure => omega
        case rel => exact ⟨i + d2, by omega, by omega, (hb2.block _ hk1).trans HI.out, hbel'.trans (hb2.mono (by omega)), HN⟩
    · obtain rfl : i = s.size := by omega
      have hnx := fun ty => Lib.run_next_end_at (P := Try.prog) wr w.heap.size s s.size ty hit hlt
      go_wp2
      go_ret
      exact ⟨_, rfl, hbel, ⟨fun h => absurd h (by decide), fun h => absurd h (any_none hno.out)⟩⟩

end Go.Proofs.Ytaidkbnbfnaihaa
namespace Go.Proofs.Ytaidkbnbfnaihaa
open Go.RowKit

theorem indexAny_mem (s : ByteArray) : (0 ≤ Lib.indexAny s.data.toList [0, 47]) ↔ ((0 : UInt8) ∈ s.data.toList ∨ (47 : UInt8) ∈ s.data.toList) := by
  generalize s.data.toList = l
  induction l with
  | nil => simp [Lib.indexAny]
  | cons b l ih =>
    have hge := Lib.indexAny_ge [0, 47] l
    unfold Lib.indexAny
    by_cases hb : [0, 47].contains b = true
    · rw [if_pos hb]
      simp only [List.contains_cons, List.contains_nil, Bool.or_false, Bool.or_eq_true, beq_iff_eq] at hb
      rcases hb with rfl | rfl <;> simp
    · rw [if_neg hb]
      have h0 : (0 : UInt8) ≠ b := by rintro rfl; simp at hb
      have h47 : (47 : UInt8) ≠ b := by rintro rfl; simp at hb
      simp only [List.mem_cons, h0, h47, false_or]
      rw [← ih]
      split
      · rename_i h
        have : Lib.indexAny l [0, 47] = -1 := by simpa using h
        rw [this]
      · rename_i h
        have : Lib.indexAny l [0, 47] ≠ -1 := by simpa using h
        constructor <;> intro h' <;> omega
theorem IndexAny_any (s : ByteArray) (w : World) (hs : s.size ≤ 1000000) : Calls Try.prog 92 #[.string s, .string ⟨#[0, 47]⟩] w (AnyQ s w) := by
  by_cases h8 : s.size ≤ 8
  · exact IndexAny_short s w h8
  · refine (Try.strings_IndexAny_long (fun w => by kernel_rfl) s ⟨#[0, 47]⟩ w (by decide) (by omega) (by omega) (by decide) ?_).mono ?_
    · intro j b hj
      have : b ∈ [0, 47] := List.mem_of_getElem? hj
      simp at this
      rcases this with rfl | rfl <;> decide
    · rintro e w' ⟨rfl, rfl⟩
      exact ⟨_, rfl, below_a2 _ _ _, indexAny_mem s⟩
def badB (s : ByteArray) : Bool := decide ((0 : UInt8) ∈ s.data.toList ∨ (47 : UInt8) ∈ s.data.toList)
theorem ContainsAny_any (s : ByteArray) (w : World) (hs : s.size ≤ 1000000) :
    Calls Try.prog 78 #[.string s, .string ⟨#[0, 47]⟩] w fun e w' => e = .returned (.bool (badB s)) ∧ Below w.heap.size w w' := by
  go_enter Try.func78, Try.ntmps78
  go_wp2_with fail
  refine (IndexAny_any s w hs).mono ?_
  rintro e w' ⟨v, rfl, hb, hv⟩
  have HV := Lib.hid hv
  clear hv
  go_wp2
  go_ret
  exact ⟨ret_bool (decide_eq_decide.2 HV.out), hb⟩

theorem eq_dot (s : ByteArray) : (s.toList == [46]) = decide (s.data.toList = [46]) := by rw [toL, Bool.eq_iff_iff]; simp
theorem eq_dots (s : ByteArray) : (s.toList == [46, 46]) = decide (s.data.toList = [46, 46]) := by rw [toL, Bool.eq_iff_iff]; simp
set_option maxHeartbeats 1000000 in
theorem PName_any (s : ByteArray) (w : World) :
    Calls Try.prog 56 #[.string s] w fun e w' => e = .returned (.bool (nmL s.data.toList)) ∧ Below w.heap.size w w' := by
  have hsz := Lib.size_eq s
  by_cases h0 : s.size = 0
  · have he : s.toList.isEmpty = true := by rw [empty_iff']; simp [h0]
    have he' : s.toList = [] := List.isEmpty_iff.1 he
    have HF : Hid (nmL s.data.toList = false) := Lib.hid (by
      rw [← toL, he']; rfl)
    clear hsz
    go_enter Try.func56, Try.ntmps56
    go_wp2
    go_ret
    exact ⟨ret_bool HF.out.symm, Below.refl _ _⟩
  · have he : s.toList.isEmpty = false := by rw [empty_iff']; simp [h0]
    have hne : s.data.toList ≠ [] := by intro e; rw [e] at hsz; exact h0 hsz
    by_cases h12 : s.size ≤ 12
    · have hle : decide ((s.size : Int) ≤ 12) = true := decide_eq_true (by omega)
      by_cases h1 : s.data.toList = [46]
      · have e1 : (s.toList == [46]) = true := by rw [eq_dot]; simp [h1]
        have e1' : (s.toList != [46]) = false := by simp [bne, e1]
        have HF : Hid (nmL s.data.toList = false) := Lib.hid (by rw [h1]; rfl)
        clear hsz hne h1
        go_enter Try.func56, Try.ntmps56
        go_wp2
        go_ret
        exact ⟨ret_bool HF.out.symm, Below.refl _ _⟩
      · have e1 : (s.toList == [46]) = false := by rw [eq_dot]; simp [h1]
        have e1' : (s.toList != [46]) = true := by simp [bne, e1]
        by_cases h2 : s.data.toList = [46, 46]
        · have e2 : (s.toList == [46, 46]) = true := by rw [eq_dots]; simp [h2]
          have e2' : (s.toList != [46, 46]) = false := by simp [bne, e2]
          have HF : Hid (nmL s.data.toList = false) := Lib.hid (by rw [h2]; rfl)
          clear hsz hne h1 h2
          go_enter Try.func56, Try.ntmps56
          go_wp2
          go_ret
          exact ⟨ret_bool HF.out.symm, Below.refl _ _⟩
        · have e2 : (s.toList == [46, 46]) = false := by rw [eq_dots]; simp [h2]
          have e2' : (s.toList != [46, 46]) = true := by simp [bne, e2]
          have HF : Hid (nmL s.data.toList = !badB s) := Lib.hid (by
            unfold badB
            rw [Bool.eq_iff_iff, nmL_iff]
            simp only [Bool.not_eq_true', decide_eq_false_iff_not, not_or]
            exact ⟨fun h => h.2.2.2.2, fun h => ⟨hne, by omega, h1, h2, h⟩⟩)
          clear hsz hne h1 h2
          go_enter Try.func56, Try.ntmps56
          go_wp2_with fail
          refine (ContainsAny_any s _ (by omega)).mono ?_
          rintro e w' ⟨rfl, hb⟩
          go_wp2
          go_ret
          exact ⟨ret_bool HF.out.symm, hb⟩
    · have hle : decide ((s.size : Int) ≤ 12) = false := decide_eq_false (by omega)
      have HF : Hid (nmL s.data.toList = false) := Lib.hid (decide_eq_false (fun h => by have := h.2.1; omega))
      clear hsz hne
      go_enter Try.func56, Try.ntmps56
      go_wp2
      go_ret
      exact ⟨ret_bool HF.out.symm, Below.refl _ _⟩

end Go.Proofs.Ytaidkbnbfnaihaa
namespace Go.Proofs.Ytaidkbnbfnaihaa
open Go.RowKit Go.Shelf
attribute [local go_sem] Oper.semAt_some

def boxLen (w : World) (b : Nat) : Nat := match w.cell? ⟨b, 0, none⟩ with
  | some (.string r) => r.size
  | _ => 0
theorem boxLen_eq {w : World} {b : Nat} {t : TypeId} {r : ByteArray} (h : Boxed w b t (.string r)) : boxLen w b = r.size := by simp [boxLen, h.cell]
theorem size_lt_of_extract (s : ByteArray) (i : Nat) (h : i < s.size) : (s.extract (i + 1) s.size).size < s.size := by
  rw [ByteArray.size_extract]; omega
def bls (xs : List Str) : List Bs := xs.map fun x => x.data.toList
end Go.Proofs.Ytaidkbnbfnaihaa
namespace Go.Proofs.Ytaidkbnbfnaihaa
open Go.RowKit Go.Shelf
attribute [local go_sem] Oper.semAt_some

theorem hasPrefix_slash (l : Bs) : Lib.hasPrefix l [47] = decide (l.head? = some 47) := by
  unfold Lib.hasPrefix
  cases l with
  | nil => simp
  | cons c t =>
    rw [Bool.eq_iff_iff, List.isPrefixOf_iff_prefix]
    simp [List.cons_prefix_cons, eq_comm]
end Go.Proofs.Ytaidkbnbfnaihaa
namespace Go.Proofs.Ytaidkbnbfnaihaa
open Go.RowKit

def flat {α : Type} (sz : Nat) (cell : α → Nat → Value) (xs : List α) : List Value := xs.flatMap fun x => (List.range sz).map (cell x)

section
variable {α : Type} {sz : Nat} {cell : α → Nat → Value}
theorem flat_get (xs : List α) : ∀ (i j : Nat) (x : α), xs[i]? = some x → j < sz → (flat sz cell xs)[i * sz + j]? = some (cell x j) := by
  induction xs with
  | nil => intro i j x h; simp at h
  | cons y ys ih =>
    intro i j x h hj
    have e : flat sz cell (y :: ys) = (List.range sz).map (cell y) ++ flat sz cell ys := by simp [flat]
    rw [e]
    cases i with
    | zero =>
      simp at h
      subst h
      rw [List.getElem?_append_left (by simpa using hj)]
      simp [hj]
    | succ i =>
      rw [List.getElem?_append_right (by simp [Nat.add_mul]; omega)]
      simp only [List.getElem?_cons_succ] at h
      have := ih i j x h hj
      rw [← this]
      congr 1
      simp [Nat.add_mul]
      omega
def OwnL (sz : Nat) (cell : α → Nat → Value) (E : TypeId) (w : World) (base : Nat) (v : Value) (xs : List α) : Prop :=
  w.ownsRow base E sz v xs.length (flat sz cell xs)

theorem OwnL.list {E : TypeId} {w : World} {base : Nat} {v : Value} {xs : List α} (h : OwnL sz cell E w base v xs) (hf : xs.length ≤ few) {D : Nat → Prop} (hD : ∀ b, base ≤ b → b < w.heap.size → D b) : ListR sz cell w D v xs := by
  rcases h.2 with ⟨rfl, hn⟩ | ⟨g, cap, cur, rfl, hb, hg, hnc, _, hcs, htake⟩
  · obtain rfl : xs = [] := List.eq_nil_of_length_eq_zero hn
    exact ListR.nil_
  · refine ⟨_, _, rfl, hnc, hf, fun _ => ⟨g, 0, rfl, hD g hb (Array.getElem?_eq_some_iff.1 hg).1, fun i x j hi hj => ?_⟩⟩
    have hlt : i * sz + j < xs.length * sz := by
      have h1 := (List.getElem?_eq_some_iff.1 hi).1
      have h2 : (i + 1) * sz ≤ xs.length * sz := Nat.mul_le_mul_right sz h1
      rw [Nat.add_mul] at h2
      omega
    rw [Nat.zero_add, cell_of_row w g _ cur E (0, 0) hg, ← flat_get xs i j x hi hj, ← htake, List.getElem?_take, if_pos hlt]
    simp
end


end Go.Proofs.Ytaidkbnbfnaihaa
namespace Go.Proofs.Ytaidkbnbfnaihaa
open Go.RowKit

theorem hasSuffix_slash (l : Bs) : Lib.hasSuffix l [47] = decide (l.getLast? = some 47) := by
  unfold Lib.hasSuffix
  rw [Bool.eq_iff_iff, List.isSuffixOf_iff_suffix, decide_eq_true_iff]
  rcases List.eq_nil_or_concat l with rfl | ⟨a, x, rfl⟩
  · simp
  · simp only [List.concat_eq_append, List.getLast?_concat, Option.some.injEq]
    constructor
    · rintro ⟨t, ht⟩
      have := congrArg List.getLast? ht
      simpa [eq_comm] using this
    · rintro rfl
      exact ⟨a, rfl⟩
theorem pieces_len (l : Bs) : (pieces l).length ≤ l.length + 1 := by
  have h1 : (pieces l).length ≤ (segs l).length := List.length_filter_le _ _
  have h2 : (segs l).length ≤ l.length + 1 := by
    clear h1
    induction l with
    | nil => simp [segs]
    | cons c t ih =>
      rw [segs_cons]
      split
      · simp; omega
      · split
        · simp
        · rename_i h
          rw [h] at ih
          simp at ih ⊢
          omega
  omega
theorem flat_str (xs : List Str) : flat 1 strCell xs = xs.map Value.string := by
  induction xs with
  | nil => rfl
  | cons x xs ih =>
    unfold flat at ih ⊢
    rw [List.flatMap_cons, ih]
    rfl
theorem Try.infoStr : (Try.prog.info? 9).map (fun i => (i.zero, i.size, i.bytes)) = some (some (.string ⟨#[]⟩), 1, 16) := by kernel_rfl

end Go.Proofs.Ytaidkbnbfnaihaa
namespace Go.Proofs.Ytaidkbnbfnaihaa
open Go.RowKit

set_option maxHeartbeats 400000 in
theorem Cut_yes (s : ByteArray) (w : World) (i : Nat) (hi : Lib.indexByte s.data.toList 47 = i) (hlt : i < s.size) (hmax : s.size ≤ 1000000) :
    Calls Try.prog 71 #[.string s, .string ⟨#[47]⟩] w fun e w' => e = .returned (.tuple #[.string (s.extract 0 i), .string (s.extract (i + 1) s.size), .bool true]) ∧ ∃ n, w' = w.drewN n := by
  have HI := Lib.hid hi
  clear hi
  have h1 : Calls Try.prog 89 #[.string s, .string ⟨#[47]⟩] w fun e w' => e = .returned (.tuple #[.string (s.extract 0 i), .string (s.extract (i + 1) s.size), .bool true]) ∧ ∃ n, w' = w.drewN n := by
    go_enter Try.func89, Try.ntmps89
    go_wp2_with fail
    refine (Index_slash _ _).mono ?_
    rintro e w' ⟨rfl, rfl⟩
    rw [HI.out]
    go_wp2_with fail
    go_quiet (fail)
    go_wp2
    go_ret3
    exact ⟨rfl, _, rfl⟩
  go_enter Try.func71, Try.ntmps71
  go_wp2_with fail
  refine h1.mono ?_
  rintro e w' ⟨rfl, n, rfl⟩
  go_wp2
  go_ret3
  exact ⟨rfl, _, rfl⟩
set_option maxHeartbeats 400000 in
theorem Cut_no (s : ByteArray) (w : World) (hi : Lib.indexByte s.data.toList 47 = -1) :
    Calls Try.prog 71 #[.string s, .string ⟨#[47]⟩] w fun e w' => e = .returned (.tuple #[.string s, .string ⟨#[]⟩, .bool false]) ∧ w = w' := by
  have HI := Lib.hid hi
  clear hi
  have h1 : Calls Try.prog 89 #[.string s, .string ⟨#[47]⟩] w fun e w' => e = .returned (.tuple #[.string s, .string ⟨#[]⟩, .bool false]) ∧ w = w' := by
    go_enter Try.func89, Try.ntmps89
    go_wp2_with fail
    refine (Index_slash _ _).mono ?_
    rintro e w' ⟨rfl, rfl⟩
    rw [HI.out]
    go_wp2
    go_ret3
    exact ⟨rfl, rfl⟩
  go_enter Try.func71, Try.ntmps71
  go_wp2_with fail
  refine h1.mono ?_
  rintro e w' ⟨rfl, rfl⟩
  go_wp2
  go_ret3
  exact ⟨rfl, rfl⟩

end Go.Proofs.Ytaidkbnbfnaihaa
