/-
  Names and paths as lists of bytes: plain definitions and laws.
-/
import Derived.Lib.Strings
import Derived.Lib.IndexLaws
import Derived.Lib.LastIndexByte
import Derived.Lib.IndexAny
namespace Go.Proofs.YtokaaebbmcldaaaGreatDoor

abbrev Bs := List UInt8
def nmL (l : Bs) : Bool := decide (l ≠ [] ∧ l.length ≤ 12 ∧ l ≠ [46] ∧ l ≠ [46, 46] ∧ (0 : UInt8) ∉ l ∧ (47 : UInt8) ∉ l)
theorem nmL_iff {l : Bs} : nmL l = true ↔ l ≠ [] ∧ l.length ≤ 12 ∧ l ≠ [46] ∧ l ≠ [46, 46] ∧ (0 : UInt8) ∉ l ∧ (47 : UInt8) ∉ l := decide_eq_true_iff

/-- What stands between the slashes. -/
def segs : Bs → List Bs
  | [] => [[]]
  | c :: t => if c = 47 then [] :: segs t else match segs t with
    | [] => [[c]]
    | h :: r => (c :: h) :: r
def ne_ (p : Bs) : Bool := decide (p ≠ [])
def pieces (l : Bs) : List Bs := (segs l).filter ne_
/-- The pieces, a slash ahead of each. -/
def flatS (ps : List Bs) : Bs := ps.flatMap fun p => 47 :: p

theorem segs_ne (l : Bs) : segs l ≠ [] := by
  cases l with
  | nil => simp [segs]
  | cons c t =>
    unfold segs
    split
    · simp
    · split <;> simp
theorem segs_cons (c : UInt8) (t : Bs) : segs (c :: t) = if c = 47 then [] :: segs t else match segs t with
    | [] => [[c]]
    | h :: r => (c :: h) :: r := rfl
theorem segs_app (u t : Bs) : segs (u ++ 47 :: t) = segs u ++ segs t := by
  induction u with
  | nil => simp [segs]
  | cons c u ih =>
    rw [List.cons_append, segs_cons, segs_cons, ih]
    by_cases hc : c = 47
    · simp [hc]
    · rw [if_neg hc, if_neg hc]
      cases h : segs u with
      | nil => exact absurd h (segs_ne u)
      | cons a r => simp
theorem segs_none {l : Bs} (h : (47 : UInt8) ∉ l) : segs l = [l] := by
  induction l with
  | nil => rfl
  | cons c t ih =>
    simp only [List.mem_cons, not_or] at h
    unfold segs
    rw [if_neg (fun e => h.1 e.symm), ih h.2]
theorem segs_free {l : Bs} : ∀ {p : Bs}, p ∈ segs l → (47 : UInt8) ∉ p := by
  induction l with
  | nil => intro p hp; simp [segs] at hp; subst hp; simp
  | cons c t ih =>
    intro p hp
    unfold segs at hp
    by_cases hc : c = 47
    · rw [if_pos hc] at hp
      rcases List.mem_cons.1 hp with rfl | hp
      · simp
      · exact ih hp
    · rw [if_neg hc] at hp
      cases h : segs t with
      | nil => exact absurd h (segs_ne t)
      | cons a r =>
        rw [h] at hp ih
        rcases List.mem_cons.1 hp with rfl | hp
        · have := ih (p := a) (by simp)
          simp only [List.mem_cons, not_or]
          exact ⟨fun e => hc e.symm, this⟩
        · exact ih (by simp [hp])
theorem segs_cut {a : Bs} (h : (47 : UInt8) ∉ a) (b : Bs) : segs (a ++ 47 :: b) = a :: segs b := by
  rw [segs_app, segs_none h]; rfl
theorem flatS_cons (p : Bs) (ps : List Bs) : flatS (p :: ps) = 47 :: (p ++ flatS ps) := by simp [flatS]
theorem flatS_append (ps qs : List Bs) : flatS (ps ++ qs) = flatS ps ++ flatS qs := by simp [flatS]
theorem segs_flat : ∀ (ps : List Bs) (p : Bs), (47 : UInt8) ∉ p → (∀ q ∈ ps, (47 : UInt8) ∉ q) → segs (p ++ flatS ps) = p :: ps := by
  intro ps
  induction ps with
  | nil => intro p hp _; simp [flatS, segs_none hp]
  | cons q ps ih =>
    intro p hp hq
    rw [flatS_cons, segs_cut hp, ih q (hq q (by simp)) fun x hx => hq x (by simp [hx])]
/-- A path is its segments, a slash ahead of each. -/
theorem flat_segs (l : Bs) : flatS (segs l) = 47 :: l := by
  induction l with
  | nil => simp [segs, flatS]
  | cons c t ih =>
    unfold segs
    by_cases hc : c = 47
    · rw [if_pos hc, flatS_cons, ih, hc]; rfl
    · rw [if_neg hc]
      cases h : segs t with
      | nil => exact absurd h (segs_ne t)
      | cons a r =>
        rw [h] at ih
        rw [flatS_cons] at ih ⊢
        simp only [List.cons.injEq, true_and] at ih
        simp [ih]
theorem pieces_free {l p : Bs} (h : p ∈ pieces l) : (47 : UInt8) ∉ p := segs_free (List.mem_filter.1 h).1
theorem pieces_ne {l p : Bs} (h : p ∈ pieces l) : p ≠ [] := by have := (List.mem_filter.1 h).2; simpa [ne_] using this
theorem pieces_nil : pieces [] = [] := by simp [pieces, segs, ne_]
theorem pieces_app (u t : Bs) : pieces (u ++ 47 :: t) = pieces u ++ pieces t := by simp [pieces, segs_app]
def one_ (p : Bs) : List Bs := if p = [] then [] else [p]
theorem pieces_none {l : Bs} (h : (47 : UInt8) ∉ l) : pieces l = one_ l := by
  unfold pieces one_
  rw [segs_none h]
  by_cases e : l = [] <;> simp [e, ne_]
theorem pieces_cut {a : Bs} (h : (47 : UInt8) ∉ a) (b : Bs) : pieces (a ++ 47 :: b) = one_ a ++ pieces b := by rw [pieces_app, pieces_none h]
/-- It is empty or ends with a slash. -/
def Ends (u : Bs) : Prop := u = [] ∨ ∃ u', u = u' ++ [47]
theorem pieces_step {u p : Bs} (hu : Ends u) (hp : (47 : UInt8) ∉ p) : pieces (u ++ p) = pieces u ++ one_ p := by
  rcases hu with rfl | ⟨u', rfl⟩
  · simp [pieces_nil, pieces_none hp]
  · have e : u' ++ [47] ++ p = u' ++ 47 :: p := by simp
    rw [e, pieces_app, pieces_app, pieces_nil, pieces_none hp]
    simp
theorem pieces_slash {u p : Bs} (hu : Ends u) (hp : (47 : UInt8) ∉ p) : pieces (u ++ p ++ [47]) = pieces u ++ one_ p := by
  rw [pieces_app, pieces_step hu hp, pieces_nil, List.append_nil]

def cleanL (l : Bs) : Bool := decide (l = [47]) || (decide (l.head? = some 47) && (segs l.tail).all nmL)
def cleanR (l : Bs) : Bool := (pieces l).all nmL && (decide (l = [47]) || (decide (pieces l ≠ []) && decide (l = flatS (pieces l))))
theorem name_free {p : Bs} (h : nmL p = true) : (47 : UInt8) ∉ p := (nmL_iff.1 h).2.2.2.2.2
theorem name_ne {p : Bs} (h : nmL p = true) : p ≠ [] := (nmL_iff.1 h).1
/-- A clean path is the root or made of names. -/
theorem clean_iff (l : Bs) : cleanL l = true ↔ l = [47] ∨ ∃ ps, ps ≠ [] ∧ (∀ p ∈ ps, nmL p = true) ∧ l = flatS ps := by
  unfold cleanL
  rw [Bool.or_eq_true, Bool.and_eq_true, decide_eq_true_iff, decide_eq_true_iff]
  constructor
  · rintro (h | ⟨h, ha⟩)
    · exact .inl h
    · cases l with
      | nil => simp at h
      | cons c t =>
        simp at h
        subst h
        exact .inr ⟨segs t, segs_ne t, by simpa using ha, (flat_segs t).symm⟩
  · rintro (h | ⟨ps, hne, hn, rfl⟩)
    · exact .inl h
    · cases ps with
      | nil => exact absurd rfl hne
      | cons p ps =>
        right
        rw [flatS_cons]
        refine ⟨rfl, ?_⟩
        show (segs (p ++ flatS ps)).all nmL = true
        rw [segs_flat ps p (name_free (hn p (by simp))) fun q hq => name_free (hn q (by simp [hq]))]
        simpa using hn
theorem pieces_flat {ps : List Bs} (hn : ∀ p ∈ ps, nmL p = true) : pieces (flatS ps) = ps := by
  cases ps with
  | nil => simp [flatS, pieces_nil]
  | cons p ps =>
    rw [flatS_cons]
    have := pieces_app [] (p ++ flatS ps)
    rw [List.nil_append] at this
    rw [this, pieces_nil, List.nil_append]
    unfold pieces
    rw [segs_flat ps p (name_free (hn p (by simp))) fun q hq => name_free (hn q (by simp [hq]))]
    rw [List.filter_eq_self]
    intro a ha
    simpa [ne_] using name_ne (hn a ha)
theorem pieces_root : pieces [47] = [] := by simp [pieces, segs, ne_]
theorem cleanR_eq (l : Bs) : cleanR l = cleanL l := by
  rw [Bool.eq_iff_iff, clean_iff]
  unfold cleanR
  rw [Bool.and_eq_true, Bool.or_eq_true, Bool.and_eq_true, decide_eq_true_iff, decide_eq_true_iff, decide_eq_true_iff, List.all_eq_true]
  constructor
  · rintro ⟨ha, h | ⟨h1, h2⟩⟩
    · exact .inl h
    · exact .inr ⟨_, h1, ha, h2⟩
  · rintro (rfl | ⟨ps, h1, h2, rfl⟩)
    · exact ⟨by simp [pieces_root], .inl rfl⟩
    · rw [pieces_flat h2]
      exact ⟨h2, .inr ⟨h1, rfl⟩⟩

def joinL (dir name : Bs) : Bs := if dir.getLast? = some 47 then dir ++ name else dir ++ 47 :: name
/-- The directory that is made of names. -/
def dirOf (ps : List Bs) : Bs := if ps = [] then [47] else flatS ps
theorem flatS_last {ps : List Bs} (hne : ps ≠ []) (hn : ∀ p ∈ ps, nmL p = true) : (flatS ps).getLast? ≠ some 47 := by
  obtain ⟨qs, q, rfl⟩ : ∃ qs q, ps = qs ++ [q] := ⟨ps.dropLast, ps.getLast hne, (List.dropLast_concat_getLast hne).symm⟩
  have hq := hn q (by simp)
  have e : flatS (qs ++ [q]) = (flatS qs ++ [47]) ++ q := by simp [flatS]
  rw [e, List.getLast?_append]
  cases h : q.getLast? with
  | none => rw [List.getLast?_eq_none_iff] at h; exact absurd h (name_ne hq)
  | some x =>
    intro h'
    simp at h'
    subst h'
    exact name_free hq (List.mem_of_getLast? h)
theorem dirOf_snoc {ps : List Bs} (hn : ∀ p ∈ ps, nmL p = true) (q : Bs) : joinL (dirOf ps) q = flatS (ps ++ [q]) := by
  unfold dirOf joinL
  by_cases h : ps = []
  · subst h; simp [flatS]
  · rw [if_neg h, if_neg (flatS_last h hn)]
    simp [flatS]
theorem dirOf_join {ps : List Bs} (hn : ∀ p ∈ ps, nmL p = true) {q : Bs} : joinL (dirOf ps) q = dirOf (ps ++ [q]) := by
  rw [dirOf_snoc hn]
  simp [dirOf]
theorem dirOf_clean {ps : List Bs} (hn : ∀ p ∈ ps, nmL p = true) : cleanL (dirOf ps) = true := by
  rw [clean_iff]
  unfold dirOf
  by_cases h : ps = []
  · exact .inl (if_pos h)
  · exact .inr ⟨ps, h, hn, if_neg h⟩
theorem clean_dirOf {l : Bs} (h : cleanL l = true) : ∃ ps, (∀ p ∈ ps, nmL p = true) ∧ l = dirOf ps ∧ pieces l = ps := by
  rcases (clean_iff l).1 h with rfl | ⟨ps, h1, h2, rfl⟩
  · exact ⟨[], by simp, rfl, pieces_root⟩
  · exact ⟨ps, h2, by rw [dirOf, if_neg h1], pieces_flat h2⟩

/-- A clean path divided. -/
def prntL (l : Bs) : Bs × Bs × Bool := if cleanL l = true ∧ l ≠ [47] then (dirOf (pieces l).dropLast, (pieces l).getLastD [], true) else ([], [], false)
def underL (a b : Bs) : Bool := cleanL a && cleanL b && (pieces a).isPrefixOf (pieces b)
def underP (a b : Bs) : Bool := cleanL a && cleanL b && (decide (a = [47]) || decide (a = b) || (a ++ [47]).isPrefixOf b)
theorem dirOf_inj {x y : List Bs} (hx : ∀ p ∈ x, nmL p = true) (hy : ∀ p ∈ y, nmL p = true) (h : dirOf x = dirOf y) : x = y := by
  have : ∀ z : List Bs, (∀ p ∈ z, nmL p = true) → pieces (dirOf z) = z := by
    intro z hz
    unfold dirOf
    by_cases e : z = []
    · rw [if_pos e, pieces_root, e]
    · rw [if_neg e, pieces_flat hz]
  rw [← this x hx, ← this y hy, h]
theorem flat_dirOf {ps : List Bs} (h : ps ≠ []) : dirOf ps = flatS ps := if_neg h
theorem flatS_root {ps : List Bs} (hn : ∀ p ∈ ps, nmL p = true) (hne : ps ≠ []) : flatS ps ≠ [47] := by
  intro e
  have h1 := pieces_flat hn
  rw [e, pieces_root] at h1
  exact hne h1.symm
theorem underP_eq (a b : Bs) : underP a b = underL a b := by
  unfold underP underL
  by_cases ha : cleanL a = true
  · by_cases hb : cleanL b = true
    · obtain ⟨x, hx, rfl, ex⟩ := clean_dirOf ha
      obtain ⟨y, hy, rfl, ey⟩ := clean_dirOf hb
      rw [ha, hb, ex, ey]
      simp only [Bool.true_and]
      rw [Bool.eq_iff_iff, Bool.or_eq_true, Bool.or_eq_true, decide_eq_true_iff, decide_eq_true_iff, List.isPrefixOf_iff_prefix, List.isPrefixOf_iff_prefix]
      by_cases hx0 : x = []
      · subst hx0; simp [dirOf]
      · rw [flat_dirOf hx0]
        constructor
        · rintro ((h | h) | h)
          · exact absurd h (flatS_root hx hx0)
          · rw [← flat_dirOf hx0] at h
            rw [dirOf_inj hx hy h]
            exact List.prefix_rfl
          · obtain ⟨t, ht⟩ := h
            have hy0 : y ≠ [] := by
              rintro rfl
              simp only [dirOf, if_true] at ht
              cases x with
              | nil => exact hx0 rfl
              | cons p x => rw [flatS_cons] at ht; simp at ht
            rw [flat_dirOf hy0] at ht
            have e := pieces_app (flatS x) t
            have : flatS x ++ 47 :: t = flatS y := by rw [← ht]; simp
            rw [this, pieces_flat hy, pieces_flat hx] at e
            exact ⟨_, e.symm⟩
        · rintro ⟨z, rfl⟩
          by_cases hz : z = []
          · subst hz; simp [flat_dirOf hx0]
          · right
            have : dirOf (x ++ z) = flatS (x ++ z) := flat_dirOf (by simp [hx0])
            rw [this, flatS_append]
            cases z with
            | nil => exact absurd rfl hz
            | cons q z => rw [flatS_cons]; exact ⟨q ++ flatS z, by simp⟩
    · simp [hb]
  · simp [ha]

theorem foldl_joins (ps : List Bs) : ∀ qs : List Bs, (∀ p ∈ qs, nmL p = true) → (∀ p ∈ ps, nmL p = true) → ps.foldl joinL (dirOf qs) = dirOf (qs ++ ps) := by
  induction ps with
  | nil => intro qs _ _; simp
  | cons p ps ih =>
    intro qs hq hp
    rw [List.foldl_cons, dirOf_join hq, ih (qs ++ [p]) (fun x hx => by
      rcases List.mem_append.1 hx with hx | hx
      · exact hq x hx
      · simp at hx; subst hx; exact hp x (by simp)) fun x hx => hp x (by simp [hx])]
    simp
theorem foldl_join (ps : List Bs) (hn : ∀ p ∈ ps, nmL p = true) : ps.foldl joinL [47] = dirOf ps := by
  have := foldl_joins ps [] (by simp) hn
  simpa [dirOf] using this

end Go.Proofs.YtokaaebbmcldaaaGreatDoor
