/-
  PathBack: the walk.
-/
import Derived.Test.YtndedpdonagamaaDoorLaw4D
namespace Go.Proofs.YtndedpdonagamaaDoor
open Go.RowKit

theorem clean_last {ps : List Bs} (hn : ∀ p ∈ ps, nmL p = true) {n : Bs} (hf : (47 : UInt8) ∉ n) (hc : cleanL (flatS (ps ++ [n])) = true) (hr : flatS (ps ++ [n]) ≠ [47]) : nmL n = true := by
  have key : ∀ (q : Bs) (qs : List Bs), ps ++ [n] = q :: qs → nmL n = true := by
    intro q qs e
    rw [e, flatS_cons] at hc hr
    have hfree : ∀ x ∈ ps ++ [n], (47 : UInt8) ∉ x := fun x hx => by
      rcases List.mem_append.1 hx with hx | hx
      · exact name_free (hn x hx)
      · simp at hx; rw [hx]; exact hf
    rw [e] at hfree
    unfold cleanL at hc
    rw [decide_eq_false hr] at hc
    simp only [List.head?_cons, List.tail_cons, decide_true, Bool.true_and, Bool.false_or] at hc
    rw [segs_flat qs q (hfree q (by simp)) fun x hx => hfree x (by simp [hx]), List.all_eq_true] at hc
    exact hc n (by rw [← e]; simp)
  cases ps with
  | nil => exact key n [] rfl
  | cons p ps => exact key p (ps ++ [n]) rfl
theorem prnt_join {ps : List Bs} (hn : ∀ p ∈ ps, nmL p = true) {n : Bs} (h : nmL n = true) : prntL (flatS (ps ++ [n])) = (dirOf ps, n, true) := by
  have hall : ∀ p ∈ ps ++ [n], nmL p = true := fun x hx => by
    rcases List.mem_append.1 hx with hx | hx
    · exact hn x hx
    · simp at hx; rw [hx]; exact h
  exact prnt_cut ((clean_iff _).2 (.inr ⟨_, by simp, hall, rfl⟩)) (flatS_root hall (by simp)) (pieces_flat hall)
theorem prnt_not {ps : List Bs} (hn : ∀ p ∈ ps, nmL p = true) {n : Bs} (hf : (47 : UInt8) ∉ n) (h : nmL n = false) : prntL (flatS (ps ++ [n])) = ([], [], false) := by
  refine if_neg fun hc => ?_
  rw [clean_last hn hf hc.1 hc.2] at h
  cases h
theorem prnt_root : prntL [47] = ([], [], false) := if_neg fun h => h.2 rfl
theorem dirOf_root {ps : List Bs} (hn : ∀ p ∈ ps, nmL p = true) : dirOf ps = [47] ↔ ps = [] := by
  constructor
  · intro h
    by_cases e : ps = []
    · exact e
    · rw [flat_dirOf e] at h
      exact absurd h (flatS_root hn e)
  · rintro rfl; rfl

set_option maxRecDepth 100000 in
set_option maxHeartbeats 4000000 in
theorem PathBack_walk (a0 : Option Addr) (len cap : Nat) (zs : List Int) (w : World) (h : IsRow w a0 len cap zs) :
    Calls Tryd.prog 5 #[.slice a0 len cap] w fun e w' => e = .returned (.bool true) ∧ Below w.heap.size w w' := by
  go_enter Tryd.func5, Tryd.ntmps5
  go_wp2_with fail
  refine (New_any a0 len cap zs w h).mono ?_
  rintro e w1 ⟨rfl, hs1, hb1⟩
  go_wp2_with fail
  refine (GClean_any _ _ _ hs1 (by omega)).mono ?_
  rintro e w2 ⟨_, rfl, hs2, hg2, p, ps, rfl, hp1, hp2, hp3, hp⟩
  go_wp2_with fail
  refine (GName_any _ _ _ hs2 (by omega)).mono ?_
  rintro e w3 ⟨_, rfl, hs3, hg3, n, rfl, hn, hn47⟩
  have hbw : Below w.heap.size w w3 := below_src (below_src hb1 (Nat.le_refl _) hg2) (Nat.le_refl _) hg3
  have HP : Hid ((∀ q ∈ ps, nmL q = true) ∧ p.data.toList = dirOf ps) := Lib.hid ⟨hp2, by rw [hp3, flat_dirOf hp1]⟩
  clear hs1 hs2 hg2 hg3 hb1 hp1 hp2 hp3
  go_upto_if 19 with fail
  go_cut [5] (fun s5 wc => ∃ n : Str, s5 = .string n ∧ n.size ≤ 16 ∧ Hid ((47 : UInt8) ∉ n.data.toList) ∧ wc = w3)
  case first =>
    have H47 := Lib.hid hn47
    clear hn47
    go_wp2
    · go_meet
      exact ⟨_, rfl, by decide, Lib.hid (by decide), rfl⟩
    · have e1 : (n.toList == [97, 47, 98]) = false := by assumption
      go_meet
      exact ⟨n, rfl, hn, Lib.hid (H47.out.resolve_right (by rw [toL, beq_eq_false_iff_ne] at e1; exact e1)), rfl⟩
  case rest =>
    obtain ⟨n, rfl, hn, HN, rfl⟩ := hcut
    clear hn47
    go_wp2_with fail
    refine (N_any _ _ _ _ hs3 (by omega) (by omega) (by omega)).mono ?_
    rintro e w5 ⟨_, rfl, hs5, hg5, r, rfl, hr0, hr1, hr2⟩
    have hb5 := below_src hbw (Nat.le_refl _) hg5
    clear hs3 hs5 hg5 hbw hr1 hr2
    go_upto_if 22 with fail
    go_cut [4] (fun s4 wc => ∃ (p : Str) (ps : List Bs), s4 = .string p ∧ p.size ≤ 100 ∧ Hid ((∀ q ∈ ps, nmL q = true) ∧ p.data.toList = dirOf ps) ∧ wc = w5)
    case first =>
      by_cases hr : r = 0
      · subst hr
        go_wp2
        go_meet
        exact ⟨_, [], rfl, by decide, Lib.hid ⟨by simp, rfl⟩, rfl⟩
      · have hr' : (r == 0) = false := beq_eq_false_iff_ne.2 hr
        go_wp2
        go_meet
        exact ⟨p, ps, rfl, hp, HP, rfl⟩
    case rest =>
      obtain ⟨p, ps, rfl, hp, HP, rfl⟩ := hcut
      clear hr0
      go_wp2_with fail
      refine (PParent_any p _ (by omega)).mono ?_
      rintro e w6 ⟨d, m, b, rfl, hpr, hb6⟩
      have k6 := bt2 hb5 hb6
      clear hb5 hb6
      have HJL : Hid (joinL p.data.toList n.data.toList = flatS (ps ++ [n.data.toList])) := Lib.hid (by rw [HP.out.2]; exact dirOf_snoc HP.out.1 _)
      by_cases hps : ps = []
      case' pos =>
        subst hps
        have hpl : p.data.toList = [47] := HP.out.2
        have e1 : (p.toList == [47]) = true := by rw [toL, beq_iff_eq]; exact hpl
        rw [hpl, prnt_root] at hpr
        simp only [Prod.mk.injEq] at hpr
        obtain ⟨h1, h2, h3⟩ := hpr
        obtain rfl : b = false := h3.symm
        clear hpl h1 h2 h3
        go_wp2_with fail
      case' neg =>
        have hpl : p.data.toList = flatS ps := by rw [HP.out.2, flat_dirOf hps]
        have e1 : (p.toList == [47]) = false := by
          rw [toL, beq_eq_false_iff_ne, hpl]
          exact flatS_root HP.out.1 hps
        obtain ⟨init, q, rfl⟩ : ∃ init q, ps = init ++ [q] := ⟨ps.dropLast, ps.getLast hps, (List.dropLast_concat_getLast hps).symm⟩
        have hini : ∀ x ∈ init, nmL x = true := fun x hx => HP.out.1 x (by simp [hx])
        rw [hpl, prnt_join hini (HP.out.1 q (by simp))] at hpr
        simp only [Prod.mk.injEq] at hpr
        obtain ⟨h1, h2, h3⟩ := hpr
        obtain rfl : b = true := h3.symm
        have hpsz := Lib.size_eq p
        have hdm : joinL d.data.toList m.data.toList = p.data.toList := by rw [← h1, ← h2, dirOf_snoc hini, hpl]
        have hds : d.size ≤ 200 := by
          rw [Lib.size_eq, ← h1]
          have := dirOf_len (init ++ [q]) init.length
          rw [List.take_left, ← hpl, ← hpsz] at this
          omega
        have hms : m.size ≤ 200 := by
          rw [Lib.size_eq, ← h2]
          have h5 : (flatS (init ++ [q])).length = p.size := by rw [← hpl, hpsz]
          rw [flatS_append, flatS_cons] at h5
          simp at h5
          omega
        have HDM := Lib.hid hdm
        clear h1 h2 h3 hpl hini hps hpsz hdm
        go_wp2_with fail
        refine (PJoin_any d m _ (by omega) (by omega)).mono ?_
        rintro e w7 ⟨x, rfl, hx, rfl⟩
        obtain rfl : p = x := str_ext (HDM.out.symm.trans hx.symm)
        clear hx
        have hself : (p.toList == p.toList) = true := by simp
        go_wp2_with fail
      all_goals
        refine (PJoin_any p n _ (by omega) (by omega)).mono ?_
        rintro e w8 ⟨y, rfl, hy, rfl⟩
        have hys : y.size ≤ 200 := by
          rw [Lib.size_eq, hy]
          refine Nat.le_trans (joinL_len _ _) ?_
          rw [← Lib.size_eq, ← Lib.size_eq]
          omega
        rw [HJL.out] at hy
        have HY := Lib.hid hy
        clear hy
        go_wp2_with fail
        refine (PParent_any y _ (by omega)).mono ?_
        rintro e w9 ⟨d2, m2, b2, rfl, hpr2, hb9⟩
        rw [HY.out] at hpr2
        cases hnm : nmL n.data.toList with
        | false =>
          rw [prnt_not HP.out.1 HN.out hnm] at hpr2
          simp only [Prod.mk.injEq] at hpr2
          obtain ⟨h1, h2, h3⟩ := hpr2
          obtain rfl : b2 = false := h3.symm
          have HNM := Lib.hid hnm
          clear hnm h1 h2 h3
          go_wp2_with fail
          refine (PName_any n _).mono ?_
          rintro e w10 ⟨rfl, hb10⟩
          rw [HNM.out]
          go_wp2_with fail
          refine (awake_any _).mono ?_
          rintro e w11 ⟨rfl, hb11⟩
          go_wp2
          go_ret
          exact ⟨rfl, bt2 (bt2 (bt2 k6 hb9) hb10) hb11⟩
        | true =>
          rw [prnt_join HP.out.1 hnm] at hpr2
          simp only [Prod.mk.injEq] at hpr2
          obtain ⟨h1, h2, h3⟩ := hpr2
          obtain rfl : b2 = true := h3.symm
          obtain rfl : n = m2 := str_ext h2
          obtain rfl : p = d2 := str_ext (HP.out.2.trans h1)
          have HNM := Lib.hid hnm
          clear hnm h1 h2 h3
          have hsm : (n.toList == n.toList) = true := by simp
          go_wp2_with fail
          refine (PName_any n _).mono ?_
          rintro e w10 ⟨rfl, hb10⟩
          rw [HNM.out]
          go_wp2_with fail
          refine (awake_any _).mono ?_
          rintro e w11 ⟨rfl, hb11⟩
          go_wp2
          go_ret
          exact ⟨rfl, bt2 (bt2 (bt2 k6 hb9) hb10) hb11⟩

end Go.Proofs.YtndedpdonagamaaDoor
