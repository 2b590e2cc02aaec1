/-
  PathBuilt, PathBack, PathOrder: the walks.
-/
import Derived.Test.YtndedpdonagamaaDoorGenP
namespace Go.Proofs.YtndedpdonagamaaDoor
open Go.RowKit

theorem joinL_len (a b : Bs) : (joinL a b).length ≤ a.length + b.length + 1 := by
  unfold joinL
  split <;> simp <;> omega

set_option maxRecDepth 100000 in
set_option maxHeartbeats 2000000 in
theorem PathBuilt_walk (a0 : Option Addr) (len cap : Nat) (zs : List Int) (w : World) (h : IsRow w a0 len cap zs) :
    Calls Tryd.prog 8 #[.slice a0 len cap] w fun e w' => e = .returned (.bool true) ∧ Below w.heap.size w w' := by
  go_enter Tryd.func8, Tryd.ntmps8
  go_wp2_with fail
  refine (New_any a0 len cap zs w h).mono ?_
  rintro e w1 ⟨rfl, hs1, hb1⟩
  go_wp2_with fail
  refine (Path_any _ _ _ hs1 (by omega)).mono ?_
  rintro e w2 ⟨_, rfl, hs2, hg2, a, rfl, ha⟩
  go_wp2_with fail
  refine (Path_any _ _ _ hs2 (by omega)).mono ?_
  rintro e w3 ⟨_, rfl, hs3, hg3, b, rfl, hb⟩
  go_wp2_with fail
  refine (Name_any _ _ _ hs3 (by omega)).mono ?_
  rintro e w4 ⟨_, rfl, hs4, hg4, n, rfl, hn⟩
  have hbw : Below w.heap.size w w4 := below_src (below_src (below_src hb1 (Nat.le_refl _) hg2) (Nat.le_refl _) hg3) (Nat.le_refl _) hg4
  clear hs1 hs2 hs3 hs4 hg2 hg3 hg4 hb1
  go_wp2_with fail
  refine (agrees_any a _ (by omega)).mono ?_
  rintro e w5 ⟨rfl, hb5⟩
  go_wp2_with fail
  refine (agrees_any b _ (by omega)).mono ?_
  rintro e w6 ⟨rfl, hb6⟩
  go_wp2_with fail
  refine (agrees_any n _ (by omega)).mono ?_
  rintro e w7 ⟨rfl, hb7⟩
  go_wp2_with fail
  refine (PJoin_any a n _ (by omega) (by omega)).mono ?_
  rintro e w8 ⟨r1, rfl, hr1, rfl⟩
  go_wp2_with fail
  refine (RJoin_any a n _ (by omega) (by omega)).mono ?_
  rintro e w8 ⟨r2, rfl, hr2, rfl⟩
  obtain rfl : r1 = r2 := str_ext (hr1.trans hr2.symm)
  have hjl : (joinL a.data.toList n.data.toList).length ≤ 200 := by
    have := joinL_len a.data.toList n.data.toList
    rw [← Lib.size_eq, ← Lib.size_eq] at this
    omega
  have hjs : r1.size ≤ 200 := by rw [Lib.size_eq, hr1]; exact hjl
  have HR := Lib.hid hr1
  clear hr1 hr2 hjl
  go_wp2_with fail
  refine (PUnder_any a b _ (by omega) (by omega)).mono ?_
  rintro e w8 ⟨rfl, hb8⟩
  go_wp2_with fail
  refine (RUnder_any a b _ (by omega) (by omega)).mono ?_
  rintro e w9 ⟨rfl, hb9⟩
  go_wp2_with fail
  refine (PJoin_any a n _ (by omega) (by omega)).mono ?_
  rintro e w10 ⟨r3, rfl, hr3, rfl⟩
  obtain rfl : r1 = r3 := str_ext (HR.out.trans hr3.symm)
  clear hr3
  go_wp2_with fail
  refine (PUnder_any a r1 _ (by omega) (by omega)).mono ?_
  rintro e w10 ⟨rfl, hb10⟩
  go_wp2_with fail
  refine (RJoin_any a n _ (by omega) (by omega)).mono ?_
  rintro e w11 ⟨r3, rfl, hr3, rfl⟩
  obtain rfl : r1 = r3 := str_ext (HR.out.trans hr3.symm)
  clear hr3
  go_wp2_with fail
  refine (RUnder_any a r1 _ (by omega) (by omega)).mono ?_
  rintro e w11 ⟨rfl, hb11⟩
  go_wp2_with fail
  refine (awake_any _).mono ?_
  rintro e w12 ⟨rfl, hb12⟩
  go_wp2
  go_ret
  exact ⟨rfl, bt2 (bt2 (bt2 (bt2 (bt2 (bt2 (bt2 (bt2 hbw hb5) hb6) hb7) hb8) hb9) hb10) hb11) hb12⟩

theorem under_refl {a : Bs} (h : cleanL a = true) : underL a a = true := by
  unfold underL; rw [h]; simp
theorem under_top {a : Bs} (h : cleanL a = true) : underL [47] a = true := by
  unfold underL; rw [h, pieces_root]; rfl
theorem under_not {a : Bs} (h : cleanL a = true) (hr : a ≠ [47]) : underL a [47] = false := by
  unfold underL
  obtain ⟨init, p, _, _, _, hp⟩ := clean_cut h hr
  rw [pieces_root, hp]
  cases init <;> simp
theorem under_anti {a b : Bs} (h : underL a b = true) (k : underL b a = true) : a = b := by
  unfold underL at h k
  simp only [Bool.and_eq_true, List.isPrefixOf_iff_prefix] at h k
  obtain ⟨⟨ha, hb⟩, h1⟩ := h
  obtain ⟨_, h2⟩ := k
  have : pieces a = pieces b := h1.eq_of_length (Nat.le_antisymm h1.length_le h2.length_le)
  obtain ⟨x, _, rfl, ex⟩ := clean_dirOf ha
  obtain ⟨y, _, rfl, ey⟩ := clean_dirOf hb
  rw [← ex, ← ey, this]
theorem under_trans {a b c : Bs} (h : underL a b = true) (k : underL b c = true) : underL a c = true := by
  unfold underL at h k ⊢
  simp only [Bool.and_eq_true, List.isPrefixOf_iff_prefix] at h k ⊢
  exact ⟨⟨h.1.1, k.1.2⟩, h.2.trans k.2⟩
theorem clean_of_flat {s : Str} {ps : List Bs} (h1 : ps ≠ []) (h2 : ∀ p ∈ ps, nmL p = true) (h3 : s.data.toList = flatS ps) : cleanL s.data.toList = true ∧ s.data.toList ≠ [47] := by
  rw [h3]
  exact ⟨(clean_iff _).2 (.inr ⟨ps, h1, h2, rfl⟩), flatS_root h2 h1⟩
theorem join_x {s : Str} {ps : List Bs} (h1 : ps ≠ []) (h2 : ∀ p ∈ ps, nmL p = true) (h3 : s.data.toList = flatS ps) : cleanL (joinL s.data.toList [120]) = true := by
  rw [h3, ← flat_dirOf h1, dirOf_join h2]
  exact dirOf_clean fun p hp => by
    rcases List.mem_append.1 hp with hp | hp
    · exact h2 p hp
    · simp at hp; rw [hp]; decide

set_option maxRecDepth 100000 in
set_option maxHeartbeats 4000000 in
theorem PathOrder_walk (a0 : Option Addr) (len cap : Nat) (zs : List Int) (w : World) (h : IsRow w a0 len cap zs) :
    Calls Tryd.prog 9 #[.slice a0 len cap] w fun e w' => e = .returned (.bool true) ∧ Below w.heap.size w w' := by
  go_enter Tryd.func9, Tryd.ntmps9
  go_wp2_with fail
  refine (New_any a0 len cap zs w h).mono ?_
  rintro e w1 ⟨rfl, hs1, hb1⟩
  go_wp2_with fail
  refine (GClean_any _ _ _ hs1 (by omega)).mono ?_
  rintro e w2 ⟨_, rfl, hs2, hg2, a, pa, rfl, ha1, ha2, ha3, ha⟩
  go_wp2_with fail
  refine (GClean_any _ _ _ hs2 (by omega)).mono ?_
  rintro e w3 ⟨_, rfl, hs3, hg3, b, pb, rfl, hb1', hb2, hb3, hb⟩
  go_wp2_with fail
  refine (GClean_any _ _ _ hs3 (by omega)).mono ?_
  rintro e w4 ⟨_, rfl, hs4, hg4, c, pc, rfl, hc1, hc2, hc3, hc⟩
  have hbw : Below w.heap.size w w4 := below_src (below_src (below_src hb1 (Nat.le_refl _) hg2) (Nat.le_refl _) hg3) (Nat.le_refl _) hg4
  have ha4 := clean_of_flat ha1 ha2 ha3
  have hb4 := clean_of_flat hb1' hb2 hb3
  have HA := Lib.hid ha4
  have HB := Lib.hid hb4
  have HJ := Lib.hid (join_x ha1 ha2 ha3)
  clear hs1 hs2 hs3 hg2 hg3 hg4 hb1 ha1 ha2 ha3 hb1' hb2 hb3 hc1 hc2 hc3 ha4 hb4
  go_wp2_with fail
  refine (N_any _ _ _ _ hs4 (by omega) (by omega) (by omega)).mono ?_
  rintro e w5 ⟨_, rfl, hs5, hg5, r, rfl, hr0, hr1, hr2⟩
  have hb5 := below_src hbw (Nat.le_refl _) hg5
  clear hs4 hs5 hg5 hbw hr1 hr2
  go_upto_if 17 with fail
  go_cut [5] (fun s5 wc => ∃ b : Str, s5 = .string b ∧ b.size ≤ 200 ∧ Hid (cleanL b.data.toList = true) ∧ Below w.heap.size w wc)
  case first =>
    by_cases hr : r = 0
    · subst hr
      go_wp2_with fail
      refine (PJoin_any a _ _ (by omega) (by decide)).mono ?_
      rintro e w6 ⟨x, rfl, hx, rfl⟩
      have hxs : x.size ≤ 200 := by
        rw [Lib.size_eq, hx]
        have := joinL_len a.data.toList [120]
        rw [← Lib.size_eq] at this
        have h1 : ({ data := #[120] } : ByteArray).data.toList = [120] := rfl
        rw [h1]
        simp at this
        omega
      have HX : Hid (cleanL x.data.toList = true) := Lib.hid (by rw [hx]; exact HJ.out)
      clear hx
      go_wp2
      go_meet
      exact ⟨x, rfl, hxs, HX, hb5⟩
    · have hr' : (r == 0) = false := beq_eq_false_iff_ne.2 hr
      go_wp2
      go_meet
      exact ⟨b, rfl, by omega, Lib.hid HB.out.1, hb5⟩
  case rest =>
    obtain ⟨b, rfl, hb, HBC, hbw⟩ := hcut
    clear HB HJ hb5
    have HAA := Lib.hid (under_refl HA.out.1)
    have HTA := Lib.hid (under_top HA.out.1)
    have HAT := Lib.hid (under_not HA.out.1 HA.out.2)
    go_wp2_with fail
    refine (PUnder_any a a _ (by omega) (by omega)).mono ?_
    rintro e w6 ⟨rfl, hb6⟩
    rw [HAA.out]
    go_wp2_with fail
    refine (PUnder_any _ a _ (by decide) (by omega)).mono ?_
    rintro e w7 ⟨rfl, hb7⟩
    rw [show ({ data := #[47] } : ByteArray).data.toList = [47] from rfl, HTA.out]
    go_wp2_with fail
    refine (PUnder_any a _ _ (by omega) (by decide)).mono ?_
    rintro e w8 ⟨rfl, hb8⟩
    rw [show ({ data := #[47] } : ByteArray).data.toList = [47] from rfl, HAT.out]
    have k8 := bt2 (bt2 (bt2 hbw hb6) hb7) hb8
    clear hbw hb6 hb7 hb8 HAA HTA HAT
    cases hab : underL a.data.toList b.data.toList with
    | false =>
      have HAB := Lib.hid hab
      clear hab
      go_wp2_with fail
      refine (PUnder_any a b _ (by omega) (by omega)).mono ?_
      rintro e w9 ⟨rfl, hb9⟩
      rw [HAB.out]
      go_wp2_with fail
      refine (PUnder_any a b _ (by omega) (by omega)).mono ?_
      rintro e w10 ⟨rfl, hb10⟩
      rw [HAB.out]
      go_wp2_with fail
      refine (awake_any _).mono ?_
      rintro e w11 ⟨rfl, hb11⟩
      go_wp2
      go_ret
      exact ⟨rfl, bt2 (bt2 (bt2 k8 hb9) hb10) hb11⟩
    | true =>
      have HAB := Lib.hid hab
      have fin : ∀ w9 : World, Below w.heap.size w w9 → True := fun _ _ => trivial
      clear fin
      cases hba : underL b.data.toList a.data.toList with
      | false =>
        have HBA := Lib.hid hba
        cases hbc : underL b.data.toList c.data.toList with
        | false =>
          have HBC2 := Lib.hid hbc
          clear hab hba hbc
          go_wp2_with fail
          refine (PUnder_any a b _ (by omega) (by omega)).mono ?_
          rintro e w9 ⟨rfl, hb9⟩
          rw [HAB.out]
          go_wp2_with fail
          refine (PUnder_any b a _ (by omega) (by omega)).mono ?_
          rintro e w10 ⟨rfl, hb10⟩
          rw [HBA.out]
          go_wp2_with fail
          refine (PUnder_any a b _ (by omega) (by omega)).mono ?_
          rintro e w11 ⟨rfl, hb11⟩
          rw [HAB.out]
          go_wp2_with fail
          refine (PUnder_any b c _ (by omega) (by omega)).mono ?_
          rintro e w12 ⟨rfl, hb12⟩
          rw [HBC2.out]
          go_wp2_with fail
          refine (awake_any _).mono ?_
          rintro e w13 ⟨rfl, hb13⟩
          go_wp2
          go_ret
          exact ⟨rfl, bt2 (bt2 (bt2 (bt2 (bt2 k8 hb9) hb10) hb11) hb12) hb13⟩
        | true =>
          have HBC2 := Lib.hid hbc
          have HAC := Lib.hid (under_trans hab hbc)
          clear hab hba hbc
          go_wp2_with fail
          refine (PUnder_any a b _ (by omega) (by omega)).mono ?_
          rintro e w9 ⟨rfl, hb9⟩
          rw [HAB.out]
          go_wp2_with fail
          refine (PUnder_any b a _ (by omega) (by omega)).mono ?_
          rintro e w10 ⟨rfl, hb10⟩
          rw [HBA.out]
          go_wp2_with fail
          refine (PUnder_any a b _ (by omega) (by omega)).mono ?_
          rintro e w11 ⟨rfl, hb11⟩
          rw [HAB.out]
          go_wp2_with fail
          refine (PUnder_any b c _ (by omega) (by omega)).mono ?_
          rintro e w12 ⟨rfl, hb12⟩
          rw [HBC2.out]
          go_wp2_with fail
          refine (PUnder_any a c _ (by omega) (by omega)).mono ?_
          rintro e w13 ⟨rfl, hb13⟩
          rw [HAC.out]
          go_wp2_with fail
          refine (awake_any _).mono ?_
          rintro e w14 ⟨rfl, hb14⟩
          go_wp2
          go_ret
          exact ⟨rfl, bt2 (bt2 (bt2 (bt2 (bt2 (bt2 k8 hb9) hb10) hb11) hb12) hb13) hb14⟩
      | true =>
        have HBA := Lib.hid hba
        obtain rfl : a = b := str_ext (under_anti hab hba)
        have hself : (a.toList == a.toList) = true := by simp
        cases hbc : underL a.data.toList c.data.toList with
        | false =>
          have HBC2 := Lib.hid hbc
          clear hab hba hbc
          go_wp2_with fail
          refine (PUnder_any a a _ (by omega) (by omega)).mono ?_
          rintro e w9 ⟨rfl, hb9⟩
          rw [HAB.out]
          go_wp2_with fail
          refine (PUnder_any a a _ (by omega) (by omega)).mono ?_
          rintro e w10 ⟨rfl, hb10⟩
          rw [HBA.out]
          go_wp2_with fail
          refine (PUnder_any a a _ (by omega) (by omega)).mono ?_
          rintro e w11 ⟨rfl, hb11⟩
          rw [HAB.out]
          go_wp2_with fail
          refine (PUnder_any a c _ (by omega) (by omega)).mono ?_
          rintro e w12 ⟨rfl, hb12⟩
          rw [HBC2.out]
          go_wp2_with fail
          refine (awake_any _).mono ?_
          rintro e w13 ⟨rfl, hb13⟩
          go_wp2
          go_ret
          exact ⟨rfl, bt2 (bt2 (bt2 (bt2 (bt2 k8 hb9) hb10) hb11) hb12) hb13⟩
        | true =>
          have HBC2 := Lib.hid hbc
          clear hab hba hbc
          go_wp2_with fail
          refine (PUnder_any a a _ (by omega) (by omega)).mono ?_
          rintro e w9 ⟨rfl, hb9⟩
          rw [HAB.out]
          go_wp2_with fail
          refine (PUnder_any a a _ (by omega) (by omega)).mono ?_
          rintro e w10 ⟨rfl, hb10⟩
          rw [HBA.out]
          go_wp2_with fail
          refine (PUnder_any a a _ (by omega) (by omega)).mono ?_
          rintro e w11 ⟨rfl, hb11⟩
          rw [HAB.out]
          go_wp2_with fail
          refine (PUnder_any a c _ (by omega) (by omega)).mono ?_
          rintro e w12 ⟨rfl, hb12⟩
          rw [HBC2.out]
          go_wp2_with fail
          refine (PUnder_any a c _ (by omega) (by omega)).mono ?_
          rintro e w13 ⟨rfl, hb13⟩
          rw [HBC2.out]
          go_wp2_with fail
          refine (awake_any _).mono ?_
          rintro e w14 ⟨rfl, hb14⟩
          go_wp2
          go_ret
          exact ⟨rfl, bt2 (bt2 (bt2 (bt2 (bt2 (bt2 k8 hb9) hb10) hb11) hb12) hb13) hb14⟩

end Go.Proofs.YtndedpdonagamaaDoor
