/-
  The source of numbers: what its calls return, and that they change its own block alone.
-/
import Derived.Test.YtndedpdonagamaaDoorRep
import Derived.RegionTactic
namespace Go.Proofs.YtndedpdonagamaaDoor
open Go.RowKit

/-- Block g is a source of numbers that has handed out at most k of them. -/
def SrcAt (w : World) (g k : Nat) : Prop :=
  ∃ (A : Option Addr) (n c at_ : Nat), w.heap[g]? = some (.cells #[.slice A n c, .int .i64 (at_ : Int)] 46 (0, 0)) ∧ at_ ≤ k ∧ n ≤ 9223372036854775807 ∧
    (0 < n → ∃ b off, A = some ⟨b, off, none⟩ ∧ b < g ∧ ∀ i, i < n → ∃ z : Int, w.cell? ⟨b, off + i, none⟩ = some (.int .i64 z) ∧ -9223372036854775808 ≤ z ∧ z ≤ 9223372036854775807)

theorem SrcAt.lt {w : World} {g k : Nat} (h : SrcAt w g k) : g < w.heap.size := by
  obtain ⟨A, n, c, at_, hb, _⟩ := h
  rcases Nat.lt_or_ge g w.heap.size with hlt | hge
  · exact hlt
  · rw [Array.getElem?_eq_none hge] at hb; cases hb
theorem SrcAt.more {w : World} {g k k' : Nat} (h : SrcAt w g k) (hk : k ≤ k') : SrcAt w g k' := by
  obtain ⟨A, n, c, at_, hb, h1, h2⟩ := h
  exact ⟨A, n, c, at_, hb, by omega, h2⟩
theorem SrcAt.below {w w' : World} {g k : Nat} (h : SrcAt w g k) {B : Nat} (hb : Below B w w') (hg : g < B) : SrcAt w' g k := by
  obtain ⟨A, n, c, at_, hx, h1, h2, h3⟩ := h
  refine ⟨A, n, c, at_, (hb.block g hg).trans hx, h1, h2, fun hn => ?_⟩
  obtain ⟨b, off, e, hlt, hc⟩ := h3 hn
  refine ⟨b, off, e, hlt, fun i hi => ?_⟩
  obtain ⟨z, hz, hr⟩ := hc i hi
  exact ⟨z, (hb.cell (p := ⟨b, off + i, none⟩) (by show b < B; omega)).trans hz, hr⟩

/-- What a call that draws numbers leaves: a value with Q, the source moved on, nothing else changed. -/
def Draws (w : World) (g k : Nat) (Q : Value → World → Prop) (e : Ending) (w' : World) : Prop :=
  ∃ v, e = .returned v ∧ SrcAt w' g k ∧ w.grownBy w' (some g) ∧ Q v w'

theorem SrcAt.stored {w : World} {g k : Nat} (h : SrcAt w g k) {A : Option Addr} {n c at_ : Nat} (hb : w.heap[g]? = some (.cells #[.slice A n c, .int .i64 (at_ : Int)] 46 (0, 0))) (hat : at_ ≤ k) (q : Nat) :
    SrcAt ((w.setCell ⟨g, 1, none⟩ (.int .i64 ((at_ : Int) + 1))).drewN q) g (k + 1) := by
  obtain ⟨A', n', c', at', hb', h1, h2, h3⟩ := h
  rw [hb] at hb'
  injection hb' with hb'
  injection hb' with hb'
  have e1 : A = A' ∧ n = n' ∧ c = c' ∧ at_ = at' := by
    simp at hb'
    obtain ⟨⟨rfl, rfl, rfl⟩, h4⟩ := hb'
    exact ⟨rfl, rfl, rfl, by omega⟩
  obtain ⟨rfl, rfl, rfl, rfl⟩ := e1
  refine ⟨A, n, c, at_ + 1, ?_, by omega, h2, fun hn => ?_⟩
  · show (w.setCell ⟨g, 1, none⟩ (.int .i64 ((at_ : Int) + 1))).heap[g]? = _
    simp [World.setCell, Array.getElem?_modify, hb]
  · obtain ⟨b, off, e, hlt, hc⟩ := h3 hn
    refine ⟨b, off, e, hlt, fun i hi => ?_⟩
    obtain ⟨z, hz, hr⟩ := hc i hi
    refine ⟨z, ?_, hr⟩
    show (w.setCell ⟨g, 1, none⟩ (.int .i64 ((at_ : Int) + 1))).cell? _ = _
    rw [World.cell?_setCell_other _ _ _ _ (by intro e; injection e with e; omega)]
    exact hz
theorem grown_stored (w : World) (g i : Nat) (u : Value) (q : Nat) : w.grownBy ((w.setCell ⟨g, i, none⟩ u).drewN q) (some g) :=
  ⟨rfl, rfl, rfl, by simp [World.setCell], fun k _ hne => Below.heap_setCell w ⟨g, i, none⟩ u k (fun e => hne (by rw [e]))⟩

theorem tmod_bd (z n : Int) (h : 1 ≤ n) : -n < z.tmod n ∧ z.tmod n < n :=
  ⟨Int.lt_tmod_of_pos z (by omega), Int.tmod_lt_of_pos z (by omega)⟩

def NumQ (n : Int) (v : Value) (_ : World) : Prop := ∃ r : Int, v = .int .i64 r ∧ 0 ≤ r ∧ (1 ≤ n → r < n) ∧ (n < 1 → r = 0)
set_option maxHeartbeats 400000 in
theorem N_any (g k : Nat) (n : Int) (w : World) (h : SrcAt w g k) (hk : k ≤ 1000000) (hn0 : -1000000 ≤ n) (hn1 : n ≤ 1000000) :
    Calls Tryd.prog 17 #[.pointer (some ⟨g, 0, none⟩), .int .i64 n] w (Draws w g (k + 1) (NumQ n)) := by
  have h' := h
  obtain ⟨A, m, c, at_, hb, hat, hm, hl⟩ := h
  by_cases hn : n < 1
  · go_enter Tryd.func17, Tryd.ntmps17
    go_wp2
    go_ret
    exact ⟨_, rfl, h'.more (by omega), World.grownBy.refl _ _, 0, rfl, by omega, by omega, fun _ => rfl⟩
  · have c0 : w.cell? ⟨g, 0, none⟩ = some (.slice A m c) := by rw [cell_of hb]; rfl
    have c1 : w.cell? ⟨g, 1, none⟩ = some (.int .i64 (at_ : Int)) := by rw [cell_of hb]; rfl
    have f1 : w.frozen? ⟨g, 1, none⟩ = false := frozen_of hb 1
    have HB := Lib.hid hb
    have HS := Lib.hid h'
    clear hb h'
    by_cases hlt : at_ + 1 ≤ m
    · obtain ⟨b, off, rfl, hbg, hz⟩ := hl (by omega)
      obtain ⟨z, hz, hz0, hz1⟩ := hz at_ (by omega)
      have hne : b ≠ g := by omega
      obtain ⟨t0, t1⟩ := tmod_bd z n (by omega)
      clear hl
      go_enter Tryd.func17, Tryd.ntmps17
      go_wp2
      go_quiet (fail)
      go_wp2
      go_quiet (fail)
      go_wp2
      all_goals go_ret
      all_goals exact ⟨_, rfl, HS.out.stored HB.out hat _, grown_stored _ _ _ _ _, _, rfl, by omega, by omega, by omega⟩
    · clear hl
      have t1 := Int.emod_lt_of_pos (((at_ : Int) + 1) * 7) (show 0 < n by omega)
      have t0 := Int.emod_nonneg (((at_ : Int) + 1) * 7) (show n ≠ 0 by omega)
      go_enter Tryd.func17, Tryd.ntmps17
      go_wp2
      go_quiet (fail)
      go_wp2
      all_goals go_ret
      all_goals exact ⟨_, rfl, HS.out.stored HB.out hat _, grown_stored _ _ _ _ _, _, rfl, by omega, by omega, by omega⟩

set_option maxHeartbeats 400000 in
theorem Word_any (g k : Nat) (v : Value) (ss : List Str) (w : World) (h : SrcAt w g k) (hk : k ≤ 1000000) (hl : StrsR w (Av g w) v ss) (hne : 0 < ss.length) :
    Calls Tryd.prog 36 #[.pointer (some ⟨g, 0, none⟩), v] w (Draws w g (k + 1) fun v _ => ∃ s, v = .string s ∧ s ∈ ss) := by
  obtain ⟨A, c, rfl, hc, hf, hr⟩ := hl
  unfold few at hf
  go_enter Tryd.func36, Tryd.ntmps36
  go_wp2_with fail
  refine (N_any g k _ _ h hk (by omega) (by omega)).mono ?_
  rintro e w' ⟨_, rfl, hs, hg, r, rfl, hr0, hr1, hr2⟩
  obtain ⟨j, rfl⟩ := Int.eq_ofNat_of_zero_le hr0
  have hj : j < ss.length := by omega
  have hx : ss[j]? = some ss[j] := List.getElem?_eq_getElem hj
  obtain ⟨b, off, rfl, hb, hcell⟩ := (hr.keep (sameOn_av hg)) (by omega)
  have h2 := hcell j _ 0 hx (by omega)
  simp only [strCell, Nat.add_zero, Nat.mul_one] at h2
  clear hcell hr hx
  go_wp2
  go_ret
  exact ⟨_, rfl, hs, hg, _, rfl, List.getElem_mem hj⟩
set_option maxHeartbeats 400000 in
theorem Pick_any (g k : Nat) (v : Value) (ss : List Int) (w : World) (h : SrcAt w g k) (hk : k ≤ 1000000) (hl : IntsR w (Av g w) v ss) (hne : 0 < ss.length) :
    Calls Tryd.prog 35 #[.pointer (some ⟨g, 0, none⟩), v] w (Draws w g (k + 1) fun v _ => ∃ s, v = .int .i64 s ∧ s ∈ ss) := by
  obtain ⟨A, c, rfl, hc, hf, hr⟩ := hl
  unfold few at hf
  go_enter Tryd.func35, Tryd.ntmps35
  go_wp2_with fail
  refine (N_any g k _ _ h hk (by omega) (by omega)).mono ?_
  rintro e w' ⟨_, rfl, hs, hg, r, rfl, hr0, hr1, hr2⟩
  obtain ⟨j, rfl⟩ := Int.eq_ofNat_of_zero_le hr0
  have hj : j < ss.length := by omega
  have hx : ss[j]? = some ss[j] := List.getElem?_eq_getElem hj
  obtain ⟨b, off, rfl, hb, hcell⟩ := (hr.keep (sameOn_av hg)) (by omega)
  have h2 := hcell j _ 0 hx (by omega)
  simp only [intCell, Nat.add_zero, Nat.mul_one] at h2
  clear hcell hr hx
  go_wp2
  go_ret
  exact ⟨_, rfl, hs, hg, _, rfl, List.getElem_mem hj⟩

end Go.Proofs.YtndedpdonagamaaDoor
