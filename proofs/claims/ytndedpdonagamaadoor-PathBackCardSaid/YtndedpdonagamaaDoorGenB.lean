/-
  The source of numbers: names, paths, attributes, files.
-/
import Derived.Test.YtndedpdonagamaaDoorGenA
import Derived.Deep.DeepCutAuto
namespace Go.Proofs.YtndedpdonagamaaDoor
open Go.RowKit

theorem SrcAt.alloc {w : World} {g k : Nat} (h : SrcAt w g k) (o : Obj) : SrcAt (w.alloc o) g k := h.below (((Below.refl w.heap.size w).alloc (Nat.le_refl _) o)) h.lt
theorem SrcAt.set_ {w : World} {g k : Nat} (h : SrcAt w g k) {p : Addr} (hp : g < p.block) (u : Value) : SrcAt (w.setCell p u) g k := h.below (B := g + 1) ((Below.refl _ w).setCell (by omega) u) (by omega)

/-- A list of words that was just made. -/
theorem word_new {P : Str → Prop} (g k n : Nat) (vs : List Value) (t : TypeId) (w : World) (B : Nat) (hB : B = w.heap.size) (h : SrcAt w g k) (hk : k ≤ 1000000) (hn : vs.length = n) (h0 : 0 < n) (h1 : n ≤ 1000) (hvs : ∀ v ∈ vs, ∃ s : Str, v = .string s ∧ P s) :
    Calls Tryd.prog 36 #[.pointer (some ⟨g, 0, none⟩), .slice (some ⟨B, 0, none⟩) n n] (w.alloc (.cells vs.toArray t)) (Draws w g (k + 1) fun v _ => ∃ s, v = .string s ∧ P s) := by
  subst hn hB
  have hex : ∀ vs : List Value, (∀ v ∈ vs, ∃ s : Str, v = .string s ∧ P s) → ∃ ss : List Str, vs = ss.map Value.string ∧ ∀ s ∈ ss, P s := by
    intro vs
    induction vs with
    | nil => exact fun _ => ⟨[], rfl, by simp⟩
    | cons v vs ih =>
      intro h
      obtain ⟨ss, rfl, hs⟩ := ih fun v hv => h v (by simp [hv])
      obtain ⟨s, rfl, hp⟩ := h v (by simp)
      exact ⟨s :: ss, rfl, by simpa using ⟨hp, hs⟩⟩
  obtain ⟨ss, rfl, hs⟩ := hex vs hvs
  refine (Word_any g k _ ss _ (h.alloc _) hk ⟨some ⟨w.heap.size, 0, none⟩, ss.length, by simp, Nat.le_refl _, by unfold few; simp at h1; omega, fun _ => ⟨_, _, rfl, ?_, ?_⟩⟩ (by simpa using h0)).mono ?_
  · exact ⟨by simp, by have := h.lt; omega⟩
  · intro i x j hi hj
    obtain rfl : j = 0 := by omega
    have := cell_new w (ss.map Value.string).toArray t i
    simp only [Nat.zero_add, Nat.mul_one, Nat.add_zero]
    rw [this]
    simp [hi, strCell]
  · rintro e w' ⟨_, rfl, h1, h2, s, rfl, hm⟩
    exact ⟨_, rfl, h1, grown_trans (World.grownBy_alloc w _ _) h2, s, rfl, hs s hm⟩
theorem pick_new {P : Int → Prop} (g k n : Nat) (vs : List Value) (t : TypeId) (w : World) (B : Nat) (hB : B = w.heap.size) (h : SrcAt w g k) (hk : k ≤ 1000000) (hn : vs.length = n) (h0 : 0 < n) (h1 : n ≤ 1000) (hvs : ∀ v ∈ vs, ∃ s : Int, v = .int .i64 s ∧ P s) :
    Calls Tryd.prog 35 #[.pointer (some ⟨g, 0, none⟩), .slice (some ⟨B, 0, none⟩) n n] (w.alloc (.cells vs.toArray t)) (Draws w g (k + 1) fun v _ => ∃ s, v = .int .i64 s ∧ P s) := by
  subst hn hB
  have hex : ∀ vs : List Value, (∀ v ∈ vs, ∃ s : Int, v = .int .i64 s ∧ P s) → ∃ ss : List Int, vs = ss.map (Value.int .i64) ∧ ∀ s ∈ ss, P s := by
    intro vs
    induction vs with
    | nil => exact fun _ => ⟨[], rfl, by simp⟩
    | cons v vs ih =>
      intro h
      obtain ⟨ss, rfl, hs⟩ := ih fun v hv => h v (by simp [hv])
      obtain ⟨s, rfl, hp⟩ := h v (by simp)
      exact ⟨s :: ss, rfl, by simpa using ⟨hp, hs⟩⟩
  obtain ⟨ss, rfl, hs⟩ := hex vs hvs
  refine (Pick_any g k _ ss _ (h.alloc _) hk ⟨some ⟨w.heap.size, 0, none⟩, ss.length, by simp, Nat.le_refl _, by unfold few; simp at h1; omega, fun _ => ⟨_, _, rfl, ?_, ?_⟩⟩ (by simpa using h0)).mono ?_
  · exact ⟨by simp, by have := h.lt; omega⟩
  · intro i x j hi hj
    obtain rfl : j = 0 := by omega
    have := cell_new w (ss.map (Value.int .i64)).toArray t i
    simp only [Nat.zero_add, Nat.mul_one, Nat.add_zero]
    rw [this]
    simp [hi, intCell]
  · rintro e w' ⟨_, rfl, h1, h2, s, rfl, hm⟩
    exact ⟨_, rfl, h1, grown_trans (World.grownBy_alloc w _ _) h2, s, rfl, hs s hm⟩

set_option maxHeartbeats 400000 in
theorem Name_any (g k : Nat) (w : World) (h : SrcAt w g k) (hk : k ≤ 999000) :
    Calls Tryd.prog 16 #[.pointer (some ⟨g, 0, none⟩)] w (Draws w g (k + 2) fun v _ => ∃ s : Str, v = .string s ∧ s.size ≤ 16) := by
  go_enter Tryd.func16, Tryd.ntmps16
  go_wp2_with fail
  refine (N_any g k _ _ h (by omega) (by omega) (by omega)).mono ?_
  rintro e w' ⟨_, rfl, hs, hg, r, rfl, hr0, hr1, hr2⟩
  go_wp2_with fail
  all_goals
    refine (word_new (P := fun s : Str => s.size ≤ 16) g _ _ _ _ _ _ (by simp) hs (by omega) (by rfl) (by omega) (by omega) (by simp; decide)).mono ?_
    rintro e w' ⟨_, rfl, hs', hg', s, rfl, hsz⟩
    go_wp2
    go_ret
    exact ⟨_, rfl, hs', grown_trans hg hg', _, rfl, hsz⟩

theorem slash_size : ({ data := #[47] } : ByteArray).size = 1 := rfl
set_option maxHeartbeats 800000 in
theorem Path_any (g k : Nat) (w : World) (h : SrcAt w g k) (hk : k ≤ 990000) :
    Calls Tryd.prog 24 #[.pointer (some ⟨g, 0, none⟩)] w (Draws w g (k + 20) fun v _ => ∃ s : Str, v = .string s ∧ s.size ≤ 100) := by
  go_enter Tryd.func24, Tryd.ntmps24
  go_wp2_with fail
  refine (N_any g k _ _ h (by omega) (by omega) (by omega)).mono ?_
  rintro e w' ⟨_, rfl, hs, hg, r, rfl, hr0, hr1, hr2⟩
  go_wp2_with fail
  all_goals
    refine (pick_new (P := fun z : Int => 0 ≤ z ∧ z ≤ 4) g _ _ _ _ _ _ (by simp) hs (by omega) (by rfl) (by omega) (by omega) (by simp)).mono ?_
    rintro e w1 ⟨_, rfl, hs1, hg1, n, rfl, hn0, hn1⟩
    have hg1' := grown_trans hg hg1
    clear hg hg1 hs
    go_wp2_with fail
    go_loopw [3, 5] (fun p i wr => ∃ (m : Nat) (s : Str), (m : Int) ≤ n ∧ i = .int .i64 m ∧ p = .string s ∧ s.size ≤ 20 * m + 1 ∧ SrcAt wr g (k + 2 + 3 * m) ∧ w.grownBy wr (some g)) (fun _ i _ => n.toNat - (intOf i).toNat)
    case atStart => exact ⟨0, _, by omega, rfl, rfl, by decide, hs1.more (by omega), hg1'⟩
    case round =>
      obtain ⟨m, s, hm, rfl, rfl, hsz, hsr, hgr⟩ := hrel
      clear hs1 hg1'
      by_cases hlt : (m : Int) < n
      · by_cases hm0 : 0 < m
        all_goals
          go_wp2_with fail
          refine (N_any g _ _ _ hsr (by omega) (by omega) (by omega)).mono ?_
          rintro e w2 ⟨_, rfl, hs2, hg2, r2, rfl, hr20, hr21, hr22⟩
          go_wp2_with fail
          · refine (word_new (P := fun s : Str => s.size ≤ 16) g _ _ _ _ _ _ (by simp) hs2 (by omega) (by rfl) (by omega) (by omega) (by simp; decide)).mono ?_
            rintro e w3 ⟨_, rfl, hs3, hg3, s3, rfl, hsz3⟩
            go_wp2
            go_roundw
            case rel => exact ⟨m + 1, _, by omega, by go_num, rfl, by have := slash_size; simp; omega, hs3.more (by omega), grown_trans hgr (grown_trans hg2 hg3)⟩
            case measure => simp [intOf]; omega
          · refine (Name_any g _ _ hs2 (by omega)).mono ?_
            rintro e w3 ⟨_, rfl, hs3, hg3, s3, rfl, hsz3⟩
            go_wp2
            go_roundw
            case rel => exact ⟨m + 1, _, by omega, by go_num, rfl, by have := slash_size; simp; omega, hs3.more (by omega), grown_trans hgr (grown_trans hg2 hg3)⟩
            case measure => simp [intOf]; omega
      · go_wp2_with fail
        refine (N_any g _ _ _ hsr (by omega) (by omega) (by omega)).mono ?_
        rintro e w2 ⟨_, rfl, hs2, hg2, r2, rfl, hr20, hr21, hr22⟩
        go_wp2
        all_goals go_ret
        all_goals exact ⟨_, rfl, hs2.more (by omega), grown_trans hgr hg2, _, rfl, by have := slash_size; first | (simp; omega) | omega⟩

end Go.Proofs.YtndedpdonagamaaDoor
