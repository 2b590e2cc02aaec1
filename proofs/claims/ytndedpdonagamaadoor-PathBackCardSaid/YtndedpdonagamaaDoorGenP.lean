/-
  The source of numbers: New; clean paths; names.
-/
import Derived.Test.YtndedpdonagamaaDoorGenB
import Derived.Test.YtndedpdonagamaaDoorLaw4B
namespace Go.Proofs.YtndedpdonagamaaDoor
open Go.RowKit

/-- A slice of integers that came in. -/
def IsRow (w : World) (a : Option Addr) (len cap : Nat) (zs : List Int) : Prop :=
  (a = none ∧ len = 0 ∧ cap = 0 ∧ zs = []) ∨
  ∃ x, a = some x ∧ len ≤ cap ∧ cap ≤ maxLen ∧ zs.length = cap ∧ (∀ i, i < zs.length → w.cell? (x.add i) = some (.int .i64 (zs.getD i 0))) ∧ ∀ n ∈ zs, (Lit.int .i64 n).wf = true

theorem wf_i64 {n : Int} (h : (Lit.int .i64 n).wf = true) : -9223372036854775808 ≤ n ∧ n ≤ 9223372036854775807 := by
  simpa [Lit.wf, IntKind.min, IntKind.max, IntKind.signed, IntKind.bits] using h
theorem cell_lt {w : World} {a : Addr} {v : Value} (h : w.cell? a = some v) : a.block < w.heap.size := by
  obtain ⟨o, ho, _⟩ := cells_of_cell h
  exact (Array.getElem?_eq_some_iff.1 ho).1
set_option maxHeartbeats 400000 in
theorem New_any (a : Option Addr) (len cap : Nat) (zs : List Int) (w : World) (h : IsRow w a len cap zs) :
    Calls Tryd.prog 14 #[.slice a len cap] w fun e w' => e = .returned (.pointer (some ⟨w.heap.size, 0, none⟩)) ∧ SrcAt w' w.heap.size 0 ∧ Below w.heap.size w w' := by
  go_enter Tryd.func14, Tryd.ntmps14
  go_wp2
  go_ret
  refine ⟨rfl, ⟨a, len, cap, 0, heap_alloc_new _ _, Nat.le_refl _, ?_, ?_⟩, (Below.refl _ _).alloc (Nat.le_refl _) _⟩
  · rcases h with ⟨_, rfl, _⟩ | ⟨x, _, h1, h2, _⟩
    · omega
    · unfold maxLen at h2; omega
  · intro h0
    rcases h with ⟨_, rfl, _⟩ | ⟨⟨b, off, spot⟩, rfl, h1, h2, h3, hc, hwf⟩
    · omega
    · have hc0 := hc 0 (by omega)
      have hspot : spot = none := by simpa [Addr.add] using World.cell?_spot hc0
      subst hspot
      refine ⟨b, off, rfl, ?_, fun i hi => ?_⟩
      · have := cell_lt hc0
        simpa [Addr.add] using this
      · have hci := hc i (by omega)
        refine ⟨zs.getD i 0, ?_, wf_i64 (hwf _ ?_)⟩
        · have hlt := cell_lt hci
          rw [show ({ block := b, off := off + i, spot := none } : Addr) = Addr.add ⟨b, off, none⟩ i by simp [Addr.add]]
          exact (World.cell?_of_block (w := w) (a := Addr.add ⟨b, off, none⟩ i) (Below.heap_alloc w _ _ (by simpa [Addr.add] using hlt))).trans hci
        · have hi' : i < zs.length := by omega
          simp only [List.getD, List.getElem?_eq_getElem hi', Option.getD_some]
          exact List.getElem_mem hi'
theorem below_src {w w1 w2 : World} (h : Below w.heap.size w w1) {g : Nat} (hg : w.heap.size ≤ g) (k : w1.grownBy w2 (some g)) : Below w.heap.size w w2 := h.grown k h.size (fun j e => by cases e; exact hg)

/-- A clean path that is not the root. -/
def CleanG (v : Value) (_ : World) : Prop := ∃ (s : Str) (ps : List Bs), v = .string s ∧ ps ≠ [] ∧ (∀ p ∈ ps, nmL p = true) ∧ s.data.toList = flatS ps ∧ s.size ≤ 100
set_option maxHeartbeats 800000 in
theorem GClean_any (g k : Nat) (w : World) (h : SrcAt w g k) (hk : k ≤ 990000) :
    Calls Tryd.prog 15 #[.pointer (some ⟨g, 0, none⟩)] w (Draws w g (k + 5) CleanG) := by
  go_enter Tryd.func15, Tryd.ntmps15
  go_wp2_with fail
  refine (pick_new (P := fun z : Int => 1 ≤ z ∧ z ≤ 3) g _ _ _ _ _ _ (by simp) h (by omega) (by rfl) (by omega) (by omega) (by simp)).mono ?_
  rintro e w1 ⟨_, rfl, hs1, hg1, n, rfl, hn0, hn1⟩
  go_wp2_with fail
  go_loopw [3, 4] (fun p i wr => ∃ (m : Int) (s : Str) (ps : List Bs), 0 ≤ m ∧ m ≤ n ∧ i = .int .i64 m ∧ p = .string s ∧ s.size ≤ 30 * (3 - m).toNat ∧ Hid ((m < n → ps ≠ []) ∧ (∀ p ∈ ps, nmL p = true) ∧ s.data.toList = flatS ps) ∧ SrcAt wr g (k + 4 - m.toNat) ∧ w.grownBy wr (some g)) (fun _ i _ => (intOf i).toNat)
  case atStart => exact ⟨n, _, [], by omega, by omega, rfl, rfl, by have : ({ data := #[] } : ByteArray).size = 0 := rfl; omega, Lib.hid ⟨fun h => absurd h (by omega), by simp, rfl⟩, hs1.more (by omega), hg1⟩
  case round =>
    obtain ⟨m, s, ps, hm0, hm1, rfl, rfl, hsz, hps, hsr, hgr⟩ := hrel
    clear hs1 hg1
    by_cases hlt : 0 < m
    · go_wp2_with fail
      refine (word_new (P := fun s : Str => nmL s.data.toList = true ∧ s.size ≤ 1) g _ _ _ _ _ _ (by simp) hsr (by omega) (by rfl) (by omega) (by omega) (by simp; decide)).mono ?_
      rintro e w3 ⟨_, rfl, hs3, hg3, x, rfl, hx, hxs⟩
      have HX : Hid ((s ++ (({ data := #[47] } : ByteArray) ++ x)).data.toList = flatS (ps ++ [x.data.toList])) := Lib.hid (by
        have hl : (({ data := #[47] } : ByteArray) ++ x).data.toList = 47 :: x.data.toList := by rw [app_data]; rfl
        rw [app_data, hl, hps.out.2.2, flatS_append]; simp [flatS])
      have HN := Lib.hid hx
      clear hx
      go_wp2
      go_roundw
      case rel => exact ⟨m - 1, _, ps ++ [x.data.toList], by omega, by omega, rfl, rfl, by have := slash_size'; simp; omega, Lib.hid ⟨fun _ => by simp, fun p hp => by
          rcases List.mem_append.1 hp with hp | hp
          · exact hps.out.2.1 p hp
          · simp at hp; rw [hp]; exact HN.out, HX.out⟩, hs3.more (by omega), grown_trans hgr hg3⟩
      case measure => simp [intOf]; omega
    · go_wp2
      go_ret
      exact ⟨_, rfl, hsr.more (by omega), hgr, s, ps, rfl, hps.out.1 (by omega), hps.out.2.1, hps.out.2.2, by omega⟩

/-- A name, or something that is nearly one; a slash stands in 'a/b' alone. -/
def NameG (v : Value) (_ : World) : Prop := ∃ s : Str, v = .string s ∧ s.size ≤ 16 ∧ ((47 : UInt8) ∉ s.data.toList ∨ s.data.toList = [97, 47, 98])
set_option maxHeartbeats 400000 in
theorem GName_any (g k : Nat) (w : World) (h : SrcAt w g k) (hk : k ≤ 999000) :
    Calls Tryd.prog 16 #[.pointer (some ⟨g, 0, none⟩)] w (Draws w g (k + 2) NameG) := by
  go_enter Tryd.func16, Tryd.ntmps16
  go_wp2_with fail
  refine (N_any g k _ _ h (by omega) (by omega) (by omega)).mono ?_
  rintro e w' ⟨_, rfl, hs, hg, r, rfl, hr0, hr1, hr2⟩
  go_wp2_with fail
  all_goals
    refine (word_new (P := fun s : Str => s.size ≤ 16 ∧ ((47 : UInt8) ∉ s.data.toList ∨ s.data.toList = [97, 47, 98])) g _ _ _ _ _ _ (by simp) hs (by omega) (by rfl) (by omega) (by omega) (by simp; decide)).mono ?_
    rintro e w' ⟨_, rfl, hs', hg', s, rfl, hsz⟩
    go_wp2
    go_ret
    exact ⟨_, rfl, hs', grown_trans hg hg', _, rfl, hsz⟩

end Go.Proofs.YtndedpdonagamaaDoor
