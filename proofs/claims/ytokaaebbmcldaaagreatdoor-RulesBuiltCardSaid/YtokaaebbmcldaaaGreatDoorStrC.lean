/-
  strings.ContainsAny at the bytes that a name may not have; path.Name.
-/
import Derived.Test.YtokaaebbmcldaaaGreatDoorStrB
import Derived.Lib.OthersKept
namespace Go.Proofs.YtokaaebbmcldaaaGreatDoor
open Go.RowKit

theorem decode_span (s : ByteArray) (i : Nat) (h : i < s.size) (ha : 128 ≤ (s[i]'h).toNat) :
    1 ≤ (Utf8.decode s i).2 ∧ i + (Utf8.decode s i).2 ≤ s.size ∧ ∀ k, k < (Utf8.decode s i).2 → 128 ≤ (s.get! (i + k)).toNat := by
  have hn : ¬ (s[i]'h).toNat < 128 := by omega
  have h0 : s.get! (i + 0) = s[i]'h := get_at s i h
  have g0 : 128 ≤ (s.get! (i + 0)).toNat := by rw [h0]; exact ha
  have c1 : ∀ k, (decide (i + k < s.size) && (s.get! (i + k)).toNat / 64 == 2) = true → i + k < s.size ∧ 128 ≤ (s.get! (i + k)).toNat := by
    intro k hk
    simp only [Bool.and_eq_true, decide_eq_true_iff, beq_iff_eq] at hk
    exact ⟨hk.1, by omega⟩
  have one : 1 ≤ 1 ∧ i + 1 ≤ s.size ∧ ∀ k, k < 1 → 128 ≤ (s.get! (i + k)).toNat := by
    refine ⟨Nat.le_refl _, h, fun k hk => ?_⟩
    obtain rfl : k = 0 := by omega
    exact g0
  unfold Utf8.decode
  simp only [h0, hn, if_false]
  split
  · rename_i hc
    rw [Bool.and_eq_true] at hc
    obtain ⟨a1, b1⟩ := c1 1 hc.2
    split
    · refine ⟨by simp, a1, fun k hk => ?_⟩
      have : k = 0 ∨ k = 1 := by simp at hk; omega
      rcases this with rfl | rfl
      · exact g0
      · exact b1
    · exact one
  · split
    · rename_i hc
      rw [Bool.and_eq_true, Bool.and_eq_true] at hc
      obtain ⟨a1, b1⟩ := c1 1 hc.1.2
      obtain ⟨a2, b2⟩ := c1 2 hc.2
      split
      · refine ⟨by simp, a2, fun k hk => ?_⟩
        have : k = 0 ∨ k = 1 ∨ k = 2 := by simp at hk; omega
        rcases this with rfl | rfl | rfl
        · exact g0
        · exact b1
        · exact b2
      · exact one
    · split
      · rename_i hc
        rw [Bool.and_eq_true, Bool.and_eq_true, Bool.and_eq_true] at hc
        obtain ⟨a1, b1⟩ := c1 1 hc.1.1.2
        obtain ⟨a2, b2⟩ := c1 2 hc.1.2
        obtain ⟨a3, b3⟩ := c1 3 hc.2
        split
        · refine ⟨by simp, a3, fun k hk => ?_⟩
          have : k = 0 ∨ k = 1 ∨ k = 2 ∨ k = 3 := by simp at hk; omega
          rcases this with rfl | rfl | rfl | rfl
          · exact g0
          · exact b1
          · exact b2
          · exact b3
        · exact one
      · exact one
theorem get!_at (s : ByteArray) (j : Nat) (hj : j < s.size) : s.data.toList[j]? = some (s.get! j) := by
  have := get_at s j hj
  rw [Nat.add_zero] at this
  rw [this]
  exact Lib.data_getElem? s j hj
theorem noAny_span {s : ByteArray} {i : Nat} (h : i < s.size) (ha : 128 ≤ (s[i]'h).toNat) (hno : Lib.NoAny s.data.toList [0, 47] i) : Lib.NoAny s.data.toList [0, 47] (i + (Utf8.decode s i).2) := by
  obtain ⟨_, h2, h3⟩ := decode_span s i h ha
  intro j b hj hb
  by_cases hlt : j < i
  · exact hno j b hlt hb
  · have := h3 (j - i) (by omega)
    rw [show i + (j - i) = j by omega] at this
    rw [get!_at s j (by omega)] at hb
    injection hb with hb
    rw [hb] at this
    have h0 : b ≠ 0 := by rintro rfl; simp at this
    have h47 : b ≠ 47 := by
      rintro rfl
      have : (47 : UInt8).toNat = 47 := rfl
      omega
    simp [h0, h47]

theorem IndexRune_high (r : Int) (w : World) (h0 : 128 ≤ r) (h1 : r ≤ 2147483647) :
    Calls Tryz.prog 93 #[.string ⟨#[0, 47]⟩, .int .i32 r] w fun e w' => e = .returned (.int .i64 (-1)) ∧ Below w.heap.size w w' := by
  by_cases h2 : r = 65533
  · subst h2; exact IndexRune_err w
  · cases hv : Lib.validRune r with
    | true => exact IndexRune_good r w h0 h1 h2 hv
    | false => exact (IndexRune_bad r w h0 h1 h2 hv).mono fun e w' h => ⟨h.1, by rw [← h.2]; exact Below.refl _ _⟩

/-- What IndexAny says of such bytes. -/
def AnyQ (s : ByteArray) (w : World) (e : Ending) (w' : World) : Prop := ∃ v : Int, e = .returned (.int .i64 v) ∧ Below w.heap.size w w' ∧ ((0 ≤ v) ↔ ((0 : UInt8) ∈ s.data.toList ∨ (47 : UInt8) ∈ s.data.toList))
theorem any_none {s : ByteArray} (h : Lib.NoAny s.data.toList [0, 47] s.size) : ¬ ((0 : UInt8) ∈ s.data.toList ∨ (47 : UInt8) ∈ s.data.toList) := by
  rintro (h' | h')
  · obtain ⟨j, hj⟩ := List.mem_iff_getElem?.1 h'
    have := h j 0 (by rw [Lib.size_eq]; exact (List.getElem?_eq_some_iff.1 hj).1) hj
    simp at this
  · obtain ⟨j, hj⟩ := List.mem_iff_getElem?.1 h'
    have := h j 47 (by rw [Lib.size_eq]; exact (List.getElem?_eq_some_iff.1 hj).1) hj
    simp at this
theorem any_hit {s : ByteArray} {i : Nat} {x : UInt8} (hx : s.data.toList[i]? = some x) (h : [0, 47].contains x = true) : ((0 : UInt8) ∈ s.data.toList ∨ (47 : UInt8) ∈ s.data.toList) := by
  have hm := List.mem_of_getElem? hx
  simp at h
  rcases h with rfl | rfl
  · exact .inl hm
  · exact .inr hm

set_option maxRecDepth 1000000 in
set_option maxHeartbeats 4000000 in
theorem IndexAny_short (s : ByteArray) (w : World) (h8 : s.size ≤ 8) : Calls Tryz.prog 90 #[.string s, .string ⟨#[0, 47]⟩] w (AnyQ s w) := by
  have h8z : decide ((8 : Int) < (s.size : Int)) = false := decide_eq_false (by omega)
  go_enter Tryz.func90, Tryz.ntmps90
  go_wp2_with (go_at_call 94; refine (Tryz.strings_shouldUseASCIISet _ _).mono ?_; rintro e w' ⟨rfl, hw⟩; rw [hw, h8z])
  clear hw
  go_loopg [9, 10] s.size (fun g _ _ wx => ∃ i : Nat, s.size ≤ i + g ∧ i ≤ s.size ∧ wx.heap[w.heap.size]? = some (.stringIter s i) ∧ Below w.heap.size w wx ∧ Hid (Lib.NoAny s.data.toList [0, 47] i))
  case atStart => exact ⟨0, by omega, by omega, World.iter_heap w s 0, (Below.refl _ _).alloc (Nat.le_refl _) _, Lib.hid (Lib.NoAny.zero _ _)⟩
  case round =>
    obtain ⟨i, hg, hi, hit, hbel, hno⟩ := hrel
    have hks := hbel.size
    by_cases hlt : i < s.size
    · obtain ⟨g, rfl⟩ : ∃ g, gk = g + 1 := ⟨gk - 1, by omega⟩
      by_cases hx : (s[i]'hlt).toNat < 128
      · have hnx := fun ty => Lib.run_next_ascii_at (P := Tryz.prog) wr w.heap.size s i ty hit hlt hx
        have hxl : s.data.toList[i]? = some (s[i]'hlt) := Lib.data_getElem? s i hlt
        generalize (s[i]'hlt) = x at *
        have Hx := Lib.hid hxl
        have hit' := Lib.iterAt_heap wr w.heap.size s i (i + 1) hit
        have hbel' := Lib.below_iterAt hbel (Nat.le_refl _) s (i + 1)
        generalize wr.iterAt w.heap.size s (i + 1) = w1 at *
        have hcon := Lib.contains_iff_indexByte [0, 47] x
        have hback : ((x.toNat : Int)).toNat.toUInt8 = x := by simp
        have HI := Lib.hid hit'
        clear hxl hit hit'
        cases hin : [0, 47].contains x
        · rw [hin] at hcon
          have hneg : ¬ ((0 : Int) ≤ Lib.indexByte [0, 47] x) := of_decide_eq_false hcon.symm
          clear hcon
          go_wp2_with (go_at_call 93; refine (Tryz.strings_IndexRune_ascii _ _ _ (by omega) (by omega)).mono ?_; rintro e w' ⟨rfl, hw⟩; rw [hw, hback])
          go_roundg g
          case measure => omega
          case rel => exact ⟨i + 1, by omega, by omega, HI.out, hbel', Lib.hid (hno.out.succ Hx.out hin)⟩
        · rw [hin] at hcon
          have hpos : (0 : Int) ≤ Lib.indexByte [0, 47] x := of_decide_eq_true hcon.symm
          clear hcon
          go_wp2_with (go_at_call 93; refine (Tryz.strings_IndexRune_ascii _ _ _ (by omega) (by omega)).mono ?_; rintro e w' ⟨rfl, hw⟩; rw [hw, hback])
          go_ret
          exact ⟨_, rfl, hbel', ⟨fun _ => any_hit Hx.out hin, fun _ => by omega⟩⟩
      · have hx' : 128 ≤ (s[i]'hlt).toNat := by omega
        obtain ⟨p1, p2, _⟩ := decode_span s i hlt hx'
        have HN := Lib.hid (noAny_span hlt hx' hno.out)
        have q1 := (decode_high s i hlt hx').1
        have q2 := decode_le s i
        have hnx := fun ty => Lib.run_next_any_at (P := Tryz.prog) wr w.heap.size s i ty hit hlt
        generalize Utf8.decode s i = d at *
        obtain ⟨d1, d2⟩ := d
        simp only at *
        have hit' := Lib.iterAt_heap wr w.heap.size s i (i + d2) hit
        have hbel' := Lib.below_iterAt hbel (Nat.le_refl _) s (i + d2)
        have hsz := Lib.iterAt_size wr w.heap.size s (i + d2)
        generalize wr.iterAt w.heap.size s (i + d2) = w1 at *
        have hk1 : w.heap.size < w1.heap.size := (Array.getElem?_eq_some_iff.1 hit').1
        have HI := Lib.hid hit'
        clear hit hit' hsz
        go_wp2_with fail
        refine (IndexRune_high _ _ (by omega) (by omega)).mono ?_
        rintro e w2 ⟨rfl, hb2⟩
        go_wp2
        go_roundg g
        case measure => omega
        case rel => exact ⟨i + d2, by omega, by omega, (hb2.block _ hk1).trans HI.out, hbel'.trans (hb2.mono (by omega)), HN⟩
    · obtain rfl : i = s.size := by omega
      have hnx := fun ty => Lib.run_next_end_at (P := Tryz.prog) wr w.heap.size s s.size ty hit hlt
      go_wp2
      go_ret
      exact ⟨_, rfl, hbel, ⟨fun h => absurd h (by decide), fun h => absurd h (any_none hno.out)⟩⟩

end Go.Proofs.YtokaaebbmcldaaaGreatDoor
