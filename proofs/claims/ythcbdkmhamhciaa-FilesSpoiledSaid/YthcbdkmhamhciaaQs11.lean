/-
  Part 11 of the proof of FilesSpoiledP: what the statement's proof uses of the texts in wip/tpl.
-/
import Derived.Lib.OthersKept
import Derived.Lib.Hide
import Derived.Lib.IndexLaws
import Derived.Shelf.Abstract
import Derived.Shelf.RegionOpen
import Derived.OwnWalkIn
import Derived.TacticsInMore
import Derived.LoopNIn
import Derived.LoopIn
import Derived.WalkMore
import Derived.Maps.AppendAt
import Derived.OwnWalk
import Derived.StillTailTactics
import Derived.OpenShut
import Derived.ChangeArms
import Derived.ChangeOld
import Derived.DataReads
import Derived.DataElems
import Derived.Test.YthcbdkmhamhciaaQs10
namespace Go.Proofs.Ythcbdkmhamhciaa
open Go.RowKit
theorem decode_span (s : ByteArray) (i : Nat) (h : i < s.size) (ha : 128 ≤ (s[i]'h).toNat) :
    1 ≤ (Utf8.decode s i).2 ∧ i + (Utf8.decode s i).2 ≤ s.size ∧ ∀ k, k < (Utf8.decode s i).2 → 128 ≤ (s.get! (i + k)).toNat := by
 have hn : ¬ (s[i]'h).toNat < 128 := by omega
 have h0 : s.get! (i + 0) = s[i]'h := get_at s i h
 have g0 : 128 ≤ (s.get! (i + 0)).toNat := by rw [h0]; exact ha
 have c1 : ∀ k, (decide (i + k < s.size) && (s.get! (i + k)).toNat / 64 == 2) = true → i + k < s.size ∧ 128 ≤ (s.get! (i + k)).toNat := by
  intro k hk
  simp only [Bool.and_eq_true, decide_eq_true_iff, beq_iff_eq] at hk
  exact ⟨hk.1, by omega⟩
 have one : 1 ≤ 1 ∧ i + 1 ≤ s.size ∧ ∀ k, k < 1 → 128 ≤ (s.get! (i + k)).toNat := by
  refine ⟨Nat.le_refl _, h, fun k hk => ?_⟩
  obtain rfl : k = 0 := by omega
  exact g0
 unfold Utf8.decode
 simp only [h0, hn, if_false]
 split
 ·rename_i hc
  rw [Bool.and_eq_true] at hc
  obtain ⟨a1, b1⟩ := c1 1 hc.2
  split
  ·refine ⟨by simp, a1, fun k hk => ?_⟩
   have : k = 0 ∨ k = 1 := by simp at hk; omega
   rcases this with rfl | rfl
   ·exact g0
   exact b1
  exact one
 split
 ·rename_i hc
  rw [Bool.and_eq_true, Bool.and_eq_true] at hc
  obtain ⟨a1, b1⟩ := c1 1 hc.1.2
  obtain ⟨a2, b2⟩ := c1 2 hc.2
  split
  ·refine ⟨by simp, a2, fun k hk => ?_⟩
   have : k = 0 ∨ k = 1 ∨ k = 2 := by simp at hk; omega
   rcases this with rfl | rfl | rfl
   ·exact g0
   ·exact b1
   exact b2
  exact one
 split
 ·rename_i hc
  rw [Bool.and_eq_true, Bool.and_eq_true, Bool.and_eq_true] at hc
  obtain ⟨a1, b1⟩ := c1 1 hc.1.1.2
  obtain ⟨a2, b2⟩ := c1 2 hc.1.2
  obtain ⟨a3, b3⟩ := c1 3 hc.2
  split
  ·refine ⟨by simp, a3, fun k hk => ?_⟩
   have : k = 0 ∨ k = 1 ∨ k = 2 ∨ k = 3 := by simp at hk; omega
   rcases this with rfl | rfl | rfl | rfl
   ·exact g0
   ·exact b1
   ·exact b2
   exact b3
  exact one
 exact one
theorem get!_at (s : ByteArray) (j : Nat) (hj : j < s.size) : s.data.toList[j]? = some (s.get! j) := by
 have := get_at s j hj
 rw [Nat.add_zero] at this
 rw [this]
 exact Lib.data_getElem? s j hj
theorem noAny_span {s : ByteArray} {i : Nat} (h : i < s.size) (ha : 128 ≤ (s[i]'h).toNat) (hno : Lib.NoAny s.data.toList [0, 47] i) : Lib.NoAny s.data.toList [0, 47] (i + (Utf8.decode s i).2) := by
 obtain ⟨_, h2, h3⟩ := decode_span s i h ha
 intro j b hj hb
 by_cases hlt : j < i
 ·exact hno j b hlt hb
 have := h3 (j - i) (by omega)
 rw [show i + (j - i) = j by omega] at this
 rw [get!_at s j (by omega)] at hb
 injection hb with hb
 rw [hb] at this
 have h0 : b ≠ 0 := by rintro rfl; simp at this
 have h47 : b ≠ 47 := by
  rintro rfl
  have : (47 : UInt8).toNat = 47 := rfl
  omega
 simp [h0, h47]
theorem IndexRune_high (r : Int) (w : World) (h0 : 128 ≤ r) (h1 : r ≤ 2147483647) :
    Calls Try.prog 114 #[.string ⟨#[0, 47]⟩, .int .i32 r] w fun e w' => e = .returned (.int .i64 (-1)) ∧ Below w.heap.size w w' := by
 by_cases h2 : r = 65533
 ·subst h2; exact IndexRune_err w
 cases hv : Lib.validRune r with
 | true => exact IndexRune_good r w h0 h1 h2 hv
 | false => exact (IndexRune_bad r w h0 h1 h2 hv).mono fun e w' h => ⟨h.1, by rw [← h.2]; exact Below.refl _ _⟩
def AnyQ (s : ByteArray) (w : World) (e : Ending) (w' : World) : Prop := ∃ v : Int, e = .returned (.int .i64 v) ∧ Below w.heap.size w w' ∧ ((0 ≤ v) ↔ ((0 : UInt8) ∈ s.data.toList ∨ (47 : UInt8) ∈ s.data.toList))
theorem any_none {s : ByteArray} (h : Lib.NoAny s.data.toList [0, 47] s.size) : ¬ ((0 : UInt8) ∈ s.data.toList ∨ (47 : UInt8) ∈ s.data.toList) := by
 rintro (h' | h')
 ·obtain ⟨j, hj⟩ := List.mem_iff_getElem?.1 h'
  have := h j 0 (by rw [Lib.size_eq]; exact (List.getElem?_eq_some_iff.1 hj).1) hj
  simp at this
 obtain ⟨j, hj⟩ := List.mem_iff_getElem?.1 h'
 have := h j 47 (by rw [Lib.size_eq]; exact (List.getElem?_eq_some_iff.1 hj).1) hj
 simp at this
theorem any_hit {s : ByteArray} {i : Nat} {x : UInt8} (hx : s.data.toList[i]? = some x) (h : [0, 47].contains x = true) : ((0 : UInt8) ∈ s.data.toList ∨ (47 : UInt8) ∈ s.data.toList) := by
 have hm := List.mem_of_getElem? hx
 simp at h
 rcases h with rfl | rfl
 ·exact .inl hm
 exact .inr hm
set_option maxRecDepth 1000000 in
set_option maxHeartbeats 4000000 in
theorem IndexAny_short (s : ByteArray) (w : World) (h8 : s.size ≤ 8) : Calls Try.prog 106 #[.string s, .string ⟨#[0, 47]⟩] w (AnyQ s w) := by
 have h8z : decide ((8 : Int) < (s.size : Int)) = false := decide_eq_false (by omega)
 go_enter Try.func106, Try.ntmps106
 go_wp2_with (go_at_call 115; refine (Try.strings_shouldUseASCIISet _ _).mono ?_; rintro e w' ⟨rfl, hw⟩; rw [hw, h8z])
 clear hw
 go_loopg [9, 10] s.size (fun g _ _ wx => ∃ i : Nat, s.size ≤ i + g ∧ i ≤ s.size ∧ wx.heap[w.heap.size]? = some (.stringIter s i) ∧ Below w.heap.size w wx ∧ Hid (Lib.NoAny s.data.toList [0, 47] i))
 case atStart => exact ⟨0, by omega, by omega, World.iter_heap w s 0, (Below.refl _ _).alloc (Nat.le_refl _) _, Lib.hid (Lib.NoAny.zero _ _)⟩
 case round =>
  obtain ⟨i, hg, hi, hit, hbel, hno⟩ := hrel
  have hks := hbel.size
  by_cases hlt : i < s.size
  ·obtain ⟨g, rfl⟩ : ∃ g, gk = g + 1 := ⟨gk - 1, by omega⟩
   by_cases hx : (s[i]'hlt).toNat < 128
   ·have hnx := fun ty => Lib.run_next_ascii_at (P := Try.prog) wr w.heap.size s i ty hit hlt hx
    have hxl : s.data.toList[i]? = some (s[i]'hlt) := Lib.data_getElem? s i hlt
    generalize (s[i]'hlt) = x at *
    have Hx := Lib.hid hxl
    have hit' := Lib.iterAt_heap wr w.heap.size s i (i + 1) hit
    have hbel' := Lib.below_iterAt hbel (Nat.le_refl _) s (i + 1)
    generalize wr.iterAt w.heap.size s (i + 1) = w1 at *
    have hcon := Lib.contains_iff_indexByte [0, 47] x
    have hback : ((x.toNat : Int)).toNat.toUInt8 = x := by simp
    have HI := Lib.hid hit'
    clear hxl hit hit'
    cases hin : [0, 47].contains x
    ·rw [hin] at hcon
     have hneg : ¬ ((0 : Int) ≤ Lib.indexByte [0, 47] x) := of_decide_eq_false hcon.symm
     clear hcon
     go_wp2_with (go_at_call 114; refine (Try.strings_IndexRune_ascii _ _ _ (by omega) (by omega)).mono ?_; rintro e w' ⟨rfl, hw⟩; rw [hw, hback])
     go_roundg g
     case measure => omega
     case rel => exact ⟨i + 1, by omega, by omega, HI.out, hbel', Lib.hid (hno.out.succ Hx.out hin)⟩
    rw [hin] at hcon
    have hpos : (0 : Int) ≤ Lib.indexByte [0, 47] x := of_decide_eq_true hcon.symm
    clear hcon
    go_wp2_with (go_at_call 114; refine (Try.strings_IndexRune_ascii _ _ _ (by omega) (by omega)).mono ?_; rintro e w' ⟨rfl, hw⟩; rw [hw, hback])
    go_ret
    exact ⟨_, rfl, hbel', ⟨fun _ => any_hit Hx.out hin, fun _ => by omega⟩⟩
   have hx' : 128 ≤ (s[i]'hlt).toNat := by omega
   obtain ⟨p1, p2, _⟩ := decode_span s i hlt hx'
   have HN := Lib.hid (noAny_span hlt hx' hno.out)
   have q1 := (decode_high s i hlt hx').1
   have q2 := decode_le s i
   have hnx := fun ty => Lib.run_next_any_at (P := Try.prog) wr w.heap.size s i ty hit hlt
   generalize Utf8.decode s i = d at *
   obtain ⟨d1, d2⟩ := d
   simp only at *
   have hit' := Lib.iterAt_heap wr w.heap.size s i (i + d2) hit
   have hbel' := Lib.below_iterAt hbel (Nat.le_refl _) s (i + d2)
   have hsz := Lib.iterAt_size wr w.heap.size s (i + d2)
   generalize wr.iterAt w.heap.size s (i + d2) = w1 at *
   have hk1 : w.heap.size < w1.heap.size := (Array.getElem?_eq_some_iff.1 hit').1
   have HI := Lib.hid hit'
   clear hit hit' hsz
   go_wp2_with fail
   refine (IndexRune_high _ _ (by omega) (by omega)).mono ?_
   rintro e w2 ⟨rfl, hb2⟩
   go_wp2
   go_roundg g
   case measure => omega
   case rel => exact ⟨i + d2, by omega, by omega, (hb2.block _ hk1).trans HI.out, hbel'.trans (hb2.mono (by omega)), HN⟩
  obtain rfl : i = s.size := by omega
  have hnx := fun ty => Lib.run_next_end_at (P := Try.prog) wr w.heap.size s s.size ty hit hlt
  go_wp2
  go_ret
  exact ⟨_, rfl, hbel, ⟨fun h => absurd h (by decide), fun h => absurd h (any_none hno.out)⟩⟩
theorem indexAny_mem (s : ByteArray) : (0 ≤ Lib.indexAny s.data.toList [0, 47]) ↔ ((0 : UInt8) ∈ s.data.toList ∨ (47 : UInt8) ∈ s.data.toList) := by
 generalize s.data.toList = l
 induction l with
 | nil => simp [Lib.indexAny]
 | cons b l ih =>
   have hge := Lib.indexAny_ge [0, 47] l
   unfold Lib.indexAny
   by_cases hb : [0, 47].contains b = true
   ·rw [if_pos hb]
    simp only [List.contains_cons, List.contains_nil, Bool.or_false, Bool.or_eq_true, beq_iff_eq] at hb
    rcases hb with rfl | rfl <;> simp
   rw [if_neg hb]
   have h0 : (0 : UInt8) ≠ b := by rintro rfl; simp at hb
   have h47 : (47 : UInt8) ≠ b := by rintro rfl; simp at hb
   simp only [List.mem_cons, h0, h47, false_or]
   rw [← ih]
   split
   ·rename_i h
    have : Lib.indexAny l [0, 47] = -1 := by simpa using h
    rw [this]
   rename_i h
   have : Lib.indexAny l [0, 47] ≠ -1 := by simpa using h
   constructor <;> intro h' <;> omega
theorem IndexAny_any (s : ByteArray) (w : World) (hs : s.size ≤ 1000000) : Calls Try.prog 106 #[.string s, .string ⟨#[0, 47]⟩] w (AnyQ s w) := by
 by_cases h8 : s.size ≤ 8
 ·exact IndexAny_short s w h8
 refine (Try.strings_IndexAny_long (fun w => by kernel_rfl) s ⟨#[0, 47]⟩ w (by decide) (by omega) (by omega) (by decide) ?_).mono ?_
 ·intro j b hj
  have : b ∈ [0, 47] := List.mem_of_getElem? hj
  simp at this
  rcases this with rfl | rfl <;> decide
 rintro e w' ⟨rfl, rfl⟩
 exact ⟨_, rfl, below_a2 _ _ _, indexAny_mem s⟩
def badB (s : ByteArray) : Bool := decide ((0 : UInt8) ∈ s.data.toList ∨ (47 : UInt8) ∈ s.data.toList)
theorem ContainsAny_any (s : ByteArray) (w : World) (hs : s.size ≤ 1000000) :
    Calls Try.prog 89 #[.string s, .string ⟨#[0, 47]⟩] w fun e w' => e = .returned (.bool (badB s)) ∧ Below w.heap.size w w' := by
 go_enter Try.func89, Try.ntmps89
 go_wp2_with fail
 refine (IndexAny_any s w hs).mono ?_
 rintro e w' ⟨v, rfl, hb, hv⟩
 have HV := Lib.hid hv
 clear hv
 go_wp2
 go_ret
 exact ⟨ret_bool (decide_eq_decide.2 HV.out), hb⟩
theorem eq_dot (s : ByteArray) : (s.toList == [46]) = decide (s.data.toList = [46]) := by rw [toL, Bool.eq_iff_iff]; simp
theorem eq_dots (s : ByteArray) : (s.toList == [46, 46]) = decide (s.data.toList = [46, 46]) := by rw [toL, Bool.eq_iff_iff]; simp
set_option maxHeartbeats 1000000 in
theorem PName_any (s : ByteArray) (w : World) :
    Calls Try.prog 59 #[.string s] w fun e w' => e = .returned (.bool (nmL s.data.toList)) ∧ Below w.heap.size w w' := by
 have hsz := Lib.size_eq s
 by_cases h0 : s.size = 0
 ·have he : s.toList.isEmpty = true := by rw [empty_iff']; simp [h0]
  have he' : s.toList = [] := List.isEmpty_iff.1 he
  have HF : Hid (nmL s.data.toList = false) := Lib.hid (by
   rw [← toL, he']; rfl)
  clear hsz
  go_enter Try.func59, Try.ntmps59
  go_wp2
  go_ret
  exact ⟨ret_bool HF.out.symm, Below.refl _ _⟩
 have he : s.toList.isEmpty = false := by rw [empty_iff']; simp [h0]
 have hne : s.data.toList ≠ [] := by intro e; rw [e] at hsz; exact h0 hsz
 by_cases h12 : s.size ≤ 12
 ·have hle : decide ((s.size : Int) ≤ 12) = true := decide_eq_true (by omega)
  by_cases h1 : s.data.toList = [46]
  ·have e1 : (s.toList == [46]) = true := by rw [eq_dot]; simp [h1]
   have e1' : (s.toList != [46]) = false := by simp [bne, e1]
   have HF : Hid (nmL s.data.toList = false) := Lib.hid (by rw [h1]; rfl)
   clear hsz hne h1
   go_enter Try.func59, Try.ntmps59
   go_wp2
   go_ret
   exact ⟨ret_bool HF.out.symm, Below.refl _ _⟩
  have e1 : (s.toList == [46]) = false := by rw [eq_dot]; simp [h1]
  have e1' : (s.toList != [46]) = true := by simp [bne, e1]
  by_cases h2 : s.data.toList = [46, 46]
  ·have e2 : (s.toList == [46, 46]) = true := by rw [eq_dots]; simp [h2]
   have e2' : (s.toList != [46, 46]) = false := by simp [bne, e2]
   have HF : Hid (nmL s.data.toList = false) := Lib.hid (by rw [h2]; rfl)
   clear hsz hne h1 h2
   go_enter Try.func59, Try.ntmps59
   go_wp2
   go_ret
   exact ⟨ret_bool HF.out.symm, Below.refl _ _⟩
  have e2 : (s.toList == [46, 46]) = false := by rw [eq_dots]; simp [h2]
  have e2' : (s.toList != [46, 46]) = true := by simp [bne, e2]
  have HF : Hid (nmL s.data.toList = !badB s) := Lib.hid (by
   unfold badB
   rw [Bool.eq_iff_iff, nmL_iff]
   simp only [Bool.not_eq_true', decide_eq_false_iff_not, not_or]
   exact ⟨fun h => h.2.2.2.2, fun h => ⟨hne, by omega, h1, h2, h⟩⟩)
  clear hsz hne h1 h2
  go_enter Try.func59, Try.ntmps59
  go_wp2_with fail
  refine (ContainsAny_any s _ (by omega)).mono ?_
  rintro e w' ⟨rfl, hb⟩
  go_wp2
  go_ret
  exact ⟨ret_bool HF.out.symm, hb⟩
 have hle : decide ((s.size : Int) ≤ 12) = false := decide_eq_false (by omega)
 have HF : Hid (nmL s.data.toList = false) := Lib.hid (decide_eq_false (fun h => by have := h.2.1; omega))
 clear hsz hne
 go_enter Try.func59, Try.ntmps59
 go_wp2
 go_ret
 exact ⟨ret_bool HF.out.symm, Below.refl _ _⟩
end Go.Proofs.Ythcbdkmhamhciaa
namespace Go.Proofs.Ythcbdkmhamhciaa
theorem byte47 (x : UInt8) : ((x.toNat : Int) == 47) = decide (x = 47) := by
 rw [Bool.eq_iff_iff, beq_iff_eq, decide_eq_true_iff]
 constructor
 ·intro h
  apply UInt8.toNat_inj.1
  have : (47 : UInt8).toNat = 47 := rfl
  omega
 rintro rfl; rfl
theorem toLd (s : ByteArray) : s.toList = s.data.toList := Lib.toList_data s
theorem eq_dotS (s : ByteArray) : (s.toList == [46]) = decide (s.data.toList = [46]) := by rw [toLd, Bool.eq_iff_iff]; simp
theorem eq_dotsS (s : ByteArray) : (s.toList == [46, 46]) = decide (s.data.toList = [46, 46]) := by rw [toLd, Bool.eq_iff_iff]; simp
theorem nameL_eq (s : Str) : nameL s = nmL s.data.toList := by
 have hs := Lib.size_eq s
 rw [Bool.eq_iff_iff, nmL_iff]
 unfold nameL
 by_cases h1 : s.size < 1 ∨ 12 < s.size
 ·rw [if_pos h1]
  constructor
  ·intro h; cases h
  rintro ⟨h2, h3, _⟩
  have : 0 < s.data.toList.length := List.length_pos_iff.2 h2
  omega
 rw [if_neg h1, eq_dotS, eq_dotsS]
 have hne : s.data.toList ≠ [] := by intro e; rw [e] at hs; change s.size = 0 at hs; omega
 by_cases h2 : s.data.toList = [46]
 ·rw [if_pos (decide_eq_true h2)]
  constructor
  ·intro h; cases h
  exact fun h => absurd h2 h.2.2.1
 rw [if_neg (by simpa using h2)]
 by_cases h3 : s.data.toList = [46, 46]
 ·rw [if_pos (decide_eq_true h3)]
  constructor
  ·intro h; cases h
  exact fun h => absurd h3 h.2.2.2.1
 rw [if_neg (by simpa using h3), List.all_eq_true]
 have hb : ∀ c : UInt8, byteOK c = true ↔ c ≠ 0 ∧ c ≠ 47 := by
  intro c
  unfold byteOK
  rw [Bool.and_eq_true, byte47]
  have : ((c.toNat : Int) == 0) = decide (c = 0) := by
   rw [Bool.eq_iff_iff, beq_iff_eq, decide_eq_true_iff]
   constructor
   ·intro h
    apply UInt8.toNat_inj.1
    have : (0 : UInt8).toNat = 0 := rfl
    omega
   rintro rfl; rfl
  rw [this]
  simp
 constructor
 ·intro h
  exact ⟨hne, by omega, h2, h3, fun h0 => ((hb _).1 (h _ h0)).1 rfl, fun h0 => ((hb _).1 (h _ h0)).2 rfl⟩
 rintro ⟨_, _, _, _, h0, h47⟩ c hc
 exact (hb c).2 ⟨fun e => h0 (e ▸ hc), fun e => h47 (e ▸ hc)⟩
end Go.Proofs.Ythcbdkmhamhciaa
namespace Go.Proofs.Ythcbdkmhamhciaa
open Go.RowKit
theorem Pname (s : Str) : AFn Try.prog 59 [.v (.string s)] (fun r => r = .v (.bool (nameL s))) := by
 rw [nameL_eq]
 exact afn_of (us := [.string s]) fun w => PName_any s w
theorem PidxB (s : Str) : AFn Try.prog 107 [.v (.string s), .v (.int .u8 0)] (fun r => r = .v (.int .i64 (Lib.indexByte s.data.toList 0))) :=
 afn_of (us := [.string s, .int .u8 0]) fun w => (Try.strings_IndexByte s 0 w).mono fun e w' ⟨h1, h2⟩ => ⟨h1, by rw [h2]; exact Below.refl _ _⟩
def attrP (m u g : Int) : Bool := decide (0 ≤ m ∧ m ≤ 511 ∧ 0 ≤ u ∧ u ≤ 4294967295 ∧ 0 ≤ g ∧ g ≤ 4294967295)
def entPAt (es : List Ent) (i : Nat) : Bool := match es[i]? with
 | none => true
 | some x => if nameL x.1 = false then false else if 0 < i ∧ preE es i x = true then false else true
def entsP (es : List Ent) : Bool := if 12 < es.length then false else (List.range es.length).all (entPAt es)
theorem idx_zero (s : Str) : decide (Lib.indexByte s.data.toList 0 < 0) = s.data.toList.all (fun c => !((c.toNat : Int) == 0)) := by
 have hge := Lib.indexByte_ge s.data.toList 0
 by_cases h : Lib.indexByte s.data.toList 0 < 0
 ·rw [decide_eq_true h]
  have h1 := Lib.indexByte_none (l := s.data.toList) (c := 0) (by omega)
  refine (List.all_eq_true.2 fun c hc => ?_).symm
  obtain ⟨k, hk⟩ := List.getElem?_of_mem hc
  have h2 : c ≠ 0 := fun e => h1 k (by rw [hk, e])
  have h3 : (c.toNat : Int) ≠ 0 := fun e => h2 (UInt8.toNat_inj.1 (by show c.toNat = 0; omega))
  simpa using h3
 rw [decide_eq_false h]
 obtain ⟨o, ho⟩ := Int.eq_ofNat_of_zero_le (show 0 ≤ Lib.indexByte s.data.toList 0 by omega)
 have h1 := (Lib.indexByte_some ho).1
 exact (List.all_eq_false.2 ⟨0, List.mem_of_getElem? h1, by decide⟩).symm
theorem str_pos {s : Str} (h : ¬ s = ⟨#[]⟩) : 1 ≤ s.size := by
 by_cases h0 : s.size = 0
 ·refine absurd ?_ h
  refine ByteArray.ext (Array.toList_inj.1 ?_)
  exact List.eq_nil_of_length_eq_zero (by rw [← Lib.size_eq]; exact h0)
 omega
def nodP (n : Nod) : Bool :=
 if attrP n.mode n.uid n.gid = false then false
 else if n.kind = 1 then decide (n.parent = 0) && (decide (n.target = ⟨#[]⟩) && decide (n.entries = []))
 else if n.kind = 3 then decide (n.parent = 0) && (targetL n.target && decide (n.entries = []))
 else if n.kind = 2 then decide (n.target = ⟨#[]⟩) && entsP n.entries
 else false
def lastI (ns : List Nod) : Nat → Int
 | 0 => 0
 | i + 1 => match ns[i]? with
   | some n => n.ino
   | none => 0
theorem last_at {ns : List Nod} {i : Nat} {n : Nod} (h : ns[i]? = some n) : lastI ns (i + 1) = n.ino := by show (match ns[i]? with | some n => n.ino | none => 0) = _; rw [h]
def nodPAt (d : Dvc) (i : Nat) : Bool := match d.nodes[i]? with
 | none => true
 | some n => if n.ino ≤ lastI d.nodes i then false else if d.next ≤ n.ino then false else if nodP n = false then false else true
def headP (d : Dvc) : Bool :=
 if d.next < 2 then false else if 1073741824 < d.next then false else if d.nodes.length < 1 then false else if 16 < d.nodes.length then false else match d.nodes[0]? with
 | none => false
 | some r => if r.ino ≠ 1 then false else if r.kind ≠ 2 then false else true
def nodsP (d : Dvc) : Bool := headP d && (List.range d.nodes.length).all (nodPAt d)
theorem nods_no0 {d : Dvc} (h : headP d = false) : nodsP d = false := by unfold nodsP; rw [h]; rfl
theorem nods_no {d : Dvc} {j : Nat} (_h0 : headP d = true) (hj : j < d.nodes.length) (h : nodPAt d j = false) : nodsP d = false := by unfold nodsP; rw [range_no hj h, Bool.and_false]
theorem nods_yes {d : Dvc} (h0 : headP d = true) (h : ∀ i, i < d.nodes.length → nodPAt d i = true) : nodsP d = true := by unfold nodsP; rw [h0, range_yes h]; rfl
section
set_option maxRecDepth 10000
set_option maxHeartbeats 1000000
theorem Pattr (m u g : Int) : AFn Try.prog 73 [.v (.int .i64 m), .v (.int .i64 u), .v (.int .i64 g)] (fun r => r = .v (.bool (attrP m u g))) := by
 refine enter Try.func73 rfl rfl rfl rfl rfl 0 rfl ?_
 refine w_ (a_ (h:=e_ (w_ (m_ (h:=ge_ (h:=m_ (h:=?_)))))))
 refine al_gs true rfl rfl (fun hb1 => ?_) (fun hb1 => ?_)
 ·have hc1 := bp hb1
  refine m_ (h:=le_ (h:=pt_ (h:=m_ (h:=?_))))
  refine al_gs true rfl rfl (fun hb2 => ?_) (fun hb2 => ?_)
  ·have hc2 := bp hb2
   refine m_ (h:=ge_ (h:=pt_ (h:=m_ (h:=?_))))
   refine al_gs true rfl rfl (fun hb3 => ?_) (fun hb3 => ?_)
   ·have hc3 := bp hb3
    refine m_ (h:=le_ (h:=pt_ (h:=m_ (h:=?_))))
    refine al_gs true rfl rfl (fun hb4 => ?_) (fun hb4 => ?_)
    ·have hc4 := bp hb4
     refine m_ (h:=ge_ (h:=pt_ (h:=m_ (h:=?_))))
     refine al_gs true rfl rfl (fun hb5 => ?_) (fun hb5 => ?_)
     ·have hc5 := bp hb5
      refine m_ (h:=le_ (h:=pt_ (h:=a_ (h:=e_ (aw_ret (?_))))))
      refine e_ret ?_
      exact vb (by unfold attrP; rw [Bool.eq_iff_iff]; simp; try omega)
     have hc5 := bp hb5
     refine g0_ (h:=g0_ (h:=pf_ (h:=a_ (h:=e_ (aw_ret (?_))))))
     refine e_ret ?_
     exact vb (by unfold attrP; rw [Bool.eq_iff_iff]; simp; try omega)
    have hc4 := bp hb4
    refine g0_ (h:=g0_ (h:=pf_ (h:=m_ (h:=g0_ (h:=g0_ (h:=pf_ (h:=a_ (h:=e_ (aw_ret (?_))))))))))
    refine e_ret ?_
    exact vb (by unfold attrP; rw [Bool.eq_iff_iff]; simp; try omega)
   have hc3 := bp hb3
   refine g0_ (h:=g0_ (h:=pf_ (h:=m_ (h:=g0_ (h:=g0_ (h:=pf_ (h:=m_ (h:=g0_ (h:=g0_ (h:=pf_ (h:=a_ (h:=e_ (aw_ret (?_))))))))))))))
   refine e_ret ?_
   exact vb (by unfold attrP; rw [Bool.eq_iff_iff]; simp; try omega)
  have hc2 := bp hb2
  refine g0_ (h:=g0_ (h:=pf_ (h:=m_ (h:=g0_ (h:=g0_ (h:=pf_ (h:=m_ (h:=g0_ (h:=g0_ (h:=pf_ (h:=m_ (h:=g0_ (h:=g0_ (h:=pf_ (h:=a_ (h:=e_ (aw_ret (?_))))))))))))))))))
  refine e_ret ?_
  exact vb (by unfold attrP; rw [Bool.eq_iff_iff]; simp; try omega)
 have hc1 := bp hb1
 refine g0_ (h:=g0_ (h:=pf_ (h:=m_ (h:=g0_ (h:=g0_ (h:=pf_ (h:=m_ (h:=g0_ (h:=g0_ (h:=pf_ (h:=m_ (h:=g0_ (h:=g0_ (h:=pf_ (h:=m_ (h:=g0_ (h:=g0_ (h:=pf_ (h:=a_ (h:=e_ (aw_ret (?_))))))))))))))))))))))
 refine e_ret ?_
 exact vb (by unfold attrP; rw [Bool.eq_iff_iff]; simp; try omega)
theorem PvalE (es : List Ent) (hn : es.length ≤ 1000) : AFn Try.prog 111 [.sl 2 (es.map entA) none] (fun r => r = .v (.bool (entsP es))) := by
 have hel : (es.map entA).length = es.length := by simp
 refine enter Try.func111 rfl rfl rfl rfl rfl 0 rfl ?_
 refine w_ (a_ (h:=e_ (q_ (w_ (m_ (h:=n_ (h:=gt_ (h:=e_ (?_)))))))))
 refine aw_cond rfl (fun hb1 => ?_) (fun hb1 => ?_)
 ·have hc1 := bp hb1
  refine w_ (a_ (h:=e_ (aw_ret (x_thenR (?_)))))
  refine e_ret ?_
  exact vb (by unfold entsP; rw [if_pos (by omega)])
 have hc1 := bp hb1
 refine kt_ (q_ (w_ (m_ (h:=n_ (h:=m_ (h:=e_ (aw_block (?_))))))))
 refine aw_loopW (fun m t => ∃ j : Nat, j ≤ es.length ∧ m = es.length - j ∧ (∀ i, i < j → entPAt es i = true) ∧ t = ⟨look [(0, .sl 2 (es.map entA) none), (8, .sl 2 (es.map entA) none), (9, .v (.int .i64 ((es.map entA).length : Int))), (10, .v (.int .i64 (j : Int)))], ⟨[], []⟩⟩) (es.length) ((wk 0 0)) (⟨0, by omega, rfl, fun i hi => by omega, rfl⟩) ?_
 rintro m t ⟨j, hj, rfl, ha, rfl⟩
 refine w_ (lt_ (h:=e_ (q_ (?_))))
 refine aw_cond rfl (fun hb2 => ?_) (fun hb2 => ?_)
 ·have hc2 := bp hb2
  obtain ⟨hlt, x, hy, hrow, -⟩ := row_at entA hc2
  refine kt_ (q_ (aw_block (w_ (m_ (h:=?_)))))
  refine al_p rfl (st_index (n := j) rfl rfl rfl hrow ?_)
  refine l_ (h:=al_ (h:=a_ (h:=s_ (h:=e_ (q_ (yr_ 19 (h:=df_ 0 (h:=dl_ 1 (h:=?_)))))))))
  refine c_ 2 rfl (q_call (Pname x.1) ?_)
  rintro r rfl
  refine o_ (h:=dnt_ 3 (h:=dm_ 4 (h:=?_)))
  refine aa_both (j := 4) rfl (fun hb3 => ?_) (fun hb3 => ?_)
  ·have hc3 := bp hb3
   refine d0_ 5 (h:=d0_ 6 (h:=d0_ 7 (h:=d0_ 8 (h:=d0_ 9 (h:=d0_ 10 (h:=d0_ 11 (h:=d0_ 12 (h:=d0_ 13 (h:=d0_ 14 (h:=d0_ 15 (h:=d0_ 16 (h:=d0_ 17 (h:=dpt_ 18 (h:=z_ (h:=t_ (cy_ (h:=w_ (a_ (h:=e_ (aw_ret (x_blockR (x_thenR (x_thenR (?_))))))))))))))))))))))))
   refine x_blockR (x_thenR (?_))
   refine e_ret ?_
   exact vb (by unfold entsP; rw [if_neg (by omega)]; exact (range_no hlt (by unfold entPAt; simp only [hy]; simp_all [strLt])).symm)
  have hc3 := bp hb3
  refine dm_ 5 (h:=dgt_ 6 (h:=dm_ 7 (h:=?_)))
  refine aa_both (j := 7) rfl (fun hb4 => ?_) (fun hb4 => ?_)
  ·have hc4 := bp hb4
   obtain ⟨hlt1, y, hy1, hrow1, -⟩ := row_at (l := es) (k := j - 1) entA (by omega)
   have hpre := pre_at (x := x) hy1
   refine dm_ 8 (h:=dm_ 9 (h:=dsb_ 10 (h:=?_)))
   refine r_y (i := 11) rfl (st_index (n := j - 1) rfl rfl (by omega) hrow1 ⟨rfl, rfl⟩) ?_
   refine df_ 12 (h:=dl_ 13 (h:=df_ 14 (h:=dl_ 15 (h:=dge_ 16 (h:=dpt_ 17 (h:=dpf_ 18 (h:=z_ (h:=t_ (?_)))))))))
   refine aw_cond rfl (fun hb5 => ?_) (fun hb5 => ?_)
   ·have hc5 := bp hb5
    refine w_ (a_ (h:=e_ (aw_ret (x_blockR (x_thenR (x_thenR (x_blockR (x_thenR (?_)))))))))
    refine e_ret ?_
    exact vb (by unfold entsP; rw [if_neg (by omega)]; exact (range_no hlt (by unfold entPAt; simp only [hy]; simp_all [strLt])).symm)
   have hc5 := bp hb5
   refine aw_skip (x_blockN (t_ (aw_region (ad_ (h:=m_ (h:=al_nil (?_)))))))
   refine x_then ?_
   refine ⟨_, _, ?_, ⟨j + 1, by omega, rfl, upto_next ha (by unfold entPAt; simp only [hy]; simp_all [strLt]), rfl⟩, (wk 0 0)⟩
   omega
  have hc4 := bp hb4
  refine d0_ 8 (h:=d0_ 9 (h:=d0_ 10 (h:=d0_ 11 (h:=d0_ 12 (h:=d0_ 13 (h:=d0_ 14 (h:=d0_ 15 (h:=d0_ 16 (h:=dpf_ 17 (h:=dpf_ 18 (h:=z_ (h:=t_ (cn_ (h:=aw_skip (x_blockN (t_ (aw_region (ad_ (h:=m_ (h:=al_nil (?_)))))))))))))))))))))
  refine x_then ?_
  refine ⟨_, _, ?_, ⟨j + 1, by omega, rfl, upto_next ha (by unfold entPAt; simp only [hy]; simp_all [strLt]), rfl⟩, (wk 0 0)⟩
  omega
 have hc2 := bp hb2
 refine aw_exit (x_thenE (x_thenE (ABlock_out (t_ (w_ (a_ (h:=e_ (aw_ret (?_)))))))))
 refine e_ret ?_
 exact vb (by unfold entsP; rw [if_neg (by omega)]; exact (range_yes (fun i hi => ha i (by omega))).symm)
theorem Ptarget (s : Str) (hs : s.size ≤ 100000) : AFn Try.prog 90 [.v (.string s)] (fun r => r = .v (.bool (targetL s))) := by
 refine enter Try.func90 rfl rfl rfl rfl rfl 0 rfl ?_
 refine w_ (a_ (h:=e_ (w_ (m_ (h:=nq_ (h:=m_ (h:=?_)))))))
 refine al_gs true rfl rfl (fun hb1 => ?_) (fun hb1 => ?_)
 ·have hc1 := bp hb1
  refine m_ (h:=n_ (h:=le_ (h:=pt_ (h:=m_ (h:=?_)))))
  refine al_gs true rfl rfl (fun hb2 => ?_) (fun hb2 => ?_)
  ·have hc2 := bp hb2
   refine m_ (h:=?_)
   refine g_y (q_call (PidxB s) ?_)
   rintro r rfl
   refine lt_ (h:=pt_ (h:=a_ (h:=e_ (aw_ret (?_)))))
   refine e_ret ?_
   exact vb (by rw [idx_zero]; unfold targetL; have := str_pos hc1; rw [decide_eq_true (show 1 ≤ s.size by omega), decide_eq_true (show s.size ≤ 128 by omega), Bool.and_true, Bool.and_true])
  have hc2 := bp hb2
  refine g0_ (h:=g0_ (h:=g0_ (h:=pf_ (h:=a_ (h:=e_ (aw_ret (?_)))))))
  refine e_ret ?_
  exact vb (by unfold targetL; rw [decide_eq_false (show ¬ s.size ≤ 128 by omega), Bool.and_false])
 have hc1 := bp hb1
 refine g0_ (h:=g0_ (h:=g0_ (h:=pf_ (h:=m_ (h:=g0_ (h:=g0_ (h:=g0_ (h:=pf_ (h:=a_ (h:=e_ (aw_ret (?_))))))))))))
 refine e_ret ?_
 exact vb (by rw [hc1]; rfl)
theorem PvalNode (n : Nod) (hn : n.entries.length ≤ 1000) (ht : n.target.size ≤ 100000) : AFn Try.prog 98 [.agg (nodA n)] (fun r => r = .v (.bool (nodP n))) := by
 have hel : (n.entries.map entA).length = n.entries.length := by simp
 refine enter Try.func98 rfl rfl rfl rfl rfl 0 rfl ?_
 refine w_ (b_ (h:=a_ (h:=e_ (q_ (w_ (f_ (h:=l_ (h:=f_ (h:=l_ (h:=f_ (h:=l_ (h:=?_))))))))))))
 refine al_p rfl (q_call (Pattr n.mode n.uid n.gid) ?_)
 rintro r rfl
 refine nt_ (h:=e_ (?_))
 refine aw_cond rfl (fun hb1 => ?_) (fun hb1 => ?_)
 ·have hc1 := bp hb1
  refine w_ (a_ (h:=e_ (aw_ret (x_thenR (?_)))))
  refine e_ret ?_
  exact vb (by unfold nodP; simp_all)
 have hc1 := bp hb1
 refine kt_ (q_ (w_ (f_ (h:=l_ (h:=e_ (aw_block (w_ (eq_ (h:=a_ (h:=e_ (?_)))))))))))
 refine aw_cond rfl (fun hb2 => ?_) (fun hb2 => ?_)
 ·have hc2 := bp hb2
  refine w_ (f_ (h:=l_ (h:=eq_ (h:=m_ (h:=?_)))))
  refine al_gs true rfl rfl (fun hb3 => ?_) (fun hb3 => ?_)
  ·have hc3 := bp hb3
   refine f_ (h:=l_ (h:=eq_ (h:=pt_ (h:=m_ (h:=?_)))))
   refine al_gs true rfl rfl (fun hb4 => ?_) (fun hb4 => ?_)
   ·have hc4 := bp hb4
    refine f_ (h:=l_ (h:=n_ (h:=eq_ (h:=pt_ (h:=a_ (h:=e_ (aw_ret (x_blockR (x_thenR (?_))))))))))
    refine e_ret ?_
    exact vb (by unfold nodP; simp_all)
   have hc4 := bp hb4
   refine g0_ (h:=g0_ (h:=g0_ (h:=g0_ (h:=pf_ (h:=a_ (h:=e_ (aw_ret (x_blockR (x_thenR (?_))))))))))
   refine e_ret ?_
   exact vb (by unfold nodP; simp_all)
  have hc3 := bp hb3
  refine g0_ (h:=g0_ (h:=g0_ (h:=pf_ (h:=m_ (h:=g0_ (h:=g0_ (h:=g0_ (h:=g0_ (h:=pf_ (h:=a_ (h:=e_ (aw_ret (x_blockR (x_thenR (?_)))))))))))))))
  refine e_ret ?_
  exact vb (by unfold nodP; simp_all)
 have hc2 := bp hb2
 refine w_ (eq_ (h:=a_ (h:=e_ (?_))))
 refine aw_cond rfl (fun hb5 => ?_) (fun hb5 => ?_)
 ·have hc5 := bp hb5
  refine w_ (f_ (h:=l_ (h:=eq_ (h:=m_ (h:=?_)))))
  refine al_gs true rfl rfl (fun hb6 => ?_) (fun hb6 => ?_)
  ·have hc6 := bp hb6
   refine f_ (h:=l_ (h:=?_))
   refine g_y (q_call (Ptarget n.target ht) ?_)
   rintro r rfl
   refine pt_ (h:=m_ (h:=?_))
   refine al_gs true rfl rfl (fun hb7 => ?_) (fun hb7 => ?_)
   ·have hc7 := bp hb7
    refine f_ (h:=l_ (h:=n_ (h:=eq_ (h:=pt_ (h:=a_ (h:=e_ (aw_ret (x_blockR (x_thenR (?_))))))))))
    refine e_ret ?_
    exact vb (by unfold nodP; simp_all)
   have hc7 := bp hb7
   refine g0_ (h:=g0_ (h:=g0_ (h:=g0_ (h:=pf_ (h:=a_ (h:=e_ (aw_ret (x_blockR (x_thenR (?_))))))))))
   refine e_ret ?_
   exact vb (by unfold nodP; simp_all)
  have hc6 := bp hb6
  refine g0_ (h:=g0_ (h:=g0_ (h:=pf_ (h:=m_ (h:=g0_ (h:=g0_ (h:=g0_ (h:=g0_ (h:=pf_ (h:=a_ (h:=e_ (aw_ret (x_blockR (x_thenR (?_)))))))))))))))
  refine e_ret ?_
  exact vb (by unfold nodP; simp_all)
 have hc5 := bp hb5
 refine w_ (eq_ (h:=a_ (h:=e_ (?_))))
 refine aw_cond rfl (fun hb8 => ?_) (fun hb8 => ?_)
 ·have hc8 := bp hb8
  refine w_ (f_ (h:=l_ (h:=eq_ (h:=m_ (h:=?_)))))
  refine al_gs true rfl rfl (fun hb9 => ?_) (fun hb9 => ?_)
  ·have hc9 := bp hb9
   refine f_ (h:=l_ (h:=?_))
   refine g_y (q_call (PvalE n.entries hn) ?_)
   rintro r rfl
   refine pt_ (h:=a_ (h:=e_ (aw_ret (x_blockR (x_thenR (?_))))))
   refine e_ret ?_
   exact vb (by unfold nodP; simp_all)
  have hc9 := bp hb9
  refine g0_ (h:=g0_ (h:=g0_ (h:=pf_ (h:=a_ (h:=e_ (aw_ret (x_blockR (x_thenR (?_)))))))))
  refine e_ret ?_
  exact vb (by unfold nodP; simp_all)
 have hc8 := bp hb8
 refine aw_skip (x_blockN (t_ (w_ (a_ (h:=e_ (aw_ret (?_)))))))
 refine e_ret ?_
 exact vb (by unfold nodP; simp_all)
theorem PvalNodes (d : Dvc) (hd : d.nodes.length ≤ 1000) (he : ∀ n ∈ d.nodes, n.entries.length ≤ 1000) (ht : ∀ n ∈ d.nodes, n.target.size ≤ 100000) : AFn Try.prog 76 [.agg (dvcA d)] (fun r => r = .v (.bool (nodsP d))) := by
 have hel : (d.nodes.map nodA).length = d.nodes.length := by simp
 refine enter Try.func76 rfl rfl rfl rfl rfl 0 rfl ?_
 refine w_ (b_ (h:=a_ (h:=e_ (q_ (w_ (f_ (h:=l_ (h:=lt_ (h:=m_ (h:=?_))))))))))
 refine al_gs false rfl rfl (fun hb1 => ?_) (fun hb1 => ?_)
 ·have hc1 := bp hb1
  refine g0_ (h:=g0_ (h:=g0_ (h:=pt_ (h:=m_ (h:=g0_ (h:=g0_ (h:=g0_ (h:=g0_ (h:=pt_ (h:=m_ (h:=g0_ (h:=g0_ (h:=g0_ (h:=g0_ (h:=pt_ (h:=e_ (cy_ (h:=w_ (a_ (h:=e_ (aw_ret (x_thenR (?_)))))))))))))))))))))))
  refine e_ret ?_
  first | exact vb (nods_no hhd hlt (by unfold nodPAt; simp only [hy]; simp_all)).symm | exact vb (nods_yes hhd (fun i hi => ha i (by omega))).symm | exact vb (nods_no0 (by unfold headP; rw [if_pos (by omega)])).symm | exact vb (nods_no0 (by unfold headP; rw [if_neg (by omega), if_pos (by omega)])).symm | exact vb (nods_no0 (by unfold headP; rw [if_neg (by omega), if_neg (by omega), if_pos (by omega)])).symm | exact vb (nods_no0 (by unfold headP; rw [if_neg (by omega), if_neg (by omega), if_neg (by omega), if_pos (by omega)])).symm | exact vb (nods_no0 (by unfold headP; rw [if_neg (by omega), if_neg (by omega), if_neg (by omega), if_neg (by omega)]; simp only [hy0]; simp_all)).symm
 have hc1 := bp hb1
 refine f_ (h:=l_ (h:=gt_ (h:=pf_ (h:=m_ (h:=?_)))))
 refine al_gs false rfl rfl (fun hb2 => ?_) (fun hb2 => ?_)
 ·have hc2 := bp hb2
  refine g0_ (h:=g0_ (h:=g0_ (h:=g0_ (h:=pt_ (h:=m_ (h:=g0_ (h:=g0_ (h:=g0_ (h:=g0_ (h:=pt_ (h:=e_ (cy_ (h:=w_ (a_ (h:=e_ (aw_ret (x_thenR (?_))))))))))))))))))
  refine e_ret ?_
  first | exact vb (nods_no hhd hlt (by unfold nodPAt; simp only [hy]; simp_all)).symm | exact vb (nods_yes hhd (fun i hi => ha i (by omega))).symm | exact vb (nods_no0 (by unfold headP; rw [if_pos (by omega)])).symm | exact vb (nods_no0 (by unfold headP; rw [if_neg (by omega), if_pos (by omega)])).symm | exact vb (nods_no0 (by unfold headP; rw [if_neg (by omega), if_neg (by omega), if_pos (by omega)])).symm | exact vb (nods_no0 (by unfold headP; rw [if_neg (by omega), if_neg (by omega), if_neg (by omega), if_pos (by omega)])).symm | exact vb (nods_no0 (by unfold headP; rw [if_neg (by omega), if_neg (by omega), if_neg (by omega), if_neg (by omega)]; simp only [hy0]; simp_all)).symm
 have hc2 := bp hb2
 refine f_ (h:=l_ (h:=n_ (h:=lt_ (h:=pf_ (h:=m_ (h:=?_))))))
 refine al_gs false rfl rfl (fun hb3 => ?_) (fun hb3 => ?_)
 ·have hc3 := bp hb3
  refine g0_ (h:=g0_ (h:=g0_ (h:=g0_ (h:=pt_ (h:=e_ (cy_ (h:=w_ (a_ (h:=e_ (aw_ret (x_thenR (?_))))))))))))
  refine e_ret ?_
  first | exact vb (nods_no hhd hlt (by unfold nodPAt; simp only [hy]; simp_all)).symm | exact vb (nods_yes hhd (fun i hi => ha i (by omega))).symm | exact vb (nods_no0 (by unfold headP; rw [if_pos (by omega)])).symm | exact vb (nods_no0 (by unfold headP; rw [if_neg (by omega), if_pos (by omega)])).symm | exact vb (nods_no0 (by unfold headP; rw [if_neg (by omega), if_neg (by omega), if_pos (by omega)])).symm | exact vb (nods_no0 (by unfold headP; rw [if_neg (by omega), if_neg (by omega), if_neg (by omega), if_pos (by omega)])).symm | exact vb (nods_no0 (by unfold headP; rw [if_neg (by omega), if_neg (by omega), if_neg (by omega), if_neg (by omega)]; simp only [hy0]; simp_all)).symm
 have hc3 := bp hb3
 refine f_ (h:=l_ (h:=n_ (h:=gt_ (h:=pf_ (h:=e_ (?_))))))
 refine aw_cond rfl (fun hb4 => ?_) (fun hb4 => ?_)
 ·have hc4 := bp hb4
  refine w_ (a_ (h:=e_ (aw_ret (x_thenR (?_)))))
  refine e_ret ?_
  first | exact vb (nods_no hhd hlt (by unfold nodPAt; simp only [hy]; simp_all)).symm | exact vb (nods_yes hhd (fun i hi => ha i (by omega))).symm | exact vb (nods_no0 (by unfold headP; rw [if_pos (by omega)])).symm | exact vb (nods_no0 (by unfold headP; rw [if_neg (by omega), if_pos (by omega)])).symm | exact vb (nods_no0 (by unfold headP; rw [if_neg (by omega), if_neg (by omega), if_pos (by omega)])).symm | exact vb (nods_no0 (by unfold headP; rw [if_neg (by omega), if_neg (by omega), if_neg (by omega), if_pos (by omega)])).symm | exact vb (nods_no0 (by unfold headP; rw [if_neg (by omega), if_neg (by omega), if_neg (by omega), if_neg (by omega)]; simp only [hy0]; simp_all)).symm
 have hc4 := bp hb4
 obtain ⟨hlt0, r0, hy0, hrow0, -⟩ := row_at (l := d.nodes) (k := 0) nodA (by omega)
 refine kt_ (q_ (w_ (f_ (h:=l_ (h:=?_)))))
 refine al_p rfl (st_index (n := 0) rfl rfl rfl hrow0 ?_)
 refine f_ (h:=l_ (h:=nq_ (h:=m_ (h:=?_))))
 refine al_gs false rfl rfl (fun hb5 => ?_) (fun hb5 => ?_)
 ·have hc5 := bp hb5
  refine g0_ (h:=g0_ (h:=g0_ (h:=g0_ (h:=g0_ (h:=g0_ (h:=pt_ (h:=e_ (cy_ (h:=w_ (a_ (h:=e_ (aw_ret (x_thenR (?_))))))))))))))
  refine e_ret ?_
  first | exact vb (nods_no hhd hlt (by unfold nodPAt; simp only [hy]; simp_all)).symm | exact vb (nods_yes hhd (fun i hi => ha i (by omega))).symm | exact vb (nods_no0 (by unfold headP; rw [if_pos (by omega)])).symm | exact vb (nods_no0 (by unfold headP; rw [if_neg (by omega), if_pos (by omega)])).symm | exact vb (nods_no0 (by unfold headP; rw [if_neg (by omega), if_neg (by omega), if_pos (by omega)])).symm | exact vb (nods_no0 (by unfold headP; rw [if_neg (by omega), if_neg (by omega), if_neg (by omega), if_pos (by omega)])).symm | exact vb (nods_no0 (by unfold headP; rw [if_neg (by omega), if_neg (by omega), if_neg (by omega), if_neg (by omega)]; simp only [hy0]; simp_all)).symm
 have hc5 := bp hb5
 refine f_ (h:=l_ (h:=?_))
 refine g_y (st_index (n := 0) rfl rfl rfl hrow0 ?_)
 refine f_ (h:=l_ (h:=nq_ (h:=pf_ (h:=e_ (?_)))))
 refine aw_cond rfl (fun hb6 => ?_) (fun hb6 => ?_)
 ·have hc6 := bp hb6
  refine w_ (a_ (h:=e_ (aw_ret (x_thenR (?_)))))
  refine e_ret ?_
  first | exact vb (nods_no hhd hlt (by unfold nodPAt; simp only [hy]; simp_all)).symm | exact vb (nods_yes hhd (fun i hi => ha i (by omega))).symm | exact vb (nods_no0 (by unfold headP; rw [if_pos (by omega)])).symm | exact vb (nods_no0 (by unfold headP; rw [if_neg (by omega), if_pos (by omega)])).symm | exact vb (nods_no0 (by unfold headP; rw [if_neg (by omega), if_neg (by omega), if_pos (by omega)])).symm | exact vb (nods_no0 (by unfold headP; rw [if_neg (by omega), if_neg (by omega), if_neg (by omega), if_pos (by omega)])).symm | exact vb (nods_no0 (by unfold headP; rw [if_neg (by omega), if_neg (by omega), if_neg (by omega), if_neg (by omega)]; simp only [hy0]; simp_all)).symm
 have hc6 := bp hb6
 have hhd : headP d = true := by unfold headP; rw [if_neg (by omega), if_neg (by omega), if_neg (by omega), if_neg (by omega)]; simp only [hy0]; simp_all
 refine kt_ (w_ (a_ (h:=e_ (q_ (w_ (f_ (h:=l_ (h:=n_ (h:=m_ (h:=e_ (aw_block (?_))))))))))))
 refine aw_loopW (fun m t => ∃ j : Nat, j ≤ d.nodes.length ∧ m = d.nodes.length - j ∧ (∀ i, i < j → nodPAt d i = true) ∧ t = ⟨look [(1, .bp 0 0), (3, .v (.int .i64 (lastI d.nodes j))), (41, .sl 8 (d.nodes.map nodA) none), (42, .v (.int .i64 ((d.nodes.map nodA).length : Int))), (43, .v (.int .i64 (j : Int)))], ⟨[dvcA d], []⟩⟩) (d.nodes.length) ((wk 1 0)) (⟨0, by omega, rfl, fun i hi => by omega, rfl⟩) ?_
 rintro m t ⟨j, hj, rfl, ha, rfl⟩
 refine w_ (lt_ (h:=e_ (q_ (?_))))
 refine aw_cond rfl (fun hb7 => ?_) (fun hb7 => ?_)
 ·have hc7 := bp hb7
  obtain ⟨hlt, n, hy, hrow, -⟩ := row_at nodA hc7
  refine kt_ (q_ (aw_block (w_ (?_))))
  refine al_p rfl (st_index (n := j) rfl rfl rfl hrow ?_)
  refine l_ (h:=al_ (h:=s_ (h:=e_ (q_ (w_ (f_ (h:=l_ (h:=m_ (h:=le_ (h:=m_ (h:=?_)))))))))))
  refine al_gs false rfl rfl (fun hb8 => ?_) (fun hb8 => ?_)
  ·have hc8 := bp hb8
   refine g0_ (h:=g0_ (h:=g0_ (h:=g0_ (h:=g0_ (h:=pt_ (h:=m_ (h:=g0_ (h:=g0_ (h:=g0_ (h:=pt_ (h:=e_ (cy_ (h:=w_ (a_ (h:=e_ (aw_ret (x_thenR (x_blockR (x_thenR (x_thenR (x_blockR (x_thenR (?_)))))))))))))))))))))))
   refine e_ret ?_
   first | exact vb (nods_no hhd hlt (by unfold nodPAt; simp only [hy]; simp_all)).symm | exact vb (nods_yes hhd (fun i hi => ha i (by omega))).symm | exact vb (nods_no0 (by unfold headP; rw [if_pos (by omega)])).symm | exact vb (nods_no0 (by unfold headP; rw [if_neg (by omega), if_pos (by omega)])).symm | exact vb (nods_no0 (by unfold headP; rw [if_neg (by omega), if_neg (by omega), if_pos (by omega)])).symm | exact vb (nods_no0 (by unfold headP; rw [if_neg (by omega), if_neg (by omega), if_neg (by omega), if_pos (by omega)])).symm | exact vb (nods_no0 (by unfold headP; rw [if_neg (by omega), if_neg (by omega), if_neg (by omega), if_neg (by omega)]; simp only [hy0]; simp_all)).symm
  have hc8 := bp hb8
  refine f_ (h:=l_ (h:=f_ (h:=l_ (h:=ge_ (h:=pf_ (h:=m_ (h:=?_)))))))
  refine al_gs false rfl rfl (fun hb9 => ?_) (fun hb9 => ?_)
  ·have hc9 := bp hb9
   refine g0_ (h:=g0_ (h:=g0_ (h:=pt_ (h:=e_ (cy_ (h:=w_ (a_ (h:=e_ (aw_ret (x_thenR (x_blockR (x_thenR (x_thenR (x_blockR (x_thenR (?_))))))))))))))))
   refine e_ret ?_
   first | exact vb (nods_no hhd hlt (by unfold nodPAt; simp only [hy]; simp_all)).symm | exact vb (nods_yes hhd (fun i hi => ha i (by omega))).symm | exact vb (nods_no0 (by unfold headP; rw [if_pos (by omega)])).symm | exact vb (nods_no0 (by unfold headP; rw [if_neg (by omega), if_pos (by omega)])).symm | exact vb (nods_no0 (by unfold headP; rw [if_neg (by omega), if_neg (by omega), if_pos (by omega)])).symm | exact vb (nods_no0 (by unfold headP; rw [if_neg (by omega), if_neg (by omega), if_neg (by omega), if_pos (by omega)])).symm | exact vb (nods_no0 (by unfold headP; rw [if_neg (by omega), if_neg (by omega), if_neg (by omega), if_neg (by omega)]; simp only [hy0]; simp_all)).symm
  have hc9 := bp hb9
  refine l_ (h:=?_)
  refine g_y (q_call (PvalNode n (he n (List.mem_of_getElem? hy)) (ht n (List.mem_of_getElem? hy))) ?_)
  rintro r rfl
  refine nt_ (h:=pf_ (h:=e_ (?_)))
  refine aw_cond rfl (fun hb10 => ?_) (fun hb10 => ?_)
  ·have hc10 := bp hb10
   refine w_ (a_ (h:=e_ (aw_ret (x_thenR (x_blockR (x_thenR (x_thenR (x_blockR (x_thenR (?_))))))))))
   refine e_ret ?_
   first | exact vb (nods_no hhd hlt (by unfold nodPAt; simp only [hy]; simp_all)).symm | exact vb (nods_yes hhd (fun i hi => ha i (by omega))).symm | exact vb (nods_no0 (by unfold headP; rw [if_pos (by omega)])).symm | exact vb (nods_no0 (by unfold headP; rw [if_neg (by omega), if_pos (by omega)])).symm | exact vb (nods_no0 (by unfold headP; rw [if_neg (by omega), if_neg (by omega), if_pos (by omega)])).symm | exact vb (nods_no0 (by unfold headP; rw [if_neg (by omega), if_neg (by omega), if_neg (by omega), if_pos (by omega)])).symm | exact vb (nods_no0 (by unfold headP; rw [if_neg (by omega), if_neg (by omega), if_neg (by omega), if_neg (by omega)]; simp only [hy0]; simp_all)).symm
  have hc10 := bp hb10
  refine kt_ (aw_region (f_ (h:=l_ (h:=a_ (h:=al_nil (x_blockN (t_ (aw_region (ad_ (h:=m_ (h:=al_nil (?_))))))))))))
  refine x_then ?_
  refine ⟨_, _, ?_, ⟨j + 1, by omega, rfl, upto_next ha (by unfold nodPAt; simp only [hy]; simp_all), rfl⟩, (by rw [last_at hy]; exact (wk 1 0))⟩
  omega
 have hc7 := bp hb7
 refine aw_exit (x_thenE (x_thenE (ABlock_out (t_ (w_ (a_ (h:=e_ (aw_ret (?_)))))))))
 refine e_ret ?_
 first | exact vb (nods_no hhd hlt (by unfold nodPAt; simp only [hy]; simp_all)).symm | exact vb (nods_yes hhd (fun i hi => ha i (by omega))).symm | exact vb (nods_no0 (by unfold headP; rw [if_pos (by omega)])).symm | exact vb (nods_no0 (by unfold headP; rw [if_neg (by omega), if_pos (by omega)])).symm | exact vb (nods_no0 (by unfold headP; rw [if_neg (by omega), if_neg (by omega), if_pos (by omega)])).symm | exact vb (nods_no0 (by unfold headP; rw [if_neg (by omega), if_neg (by omega), if_neg (by omega), if_pos (by omega)])).symm | exact vb (nods_no0 (by unfold headP; rw [if_neg (by omega), if_neg (by omega), if_neg (by omega), if_neg (by omega)]; simp only [hy0]; simp_all)).symm
end
def belowP (f : Fls) (top : Fil) : Nat → Fil → Bool
 | 0, _ => false
 | k + 1, a => if a = top then true else match nodeL f a with
   | none => false
   | some n => if n.ino = 1 then false else belowP f top k (a.1, n.parent)
theorem below_succ (f : Fls) (top : Fil) (k : Nat) (a : Fil) : belowP f top (k + 1) a = if a = top then true else match nodeL f a with
    | none => false
    | some n => if n.ino = 1 then false else belowP f top k (a.1, n.parent) := rfl
def lnkAt (f : Fls) (dev : Int) (n : Nod) (i : Nat) : Bool := match n.entries[i]? with
 | none => true
 | some x => match nodeL f (dev, x.2) with
   | none => false
   | some m => if m.ino = 1 then false else if m.kind = 2 ∧ m.parent ≠ n.ino then false else true
def lnksAt (f : Fls) (dev : Int) (d : Dvc) (i : Nat) : Bool := match d.nodes[i]? with
 | none => true
 | some n => (List.range n.entries.length).all (lnkAt f dev n)
def upAt (f : Fls) (dev : Int) (d : Dvc) (i : Nat) : Bool := match d.nodes[i]? with
 | none => true
 | some n => if n.ino = 1 then decide (n.parent = 1) else if (linksF f (dev, n.ino) : Int) < 1 then false else if n.kind = 2 ∧ (1 < (linksF f (dev, n.ino) : Int) ∨ belowP f (dev, 1) d.nodes.length (dev, n.ino) = false) then false else true
def lnkP (f : Fls) (dev : Int) (d : Dvc) : Bool := (List.range d.nodes.length).all (lnksAt f dev d) && (List.range d.nodes.length).all (upAt f dev d)
theorem lnk_no1 {f : Fls} {dev : Int} {d : Dvc} {n : Nod} {j i : Nat} (hj : j < d.nodes.length) (hn : d.nodes[j]? = some n) (hi : i < n.entries.length) (h : lnkAt f dev n i = false) : lnkP f dev d = false := by
 unfold lnkP
 rw [range_no hj (by unfold lnksAt; simp only [hn]; exact range_no hi h), Bool.false_and]
theorem lnk_no2 {f : Fls} {dev : Int} {d : Dvc} {j : Nat} (hj : j < d.nodes.length) (h : upAt f dev d j = false) : lnkP f dev d = false := by
 unfold lnkP
 rw [range_no hj h, Bool.and_false]
theorem lnk_yes {f : Fls} {dev : Int} {d : Dvc} (h1 : ∀ i, i < d.nodes.length → lnksAt f dev d i = true) (h2 : ∀ i, i < d.nodes.length → upAt f dev d i = true) : lnkP f dev d = true := by
 unfold lnkP
 rw [range_yes h1, range_yes h2]
 rfl
def vldPAt (f : Fls) (i : Nat) : Bool := match f[i]? with
 | none => true
 | some d => nodsP d && lnkP f i d
def vldP (f : Fls) : Bool := if f.length < 1 then false else if 3 < f.length then false else (List.range f.length).all (vldPAt f)
section
set_option maxRecDepth 20000
set_option maxHeartbeats 4000000
theorem Plinks (f : Fls) (a : Fil) (hf : FlsB f) : AFn Try.prog 37 [.agg (flsA f), .agg (filA a)] (fun r => r = .v (.int .i64 (linksF f a : Int))) := by
 refine enter Try.func37 rfl rfl rfl rfl rfl 0 rfl ?_
 refine w_ (b_ (h:=b_ (h:=a_ (h:=e_ (q_ (w_ (l_ (h:=l_ (h:=?_)))))))))
 refine al_p rfl (q_call (Pfind f a hf) ?_)
 rintro r (⟨e, rfl⟩ | ⟨n, e, rfl⟩)
 ·skip
  refine al_p rfl (st_eqPnil (by kernel_rfl) rfl rfl ?_)
  refine e_ (?_)
  refine aw_cond rfl (fun hb1 => ?_) (fun hb1 => ?_)
  ·have hc1 := bp hb1
   refine w_ (a_ (h:=e_ (aw_ret (x_thenR (?_)))))
   refine e_ret ?_
   exact vi (by simp [linksF, e])
  have hc1 := bp hb1
  exfalso; first | contradiction | omega
 skip
 first | refine al_p rfl (st_eqPnil (by kernel_rfl) rfl rfl ?_) | refine al_p rfl (st_eqPfp (by kernel_rfl) rfl rfl ?_)
 refine e_ (?_)
 refine aw_cond rfl (fun hb2 => ?_) (fun hb2 => ?_)
 ·have hc2 := bp hb2
  exfalso; first | contradiction | omega
 have hc2 := bp hb2
 obtain ⟨k, i0, d, n1, g1, g2, g3, g4, g5, g6⟩ := (index_node f a).resolve_left (fun h => by rw [h.2] at e; cases e)
 have hr1 : (f.map dvcA)[k]? = some (dvcA d) := by rw [List.getElem?_map, g2]; rfl
 have hdn := hf.nodes d (List.mem_of_getElem? g2)
 refine kt_ (w_ (a_ (h:=e_ (q_ (w_ (f_ (h:=l_ (h:=f_ (h:=l_ (h:=?_))))))))))
 refine al_p rfl (st_index (n := k) rfl rfl g1 hr1 ?_)
 refine f_ (h:=l_ (h:=n_ (h:=m_ (h:=e_ (aw_block (?_))))))
 refine aw_loopW (fun m s => ∃ j c : Nat, j ≤ d.nodes.length ∧ m = d.nodes.length - j ∧ c = cntN a.2 (d.nodes.take j) ∧ c ≤ 1000 * j ∧ s = ⟨look [(3, .bp 1 0), (5, .v (.int .i64 (c : Int))), (20, .sl 8 (d.nodes.map nodA) none), (21, .v (.int .i64 ((d.nodes.map nodA).length : Int))), (22, .v (.int .i64 (j : Int)))], ⟨[flsA f, filA a], []⟩⟩) (d.nodes.length) ((wk 2 0)) (⟨0, 0, by omega, rfl, rfl, by omega, rfl⟩) ?_
 rintro m s ⟨j, c, hj, rfl, hcn, hcb, rfl⟩
 refine w_ (lt_ (h:=e_ (q_ (?_))))
 refine aw_cond rfl (fun hb3 => ?_) (fun hb3 => ?_)
 ·have hc3 := bp hb3
  obtain ⟨hlt, x, hx, hrow, -⟩ := row_at nodA hc3
  have hen := hf.ents d (List.mem_of_getElem? g2) x (List.mem_of_getElem? hx)
  refine kt_ (q_ (aw_block (w_ (?_))))
  refine al_p rfl (st_index (n := j) rfl rfl rfl hrow ?_)
  refine l_ (h:=al_ (h:=s_ (h:=e_ (w_ (f_ (h:=l_ (h:=n_ (h:=m_ (h:=e_ (aw_block (?_)))))))))))
  refine aw_loopW (fun m s => ∃ i c2 : Nat, i ≤ x.entries.length ∧ m = x.entries.length - i ∧ c2 = c + cntE a.2 (x.entries.take i) ∧ c2 ≤ c + i ∧ s = ⟨look [(3, .bp 1 0), (5, .v (.int .i64 (c2 : Int))), (20, .sl 8 (d.nodes.map nodA) none), (21, .v (.int .i64 ((d.nodes.map nodA).length : Int))), (22, .v (.int .i64 (j : Int))), (27, .sl 2 (x.entries.map entA) none), (28, .v (.int .i64 ((x.entries.map entA).length : Int))), (29, .v (.int .i64 (i : Int)))], ⟨[flsA f, filA a], []⟩⟩) (x.entries.length) ((wk 2 0)) (⟨0, c, by omega, rfl, rfl, by omega, rfl⟩) ?_
  rintro m s ⟨i, c2, hi, rfl, hc2n, hc2b, rfl⟩
  refine w_ (lt_ (h:=e_ (q_ (?_))))
  refine aw_cond rfl (fun hb4 => ?_) (fun hb4 => ?_)
  ·have hc4 := bp hb4
   obtain ⟨hlt3, y, hy, hrow3, -⟩ := row_at entA hc4
   refine kt_ (q_ (aw_block (w_ (?_))))
   refine al_p rfl (st_index (n := i) rfl rfl rfl hrow3 ?_)
   refine l_ (h:=al_ (h:=s_ (h:=e_ (w_ (f_ (h:=l_ (h:=f_ (h:=l_ (h:=eq_ (h:=e_ (?_)))))))))))
   refine aw_cond rfl (fun hb5 => ?_) (fun hb5 => ?_)
   ·have hc5 := bp hb5
    refine aw_region (m_ (h:=ad_ (h:=a_ (h:=al_nil (x_blockN (t_ (aw_region (ad_ (h:=m_ (h:=al_nil (?_)))))))))))
    refine x_then ?_
    (refine ⟨_, _, ?_, ⟨i + 1, c2 + 1, by omega, rfl, ?_, by omega, rfl⟩, (wk 2 0)⟩ <;> first | omega | (rw [cntE_snoc hy]; simp [hc5]; omega))
   have hc5 := bp hb5
   refine aw_skip (x_blockN (t_ (aw_region (ad_ (h:=m_ (h:=al_nil (?_)))))))
   refine x_then ?_
   first | (refine ⟨_, _, ?_, ⟨i + 1, c2 + 1, by omega, rfl, ?_, by omega, rfl⟩, (wk 2 0)⟩ <;> first | omega | (rw [cntE_snoc hy]; simp [hc5]; omega)) | (refine ⟨_, _, ?_, ⟨i + 1, c2, by omega, rfl, ?_, by omega, rfl⟩, (wk 2 0)⟩ <;> first | omega | (rw [cntE_snoc hy]; simp [hc5]; omega))
  have hc4 := bp hb4
  have e3 := row_no entA hi hc4
  subst e3
  refine aw_exit (x_thenE (x_thenE (ABlock_out (x_blockN (t_ (aw_region (ad_ (h:=m_ (h:=al_nil (?_))))))))))
  refine x_then ?_
  refine ⟨_, _, ?_, ⟨j + 1, c2, by omega, rfl, ?_, ?_, rfl⟩, (wk 2 0)⟩
  ·omega
  ·rw [hc2n, cntN_snoc hx, List.take_length]; omega
  have := cntE_le a.2 (x.entries.take x.entries.length); simp at this; omega
 have hc3 := bp hb3
 have e2 := row_no nodA hj hc3
 subst e2
 refine aw_exit (x_thenE (x_thenE (ABlock_out (t_ (w_ (m_ (h:=a_ (h:=e_ (aw_ret (?_))))))))))
 refine e_ret ?_
 exact vi (by rw [linksF_at g1 g2 g6, hcn, List.take_length])
theorem Pbelow (f : Fls) (top a : Fil) (q : Nat) (d : Dvc) (hf : FlsB f) (ht : top.1 = (q : Int)) (hq : f[q]? = some d) : AFn Try.prog 99 [.agg (flsA f), .agg (filA top), .agg (filA a)] (fun r => r = .v (.bool (belowP f top d.nodes.length a))) := by
 have hrq : (f.map dvcA)[q]? = some (dvcA d) := by rw [List.getElem?_map, hq]; rfl
 have hdn := hf.nodes d (List.mem_of_getElem? hq)
 have hel : (d.nodes.map nodA).length = d.nodes.length := by simp
 refine enter Try.func99 rfl rfl rfl rfl rfl 0 rfl ?_
 refine w_ (b_ (h:=b_ (h:=b_ (h:=a_ (h:=e_ (q_ (w_ (f_ (h:=l_ (h:=f_ (h:=l_ (h:=?_))))))))))))
 refine al_p rfl (st_index (n := q) rfl rfl ht hrq ?_)
 refine f_ (h:=l_ (h:=n_ (h:=m_ (h:=e_ (aw_block (?_))))))
 refine aw_loopW (fun m t => ∃ (j : Nat) (b : Fil), j ≤ d.nodes.length ∧ m = d.nodes.length - j ∧ belowP f top (d.nodes.length - j) b = belowP f top d.nodes.length a ∧ t = ⟨look [(3, .bp 0 0), (4, .bp 1 0), (5, .bp 2 0), (15, .v (.int .i64 ((d.nodes.map nodA).length : Int))), (16, .v (.int .i64 (j : Int)))], ⟨[flsA f, filA top, filA b], []⟩⟩) (d.nodes.length) ((wk 3 0)) (⟨0, a, by omega, rfl, rfl, rfl⟩) ?_
 rintro m t ⟨j, b, hj, rfl, hb, rfl⟩
 refine w_ (lt_ (h:=e_ (q_ (?_))))
 refine aw_cond rfl (fun hb1 => ?_) (fun hb1 => ?_)
 ·have hc1 := bp hb1
  obtain ⟨k, hk⟩ : ∃ k, d.nodes.length - j = k + 1 := ⟨d.nodes.length - j - 1, by omega⟩
  rw [hk, below_succ] at hb
  refine kt_ (q_ (aw_block (q_ (w_ (l_ (h:=l_ (h:=?_)))))))
  refine al_p rfl (st_binA rfl rfl (by repeat constructor) (by repeat constructor) (fun w => eqlFil _ _ _ _ w) (by kernel_rfl) ?_)
  refine e_ (?_)
  refine aw_cond rfl (fun hb2 => ?_) (fun hb2 => ?_)
  ·have hc2 := bp hb2
   refine w_ (a_ (h:=e_ (aw_ret (x_thenR (x_blockR (x_thenR (x_thenR (x_blockR (x_thenR (?_))))))))))
   refine e_ret ?_
   rw [if_pos (show b = top from hc2)] at hb
   exact vb hb
  have hc2 := bp hb2
  rw [if_neg (show ¬ b = top from hc2)] at hb
  refine kt_ (w_ (l_ (h:=l_ (h:=?_))))
  refine al_p rfl (q_call (Pfind f b hf) ?_)
  rintro r (⟨e, rfl⟩ | ⟨n, e, rfl⟩)
  ·skip
   refine a_ (h:=e_ (q_ (w_ (m_ (h:=?_)))))
   refine al_p rfl (st_eqPnil (by kernel_rfl) rfl rfl ?_)
   refine m_ (h:=?_)
   refine al_gs false rfl rfl (fun hb3 => ?_) (fun hb3 => ?_)
   ·have hc3 := bp hb3
    refine g0_ (h:=g0_ (h:=g0_ (h:=g0_ (h:=g0_ (h:=pt_ (h:=e_ (cy_ (h:=w_ (a_ (h:=e_ (aw_ret (x_thenR (x_blockR (x_thenR (x_thenR (x_blockR (x_thenR (?_))))))))))))))))))
    refine e_ret ?_
    rw [e] at hb
    exact vb hb
   have hc3 := bp hb3
   exfalso; first | contradiction | omega
  skip
  refine a_ (h:=e_ (q_ (w_ (m_ (h:=?_)))))
  first | refine al_p rfl (st_eqPnil (by kernel_rfl) rfl rfl ?_) | refine al_p rfl (st_eqPfp (by kernel_rfl) rfl rfl ?_)
  refine m_ (h:=?_)
  refine al_gs false rfl rfl (fun hb4 => ?_) (fun hb4 => ?_)
  ·have hc4 := bp hb4
   exfalso; first | contradiction | omega
  have hc4 := bp hb4
  refine m_ (h:=k_ (h:=f_ (h:=l_ (h:=eq_ (h:=pf_ (h:=e_ (?_)))))))
  refine aw_cond rfl (fun hb5 => ?_) (fun hb5 => ?_)
  ·have hc5 := bp hb5
   refine w_ (a_ (h:=e_ (aw_ret (x_thenR (x_blockR (x_thenR (x_thenR (x_blockR (x_thenR (?_))))))))))
   refine e_ret ?_
   rw [e] at hb
   simp only [hc5, if_true] at hb
   exact vb hb
  have hc5 := bp hb5
  rw [e] at hb
  simp only [hc5, if_false] at hb
  refine kt_ (aw_region (m_ (h:=k_ (h:=f_ (h:=l_ (h:=f_ (h:=s_ (h:=al_nil (x_blockN (t_ (aw_region (ad_ (h:=m_ (h:=al_nil (?_)))))))))))))))
  refine x_then ?_
  refine ⟨_, _, ?_, ⟨j + 1, (b.1, n.parent), by omega, rfl, (by rw [← hb, show d.nodes.length - (j + 1) = k by omega]), rfl⟩, (wk 3 0)⟩
  omega
 have hc1 := bp hb1
 refine aw_exit (x_thenE (x_thenE (ABlock_out (t_ (w_ (a_ (h:=e_ (aw_ret (?_)))))))))
 refine e_ret ?_
 rw [show d.nodes.length - j = 0 by omega] at hb
 exact vb hb
end
section
set_option maxRecDepth 20000
set_option maxHeartbeats 4000000
theorem Plinked (f : Fls) (q : Nat) (d : Dvc) (hf : FlsT f) (hq : f[q]? = some d) : AFn Try.prog 77 [.agg (flsA f), .v (.int .i64 (q : Int))] (fun r => r = .v (.bool (lnkP f (q : Int) d))) := by
 have hdm := List.mem_of_getElem? hq
 have hrq : (f.map dvcA)[q]? = some (dvcA d) := by rw [List.getElem?_map, hq]; rfl
 have hdn := hf.b.nodes d hdm
 have hel : (d.nodes.map nodA).length = d.nodes.length := by simp
 have hent : ∀ (i : Nat) (n : Nod), d.nodes[i]? = some n → n.entries.length ≤ 1000 := fun i n hn => hf.b.ents d hdm n (List.mem_of_getElem? hn)
 refine enter Try.func77 rfl rfl rfl rfl rfl 0 rfl ?_
 refine w_ (b_ (h:=a_ (h:=e_ (q_ (w_ (f_ (h:=l_ (h:=m_ (h:=?_)))))))))
 refine al_p rfl (st_index (n := q) rfl rfl rfl hrq ?_)
 refine f_ (h:=l_ (h:=n_ (h:=m_ (h:=e_ (aw_block (?_))))))
 refine aw_loopW (fun m t => ∃ j : Nat, j ≤ d.nodes.length ∧ m = d.nodes.length - j ∧ (∀ i, i < j → lnksAt f (q : Int) d i = true) ∧ t = ⟨look [(1, .v (.int .i64 (q : Int))), (2, .bp 0 0), (20, .sl 8 (d.nodes.map nodA) none), (21, .v (.int .i64 ((d.nodes.map nodA).length : Int))), (22, .v (.int .i64 (j : Int)))], ⟨[flsA f], []⟩⟩) (d.nodes.length) ((wk 1 0)) (⟨0, by omega, rfl, fun i hi => by omega, rfl⟩) ?_
 rintro m t ⟨j, hj, rfl, ha, rfl⟩
 refine w_ (lt_ (h:=e_ (q_ (?_))))
 refine aw_cond rfl (fun hb1 => ?_) (fun hb1 => ?_)
 ·have hc1 := bp hb1
  obtain ⟨hlt, n, hy, hrow, -⟩ := row_at nodA hc1
  have hne := hent j n hy
  have hnl : (n.entries.map entA).length = n.entries.length := by simp
  refine kt_ (q_ (aw_block (w_ (?_))))
  refine al_p rfl (st_index (n := j) rfl rfl rfl hrow ?_)
  refine l_ (h:=al_ (h:=s_ (h:=e_ (w_ (f_ (h:=l_ (h:=n_ (h:=m_ (h:=e_ (aw_block (?_)))))))))))
  refine aw_loopW (fun m t => ∃ i : Nat, i ≤ n.entries.length ∧ m = n.entries.length - i ∧ (∀ k, k < i → lnkAt f (q : Int) n k = true) ∧ t = ⟨look [(1, .v (.int .i64 (q : Int))), (2, .bp 0 0), (6, .bp 1 0), (20, .sl 8 (d.nodes.map nodA) none), (21, .v (.int .i64 ((d.nodes.map nodA).length : Int))), (22, .v (.int .i64 (j : Int))), (27, .sl 2 (n.entries.map entA) none), (28, .v (.int .i64 ((n.entries.map entA).length : Int))), (29, .v (.int .i64 (i : Int)))], ⟨[flsA f, nodA n], []⟩⟩) (n.entries.length) ((wk 2 0)) (⟨0, by omega, rfl, fun i hi => by omega, rfl⟩) ?_
  rintro m t ⟨i, hi, rfl, hb, rfl⟩
  refine w_ (lt_ (h:=e_ (q_ (?_))))
  refine aw_cond rfl (fun hb2 => ?_) (fun hb2 => ?_)
  ·have hc2 := bp hb2
   obtain ⟨hlt2, x, hy2, hrow2, -⟩ := row_at entA hc2
   refine kt_ (q_ (aw_block (w_ (?_))))
   refine al_p rfl (st_index (n := i) rfl rfl rfl hrow2 ?_)
   refine l_ (h:=al_ (h:=s_ (h:=e_ (w_ (l_ (h:=m_ (h:=f_ (h:=l_ (h:=bd_ (h:=?_))))))))))
   refine al_p rfl (q_call (Pfind f ((q : Int), x.2) hf.b) ?_)
   rintro r (⟨e, rfl⟩ | ⟨m, e, rfl⟩)
   ·skip
    refine a_ (h:=e_ (q_ (yr_ 25 (h:=dm_ 0 (h:=?_)))))
    first | refine r_y (i := 1) rfl (st_eqPnil (by kernel_rfl) rfl rfl ⟨rfl, rfl⟩) ?_ | refine r_y (i := 1) rfl (st_eqPfp (by kernel_rfl) rfl rfl ⟨rfl, rfl⟩) ?_
    refine dm_ 2 (h:=?_)
    refine aa_both (j := 2) rfl (fun hb3 => ?_) (fun hb3 => ?_)
    ·have hc3 := bp hb3
     refine d0_ 3 (h:=d0_ 4 (h:=d0_ 5 (h:=d0_ 6 (h:=d0_ 7 (h:=dpt_ 8 (h:=dm_ 9 (h:=d0_ 10 (h:=d0_ 11 (h:=d0_ 12 (h:=d0_ 13 (h:=d0_ 14 (h:=d0_ 15 (h:=d0_ 16 (h:=d0_ 17 (h:=d0_ 18 (h:=d0_ 19 (h:=d0_ 20 (h:=d0_ 21 (h:=d0_ 22 (h:=d0_ 23 (h:=dpt_ 24 (h:=z_ (h:=t_ (?_))))))))))))))))))))))))
     refine cy_ (h:=w_ (a_ (h:=e_ (aw_ret (x_blockR (x_thenR (x_thenR (x_blockR (x_blockR (x_thenR (x_thenR (x_blockR (x_thenR (?_))))))))))))))
     refine e_ret ?_
     first | exact vb (lnk_no1 hlt hy hlt2 (by unfold lnkAt; simp only [hy2, e]; try simp_all)).symm | exact vb (lnk_no2 hlt (by unfold upAt; simp only [hy]; simp_all)).symm | exact vb (lnk_yes hall (fun i hi => hu i (by omega))).symm
    have hc3 := bp hb3
    exfalso; first | contradiction | omega
   skip
   refine a_ (h:=e_ (q_ (yr_ 25 (h:=dm_ 0 (h:=?_)))))
   first | refine r_y (i := 1) rfl (st_eqPnil (by kernel_rfl) rfl rfl ⟨rfl, rfl⟩) ?_ | refine r_y (i := 1) rfl (st_eqPfp (by kernel_rfl) rfl rfl ⟨rfl, rfl⟩) ?_
   refine dm_ 2 (h:=?_)
   refine aa_both (j := 2) rfl (fun hb4 => ?_) (fun hb4 => ?_)
   ·have hc4 := bp hb4
    exfalso; first | contradiction | omega
   have hc4 := bp hb4
   refine dm_ 3 (h:=dk_ 4 (h:=df_ 5 (h:=dl_ 6 (h:=deq_ 7 (h:=dpf_ 8 (h:=dm_ 9 (h:=?_)))))))
   refine aa_both (j := 9) rfl (fun hb5 => ?_) (fun hb5 => ?_)
   ·have hc5 := bp hb5
    refine d0_ 10 (h:=d0_ 11 (h:=d0_ 12 (h:=d0_ 13 (h:=d0_ 14 (h:=d0_ 15 (h:=d0_ 16 (h:=d0_ 17 (h:=d0_ 18 (h:=d0_ 19 (h:=d0_ 20 (h:=d0_ 21 (h:=d0_ 22 (h:=d0_ 23 (h:=dpt_ 24 (h:=z_ (h:=t_ (cy_ (h:=w_ (a_ (h:=e_ (aw_ret (x_blockR (x_thenR (?_))))))))))))))))))))))))
    refine x_thenR (x_blockR (x_blockR (x_thenR (x_thenR (x_blockR (x_thenR (?_)))))))
    refine e_ret ?_
    first | exact vb (lnk_no1 hlt hy hlt2 (by unfold lnkAt; simp only [hy2, e]; try simp_all)).symm | exact vb (lnk_no2 hlt (by unfold upAt; simp only [hy]; simp_all)).symm | exact vb (lnk_yes hall (fun i hi => hu i (by omega))).symm
   have hc5 := bp hb5
   refine dm_ 10 (h:=dk_ 11 (h:=df_ 12 (h:=dl_ 13 (h:=deq_ 14 (h:=dm_ 15 (h:=?_))))))
   refine aa_both (j := 15) rfl (fun hb6 => ?_) (fun hb6 => ?_)
   ·have hc6 := bp hb6
    refine dm_ 16 (h:=dk_ 17 (h:=df_ 18 (h:=dl_ 19 (h:=df_ 20 (h:=dl_ 21 (h:=dnq_ 22 (h:=dpt_ 23 (h:=dpf_ 24 (h:=z_ (h:=t_ (?_)))))))))))
    refine aw_cond rfl (fun hb7 => ?_) (fun hb7 => ?_)
    ·have hc7 := bp hb7
     refine w_ (a_ (h:=e_ (aw_ret (x_blockR (x_thenR (x_thenR (x_blockR (x_blockR (x_thenR (x_thenR (x_blockR (x_thenR (?_)))))))))))))
     refine e_ret ?_
     first | exact vb (lnk_no1 hlt hy hlt2 (by unfold lnkAt; simp only [hy2, e]; try simp_all)).symm | exact vb (lnk_no2 hlt (by unfold upAt; simp only [hy]; simp_all)).symm | exact vb (lnk_yes hall (fun i hi => hu i (by omega))).symm
    have hc7 := bp hb7
    refine aw_skip (x_blockN (t_ (aw_region (ad_ (h:=m_ (h:=al_nil (?_)))))))
    refine x_then ?_
    refine ⟨_, _, ?_, ⟨i + 1, by omega, rfl, upto_next hb (by unfold lnkAt; simp only [hy2, e]; try simp_all), rfl⟩, (wk 2 0)⟩
    omega
   have hc6 := bp hb6
   refine d0_ 16 (h:=d0_ 17 (h:=d0_ 18 (h:=d0_ 19 (h:=d0_ 20 (h:=d0_ 21 (h:=d0_ 22 (h:=dpf_ 23 (h:=dpf_ 24 (h:=z_ (h:=t_ (cn_ (h:=aw_skip (x_blockN (t_ (aw_region (ad_ (h:=m_ (h:=al_nil (?_)))))))))))))))))))
   refine x_then ?_
   refine ⟨_, _, ?_, ⟨i + 1, by omega, rfl, upto_next hb (by unfold lnkAt; simp only [hy2, e]; try simp_all), rfl⟩, (wk 2 0)⟩
   omega
  have hc2 := bp hb2
  refine aw_exit (x_thenE (x_thenE (ABlock_out (x_blockN (t_ (aw_region (ad_ (h:=m_ (h:=al_nil (?_))))))))))
  refine x_then ?_
  refine ⟨_, _, ?_, ⟨j + 1, by omega, rfl, upto_next ha (by unfold lnksAt; simp only [hy]; exact range_yes (fun k hk => hb k (by omega))), rfl⟩, (wk 1 0)⟩
  omega
 have hc1 := bp hb1
 have hall : ∀ i, i < d.nodes.length → lnksAt f (q : Int) d i = true := fun i hi => ha i (by omega)
 refine aw_exit (x_thenE (x_thenE (ABlock_out (t_ (w_ (m_ (h:=bd_ (h:=al_ (h:=s_ (h:=e_ (q_ (w_ (f_ (h:=l_ (h:=m_ (h:=?_))))))))))))))))
 refine al_p rfl (st_index (n := q) rfl rfl rfl hrq ?_)
 refine f_ (h:=l_ (h:=n_ (h:=m_ (h:=e_ (aw_block (?_))))))
 refine aw_loopW (fun m t => ∃ j : Nat, j ≤ d.nodes.length ∧ m = d.nodes.length - j ∧ (∀ i, i < j → upAt f (q : Int) d i = true) ∧ t = ⟨look [(1, .v (.int .i64 (q : Int))), (2, .bp 0 0), (10, .bp 1 0), (73, .sl 8 (d.nodes.map nodA) none), (74, .v (.int .i64 ((d.nodes.map nodA).length : Int))), (75, .v (.int .i64 (j : Int)))], ⟨[flsA f, filA ((q : Int), 1)], []⟩⟩) (d.nodes.length) ((wk 2 0)) (⟨0, by omega, rfl, fun i hi => by omega, rfl⟩) ?_
 rintro m t ⟨j, hj, rfl, hu, rfl⟩
 refine w_ (lt_ (h:=e_ (q_ (?_))))
 refine aw_cond rfl (fun hb8 => ?_) (fun hb8 => ?_)
 ·have hc8 := bp hb8
  obtain ⟨hlt, n, hy, hrow, -⟩ := row_at nodA hc8
  refine kt_ (q_ (aw_block (w_ (?_))))
  refine al_p rfl (st_index (n := j) rfl rfl rfl hrow ?_)
  refine l_ (h:=al_ (h:=s_ (h:=e_ (w_ (m_ (h:=f_ (h:=l_ (h:=bd_ (h:=al_ (h:=s_ (h:=e_ (w_ (l_ (h:=l_ (h:=?_)))))))))))))))
  refine al_p rfl (q_call (Plinks f ((q : Int), n.ino) hf.b) ?_)
  rintro r rfl
  refine a_ (h:=e_ (aw_block (w_ (l_ (h:=l_ (h:=?_))))))
  refine al_p rfl (st_binA rfl rfl (by repeat constructor) (by repeat constructor) (fun w => eqlFil _ _ _ _ w) (by kernel_rfl) ?_)
  refine a_ (h:=e_ (?_))
  refine aw_cond rfl (fun hb9 => ?_) (fun hb9 => ?_)
  ·have hc9 := bp hb9
   have h91 : n.ino = 1 := (Prod.mk.inj hc9).2
   refine w_ (f_ (h:=l_ (h:=nq_ (h:=e_ (?_)))))
   refine aw_cond rfl (fun hb10 => ?_) (fun hb10 => ?_)
   ·have hc10 := bp hb10
    refine w_ (a_ (h:=e_ (aw_ret (x_blockR (x_blockR (x_thenR (x_thenR (x_blockR (x_thenR (?_))))))))))
    refine e_ret ?_
    first | exact vb (lnk_no1 hlt hy hlt2 (by unfold lnkAt; simp only [hy2, e]; try simp_all)).symm | exact vb (lnk_no2 hlt (by unfold upAt; simp only [hy]; simp_all)).symm | exact vb (lnk_yes hall (fun i hi => hu i (by omega))).symm
   have hc10 := bp hb10
   refine aw_skip (x_blockN (x_blockN (t_ (aw_region (ad_ (h:=m_ (h:=al_nil (?_))))))))
   refine x_then ?_
   refine ⟨_, _, ?_, ⟨j + 1, by omega, rfl, upto_next hu (by unfold upAt; simp only [hy]; simp_all), rfl⟩, (wk 2 0)⟩
   omega
  have hc9 := bp hb9
  have h91 : ¬ n.ino = 1 := fun e => hc9 (by rw [e])
  refine q_ (w_ (m_ (h:=lt_ (h:=a_ (h:=e_ (?_))))))
  refine aw_cond rfl (fun hb11 => ?_) (fun hb11 => ?_)
  ·have hc11 := bp hb11
   refine kt_ (cy_ (h:=w_ (a_ (h:=e_ (aw_ret (x_blockR (x_blockR (x_thenR (x_thenR (x_blockR (x_thenR (?_))))))))))))
   refine e_ret ?_
   first | exact vb (lnk_no1 hlt hy hlt2 (by unfold lnkAt; simp only [hy2, e]; try simp_all)).symm | exact vb (lnk_no2 hlt (by unfold upAt; simp only [hy]; simp_all)).symm | exact vb (lnk_yes hall (fun i hi => hu i (by omega))).symm
  have hc11 := bp hb11
  refine aw_region (f_ (h:=l_ (h:=eq_ (h:=m_ (h:=?_)))))
  refine al_gs true rfl rfl (fun hb12 => ?_) (fun hb12 => ?_)
  ·have hc12 := bp hb12
   refine m_ (h:=gt_ (h:=m_ (h:=?_)))
   refine al_gs false rfl rfl (fun hb13 => ?_) (fun hb13 => ?_)
   ·have hc13 := bp hb13
    refine g0_ (h:=g0_ (h:=g0_ (h:=g0_ (h:=g0_ (h:=pt_ (h:=pt_ (h:=a_ (h:=e_ (cy_ (h:=w_ (a_ (h:=e_ (aw_ret (x_blockR (x_blockR (x_thenR (x_thenR (x_blockR (x_thenR (?_))))))))))))))))))))
    refine e_ret ?_
    first | exact vb (lnk_no1 hlt hy hlt2 (by unfold lnkAt; simp only [hy2, e]; try simp_all)).symm | exact vb (lnk_no2 hlt (by unfold upAt; simp only [hy]; simp_all)).symm | exact vb (lnk_yes hall (fun i hi => hu i (by omega))).symm
   have hc13 := bp hb13
   refine l_ (h:=l_ (h:=l_ (h:=?_)))
   refine g_y (q_call (Pbelow f ((q : Int), 1) ((q : Int), n.ino) q d hf.b rfl hq) ?_)
   rintro r rfl
   refine nt_ (h:=pf_ (h:=pt_ (h:=a_ (h:=e_ (?_)))))
   refine aw_cond rfl (fun hb14 => ?_) (fun hb14 => ?_)
   ·have hc14 := bp hb14
    refine w_ (a_ (h:=e_ (aw_ret (x_blockR (x_blockR (x_thenR (x_thenR (x_blockR (x_thenR (?_))))))))))
    refine e_ret ?_
    first | exact vb (lnk_no1 hlt hy hlt2 (by unfold lnkAt; simp only [hy2, e]; try simp_all)).symm | exact vb (lnk_no2 hlt (by unfold upAt; simp only [hy]; simp_all)).symm | exact vb (lnk_yes hall (fun i hi => hu i (by omega))).symm
   have hc14 := bp hb14
   refine aw_skip (x_blockN (x_blockN (t_ (aw_region (ad_ (h:=m_ (h:=al_nil (?_))))))))
   refine x_then ?_
   refine ⟨_, _, ?_, ⟨j + 1, by omega, rfl, upto_next hu (by unfold upAt; simp only [hy]; simp_all), rfl⟩, (wk 2 0)⟩
   omega
  have hc12 := bp hb12
  refine g0_ (h:=g0_ (h:=g0_ (h:=gu_ (h:=gu_ (h:=gu_ (h:=gu_ (h:=gu_ (h:=g0_ (h:=pf_ (h:=a_ (h:=e_ (cn_ (h:=aw_skip (x_blockN (x_blockN (t_ (aw_region (ad_ (h:=m_ (h:=al_nil (?_)))))))))))))))))))))
  refine x_then ?_
  refine ⟨_, _, ?_, ⟨j + 1, by omega, rfl, upto_next hu (by unfold upAt; simp only [hy]; simp_all), rfl⟩, (wk 2 0)⟩
  omega
 have hc8 := bp hb8
 refine aw_exit (x_thenE (x_thenE (ABlock_out (t_ (w_ (a_ (h:=e_ (aw_ret (?_)))))))))
 refine e_ret ?_
 first | exact vb (lnk_no1 hlt hy hlt2 (by unfold lnkAt; simp only [hy2, e]; try simp_all)).symm | exact vb (lnk_no2 hlt (by unfold upAt; simp only [hy]; simp_all)).symm | exact vb (lnk_yes hall (fun i hi => hu i (by omega))).symm
theorem Pvalid5 (f : Fls) (hf : FlsT f) : AFn Try.prog 40 [.agg (flsA f)] (fun r => r = .v (.bool (vldP f))) := by
 have hfew := hf.b.few
 have hel : (f.map dvcA).length = f.length := by simp
 refine enter Try.func40 rfl rfl rfl rfl rfl 0 rfl ?_
 refine w_ (b_ (h:=a_ (h:=e_ (q_ (w_ (f_ (h:=l_ (h:=n_ (h:=lt_ (h:=m_ (h:=?_)))))))))))
 refine al_gs false rfl rfl (fun hb1 => ?_) (fun hb1 => ?_)
 ·have hc1 := bp hb1
  refine g0_ (h:=g0_ (h:=g0_ (h:=g0_ (h:=pt_ (h:=e_ (cy_ (h:=w_ (a_ (h:=e_ (aw_ret (x_thenR (?_))))))))))))
  refine e_ret ?_
  exact vb (by unfold vldP; rw [if_pos (by omega)])
 have hc1 := bp hb1
 refine f_ (h:=l_ (h:=n_ (h:=gt_ (h:=pf_ (h:=e_ (?_))))))
 refine aw_cond rfl (fun hb2 => ?_) (fun hb2 => ?_)
 ·have hc2 := bp hb2
  refine w_ (a_ (h:=e_ (aw_ret (x_thenR (?_)))))
  refine e_ret ?_
  exact vb (by unfold vldP; rw [if_neg (by omega), if_pos (by omega)])
 have hc2 := bp hb2
 refine kt_ (q_ (w_ (f_ (h:=l_ (h:=n_ (h:=m_ (h:=e_ (aw_block (?_)))))))))
 refine aw_loopW (fun m t => ∃ j : Nat, j ≤ f.length ∧ m = f.length - j ∧ (∀ i, i < j → vldPAt f i = true) ∧ t = ⟨look [(1, .bp 0 0), (16, .v (.int .i64 ((f.map dvcA).length : Int))), (17, .v (.int .i64 (j : Int)))], ⟨[flsA f], []⟩⟩) (f.length) ((wk 1 0)) (⟨0, by omega, rfl, fun i hi => by omega, rfl⟩) ?_
 rintro m t ⟨j, hj, rfl, ha, rfl⟩
 refine w_ (lt_ (h:=e_ (q_ (?_))))
 refine aw_cond rfl (fun hb3 => ?_) (fun hb3 => ?_)
 ·have hc3 := bp hb3
  obtain ⟨hlt, d, hy, hrow, -⟩ := row_at dvcA hc3
  refine kt_ (q_ (aw_block (w_ (m_ (h:=a_ (h:=e_ (w_ (f_ (h:=l_ (h:=m_ (h:=?_)))))))))))
  refine al_p rfl (st_index (n := j) rfl rfl rfl hrow ?_)
  refine l_ (h:=?_)
  refine al_p rfl (q_call (PvalNodes d (hf.b.nodes d (List.mem_of_getElem? hy)) (hf.b.ents d (List.mem_of_getElem? hy)) (hf.tg d (List.mem_of_getElem? hy))) ?_)
  rintro r rfl
  refine nt_ (h:=m_ (h:=?_))
  refine al_gs false rfl rfl (fun hb4 => ?_) (fun hb4 => ?_)
  ·have hc4 := bp hb4
   refine g0_ (h:=g0_ (h:=g0_ (h:=g0_ (h:=pt_ (h:=e_ (cy_ (h:=w_ (a_ (h:=e_ (aw_ret (x_blockR (x_thenR (x_thenR (x_blockR (x_thenR (?_))))))))))))))))
   refine e_ret ?_
   exact vb (by unfold vldP; rw [if_neg (by omega), if_neg (by omega)]; exact (range_no hlt (by unfold vldPAt; simp only [hy]; simp_all)).symm)
  have hc4 := bp hb4
  refine l_ (h:=m_ (h:=?_))
  refine g_y (q_call (Plinked f j d hf hy) ?_)
  rintro r rfl
  refine nt_ (h:=pf_ (h:=e_ (?_)))
  refine aw_cond rfl (fun hb5 => ?_) (fun hb5 => ?_)
  ·have hc5 := bp hb5
   refine w_ (a_ (h:=e_ (aw_ret (x_blockR (x_thenR (x_thenR (x_blockR (x_thenR (?_)))))))))
   refine e_ret ?_
   exact vb (by unfold vldP; rw [if_neg (by omega), if_neg (by omega)]; exact (range_no hlt (by unfold vldPAt; simp only [hy]; simp_all)).symm)
  have hc5 := bp hb5
  refine aw_skip (x_blockN (t_ (aw_region (ad_ (h:=m_ (h:=al_nil (?_)))))))
  refine x_then ?_
  refine ⟨_, _, ?_, ⟨j + 1, by omega, rfl, upto_next ha (by unfold vldPAt; simp only [hy]; simp_all), rfl⟩, (wk 1 0)⟩
  omega
 have hc3 := bp hb3
 refine aw_exit (x_thenE (x_thenE (ABlock_out (t_ (w_ (a_ (h:=e_ (aw_ret (?_)))))))))
 refine e_ret ?_
 exact vb (by unfold vldP; rw [if_neg (by omega), if_neg (by omega)]; exact (range_yes (fun i hi => ha i (by omega))).symm)
end
def SpcIn (s : Spc) (N : Nat) (w : World) (ds ms : Value) : Prop := N ≤ w.heap.size ∧ froL (fun b _ => b < N) w (spcA s) [ds, ms]
end Go.Proofs.Ythcbdkmhamhciaa
namespace Go.Proofs.Ythcbdkmhamhciaa
open Go.RowKit Go.Shelf
attribute [local go_sem] Oper.semAt_some
def mostL (f : Fls) : Nat := (f.map fun d => d.nodes.length).sum
end Go.Proofs.Ythcbdkmhamhciaa
namespace Go.Proofs.Ythcbdkmhamhciaa
open Go.RowKit Go.Shelf
section
variable {F : Fence} {n : Nat} {P : Program}
end
attribute [local go_sem] Oper.semAt_some
end Go.Proofs.Ythcbdkmhamhciaa
namespace Go.Proofs.Ythcbdkmhamhciaa
open Go.RowKit Go.Shelf
attribute [local go_sem] Oper.semAt_some
end Go.Proofs.Ythcbdkmhamhciaa
namespace Go.Proofs.Ythcbdkmhamhciaa
open Go.RowKit
def abvL (s : Spc) (a : Fil) : Nod := nodG s.files (a.1, (nodG s.files a).parent)
def nmoL (s : Spc) (a : Fil) : Str := (((abvL s a).entries.find? fun e : Ent => decide (e.2 = a.2)).map (·.1)).getD ⟨#[]⟩
end Go.Proofs.Ythcbdkmhamhciaa
namespace Go.Proofs.Ythcbdkmhamhciaa
open Go.RowKit Go.Shelf
attribute [local go_sem] Oper.semAt_some
end Go.Proofs.Ythcbdkmhamhciaa
namespace Go.Proofs.Ythcbdkmhamhciaa
open Go.RowKit Go.Shelf
attribute [local go_sem] Oper.semAt_some
end Go.Proofs.Ythcbdkmhamhciaa
namespace Go.Proofs.Ythcbdkmhamhciaa
open Go.RowKit Go.Shelf
attribute [local go_sem] Oper.semAt_some
end Go.Proofs.Ythcbdkmhamhciaa
namespace Go.Proofs.Ythcbdkmhamhciaa
open Go.RowKit
structure SpcN (s : Spc) : Prop where
 b : SpcB s
 nm : ∀ x, (nmoL s x).size ≤ 100
 most : mostL s.files ≤ 5000
theorem nameL_size {x : Str} (h : nameL x = true) : x.size ≤ 12 := by
 rw [name_eq] at h
 by_cases hc : x.size < 1 ∨ 12 < x.size
 ·rw [if_pos hc] at h; cases h
 omega
def StAll (w : World) : Nat → Nat → Prop := fun b _ => b < w.heap.size
def Opens (P : Program) (t : TypeId) (R : List AV → Prop) : Prop :=
 ∀ (H : Type) (enc : TypeId × Value → H) (w : World) (base : Nat) (spare : Nat → Bool) (held : Bool) (fuel : Nat) (cs : List Value) (x : DataW H × List MemPlace), DataW.trod enc P w base spare held fuel t cs = some x →
  ∃ row, R row ∧ froL (StAll w) w row cs ∧ ∀ u ∈ cs, u.oneCell' = true
section
variable {P : Program} {t : TypeId}
theorem Opens.mono {R R' : List AV → Prop} (h : Opens P t R) (hR : ∀ r, R r → R' r) : Opens P t R' := by
 intro H enc w base spare held fuel cs x hx
 obtain ⟨row, h1, h2⟩ := h H enc w base spare held fuel cs x hx
 exact ⟨row, hR _ h1, h2⟩
theorem opens_int {k : IntKind} (ht : P.underlying t = some (.int k)) : Opens P t fun r => ∃ n, r = [.v (.int k n)] ∧ (Lit.int k n).wf = true := by
 intro H enc w base spare held fuel cs x hx
 obtain ⟨b, rfl, _, hw⟩ := DataW.trod_int ht hx
 exact ⟨_, ⟨b, rfl, hw⟩, ⟨_, _, rfl, by simp only [fro], by simp only [froL]⟩, by simp [Value.oneCell']⟩
theorem cell_lt' {w : World} {b o : Nat} {v : Value} (h : w.cell? ⟨b, o, none⟩ = some v) : b < w.heap.size := by
 rcases Nat.lt_or_ge b w.heap.size with hlt | hge
 ·exact hlt
 simp [World.cell?, Array.getElem?_eq_none hge] at h
theorem froL_length' {St : Nat → Nat → Prop} {w : World} {xs : List AV} {ys : List Value} (h : froL St w xs ys) : ys.length = xs.length := repL_length (G := ⟨St, [], []⟩) (repL_fro (G := ⟨St, [], []⟩) _ _ h)
theorem opens_slice {e : TypeId} {n : Nat} {R : List AV → Prop} (ht : P.underlying t = some (.slice e)) (hc : P.cellsOf e = n) (hn : 0 < n) (h : Opens P e R) : Opens P t fun r => ∃ rows, r = [.sl n rows none] ∧ rows.length ≤ maxLen ∧ ∀ x ∈ rows, R x := by
 intro H enc w base spare held fuel cs x hx
 rcases DataW.trod_slice ht hx with ⟨rfl, _⟩ | ⟨⟨b, off, spot⟩, len, cap, elems, rest, m, rfl, rfl, _, hb, hl, hm, hlen, hel, _, _⟩
 ·exact ⟨_, ⟨[], rfl, Nat.zero_le _, by simp⟩, ⟨_, _, rfl, by simp only [fro]; exact ⟨trivial, none, 0, rfl, Nat.le_refl _, Nat.zero_le _, .inl trivial⟩, by simp only [froL]⟩, by simp [Value.oneCell']⟩
 have each : ∀ i, i < len → ∃ row cs', R row ∧ row.length = n ∧ froL (StAll w) w row cs' ∧ (∀ u ∈ cs', u.oneCell' = true) ∧ cs'.length = n ∧ ∀ j, j < n → w.cell? (Addr.add ⟨b, off, spot⟩ (i * n + j)) = cs'[j]? := by
  intro i hi
  have h1 := hel i hi
  rw [hc, List.getElem?_eq_getElem (by omega), Option.bind_eq_some_iff] at h1
  obtain ⟨cs', h2, h3⟩ := h1
  obtain ⟨row, r1, r2, r3⟩ := h _ _ _ _ _ _ _ _ _ h3
  obtain ⟨_, c1, c2⟩ := World.cells?_some h2
  refine ⟨row, cs', r1, by rw [← froL_length' r2, c1], r2, r3, c1, fun j hj => ?_⟩
  have := c2 j hj
  rwa [Addr.add_add] at this
 have hrows : ∃ rows : List (List AV), rows.length = len ∧ (∀ i, i < len → ∃ row cs', rows[i]? = some row ∧ R row ∧ row.length = n ∧ froL (StAll w) w row cs' ∧ (∀ u ∈ cs', u.oneCell' = true) ∧ cs'.length = n ∧ ∀ j, j < n → w.cell? (Addr.add ⟨b, off, spot⟩ (i * n + j)) = cs'[j]?) := by
  clear hel
  have : ∀ k, k ≤ len → ∃ rows : List (List AV), rows.length = k ∧ (∀ i, i < k → ∃ row cs', rows[i]? = some row ∧ R row ∧ row.length = n ∧ froL (StAll w) w row cs' ∧ (∀ u ∈ cs', u.oneCell' = true) ∧ cs'.length = n ∧ ∀ j, j < n → w.cell? (Addr.add ⟨b, off, spot⟩ (i * n + j)) = cs'[j]?) := by
   intro k
   induction k with
   | zero => intro _; exact ⟨[], rfl, fun i hi => by omega⟩
   | succ k ih =>
     intro hk
     obtain ⟨rows, e1, e2⟩ := ih (by omega)
     obtain ⟨row, cs', q⟩ := each k (by omega)
     refine ⟨rows ++ [row], by simp [e1], fun i hi => ?_⟩
     rcases Nat.lt_or_ge i k with hlt | hge
     ·obtain ⟨row', cs'', q1, q2⟩ := e2 i hlt
      exact ⟨row', cs'', by rw [List.getElem?_append_left (by omega)]; exact q1, q2⟩
     obtain rfl : i = k := by omega
     exact ⟨row, cs', by rw [List.getElem?_append_right (by omega), e1]; simp, q⟩
  exact this len (Nat.le_refl _)
 obtain ⟨rows, e1, e2⟩ := hrows
 refine ⟨_, ⟨rows, rfl, by omega, fun x hx => ?_⟩, ⟨_, _, rfl, ?_, by simp only [froL]⟩, by simp [Value.oneCell']⟩
 ·obtain ⟨i, hi⟩ := List.getElem?_of_mem hx
  obtain ⟨row, _, q1, q2, _⟩ := e2 i (by rw [← e1]; exact (List.getElem?_eq_some_iff.1 hi).1)
  rw [hi] at q1
  injection q1 with q1
  subst q1
  exact q2
 simp only [fro]
 refine ⟨trivial, some ⟨b, off, spot⟩, cap, by rw [e1], by omega, hm, ?_⟩
 rcases Nat.eq_zero_or_pos len with h0 | h0
 ·left; exact List.eq_nil_of_length_eq_zero (by omega)
 right
 have hspot : spot = none := by
  obtain ⟨_, cs', _, _, _, _, _, c3, c4⟩ := e2 0 h0
  have := c4 0 hn
  rw [List.getElem?_eq_getElem (by omega)] at this
  simpa [Addr.add] using World.cell?_spot this
 subst hspot
 refine ⟨b, off, rfl, ?_⟩
 have : ∀ (rs : List (List AV)) (k : Nat), (∀ i r, rs[i]? = some r → rows[k + i]? = some r) → froR (StAll w) w b n rs (off + k * n) := by
  intro rs
  induction rs with
  | nil => intro k _; simp only [froR]
  | cons r rs ih =>
    intro k hk
    simp only [froR]
    have h1 := hk 0 r rfl
    rw [Nat.add_zero] at h1
    obtain ⟨row, cs', q1, _, q3, q4, q5, q6, q7⟩ := e2 k (by rw [← e1]; exact (List.getElem?_eq_some_iff.1 h1).1)
    rw [h1] at q1
    injection q1 with q1
    subst q1
    refine ⟨⟨q3, froC_of fun i x hi => ?_⟩, ?_⟩
    ·obtain ⟨u, u1, u2⟩ := froL_get q4 hi
     have hin : i < n := by rw [← q3]; exact (List.getElem?_eq_some_iff.1 hi).1
     have hc := q7 i hin
     rw [u1] at hc
     have hc' : w.cell? ⟨b, off + k * n + i, none⟩ = some u := by rw [Addr.add_mid] at hc; rwa [Nat.add_assoc]
     exact ⟨cell_lt' hc', u, hc', q5 u (List.mem_of_getElem? u1), u2⟩
    have := ih (k + 1) (fun i r' hi => by
     have := hk (i + 1) r' (by simpa using hi)
     rwa [show k + 1 + i = k + (i + 1) by omega])
    rwa [show off + (k + 1) * n = off + k * n + n by rw [Nat.add_mul]; omega] at this
 simpa using this rows 0 (fun i r hi => by simpa using hi)
theorem rows_map {α : Type} {enc : α → List AV} {Q : α → Prop} : ∀ {rows : List (List AV)}, (∀ x ∈ rows, ∃ a, x = enc a ∧ Q a) → ∃ l : List α, rows = l.map enc ∧ ∀ a ∈ l, Q a
 | [], _ => ⟨[], rfl, by simp⟩
 | r :: rs, h => by
   obtain ⟨a, rfl, ha⟩ := h r (by simp)
   obtain ⟨l, rfl, hl⟩ := rows_map (rows := rs) fun x hx => h x (by simp [hx])
   exact ⟨a :: l, rfl, by simpa using ⟨ha, hl⟩⟩
theorem Opens.one {R : List AV → Prop} (h : Opens P t R) {H : Type} {enc : TypeId × Value → H} {w : World} {base : Nat} {spare : Nat → Bool} {held : Bool} {v : Value} {d : DataW H} {ps : List MemPlace} (hv : v.cells = #[v]) (hd : DataW.Trod enc P w base spare held t v d ps) :
    ∃ row, R row ∧ froL (StAll w) w row [v] := by
 obtain ⟨fuel, hf⟩ := hd
 rw [hv] at hf
 obtain ⟨row, h1, h2, _⟩ := h _ _ _ _ _ _ _ _ _ hf
 exact ⟨row, h1, h2⟩
end
theorem opInts : Opens Try.prog 31 (fun r => ∃ l : List Int, r = [.sl 1 (l.map intA) none]) :=
 (opens_slice (n := 1) Try.underlying31 (by kernel_rfl) (by omega) (opens_int Try.underlying3)).mono (by
   rintro r ⟨rows, rfl, _, hr⟩
   obtain ⟨l, rfl, _⟩ := rows_map (enc := intA) (Q := fun _ => True) (fun x hx => by obtain ⟨t, rfl, _⟩ := hr x hx; exact ⟨t, rfl, trivial⟩)
   exact ⟨l, rfl⟩)
theorem ints_one {H : Type} {enc : TypeId × Value → H} {sp : Nat → Bool} {held : Bool} {base : Nat} {w : World} {a : Option Addr} {n c : Nat} {d : DataW H} {p : List MemPlace} (h : DataW.Trod enc Try.prog w base sp held 31 (.slice a n c) d p) :
    ∃ l : List Int, rep ⟨StAll w, [], []⟩ w (.sl 1 (l.map intA) none) (.slice a n c) := by
 obtain ⟨r0, ⟨l, rfl⟩, k0⟩ := opInts.one rfl h
 simp only [froL] at k0
 obtain ⟨_, _, e0, k0, rfl⟩ := k0
 injection e0 with e0
 subst e0
 exact ⟨l, rep_fro (G := ⟨StAll w, [], []⟩) _ _ k0⟩
theorem walk_ints {f : FuncId} (hf : ∀ l : List Int, AFn Try.prog f [.sl 1 (l.map intA) none] (fun x => x = .v (.bool true))) {H : Type} {enc : TypeId × Value → H} {sp : Nat → Bool} {held : Bool} {base : Nat} (a : Option Addr) (n c : Nat) (w : World) {d : DataW H} {p : List MemPlace}
    (h : DataW.Trod enc Try.prog w base sp held 31 (.slice a n c) d p) : Calls Try.prog f #[.slice a n c] w fun e w' => e = .returned (.bool true) ∧ Below w.heap.size w w' := by
 obtain ⟨l, k⟩ := ints_one h
 refine calls_of (vs := [.slice a n c]) (hf l) (StAll w) (fun b o h => h) ?_
 simp only [repL]
 exact ⟨_, _, rfl, k, rfl⟩
end Go.Proofs.Ythcbdkmhamhciaa
namespace Go.Proofs.Ythcbdkmhamhciaa
theorem countP_lt {α : Type} {p q : α → Bool} : ∀ {l : List α}, (∀ x ∈ l, p x = true → q x = true) → ∀ {a : α}, a ∈ l → q a = true → p a = false → l.countP p < l.countP q
 | [], _, _, ha, _, _ => by cases ha
 | x :: l, h, a, ha, hq, hp => by
   have hle : l.countP p ≤ l.countP q := List.countP_mono_left fun y hy => h y (List.mem_cons_of_mem _ hy)
   rw [List.countP_cons, List.countP_cons]
   rcases List.mem_cons.1 ha with rfl | ha
   ·rw [hq, hp]; simp; omega
   have ih := countP_lt (fun y hy => h y (List.mem_cons_of_mem _ hy)) ha hq hp
   have := h x (List.mem_cons_self ..)
   cases hx : p x with
   | false => simp; omega
   | true => rw [this hx]; simp; omega
section
variable {d : Dvc} (hd : VD d)
include hd
theorem par_eq {n : Nod} (hn : n ∈ d.nodes) : parentL d n.ino = n.parent := by
 have h := node_asc (f := [d]) (a := (0, n.ino)) (q := 0) rfl rfl hd.asc hn rfl
 rw [nodeL_at (f := [d]) (a := (0, n.ino)) (k := 0) rfl rfl] at h
 unfold parentL
 rw [h]
theorem itP_one : ∀ k, itP d k 1 = 1 := by
 obtain ⟨r, rest, hr, h1, _, h3⟩ := hd.root
 have : parentL d 1 = 1 := by
  have := par_eq hd (n := r) (by rw [hr]; exact List.mem_cons_self ..)
  rw [h1, h3] at this
  exact this
 intro k
 induction k with
 | zero => rfl
 | succ k ih => rw [itP, this, ih]
theorem itP_end (rk : Int → Nat) (hrk : ∀ n ∈ d.nodes, n.ino ≠ 1 → n.kind = 2 → rk n.parent < rk n.ino) : ∀ (k : Nat) (n : Nod), n ∈ d.nodes → n.kind = 2 → d.nodes.countP (fun m => decide (m.ino ≠ 1 ∧ rk m.ino ≤ rk n.ino)) ≤ k → itP d k n.ino = 1 := by
 intro k
 induction k with
 | zero =>
   intro n hn _ hc
   by_cases h1 : n.ino = 1
   ·rw [h1]; rfl
   have : 0 < d.nodes.countP (fun m => decide (m.ino ≠ 1 ∧ rk m.ino ≤ rk n.ino)) := List.countP_pos_iff.2 ⟨n, hn, by simp [h1]⟩
   omega
 | succ k ih =>
   intro n hn hk hc
   by_cases h1 : n.ino = 1
   ·rw [h1]; exact itP_one hd _
   rw [itP, par_eq hd hn]
   obtain ⟨p, hp, hpi, e, he, _⟩ := hd.par n hn h1 hk
   have hpk : p.kind = 2 := by
    by_cases h : p.kind = 2
    ·exact h
    rw [(hd.leaf p hp h).2] at he; cases he
   rw [← hpi]
   refine ih p hp hpk ?_
   have hlt := hrk n hn h1 hk
   rw [← hpi] at hlt
   have : d.nodes.countP (fun m => decide (m.ino ≠ 1 ∧ rk m.ino ≤ rk p.ino)) < d.nodes.countP (fun m => decide (m.ino ≠ 1 ∧ rk m.ino ≤ rk n.ino)) := by
    refine countP_lt (fun x _ hx => ?_) hn (by simp [h1]) (decide_eq_false fun h => by omega)
    have := of_decide_eq_true hx
    exact decide_eq_true ⟨this.1, by omega⟩
   omega
theorem rch_true : rchR d = true := by
 obtain ⟨rk, hrk⟩ := hd.rank
 refine range_yes fun i hi => ?_
 unfold rchAt
 rw [List.getElem?_eq_getElem hi]
 simp only
 split
 ·rename_i hk
  exact decide_eq_true (itP_end hd rk hrk _ _ (List.getElem_mem hi) hk List.countP_le_length)
 rfl
theorem asc_get {i : Nat} {n y : Nod} (h0 : 0 < i) (h : d.nodes[i]? = some n) (hy : d.nodes[i - 1]? = some y) : y.ino < n.ino := by
 have := hd.asc
 unfold Asc at this
 obtain ⟨h1, e1⟩ := List.getElem?_eq_some_iff.1 h
 obtain ⟨h2, e2⟩ := List.getElem?_eq_some_iff.1 hy
 have := List.pairwise_iff_getElem.1 this (i - 1) i h2 h1 (by omega)
 rw [e1, e2] at this
 exact this
theorem sort_get {n : Nod} (hn : n ∈ d.nodes) {i : Nat} {x : Ent} (h0 : 0 < i) (h : n.entries[i]? = some x) : preE n.entries i x = false := by
 have hs := hd.sorted n hn
 unfold Sorted at hs
 unfold preE
 cases hy : n.entries[i - 1]? with
 | none => rfl
 | some y =>
   obtain ⟨h1, e1⟩ := List.getElem?_eq_some_iff.1 h
   obtain ⟨h2, e2⟩ := List.getElem?_eq_some_iff.1 hy
   have := List.pairwise_iff_getElem.1 hs (i - 1) i h2 h1 (by omega)
   rw [e1, e2] at this
   simp only
   rw [this]
   rfl
end
section
variable {f : Fls} (hv : FlsV f) {q : Nat} {d : Dvc} (hq : f[q]? = some d)
include hv hq
theorem vdq : VD d := hv.vd d (List.mem_of_getElem? hq)
theorem node_q {p : Nod} (hp : p ∈ d.nodes) : nodeL f ((q : Int), p.ino) = some p := node_asc (a := ((q : Int), p.ino)) rfl hq (vdq hv hq).asc hp rfl
theorem idx_q {p : Nod} (hp : p ∈ d.nodes) : ¬ indexL f ((q : Int), p.ino) < 0 := by
 rcases index_node f ((q : Int), p.ino) with h | ⟨k, i, d', n, _, _, _, _, h, _⟩
 ·rw [node_q hv hq hp] at h; cases h.2
 omega
theorem ents_true {n : Nod} (hn : n ∈ d.nodes) : entsR f (q : Int) n.entries = true := by
 have hd := vdq hv hq
 refine ents_yes (by have := hd.many n hn; omega) fun i hi => ?_
 have hx : n.entries[i]? = some n.entries[i] := List.getElem?_eq_getElem hi
 generalize n.entries[i] = x at hx
 obtain ⟨h1, h2, m, hm, h3⟩ := hd.ent n hn x (List.mem_of_getElem? hx)
 unfold entAt
 rw [hx]
 simp only
 rw [if_neg (by rw [h1]; simp), if_neg (fun h => by rw [sort_get hd hn h.1 hx] at h; cases h.2), if_neg h2, if_neg (by rw [← h3]; exact idx_q hv hq hm)]
theorem links_q {n : Nod} (hn : n ∈ d.nodes) : linksF f ((q : Int), n.ino) = cntN n.ino d.nodes := linksF_at (a := ((q : Int), n.ino)) rfl hq (node_q hv hq hn)
theorem dev_true : devR5 f (q : Int) d = true := by
 have hd := vdq hv hq
 obtain ⟨r, rest, hr, r1, r2, r3⟩ := hd.root
 have hlen := hd.len
 have hl1 : ¬ d.nodes.length < 1 := by rw [hr]; simp
 have hhd : headR d = true := by
  unfold headR
  rw [if_neg hl1, if_neg (by omega), if_neg (by have := hd.next2; omega), if_neg (by have := hd.nextM; omega), hr]
  simp [r1, r2, r3]
 rw [dev_yes hhd, rch_true hd]
 intro i hi
 have hx : d.nodes[i]? = some d.nodes[i] := List.getElem?_eq_getElem hi
 generalize d.nodes[i] = n at hx
 have hn := List.mem_of_getElem? hx
 unfold devAt
 rw [hx]
 simp only
 rw [if_neg (by have := hd.lt n hn; omega), if_neg (fun h => by
  unfold preN at h
  cases hy : d.nodes[i - 1]? with
  | none => rw [hy] at h; exact absurd h.2 (by simp)
  | some y =>
    rw [hy] at h
    have h1 := asc_get hd h.1 hx hy
    have h2 := of_decide_eq_true h.2
    omega), if_neg (by rw [hd.plain n hn]; simp), if_neg (fun h => by
  obtain ⟨h1, h2⟩ := hd.leaf n hn h.1
  rcases h.2 with h3 | h3
  ·exact h3 h1
  rw [h2] at h3; cases h3), if_neg (by rw [ents_true hv hq hn]; simp)]
 split
 ·rfl
 rename_i h0
 have h1 : n.ino ≠ 1 := by
  have hy : d.nodes[0]? = some r := by rw [hr]; rfl
  have : r.ino < n.ino := by
   have ha := hd.asc
   unfold Asc at ha
   obtain ⟨e1, e2⟩ := List.getElem?_eq_some_iff.1 hx
   obtain ⟨e3, e4⟩ := List.getElem?_eq_some_iff.1 hy
   have := List.pairwise_iff_getElem.1 ha 0 i e3 e1 (by omega)
   rw [e2, e4] at this
   exact this
  omega
 rw [links_q hv hq hn]
 split
 ·rename_i hk
  obtain ⟨p, hp, hpi, e, he, hei⟩ := hd.par n hn h1 hk
  rw [if_neg (by rw [hd.one n hn h1 hk]; simp)]
  have hnd := node_q hv hq hp
  rw [hpi] at hnd
  have hh : hasG f ((q : Int), n.parent) = true := by unfold hasG; rw [hnd]; rfl
  have hg : nodG f ((q : Int), n.parent) = p := by unfold nodG; rw [hnd]; rfl
  rw [if_neg (by rw [hh]; simp), hg]
  unfold holdsL
  exact List.any_eq_true.2 ⟨e, he, by rw [hei]; simp⟩
 rw [if_neg (by have := hd.link n hn h1; omega)]
theorem nods_true : nodsP d = true := by
 have hd := vdq hv hq
 obtain ⟨r, rest, hr, r1, r2, r3⟩ := hd.root
 have hlen := hd.len
 have hl1 : ¬ d.nodes.length < 1 := by rw [hr]; simp
 refine nods_yes ?_ fun i hi => ?_
 ·unfold headP
  rw [if_neg (by have := hd.next2; omega), if_neg (by have := hd.nextM; omega), if_neg hl1, if_neg (by omega), hr]
  simp [r1, r2]
 have hx : d.nodes[i]? = some d.nodes[i] := List.getElem?_eq_getElem hi
 generalize d.nodes[i] = n at hx
 have hn := List.mem_of_getElem? hx
 unfold nodPAt
 rw [hx]
 simp only
 have hnp : nodP n = true := by
  have hp := hd.plain n hn
  unfold plainL at hp
  split at hp
  ·cases hp
  rename_i hc
  have ha : attrP n.mode n.uid n.gid = true := decide_eq_true (by omega)
  have hem : ¬ n.kind = 2 → n.parent = 0 ∧ n.entries = [] := hd.leaf n hn
  have hen : entsP n.entries = true := by
   unfold entsP
   rw [if_neg (by have := hd.many n hn; omega)]
   refine range_yes fun i hi => ?_
   have hx : n.entries[i]? = some n.entries[i] := List.getElem?_eq_getElem hi
   generalize n.entries[i] = x at hx
   unfold entPAt
   rw [hx]
   simp only
   rw [if_neg (by rw [(hd.ent n hn x (List.mem_of_getElem? hx)).1]; simp), if_neg (fun h => by rw [sort_get hd hn h.1 hx] at h; cases h.2)]
  unfold nodP
  rw [if_neg (by rw [ha]; simp)]
  split at hp
  ·rename_i h3
   obtain ⟨e1, e2⟩ := hem (by omega)
   rw [if_neg (by omega), if_pos h3, e1, e2, hp]
   rfl
  rename_i h3
  have e := str_eq n.target ⟨#[]⟩
  rw [show (⟨#[]⟩ : ByteArray).toList = [] by rw [ByteArray.toList_eq]] at e
  have h5 : n.target.toList = [] := by simpa using hp
  rw [h5] at e
  have e2 : n.target = ⟨#[]⟩ := of_decide_eq_true e.symm
  rw [e2]
  by_cases h1 : n.kind = 1
  ·obtain ⟨e3, e4⟩ := hem (by omega)
   rw [if_pos h1, e3, e4]
   rfl
  rw [if_neg h1, if_neg h3, if_pos (by omega), hen]
  rfl
 rw [if_neg ?_, if_neg (by have := hd.lt n hn; omega), if_neg (by rw [hnp]; simp)]
 cases i with
 | zero =>
   rw [hr] at hx
   have : r = n := by simpa using hx
   show ¬ n.ino ≤ 0
   rw [← this, r1]
   omega
 | succ i =>
   show ¬ n.ino ≤ (match d.nodes[i]? with | some n => n.ino | none => 0)
   have hi' : d.nodes[i]? = some d.nodes[i] := List.getElem?_eq_getElem (by omega)
   have := asc_get hd (by omega) hx hi'
   rw [hi']
   simp only
   omega
end
end Go.Proofs.Ythcbdkmhamhciaa
namespace Go.Proofs.Ythcbdkmhamhciaa
open Go.RowKit
structure NodS (m : Nat) (n : Nod) : Prop where
 ents : n.entries.length ≤ m
 nm : ∀ e ∈ n.entries, e.1.size ≤ 300
 tg : n.target.size ≤ 300
structure FlsS (m : Nat) (f : Fls) : Prop where
 few : f.length ≤ m
 nodes : ∀ d ∈ f, d.nodes.length ≤ m
 nod : ∀ d ∈ f, ∀ n ∈ d.nodes, NodS m n
 pos : 0 < f.length
theorem NodS.up {m : Nat} {n : Nod} (h : NodS m n) : NodS (m + 1) n := ⟨by have := h.ents; omega, h.nm, h.tg⟩
theorem FlsS.t {m : Nat} {f : Fls} (h : FlsS m f) (hm : m ≤ 1000) : FlsT f :=
 ⟨⟨by have := h.few; omega, fun d hd => by have := h.nodes d hd; omega, fun d hd n hn => by have := (h.nod d hd n hn).ents; omega⟩, fun d hd n hn e he => by have := (h.nod d hd n hn).nm e he; omega, fun d hd n hn => by have := (h.nod d hd n hn).tg; omega⟩
theorem FlsV.s {f : Fls} (h : FlsV f) (hp : 0 < f.length) : FlsS 16 f := by
 refine ⟨by have := h.few; omega, fun d hd => (h.vd d hd).len, fun d hd n hn => ⟨by have := (h.vd d hd).many n hn; omega, fun e he => ?_, ?_⟩, hp⟩
 ·have := nameL_size ((h.vd d hd).ent n hn e he).1
  omega
 have := plain_target ((h.vd d hd).plain n hn)
 omega
theorem FlsS.up {m : Nat} {f : Fls} (h : FlsS m f) : FlsS (m + 1) f := ⟨by have := h.few; omega, fun d hd => by have := h.nodes d hd; omega, fun d hd n hn => (h.nod d hd n hn).up, h.pos⟩
theorem FlsS.set {m : Nat} {f : Fls} (h : FlsS m f) (q : Nat) {d : Dvc} (hl : d.nodes.length ≤ m + 1) (hn : ∀ n ∈ d.nodes, NodS (m + 1) n) : FlsS (m + 1) (f.set q d) := by
 refine ⟨by have := h.few; rw [List.length_set]; omega, fun x hx => ?_, fun x hx => ?_, by rw [List.length_set]; exact h.pos⟩
 ·rcases List.mem_or_eq_of_mem_set hx with hx | rfl
  ·have := h.nodes x hx; omega
  exact hl
 rcases List.mem_or_eq_of_mem_set hx with hx | rfl
 ·exact fun n hn => (h.nod x hx n hn).up
 exact hn
theorem FlsS.setN {m : Nat} {f : Fls} (h : FlsS m f) {q P : Nat} {d : Dvc} (hq : f[q]? = some d) {nx : Int} {n : Nod} (hn : NodS (m + 1) n) : FlsS (m + 1) (f.set q ⟨nx, d.nodes.set P n⟩) := by
 have hd := List.mem_of_getElem? hq
 refine h.set q (by have := h.nodes d hd; simp only [List.length_set]; omega) fun x hx => ?_
 rcases List.mem_or_eq_of_mem_set hx with hx | rfl
 ·exact (h.nod d hd x hx).up
 exact hn
theorem FlsS.push {m : Nat} {f : Fls} (h : FlsS m f) {d : Dvc} (hd : d.nodes = []) : FlsS (m + 1) (f ++ [d]) := by
 refine ⟨by have := h.few; rw [List.length_append]; simp; omega, fun x hx => ?_, fun x hx => ?_, by simp⟩
 ·rcases List.mem_append.1 hx with hx | hx
  ·have := h.nodes x hx; omega
  rw [List.mem_singleton.1 hx, hd]; simp
 rcases List.mem_append.1 hx with hx | hx
 ·exact fun n hn => (h.nod x hx n hn).up
 rw [List.mem_singleton.1 hx, hd]; intro n hn; cases hn
def nRaw (l : List Int) (a : Nat) : Int := match l[a]? with
 | some z => z
 | none => IntKind.i64.wrap (((a : Int) + 1) * 7)
def nV (l : List Int) (a : Nat) (n : Int) : Int := if (nRaw l a).tmod n < 0 then (nRaw l a).tmod n + n else (nRaw l a).tmod n
theorem nV_rng (l : List Int) (a : Nat) {n : Int} (h : 1 ≤ n) : 0 ≤ nV l a n ∧ nV l a n < n := by
 have := tmod_rng (nRaw l a) h
 unfold nV
 split <;> omega
section
set_option maxRecDepth 10000
set_option maxHeartbeats 1000000
theorem GnD (l : List Int) (a : Nat) (n : Int) (ha : a ≤ 1000000000000) (h1 : 1 ≤ n) (hn : n ≤ 1000000000000) : AFnB Try.prog 42 [.bp 0 0, .v (.int .i64 n)] (srcA l a) (fun r row' => r = .v (.int .i64 (nV l a n)) ∧ row' = srcA l (a + 1)) := by
 refine enter Try.func42 rfl rfl rfl rfl rfl 1 rfl ?_
 refine w_ (a_ (h:=e_ (q_ (w_ (m_ (h:=lt_ (h:=e_ (?_))))))))
 refine aw_cond rfl (fun hb1 => ?_) (fun hb1 => ?_)
 ·have hc1 := bp hb1
  exfalso; first | contradiction | omega
 have hc1 := bp hb1
 refine kt_ (w_ (m_ (h:=k_ (h:=f_ (h:=l_ (h:=ad_ (h:=k_ (h:=f_ (h:=s_ (h:=e_ (w_ (m_ (h:=k_ (h:=f_ (h:=l_ (h:=ml_ (h:=a_ (h:=e_ (q_ (q_ (yr_ 10 (h:=dm_ 0 (h:=dk_ 1 (h:=?_))))))))))))))))))))))))
 refine df_ 2 (h:=dl_ 3 (h:=dm_ 4 (h:=dk_ 5 (h:=df_ 6 (h:=dl_ 7 (h:=dn_ 8 (h:=dle_ 9 (h:=z_ (h:=t_ (?_))))))))))
 refine aw_cond rfl (fun hb2 => ?_) (fun hb2 => ?_)
 ·have hc2 := bp hb2
  have hlt : a < l.length := by simp at hc2; omega
  obtain ⟨z, hz, hzr⟩ : ∃ z, (l.map intA)[a]? = some (intA z) ∧ nRaw l a = z := ⟨l[a], by simp [hlt], by simp [nRaw, hlt]⟩
  have tz := tmod_rng z (n := n) (by omega)
  refine yr_ 12 (h:=dm_ 0 (h:=dk_ 1 (h:=df_ 2 (h:=dl_ 3 (h:=dm_ 4 (h:=dk_ 5 (h:=df_ 6 (h:=dl_ 7 (h:=dsb_ 8 (h:=?_))))))))))
  refine r_y (i := 9) rfl (st_index (n := a) rfl rfl (by omega) hz ⟨rfl, rfl⟩) ?_
  refine dl_ 10 (h:=da_ 11 (h:=z_ (h:=t_ (w_ (m_ (h:=m_ (h:=?_)))))))
  refine al_p rfl (st_rem rfl rfl (by omega) ?_)
  refine a_ (h:=e_ (q_ (w_ (m_ (h:=lt_ (h:=e_ (?_)))))))
  refine aw_cond rfl (fun hb3 => ?_) (fun hb3 => ?_)
  ·have hc3 := bp hb3
   refine aw_region (m_ (h:=m_ (h:=?_)))
   refine al_p rfl (st_add64 rfl rfl (by omega) ?_)
   refine a_ (h:=e_ (w_ (m_ (h:=a_ (h:=e_ (aw_ret (?_)))))))
   refine rt_ none (h5 := (LeA.refl _)) (h6 := ?_)
   exact ⟨_, rfl, rfl, vi (by unfold nV; rw [hzr]; first | rw [if_pos (by assumption)] | rw [if_neg (by assumption)]), rfl⟩
  have hc3 := bp hb3
  refine kt_ (w_ (m_ (h:=a_ (h:=e_ (aw_ret (?_))))))
  refine rt_ none (h5 := (LeA.refl _)) (h6 := ?_)
  exact ⟨_, rfl, rfl, vi (by unfold nV; rw [hzr]; first | rw [if_pos (by assumption)] | rw [if_neg (by assumption)]), rfl⟩
 have hc2 := bp hb2
 have tz := tmod_rng (IntKind.i64.wrap (((a : Int) + 1) * 7)) (n := n) (by omega)
 have hzr : nRaw l a = IntKind.i64.wrap (((a : Int) + 1) * 7) := by unfold nRaw; rw [List.getElem?_eq_none (by simp at hc2; omega)]
 refine kt_ (w_ (m_ (h:=m_ (h:=?_))))
 refine al_p rfl (st_rem rfl rfl (by omega) ?_)
 refine a_ (h:=e_ (q_ (w_ (m_ (h:=lt_ (h:=e_ (?_)))))))
 refine aw_cond rfl (fun hb4 => ?_) (fun hb4 => ?_)
 ·have hc4 := bp hb4
  refine aw_region (m_ (h:=m_ (h:=?_)))
  refine al_p rfl (st_add64 rfl rfl (by omega) ?_)
  refine a_ (h:=e_ (w_ (m_ (h:=a_ (h:=e_ (aw_ret (?_)))))))
  refine rt_ none (h5 := (LeA.refl _)) (h6 := ?_)
  exact ⟨_, rfl, rfl, vi (by unfold nV; rw [hzr]; first | rw [if_pos (by assumption)] | rw [if_neg (by assumption)]), rfl⟩
 have hc4 := bp hb4
 refine kt_ (w_ (m_ (h:=a_ (h:=e_ (aw_ret (?_))))))
 refine rt_ none (h5 := (LeA.refl _)) (h6 := ?_)
 exact ⟨_, rfl, rfl, vi (by unfold nV; rw [hzr]; first | rw [if_pos (by assumption)] | rw [if_neg (by assumption)]), rfl⟩
end
end Go.Proofs.Ythcbdkmhamhciaa
