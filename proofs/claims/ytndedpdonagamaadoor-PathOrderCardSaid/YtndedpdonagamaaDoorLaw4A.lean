/-
  The statements of chapter 4: their parts.
-/
import Derived.Test.YtndedpdonagamaaDoorRef4C
namespace Go.Proofs.YtndedpdonagamaaDoor
open Go.RowKit

theorem RName_any (s : Str) (w : World) (hs : s.size ≤ 1000000) : Calls Tryd.prog 27 #[.string s] w fun e w' => e = .returned (.bool (nmL s.data.toList)) ∧ w = w' := by
  have := Name4_any s w hs
  rwa [nameL_eq] at this

set_option maxRecDepth 100000 in
set_option maxHeartbeats 2000000 in
theorem agrees_any (s : ByteArray) (w : World) (hs : s.size ≤ 60000) :
    Calls Tryd.prog 11 #[.string s] w fun e w' => e = .returned (.bool true) ∧ Below w.heap.size w w' := by
  go_enter Tryd.func11, Tryd.ntmps11
  go_wp2_with fail
  refine (PSplit_any s w hs).mono ?_
  rintro e w1 ⟨vx, xs, rfl, hx, hxs, hb1⟩
  go_wp2_with fail
  refine (RSplit_any s _ hs).mono ?_
  rintro e w2 ⟨vy, ys, rfl, hy, hys, hb2⟩
  go_wp2_with fail
  refine (PParent_any s _ (by omega)).mono ?_
  rintro e w3 ⟨p, q, b, rfl, hp, hb3⟩
  go_wp2_with fail
  refine (RParent_any s _ hs).mono ?_
  rintro e w4 ⟨p', q', b', rfl, hp', hb4⟩
  rw [hp] at hp'
  simp only [Prod.mk.injEq] at hp'
  obtain ⟨h1, h2, h3⟩ := hp'
  obtain rfl : p = p' := str_ext h1
  obtain rfl : q = q' := str_ext h2
  obtain rfl : b = b' := h3
  have hb12 : Below w.heap.size w w2 := hb1.trans (hb2.mono hb1.size)
  have hb13 : Below w.heap.size w w3 := hb12.trans (hb3.mono hb12.size)
  have hb14 : Below w.heap.size w w4 := hb13.trans (hb4.mono hb13.size)
  have hx2 : StrsR w2 (Old w2) vx xs := (hx.dom (fresh_old _ _)).now hb2
  have hy2 : StrsR w2 (Old w2) vy ys := hy.dom (fresh_old _ _)
  have hx4 := (hx2.now hb3).now hb4
  have hy4 := (hy2.now hb3).now hb4
  have HXY : Hid (bls xs = bls ys) := Lib.hid (by rw [hxs, hys])
  have HX := Lib.hid hx4
  have HY := Lib.hid hy4
  have HB := Lib.hid hb14
  clear h1 h2 hp hx hy hx2 hy2 hx4 hy4 hxs hys hb1 hb2 hb3 hb4 hb12 hb13 hb14
  go_wp2_with fail
  refine (PName_any s _).mono ?_
  rintro e w5 ⟨rfl, hb5⟩
  go_wp2_with fail
  refine (RName_any s _ (by omega)).mono ?_
  rintro e w6 ⟨rfl, rfl⟩
  go_wp2_with fail
  refine (PClean_any s _ (by omega)).mono ?_
  rintro e w6 ⟨rfl, hb6⟩
  go_wp2_with fail
  refine (RClean_any s _ hs).mono ?_
  rintro e w7 ⟨rfl, hb7⟩
  go_wp2_with fail
  refine (same_any vx vy xs ys _ (((HX.out.now hb5).now hb6).now hb7) (((HY.out.now hb5).now hb6).now hb7)).mono ?_
  rintro e w8 ⟨rfl, hb8⟩
  rw [decide_eq_true HXY.out]
  go_wp2
  go_ret
  refine ⟨rfl, ?_⟩
  have k5 := HB.out.trans (hb5.mono HB.out.size)
  have k6 := k5.trans (hb6.mono k5.size)
  have k7 := k6.trans (hb7.mono k6.size)
  exact k7.trans (hb8.mono k7.size)

set_option maxRecDepth 100000 in
set_option maxHeartbeats 2000000 in
theorem awake_any (w : World) : Calls Tryd.prog 10 #[] w fun e w' => e = .returned (.bool true) ∧ Below w.heap.size w w' := by
  go_enter Tryd.func10, Tryd.ntmps10
  go_wp2_with fail
  refine (PSplit_any _ w (by decide)).mono ?_
  rintro e w1 ⟨vx, xs, rfl, hx, hxs, hb1⟩
  have hxs' : bls xs = [[97], [46, 46], [98]] := by rw [hxs]; decide
  have h3 : xs.length = 3 := by have := congrArg List.length hxs'; simpa [bls] using this
  obtain ⟨A, c, rfl, hc⟩ := strs_form hx
  have hx2 := hx.dom (fresh_old _ _)
  have hel : xs[1].data.toList = [46, 46] := by
    have := bls_get (ss := xs) (k := 1) (by omega)
    rw [hxs'] at this
    simpa using this.symm
  go_wp2_with fail
  refine (PParent_any _ _ (by decide)).mono ?_
  rintro e w2 ⟨p, q, b, rfl, hp, hb2⟩
  obtain ⟨bb, off, rfl, hcell⟩ := strs_cell (hx2.now hb2) (k := 1) (by omega)
  rw [show prntL ({ data := #[47, 97] } : ByteArray).data.toList = ([47], [97], true) by decide] at hp
  simp only [Prod.mk.injEq] at hp
  obtain ⟨hp1, hp2, hp3⟩ := hp
  obtain rfl : p = ⟨#[47]⟩ := str_ext hp1.symm
  obtain rfl : q = ⟨#[97]⟩ := str_ext hp2.symm
  obtain rfl : b = true := hp3.symm
  have hb12 : Below w.heap.size w w2 := hb1.trans (hb2.mono hb1.size)
  have hxe : xs[1] = ⟨#[46, 46]⟩ := str_ext hel
  rw [hxe] at hcell
  have HB := Lib.hid hb12
  clear hx hx2 hb1 hb2 hb12 hxs hxs' hel hp1 hp2 hp3 hxe
  clear h3
  go_wp2_with fail
  refine (PName_any _ _).mono ?_
  rintro e w3 ⟨rfl, hb3⟩
  rw [show nmL ({ data := #[97, 98, 99, 100, 101, 102, 103, 104, 105, 106, 107, 108] } : ByteArray).data.toList = true by decide]
  go_wp2
  go_ret
  exact ⟨rfl, HB.out.trans (hb3.mono HB.out.size)⟩

set_option maxRecDepth 100000 in
set_option maxHeartbeats 2000000 in
theorem PathTexts_walk (s : ByteArray) (w : World) (hs : s.size ≤ 9223372036854775807) :
    Calls Tryd.prog 3 #[.string s] w fun e w' => e = .returned (.bool true) ∧ Below w.heap.size w w' := by
  by_cases h : s.size ≤ 400
  · go_enter Tryd.func3, Tryd.ntmps3
    go_wp2_with fail
    refine (agrees_any s w (by omega)).mono ?_
    rintro e w1 ⟨rfl, hb1⟩
    go_wp2_with fail
    refine (agrees_any _ _ (by have := slash_size'; simp; omega)).mono ?_
    rintro e w2 ⟨rfl, hb2⟩
    go_wp2_with fail
    refine (awake_any _).mono ?_
    rintro e w3 ⟨rfl, hb3⟩
    go_wp2
    go_ret
    have k2 := hb1.trans (hb2.mono hb1.size)
    exact ⟨rfl, k2.trans (hb3.mono k2.size)⟩
  · go_enter Tryd.func3, Tryd.ntmps3
    go_wp2_with fail
    refine (awake_any _).mono ?_
    rintro e w3 ⟨rfl, hb3⟩
    go_wp2
    go_ret
    exact ⟨rfl, hb3⟩

end Go.Proofs.YtndedpdonagamaaDoor
