/-
  path.Clean.
-/
import Derived.Test.YtokaaebbmcldaaaGreatDoorStrD
import Derived.Test.YtokaaebbmcldaaaGreatDoorSeqA
namespace Go.Proofs.YtokaaebbmcldaaaGreatDoor
open Go.RowKit Go.Shelf
attribute [local go_sem] Oper.semAt_some

theorem hasPrefix_slash (l : Bs) : Lib.hasPrefix l [47] = decide (l.head? = some 47) := by
  unfold Lib.hasPrefix
  cases l with
  | nil => simp
  | cons c t =>
    rw [Bool.eq_iff_iff, List.isPrefixOf_iff_prefix]
    simp [List.cons_prefix_cons, eq_comm]
theorem trim_slash {l : Bs} (h : l.head? = some 47) : Lib.trimPrefix l [47] = l.tail := by
  unfold Lib.trimPrefix
  rw [hasPrefix_slash, if_pos (by simp [h])]
  simp

set_option maxRecDepth 100000 in
set_option maxHeartbeats 1000000 in
theorem PClean_a (s : ByteArray) (w : World) (h : s.data.toList = [47] ∨ s.data.toList.head? ≠ some 47) :
    Calls Tryz.prog 78 #[.string s] w fun e w' => e = .returned (.bool (cleanL s.data.toList)) ∧ Below w.heap.size w w' := by
  by_cases h1 : s.data.toList = [47]
  · obtain rfl : s = ⟨#[47]⟩ := str_ext h1
    go_enter Tryz.func78, Tryz.ntmps78
    go_wp2
    exact bodyPost_ret (v := .bool true) (by simp [results, Tryz.results78, go_sem]) rfl ⟨rfl, (Below.refl _ _).alloc (Nat.le_refl _) _⟩
  · have h2 : s.data.toList.head? ≠ some 47 := h.resolve_left h1
    have e1 : (s.toList == [47]) = false := by rw [toL, beq_eq_false_iff_ne]; exact h1
    have HP := Lib.hid (hasPrefix_slash s.data.toList)
    have HF : Hid (cleanL s.data.toList = false) := Lib.hid (by unfold cleanL; simp [h1, h2])
    have HD : Hid (decide (s.data.toList.head? = some 47) = false) := Lib.hid (decide_eq_false h2)
    clear h h1 h2
    go_enter Tryz.func78, Tryz.ntmps78
    go_wp2_with fail
    refine (Tryz.strings_CutPrefix _ _ _).mono ?_
    rintro e w' ⟨rfl, rfl⟩
    rw [HP.out, HD.out]
    go_wp2
    exact bodyPost_ret (v := .bool false) (by simp [results, Tryz.results78, go_sem]) rfl ⟨by rw [HF.out], (Below.refl _ _).alloc (Nat.le_refl _) _⟩

set_option maxRecDepth 100000 in
set_option maxHeartbeats 1000000 in
theorem PClean_b (n : Nat) (hn : Hid (1 ≤ n)) (s : ByteArray) (w : World) (hs : s.size ≤ 1000000) (h1 : s.data.toList ≠ [47]) (h2 : s.data.toList.head? = some 47) :
    CallsIn Fence.wide n Tryz.prog 78 #[.string s] w fun e w' => e = .returned (.bool (cleanL s.data.toList)) ∧ Below w.heap.size w w' := by
  have e1 : (s.toList == [47]) = false := by rw [toL, beq_eq_false_iff_ne]; exact h1
  have HP := Lib.hid (hasPrefix_slash s.data.toList)
  have HT := Lib.hid (trim_slash h2)
  have HF : Hid (cleanL s.data.toList = (segs s.data.toList.tail).all nmL) := Lib.hid (by unfold cleanL; simp [h1, h2])
  have HD : Hid (decide (s.data.toList.head? = some 47) = true) := Lib.hid (decide_eq_true h2)
  clear h1 h2
  refine callsIn_of_wp_marks Tryz.func78 rfl trivial ?_ rfl
  simp only [Tryz.ntmps78, List.size_toArray, List.length_cons, List.length_nil, Nat.reduceAdd, Nat.reduceSub, Array.replicate_succ, Array.replicate_zero, List.push_toArray, List.append_toArray, List.nil_append, List.cons_append]
  gi_wp2_with fail
  refine wideCall ((callsIn_wide.2 (Tryz.strings_CutPrefix _ _ _)).mono ?_)
  rintro e w' ⟨rfl, rfl⟩
  obtain ⟨r, hr⟩ : ∃ r : ByteArray, r = ⟨(Lib.trimPrefix s.data.toList [47]).toArray⟩ := ⟨_, rfl⟩
  have hrl : r.data.toList = s.data.toList.tail := by rw [hr, ← HT.out]
  have HR := Lib.hid hrl
  have hrs : r.size ≤ 1000000 := by rw [Lib.size_eq, hrl, List.length_tail, ← Lib.size_eq]; omega
  rw [HP.out, HD.out]
  rw [show (⟨(Lib.trimPrefix s.data.toList (ByteArray.mk #[47]).data.toList).toArray⟩ : ByteArray) = r from hr.symm]
  clear hrl hr
  gi_wp2_with fail
  refine wideCall ((callsIn_wide.2 (SplitSeq_slash _ _)).mono ?_)
  rintro e w' ⟨rfl, rfl⟩
  gi_wp2_with fail
  have hR : Boxed (w.alloc (.cells #[.bool false] 4)) w.heap.size 4 (.bool false) := Boxed.new _ _ _
  obtain ⟨W0, hW0⟩ : ∃ W0, w.alloc (.cells #[.bool false] 4) = W0 := ⟨_, rfl⟩
  have hz0 : W0.heap.size = w.heap.size + 1 := by rw [← hW0]; simp
  have hB0 : Below w.heap.size w W0 := by rw [← hW0]; exact below_a1 _ _
  rw [hW0] at hR ⊢
  obtain ⟨WL, hWL⟩ : ∃ WL, ((W0.alloc (.cells #[.string r] 9)).alloc (.cells #[.string ⟨#[47]⟩] 9)).alloc (.cells #[.int .i64 0] 3) = WL := ⟨_, rfl⟩
  have hzL : WL.heap.size = w.heap.size + 1 + 1 + 1 + 1 := by rw [← hWL]; simp [hz0]
  have hBL : Below W0.heap.size W0 WL := by rw [← hWL]; exact below_a3 _ _ _ _
  have k0 : Boxed WL (w.heap.size + 1) 9 (.string r) := by rw [← hWL, ← hz0]; exact blk_a3_0 _ _ _ _
  have k1 : Boxed WL (w.heap.size + 1 + 1) 9 (.string ⟨#[47]⟩) := by rw [← hWL, ← hz0]; exact blk_a3_1 _ _ _ _
  have k2 : Boxed WL (w.heap.size + 1 + 1 + 1) 3 (.int .i64 0) := by rw [← hWL, ← hz0]; exact blk_a3_2 _ _ _ _
  have kR : Boxed WL w.heap.size 4 (.bool false) := blk_below hR hBL hR.lt
  have hBw : Below w.heap.size w WL := hB0.trans (hBL.mono (by omega))
  rw [hWL]
  have HB0 := Lib.hid hz0
  have HBL := Lib.hid hzL
  clear hW0 hWL hz0 hR hB0 hBL hzL
  refine wpIn_rangeFunc_st rfl hn.out (gf := 87) rfl trivial (enters_of Tryz.func87 (by kernel_rfl) rfl)
    (splitSeq1 (n - 1) r hrs (w.heap.size + 1) (w.heap.size + 1 + 1) (w.heap.size + 1 + 1 + 1) WL k0 k1 k2 (by omega) (by omega))
    (fun b hb => by have := HBL.out; omega) Keep3.trans (fun W l o o' hl _ _ => by have := HBL.out; exact keep3_put (N := WL.heap.size) (by omega) (by omega) (by omega) W l o' hl) (Below.refl _ _) (fun _ => rfl)
    (fun pre W => Boxed W w.heap.size 4 (.bool false) ∧ (∀ p ∈ bls pre, nmL p = true) ∧ Below w.heap.size w W)
    (fun c pre W => c = .ret ∧ Boxed W w.heap.size 4 (.bool false) ∧ (∃ p ∈ bls pre, nmL p = false) ∧ Below w.heap.size w W)
    (fun s X Y h hm => ⟨hm.boxed h.1 (by omega), h.2.1, hm.under h.2.2 (Nat.le_refl _) (fun b hb => by omega) (by have := HBL.out; omega)⟩)
    (fun c s X Y h hm => ⟨h.1, hm.boxed h.2.1 (by omega), h.2.2.1, hm.under h.2.2.2 (Nat.le_refl _) (fun b hb => by omega) (by have := HBL.out; omega)⟩)
    ⟨kR, by simp [bls], hBw⟩
    (fun x => { tmps := #[.string s, undef, .pointer (some ⟨w.heap.size, 0, none⟩), .string r, .bool true, .string x, .string s, .bool false, .tuple #[.string r, .bool true], .string s, .tuple #[.string r, .bool true], .string r, .bool true, .bool true, .bool false, .string r,
      .func (.func 87) #[] #[.pointer (some ⟨w.heap.size + 1 + 1, 0, none⟩), .pointer (some ⟨w.heap.size + 1, 0, none⟩), .pointer (some ⟨w.heap.size + 1 + 1 + 1, 0, none⟩)], .string x, undef, undef, undef], defers := [] }) ?assign ?body ?done ?stop
  case assign =>
    intro l x W K hK
    gi_wp2
    exact hK
  case body =>
    rintro l pre x W ⟨hc, hnm, hbw⟩ _ hsz
    have hcell := hc.cell
    have hfz := hc.frozen
    have HN := Lib.hid hnm
    have HZ := Lib.hid hsz
    clear hnm hsz
    gi_wp2_with fail
    refine wideCall ((CallsIn.inRound l (callsIn_wide.2 (PName_any x W))).mono ?_)
    rintro e W' ⟨rfl, hb'⟩
    have hc' : Boxed W' w.heap.size 4 (.bool false) := blk_below hc hb' hc.lt
    have hbw' : Below w.heap.size w W' := hbw.trans (hb'.mono hbw.size)
    clear hcell hfz
    have hcell := hc'.cell
    have hfz := hc'.frozen
    have HX : Hid (bls (pre ++ [x]) = bls pre ++ [x.data.toList]) := Lib.hid (by simp [bls])
    cases hnx : nmL x.data.toList with
    | true =>
      gi_wp2
      have h1 := HBL.out
      have h2 := HZ.out
      exact ⟨keepsFrom_below hb', keep3_below hb' (by omega) (by omega) (by omega), hc', by rw [HX.out]; intro p hp; rcases List.mem_append.1 hp with hp | hp; exact HN.out p hp; simp at hp; rw [hp]; exact hnx, hbw'⟩
    | false =>
      gi_wp2
      have h1 := HBL.out
      exact ⟨keepsFrom_set (keepsFrom_below hb') (by omega) _, rfl, hc'.set _, ⟨x.data.toList, by rw [HX.out]; simp, hnx⟩, hbw'.setCell (Nat.le_refl _) _⟩
  case done =>
    rintro D xs W hD hS ⟨hc, hnm, hbw⟩ hK
    have HS := Lib.hid hS
    have HN := Lib.hid hnm
    clear hS hnm
    have hcell := hc.cell
    have hfz := hc.frozen
    gi_wp2
    refine ⟨by simp, .inl ⟨_, _, rfl, run_takeDeferred ((KeepsOthers.setCell _ _ _).same D _ hK rfl), ?_⟩⟩
    have h1 := HBL.out
    have hcb := (boxed_put (hc.set (.bool true)) (show w.heap.size ≠ D by omega) (.deferred none)).cell
    refine ⟨.bool true, by simp [results, Tryz.f78, go_sem, hcb], by rw [HF.out, ← HR.out, ← HS.out, List.all_eq_true.2 HN.out], below_put (hbw.setCell (p := ⟨w.heap.size, 0, none⟩) (Nat.le_refl _) _) (by omega) _⟩
  case stop =>
    rintro D c pre W hD hSp ⟨rfl, hc, hnm, hbw⟩ hK
    have HS := Lib.hid hSp
    have HN := Lib.hid hnm
    clear hSp hnm
    have hcell := hc.cell
    gi_wp2
    refine ⟨by simp, .inl ⟨_, _, rfl, run_takeDeferred hK, ?_⟩⟩
    have h1 := HBL.out
    have hcb := (boxed_put hc (show w.heap.size ≠ D by omega) (.deferred none)).cell
    refine ⟨.bool false, by simp [results, Tryz.f78, go_sem, hcb], ?_, below_put hbw (by omega) _⟩
    obtain ⟨p, hp, hpf⟩ := HN.out
    rw [HF.out, ← HR.out, List.all_eq_false.2 ⟨p, HS.out.subset hp, by simp [hpf]⟩]

theorem PClean_any (s : ByteArray) (w : World) (hs : s.size ≤ 1000000) :
    Calls Tryz.prog 78 #[.string s] w fun e w' => e = .returned (.bool (cleanL s.data.toList)) ∧ Below w.heap.size w w' := by
  by_cases h1 : s.data.toList = [47]
  · exact PClean_a s w (.inl h1)
  · by_cases h2 : s.data.toList.head? = some 47
    · exact callsIn_wide.1 (PClean_b 6 (Lib.hid (by omega)) s w hs h1 h2)
    · exact PClean_a s w (.inr h2)

end Go.Proofs.YtokaaebbmcldaaaGreatDoor
