/-
  path.Split.
-/
import Derived.Test.YtndedpdonagamaaDoorPathC
import Derived.Test.YtndedpdonagamaaDoorOwn
import Derived.Maps.AppendAt
import Derived.StillTailTactics
namespace Go.Proofs.YtndedpdonagamaaDoor
open Go.RowKit Go.Shelf
attribute [local go_sem] Oper.semAt_some

theorem Moves.row {own : Nat → Prop} {B : Nat} {X Y : World} (h : Moves own B X Y) {base e size k : Nat} {v : Value} {xs : List Value} (hr : X.ownsRow base e size v k xs) (ho : ∀ b, own b → b < base) : Y.ownsRow base e size v k xs := by
  refine ⟨hr.1, ?_⟩
  rcases hr.2 with h' | ⟨g, cap, cur, hv, hg, hb, r⟩
  · exact .inl h'
  · refine .inr ⟨g, cap, cur, hv, hg, ?_, r⟩
    exact (h.block g (Array.getElem?_eq_some_iff.1 hb).1 (fun e => by have := ho g e; omega) (.inr ⟨_, hb, rfl⟩)).trans hb
/-- 'x = append(x, ..)' where x is a box below the row's blocks. -/
theorem appended_ {W w1 : World} {base B : Nat} {t e : TypeId} {size : Nat} {v v' : Value} {k m : Nat} {xs ys : List Value} {tmp : Obj}
    (hv : Boxed W B t v) (hrow : W.ownsRow base e size v k xs) (hbase : base ≤ W.heap.size) (hB : B < base)
    (hown' : w1.ownsRow base e size v' m ys) (hgrow : (W.alloc tmp).grownBy w1 v.ownBlock) :
    Boxed w1 B t v ∧ Boxed (w1.setCell ⟨B, 0, none⟩ v') B t v' ∧ (w1.setCell ⟨B, 0, none⟩ v').ownsRow base e size v' m ys ∧ KeepsOthers W (w1.setCell ⟨B, 0, none⟩ v') ∧
      Below B W (w1.setCell ⟨B, 0, none⟩ v') ∧ ∀ j, j < base → j ≠ B → (w1.setCell ⟨B, 0, none⟩ v').heap[j]? = W.heap[j]? := by
  have hne : ∀ j, j < base → some j ≠ v.ownBlock := by
    intro j hj e
    have := World.ownsRow.lt hrow j e.symm
    omega
  have hblk : ∀ j, j < base → w1.heap[j]? = W.heap[j]? := fun j hj => (hgrow.block j (by simp; omega) (hne j hj)).trans (Below.heap_alloc W tmp j (by omega))
  have hv1 : Boxed w1 B t v := (hblk B hB).trans hv
  refine ⟨hv1, hv1.set v', ownsRow_setCell_below hown' hB v', ?_, ?_, fun j hj hj' => (Below.heap_setCell w1 ⟨B, 0, none⟩ v' j hj').trans (hblk j hj)⟩
  · refine ((KeepsOthers.alloc W tmp).trans (KeepsOthers.of_grownBy hgrow fun j o ej hj => ?_)).trans (KeepsOthers.setCell _ _ _)
    rcases (hrow.alloc tmp).2 with ⟨rfl, _⟩ | ⟨g, cap, cur, rfl, _, hgb, _⟩
    · simp [Value.ownBlock] at ej
    · obtain rfl : g = j := by simpa [Value.ownBlock] using ej
      rw [hgb] at hj; cases hj; rfl
  · have hs := hgrow.size
    simp at hs
    exact ⟨hgrow.os, hgrow.tape, hgrow.output, by simp [World.setCell]; omega, fun j hj => (Below.heap_setCell w1 ⟨B, 0, none⟩ v' j (by show j ≠ B; omega)).trans (hblk j (by omega))⟩

/-- What a call leaves that returns pieces. -/
def SplitQ (l : Bs) (w : World) (e : Ending) (w' : World) : Prop := ∃ (v : Value) (ss : List Str), e = .returned (.tuple #[v, .bool (decide (l.head? = some 47)), .bool (decide (l.getLast? = some 47))]) ∧ StrsR w' (Fresh w w') v ss ∧ bls ss = pieces l ∧ Below w.heap.size w w'
theorem hasSuffix_slash (l : Bs) : Lib.hasSuffix l [47] = decide (l.getLast? = some 47) := by
  unfold Lib.hasSuffix
  rw [Bool.eq_iff_iff, List.isSuffixOf_iff_suffix, decide_eq_true_iff]
  rcases List.eq_nil_or_concat l with rfl | ⟨a, x, rfl⟩
  · simp
  · simp only [List.concat_eq_append, List.getLast?_concat, Option.some.injEq]
    constructor
    · rintro ⟨t, ht⟩
      have := congrArg List.getLast? ht
      simpa [eq_comm] using this
    · rintro rfl
      exact ⟨a, rfl⟩
theorem pieces_len (l : Bs) : (pieces l).length ≤ l.length + 1 := by
  have h1 : (pieces l).length ≤ (segs l).length := List.length_filter_le _ _
  have h2 : (segs l).length ≤ l.length + 1 := by
    clear h1
    induction l with
    | nil => simp [segs]
    | cons c t ih =>
      rw [segs_cons]
      split
      · simp; omega
      · split
        · simp
        · rename_i h
          rw [h] at ih
          simp at ih ⊢
          omega
  omega
theorem flat_str (xs : List Str) : flat 1 strCell xs = xs.map Value.string := by
  induction xs with
  | nil => rfl
  | cons x xs ih =>
    unfold flat at ih ⊢
    rw [List.flatMap_cons, ih]
    rfl
theorem Tryd.infoStr : (Tryd.prog.info? 9).map (fun i => (i.zero, i.size, i.bytes)) = some (some (.string ⟨#[]⟩), 1, 16) := by kernel_rfl

set_option maxRecDepth 100000 in
set_option maxHeartbeats 2000000 in
theorem PSplit_b (n : Nat) (hn : Hid (1 ≤ n)) (s : ByteArray) (w : World) (hs : s.size ≤ 60000) :
    CallsIn Fence.wide n Tryd.prog 12 #[.string s] w (SplitQ s.data.toList w) := by
  obtain ⟨i0, hi, hz0, hz1, hz2⟩ := info_parts Tryd.infoStr
  refine callsIn_of_wp_marks Tryd.func12 rfl trivial ?_ rfl
  simp only [Tryd.ntmps12, List.size_toArray, List.length_cons, List.length_nil, Nat.reduceAdd, Nat.reduceSub, Array.replicate_succ, Array.replicate_zero, List.push_toArray, List.append_toArray, List.nil_append, List.cons_append]
  gi_wp2_with fail
  refine wideCall ((callsIn_wide.2 (parts_any _ _)).mono ?_)
  rintro e w' ⟨rfl, rfl⟩
  gi_wp2_with fail
  obtain ⟨WL, hWL⟩ : ∃ WL, (w.alloc (.cells #[.slice none 0 0] 24)).alloc (.cells #[.string s] 9) = WL := ⟨_, rfl⟩
  have hzL : WL.heap.size = w.heap.size + 1 + 1 := by rw [← hWL]; simp
  have hBw : Below w.heap.size w WL := by rw [← hWL]; exact below_a2 _ _ _
  have kR : Boxed WL w.heap.size 24 (.slice none 0 0) := by rw [← hWL]; exact blk_a2_0 _ _ _
  have k0 : Boxed WL (w.heap.size + 1) 9 (.string s) := by rw [← hWL]; exact blk_a2_1 _ _ _
  rw [hWL]
  have HZ := Lib.hid hzL
  clear hWL hzL
  refine wpIn_rangeFunc_st rfl hn.out (gf := 39) rfl trivial (enters_of Tryd.func39 (by kernel_rfl) rfl)
    (parts1 (n - 1) s (by omega) (w.heap.size + 1) WL k0)
    (fun b hb => by have := HZ.out; omega) (fun h k => Eq.trans k h) (fun W l o o' hl _ _ => by have := HZ.out; exact World.putObj_heap_other (by omega)) (Below.refl _ _) (fun _ => rfl)
    (fun pre W => ∃ v, Boxed W w.heap.size 24 v ∧ W.ownsRow WL.heap.size 9 1 v pre.length (pre.map Value.string) ∧ Below w.heap.size w W)
    (fun _ _ _ => False)
    (fun s X Y h hm => by
      obtain ⟨v, h1, h2, h3⟩ := h
      have := HZ.out
      exact ⟨v, hm.boxed h1 (by omega), hm.row h2 (fun b hb => by omega), hm.under h3 (Nat.le_refl _) (fun b hb => by omega) (by omega)⟩)
    (fun _ _ _ _ h _ => h)
    ⟨_, kR, World.ownsRow_nil _ _ _ _, hBw⟩
    (fun x => { tmps := #[.string s, undef, .pointer (some ⟨w.heap.size, 0, none⟩), .bool false, .bool false, .string x, .string s, .func (.func 39) #[] #[.pointer (some ⟨w.heap.size + 1, 0, none⟩)], .string x, undef, undef, undef, undef, undef, undef, undef, undef, undef], defers := [] }) ?assign ?body ?done ?stop
  case assign =>
    intro l x W K hK
    gi_wp2
    exact hK
  case body =>
    rintro l pre x W ⟨v, hc, hrow, hbw⟩ hpf hsz
    have hcell := hc.cell
    have HZW := Lib.hid hsz
    have hpl : pre.length ≤ 1000000 := by
      have h1 := hpf.length_le
      have h2 := pieces_len s.data.toList
      rw [← Lib.size_eq] at h2
      simp [bls] at h1
      omega
    have hmx : pre.length + 1 ≤ maxLen := by unfold maxLen; omega
    clear hsz hpf
    gi_wp2_with (gi_at_builtin; refine wpListIn_append_own _ rfl _ _ 24 rfl WL.heap.size 9 i0 (.string ⟨#[]⟩) 1 16 Tryd.underlying24 hi hz0 hz1 hz2 rfl (by decide) _ _ _ rfl (hrow.alloc _) ⟨W.heap.size, 0, none⟩ 1 1 [.string x] rfl rfl (cell_one_new _ _ _) (by simp [Value.oneCell']) (by omega) (by omega) (by have := HZW.out; simp; omega) ?_; intro v' w1 hown' hgrow _; obtain ⟨g', cap', rfl⟩ := ownsRow_succ hown'; obtain ⟨hv1, hv2, hr2, hk2, hb2, hj2⟩ := appended_ hc hrow (by have := HZW.out; omega) (by have := HZ.out; omega) hown' hgrow; have hc1 := hv1.cell; have hf1 := hv1.frozen)
    have h1 := HZ.out
    exact ⟨hk2.from _, hj2 _ (by omega) (by omega), ⟨_, hv2, by simpa using hr2, hbw.trans hb2⟩⟩
  case done =>
    rintro D xs W hD hS ⟨v, hc, hrow, hbw⟩ hK
    have HS := Lib.hid hS
    clear hS
    obtain ⟨A, cc, rfl⟩ : ∃ A c, v = .slice A xs.length c := by
      rcases hrow.2 with ⟨rfl, hn⟩ | ⟨g, cap, cur, rfl, _⟩
      · exact ⟨none, 0, by rw [hn]⟩
      · exact ⟨_, _, rfl⟩
    have hcell := hc.cell
    have hfz := hc.frozen
    gi_wp2_with fail
    refine wpIn_wide.2 ?_
    refine wp_region_still_tail 5 (by kernel_rfl) (by kernel_rfl) ?_
    simp only [List.take_succ_cons, List.take_zero, List.drop_succ_cons, List.drop_zero]
    still_step
    still_step
    still_call (Tryd.strings_HasPrefix _ _ _)
    still_step
    still_call (Tryd.strings_HasSuffix _ _ _ (by omega))
    refine wpStill_nil ?_
    change wpList _ _ _ _ _ W.drew
    have hc2 : Boxed W.drew w.heap.size 24 (.slice A xs.length cc) := hc
    have hr2 : W.drew.ownsRow WL.heap.size 9 1 (.slice A xs.length cc) xs.length (xs.map Value.string) := hrow
    have hb2 : Below w.heap.size w W.drew := hbw.drew
    have hK2 : W.drew.heap[D]? = some (.deferred (some [])) := hK
    clear hc hrow hbw hK hcell hfz
    generalize W.drew = W2 at *
    have hcell := hc2.cell
    have hfz := hc2.frozen
    go_wp2
    gi_wp2
    refine ⟨by simp, .inl ⟨_, _, rfl, run_takeDeferred ((KeepsOthers.setCell _ _ _).same D _ hK2 rfl), ?_⟩⟩
    have h1 := HZ.out
    have hcb := (boxed_put (hc2.set (.slice A xs.length cc)) (show w.heap.size ≠ D by omega) (.deferred none)).cell
    refine ⟨.tuple #[.slice A xs.length cc, .bool (Lib.hasPrefix s.data.toList [47]), .bool (Lib.hasSuffix s.data.toList [47])], by simp [results, Tryd.f12, go_sem, hcb], .slice A xs.length cc, xs, by rw [hasPrefix_slash, hasSuffix_slash], ?_, HS.out, below_put (hb2.setCell (p := ⟨w.heap.size, 0, none⟩) (Nat.le_refl _) _) (by omega) _⟩
    have hrow' := ownsRow_putObj (ownsRow_setCell_below hr2 (a := ⟨w.heap.size, 0, none⟩) (by show w.heap.size < _; omega) (.slice A xs.length cc)) (.deferred none) ((KeepsOthers.setCell _ _ _).same D _ hK2 rfl) rfl
    have hlen : xs.length ≤ few := by
      have h2 := pieces_len s.data.toList
      rw [← HS.out, ← Lib.size_eq] at h2
      simp [bls] at h2
      unfold few
      omega
    refine OwnL.list (sz := 1) (cell := strCell) (E := 9) (base := WL.heap.size) ?_ hlen (fun b hb hlt => ⟨by omega, hlt⟩)
    unfold OwnL
    rw [flat_str]
    exact hrow'
  case stop =>
    rintro D c pre W hD hSp h hK
    exact h.elim

theorem PSplit_any (s : ByteArray) (w : World) (hs : s.size ≤ 60000) : Calls Tryd.prog 12 #[.string s] w (SplitQ s.data.toList w) :=
  callsIn_wide.1 (PSplit_b 6 (Lib.hid (by omega)) s w hs)

end Go.Proofs.YtndedpdonagamaaDoor
