/-
  Part 12 of the proof of MountsPathsP: what the statement's proof uses of the texts in wip/tpl.
-/
import Derived.Maps.AppendAt
import Derived.OwnWalk
import Derived.StillTailTactics
import Derived.Lib.SliceRun
import Derived.Test.YtgliiknfmlmddaaMp11
namespace Go.Proofs.Ytgliiknfmlmddaa
open Go.RowKit Go.Shelf
attribute [local go_sem] Oper.semAt_some

theorem Try.infoStr : (Try.prog.info? 9).map (fun i => (i.zero, i.size, i.bytes)) = some (some (.string ⟨#[]⟩), 1, 16) := by kernel_rfl
def accW (s : Spc) (pre : List Fil) : List Str := (pre.filter fun x : Fil => decide (x.2 ≠ 1)).map (nmoL s)
def pathW (s : Spc) (pre : List Fil) : Str := (accW s pre).reverse.foldl joinS ⟨#[47]⟩
def whereP (s : Spc) (dir : Fil) : Str × Bool :=
  if dirL s.files dir = true ∧ mtdL s dir.1 = true ∧ (0, 1) ∈ chainP s (mostL s.files) dir then (pathW s ((chainP s (mostL s.files) dir).takeWhile fun x => decide (x ≠ (0, 1))), true) else (⟨#[]⟩, false)
theorem chainP_len (s : Spc) : ∀ (k : Nat) (a : Fil), (chainP s k a).length ≤ k
  | 0, _ => by simp [chainP]
  | k + 1, a => by
    unfold chainP
    split
    · cases h : stepC s a with
      | none => simp
      | some b => have := chainP_len s k b; simp; omega
    · simp
theorem join_size (d m : Str) : (joinS d m).size ≤ d.size + 1 + m.size := by
  unfold joinS
  split
  · rw [ByteArray.size_append]; omega
  · rw [ByteArray.size_append, ByteArray.size_append]; exact Nat.le_refl _
theorem fold_size : ∀ (l : List Str) (d : Str), (∀ x ∈ l, x.size ≤ 100) → (l.foldl joinS d).size ≤ d.size + 101 * l.length
  | [], d, _ => by simp
  | x :: l, d, h => by
    have h1 := fold_size l (joinS d x) fun y hy => h y (List.mem_cons_of_mem _ hy)
    have h2 := join_size d x
    have h3 := h x (List.mem_cons_self ..)
    simp only [List.foldl_cons, List.length_cons]
    omega
theorem namesIn_row {w : World} {base : Nat} {e : TypeId} {A : Option Addr} {c g0 : Nat} {ns : List Str} (h : w.ownsRow base e 1 (.slice A ns.length c) ns.length (ns.map Value.string)) (hg0 : g0 < w.heap.size) : ∃ g, g < w.heap.size ∧ NamesIn w A ns.length c ns g := by
  rcases h.2 with ⟨hv, hn⟩ | ⟨g, cap, cur, hv, _, hb, h1, _, _, h2⟩
  · injection hv with _ _ hc
    exact ⟨g0, hg0, rfl, by omega, .inl (List.length_eq_zero_iff.1 hn)⟩
  · injection hv with hA _ hc
    subst hA hc
    refine ⟨g, lt_some hb, rfl, h1, .inr ⟨rfl, fun i x hx => ?_⟩⟩
    rw [(cells_of hb).1 i, ← Array.getElem?_toList]
    have hi : i < ns.length := (List.getElem?_eq_some_iff.1 hx).1
    rw [← List.getElem?_take_of_lt (show i < ns.length * 1 by omega), h2, List.getElem?_map, hx]
    rfl
theorem takeWhile_pre {pre l : List Fil} (h : pre <+: l) (hm : (0, 1) ∈ pre) : (l.takeWhile fun x : Fil => decide (x ≠ (0, 1))) = pre.takeWhile fun x : Fil => decide (x ≠ (0, 1)) := by
  obtain ⟨t, rfl⟩ := h
  induction pre with
  | nil => simp at hm
  | cons y ys ih =>
    by_cases hy : y = (0, 1)
    · simp [hy]
    · have hm' : (0, 1) ∈ ys := by
        rcases List.mem_cons.1 hm with h | h
        · exact absurd h.symm hy
        · exact h
      rw [List.cons_append, List.takeWhile_cons, List.takeWhile_cons, ih hm']
theorem takeWhile_no {pre : List Fil} (h : (0, 1) ∉ pre) : ((pre ++ [(0, 1)]).takeWhile fun x : Fil => decide (x ≠ (0, 1))) = pre := by
  induction pre with
  | nil => simp
  | cons y ys ih =>
    have hy : y ≠ (0, 1) := fun e => h (by rw [e]; simp)
    rw [List.cons_append, List.takeWhile_cons, if_pos (by simpa using hy), ih (fun hm => h (List.mem_cons_of_mem _ hm))]
theorem accW_snoc (s : Spc) (pre : List Fil) (x : Fil) : accW s (pre ++ [x]) = if x.2 = 1 then accW s pre else accW s pre ++ [nmoL s x] := by
  unfold accW
  rw [List.filter_append, List.map_append]
  by_cases h : x.2 = 1 <;> simp [h]
theorem accW_len (s : Spc) (pre : List Fil) : (accW s pre).length ≤ pre.length := by
  unfold accW
  rw [List.length_map]
  exact List.length_filter_le _ _
theorem any_step {F : Fence} {n : Nat} {P : Program} {ops : Array Oper} {Q : Exit → Act → World → Prop} {fuel : Nat} {listed : Array Bool} {a : Act} {w : World} {rs : List Nat} (hr : Region.ready .any ops listed = rs) (hne : rs ≠ [])
    (h : ∀ i ∈ rs, wpOpIn F n P ops Q i (wpAnyIn F n P .any ops Q fuel (listed.setIfInBounds i true)) a w) : wpAnyIn F n P .any ops Q (fuel + 1) listed a w :=
  ⟨fun h0 => absurd (hr.symm.trans h0) hne, fun i hi => h i (hr ▸ hi)⟩
theorem op_list {F : Fence} {n : Nat} {P : Program} {ops l : Array Oper} {Q : Exit → Act → World → Prop} {i : Nat} {o : Oper} {K : Act → World → Prop} {a : Act} {w : World} (hops : ops = l) (ho : l[i]? = some o)
    (h : ∀ K' : Act → World → Prop, (∀ a w, K a w → K' a w) → wpListIn F n P ops (Exit.then K' Q) [o] a w) : wpOpIn F n P ops Q i K a w := by
  have h1 := h K fun _ _ h => h
  subst hops
  unfold wpOpIn
  rw [ho]
  unfold wpListIn at h1
  simp only
  split at h1
  · rename_i hw
    rw [if_pos hw]
    refine ⟨h1.1, ?_⟩
    have h2 := h1.2
    generalize (o.semAt F.round a.eval).run P w = r at h2
    cases r with
    | ok x w' => cases x <;> exact h2
    | halt x w' => cases x <;> exact h2
  · rename_i hw
    rw [if_neg hw]
    exact h1
theorem any_start {F : Fence} {n : Nat} {P : Program} {ops : Array Oper} {Q : Exit → Act → World → Prop} {id : Nat} {a : Act} {w : World} (hm : P.follows .mixedOrders = true) (k : Nat) (hk : ops.size = k)
    (h : ∀ ops', ops' = ops → wpAnyIn F n P .any ops' Q k (Array.replicate k false) a w.drew) : (Code.region id ops true).wpIn F n P Q a w := by
  subst hk
  exact wpIn_region_any hm (h ops rfl)
theorem appended_ {W w1 : World} {base B : Nat} {t e : TypeId} {size : Nat} {v v' : Value} {k m : Nat} {xs ys : List Value} {tmp : Obj}
    (hv : Boxed W B t v) (hrow : W.ownsRow base e size v k xs) (hbase : base ≤ W.heap.size) (hB : B < base)
    (hown' : w1.ownsRow base e size v' m ys) (hgrow : (W.alloc tmp).grownBy w1 v.ownBlock) :
    Boxed w1 B t v ∧ Boxed (w1.setCell ⟨B, 0, none⟩ v') B t v' ∧ (w1.setCell ⟨B, 0, none⟩ v').ownsRow base e size v' m ys ∧ KeepsOthers W (w1.setCell ⟨B, 0, none⟩ v') ∧
      Below B W (w1.setCell ⟨B, 0, none⟩ v') ∧ (∀ j : Nat, j < base → j ≠ B → (w1.setCell ⟨B, 0, none⟩ v').heap[j]? = W.heap[j]?) ∧
      ∀ (j : Nat) (cs : Array Value) (t' : TypeId), t' ≠ e → t' ≠ t → W.heap[j]? = some (.cells cs t') → (w1.setCell ⟨B, 0, none⟩ v').heap[j]? = some (.cells cs t') := by
  have hne : ∀ j, j < base → some j ≠ v.ownBlock := by
    intro j hj e
    have := World.ownsRow.lt hrow j e.symm
    omega
  have hblk : ∀ j, j < base → w1.heap[j]? = W.heap[j]? := fun j hj => (hgrow.block j (by simp; omega) (hne j hj)).trans (Below.heap_alloc W tmp j (by omega))
  have hv1 : Boxed w1 B t v := (hblk B hB).trans hv
  refine ⟨hv1, hv1.set v', ownsRow_setCell_below hown' hB v', ?_, ?_, fun j hj hj' => (Below.heap_setCell w1 ⟨B, 0, none⟩ v' j hj').trans (hblk j hj), ?_⟩
  · refine ((KeepsOthers.alloc W tmp).trans (KeepsOthers.of_grownBy hgrow fun j o ej hj => ?_)).trans (KeepsOthers.setCell _ _ _)
    rcases (hrow.alloc tmp).2 with ⟨rfl, _⟩ | ⟨g, cap, cur, rfl, _, hgb, _⟩
    · simp [Value.ownBlock] at ej
    · obtain rfl : g = j := by simpa [Value.ownBlock] using ej
      rw [hgb] at hj; cases hj; rfl
  · have hs := hgrow.size
    simp at hs
    exact ⟨hgrow.os, hgrow.tape, hgrow.output, by simp [World.setCell]; omega, fun j hj => (Below.heap_setCell w1 ⟨B, 0, none⟩ v' j (by show j ≠ B; omega)).trans (hblk j (by omega))⟩
  · intro j cs t' he ht hj
    have hjl := lt_some hj
    refine (Below.heap_setCell w1 ⟨B, 0, none⟩ v' j fun eq => ?_).trans (((hgrow.block j (by simp; omega) fun eq => ?_).trans (Below.heap_alloc W tmp j (by omega))).trans hj)
    · have eq' : j = B := eq
      subst eq'
      rw [show W.heap[j]? = _ from hv] at hj
      injection hj with hj
      injection hj with _ h2
      exact ht h2.symm
    · rcases hrow.2 with ⟨rfl, _⟩ | ⟨g, cap, cur, rfl, _, hgb, _⟩
      · simp [Value.ownBlock] at eq
      · obtain rfl : j = g := by simpa [Value.ownBlock] using eq
        rw [hgb] at hj
        injection hj with hj
        injection hj with _ h2
        exact he h2.symm
theorem Moves.row {own : Nat → Prop} {B : Nat} {X Y : World} (h : Moves own B X Y) {base e size k : Nat} {v : Value} {xs : List Value} (hr : X.ownsRow base e size v k xs) (ho : ∀ b, own b → b < base) : Y.ownsRow base e size v k xs := by
  refine ⟨hr.1, ?_⟩
  rcases hr.2 with h' | ⟨g, cap, cur, hv, hg, hb, r⟩
  · exact .inl h'
  · refine .inr ⟨g, cap, cur, hv, hg, ?_, r⟩
    exact (h.block g (Array.getElem?_eq_some_iff.1 hb).1 (fun e => by have := ho g e; omega) (.inr ⟨_, hb, rfl⟩)).trans hb
set_option maxRecDepth 100000 in
set_option maxHeartbeats 4000000 in
theorem where_o (n : Nat) (hn : Hid (4 ≤ n)) (s : Spc) (hs : SpcB s) (hnm : ∀ x, (nmoL s x).size ≤ 100) (hmo : mostL s.files ≤ 5000) (dir : Fil) (ds ms : Value) (w : World) (h : SpcIn s w.heap.size w ds ms) :
    CallsIn Fence.wide n Try.prog 23 #[.agg #[ds, ms], FilV dir] w fun e w' => e = .returned (.tuple #[.string (whereP s dir).1, .bool (whereP s dir).2]) ∧ Below w.heap.size w w' := by
  obtain ⟨i0, hi0, hz0, hz1, hz2⟩ := info_parts Try.infoStr
  have HNM := Lib.hid hnm
  clear hnm
  unfold FilV
  refine callsIn_of_wp_marks Try.func23 rfl trivial ?_ rfl
  simp only [Try.ntmps23, List.size_toArray, List.length_cons, List.length_nil, Nat.reduceAdd, Nat.reduceSub, Array.replicate_succ, Array.replicate_zero, List.push_toArray, List.append_toArray, List.nil_append, List.cons_append]
  gi_wp2_with fail
  obtain ⟨W4, hW4⟩ : ∃ W4, (((w.alloc (.cells #[ds, ms] 32)).alloc (.cells #[.int .i64 dir.1, .int .i64 dir.2] 24)).alloc (.cells #[.string ⟨#[]⟩] 9)).alloc (.cells #[.bool false] 4) = W4 := ⟨_, rfl⟩
  have hz4 : W4.heap.size = w.heap.size + 4 := by rw [← hW4]; simp
  have hB4 : Below w.heap.size w W4 := by rw [← hW4]; exact below_a4 _ _ _ _ _
  have kS : W4.heap[w.heap.size]? = some (.cells #[ds, ms] 32) := by rw [← hW4]; exact blk_a4_0 _ _ _ _ _
  have kD : W4.heap[w.heap.size + 1]? = some (.cells #[.int .i64 dir.1, .int .i64 dir.2] 24) := by rw [← hW4]; exact blk_a4_1 _ _ _ _ _
  have kP : Boxed W4 (w.heap.size + 1 + 1) 9 (.string ⟨#[]⟩) := by rw [← hW4]; exact blk_a4_2 _ _ _ _ _
  have kE : Boxed W4 (w.heap.size + 1 + 1 + 1) 4 (.bool false) := by rw [← hW4]; exact blk_a4_3 _ _ _ _ _
  have hSp := h.below hB4 (Nat.le_refl _)
  rw [hW4]
  have HZ4 := Lib.hid hz4
  clear hW4
  refine wideCall ((callsIn_wide.2 (isDir_o hSp hs dir)).mono ?_)
  rintro e W5 ⟨rfl, hb5⟩
  obtain ⟨di, hdi⟩ : ∃ di, dirL s.files dir = di := ⟨_, rfl⟩
  rw [hdi]
  have hz5 := hb5.size
  have k5S := blk_below kS hb5 (lt_some kS)
  have k5D := blk_below kD hb5 (lt_some kD)
  have k5P : Boxed W5 (w.heap.size + 1 + 1) 9 (.string ⟨#[]⟩) := blk_below kP hb5 (lt_some kP)
  have k5E : Boxed W5 (w.heap.size + 1 + 1 + 1) 4 (.bool false) := blk_below kE hb5 (lt_some kE)
  have hB5 : Below w.heap.size w W5 := hB4.trans (hb5.mono hB4.size)
  have h5 := h.below hB5 (Nat.le_refl _)
  have HZ5 : Hid (w.heap.size + 4 ≤ W5.heap.size) := Lib.hid (by omega)
  have HDI := Lib.hid hdi
  clear kS kD kP kE hB4 hSp hb5 hz4 hz5 hdi HZ4
  obtain ⟨c0, f0⟩ := cells_of k5S
  obtain ⟨c1, f1⟩ := cells_of k5D
  have c2 := k5P.cell
  have f2 := k5P.frozen
  have c3 := k5E.cell
  have f3 := k5E.frozen
  cases di with
  | false =>
    have HW : Hid (whereP s dir = (⟨#[]⟩, false)) := Lib.hid (by unfold whereP; rw [HDI.out]; simp)
    gi_wp2
    refine ⟨trivial, ?_⟩
    gi_wp2
    have hP := (Boxed.other (k5P.set (.string ⟨#[]⟩)) (show w.heap.size + 1 + 1 ≠ w.heap.size + 1 + 1 + 1 by omega) (.bool false)).cell
    have hE := ((Boxed.other k5E (show w.heap.size + 1 + 1 + 1 ≠ w.heap.size + 1 + 1 by omega) (.string ⟨#[]⟩)).set (.bool false)).cell
    refine ⟨.tuple #[.string ⟨#[]⟩, .bool false], by simp [results, Try.f23, go_sem, hP, hE], by rw [HW.out], (hB5.setCell (by show w.heap.size ≤ w.heap.size + 1 + 1; omega) _).setCell (by show w.heap.size ≤ w.heap.size + 1 + 1 + 1; omega) _⟩
  | true =>
    gi_wp2_with fail
    refine wideCall ((callsIn_wide.2 (mounted_o h5 hs dir.1)).mono ?_)
    rintro e W6 ⟨rfl, hb6⟩
    obtain ⟨mi, hmi⟩ : ∃ mi, mtdL s dir.1 = mi := ⟨_, rfl⟩
    rw [hmi]
    have hz6 := hb6.size
    have k6S := blk_below k5S hb6 (lt_some k5S)
    have k6D := blk_below k5D hb6 (lt_some k5D)
    have k6P : Boxed W6 (w.heap.size + 1 + 1) 9 (.string ⟨#[]⟩) := blk_below k5P hb6 (lt_some k5P)
    have k6E : Boxed W6 (w.heap.size + 1 + 1 + 1) 4 (.bool false) := blk_below k5E hb6 (lt_some k5E)
    have hB6 : Below w.heap.size w W6 := hB5.trans (hb6.mono hB5.size)
    have HZ6 : Hid (w.heap.size + 4 ≤ W6.heap.size) := Lib.hid (by have := HZ5.out; omega)
    have HMI := Lib.hid hmi
    clear k5S k5D k5P k5E hB5 h5 hb6 hz6 hmi HZ5 c0 f0 c1 f1 c2 f2 c3 f3
    obtain ⟨c0, f0⟩ := cells_of k6S
    obtain ⟨c1, f1⟩ := cells_of k6D
    have c2 := k6P.cell
    have f2 := k6P.frozen
    have c3 := k6E.cell
    have f3 := k6E.frozen
    cases mi with
    | false =>
      have HW : Hid (whereP s dir = (⟨#[]⟩, false)) := Lib.hid (by unfold whereP; rw [HMI.out]; simp)
      gi_wp2
      have hP := (Boxed.other (k6P.set (.string ⟨#[]⟩)) (show w.heap.size + 1 + 1 ≠ w.heap.size + 1 + 1 + 1 by omega) (.bool false)).cell
      have hE := ((Boxed.other k6E (show w.heap.size + 1 + 1 + 1 ≠ w.heap.size + 1 + 1 by omega) (.string ⟨#[]⟩)).set (.bool false)).cell
      refine ⟨.tuple #[.string ⟨#[]⟩, .bool false], by simp [results, Try.f23, go_sem, hP, hE], by rw [HW.out], (hB6.setCell (by show w.heap.size ≤ w.heap.size + 1 + 1; omega) _).setCell (by show w.heap.size ≤ w.heap.size + 1 + 1 + 1; omega) _⟩
    | true =>
      have HW : Hid (whereP s dir = if (0, 1) ∈ chainP s (mostL s.files) dir then (pathW s ((chainP s (mostL s.files) dir).takeWhile fun x => decide (x ≠ (0, 1))), true) else (⟨#[]⟩, false)) := Lib.hid (by unfold whereP; rw [HDI.out, HMI.out]; simp)
      obtain ⟨d0, g0⟩ := cells_of (blk_alloc k6S (.cells #[.slice none 0 0] 88))
      obtain ⟨d1, g1⟩ := cells_of (blk_alloc k6D (.cells #[.slice none 0 0] 88))
      gi_wp2_with fail
      obtain ⟨W7, hW7⟩ : ∃ W7, W6.alloc (.cells #[.slice none 0 0] 88) = W7 := ⟨_, rfl⟩
      have hB7 : Below W6.heap.size W6 W7 := by rw [← hW7]; exact below_a1 _ _
      have hz7 : W7.heap.size = W6.heap.size + 1 := by rw [← hW7]; simp
      have kN : Boxed W7 W6.heap.size 88 (.slice none 0 0) := by rw [← hW7]; exact blk_a1_0 _ _
      rw [hW7]
      clear hW7 d0 g0 d1 g1 c0 f0 c1 f1 c2 f2 c3 f3
      refine wideCall ((callsIn_wide.2 (chain_any ds ms dir W7)).mono ?_)
      rintro e W9 ⟨rfl, hW9⟩
      have hB9 : Below W7.heap.size W7 W9 := by rw [hW9]; exact below_a2 _ _ _
      have hz9 : W9.heap.size = W6.heap.size + 3 := by rw [hW9]; simp [hz7]
      have cS : W9.heap[W7.heap.size]? = some (.cells #[ds, ms] 32) := by rw [hW9]; exact blk_a2_0 _ _ _
      have cD : W9.heap[W7.heap.size + 1]? = some (.cells #[.int .i64 dir.1, .int .i64 dir.2] 24) := by rw [hW9]; exact blk_a2_1 _ _ _
      have hB69 : Below W6.heap.size W6 W9 := hB7.trans (hB9.mono (by omega))
      have kN9 : Boxed W9 W6.heap.size 88 (.slice none 0 0) := blk_below kN hB9 (by omega)
      have k9S := blk_below k6S hB69 (lt_some k6S)
      have k9P : Boxed W9 (w.heap.size + 1 + 1) 9 (.string ⟨#[]⟩) := blk_below k6P hB69 (lt_some k6P)
      have k9E : Boxed W9 (w.heap.size + 1 + 1 + 1) 4 (.bool false) := blk_below k6E hB69 (lt_some k6E)
      have hBw : Below w.heap.size w W9 := hB6.trans (hB69.mono hB6.size)
      have kSp := h.below hBw (Nat.le_refl _)
      have HZ9 : Hid (W7.heap.size = W6.heap.size + 1 ∧ W9.heap.size = W6.heap.size + 3) := Lib.hid ⟨hz7, hz9⟩
      clear hW9 kN hB7 hB9 hB69 hB6 hz7 hz9 k6S k6D k6P k6E
      gi_wp2_with fail
      refine wpIn_rangeFunc_sa rfl (by have := hn.out; omega) (gf := 86) rfl trivial (enters_of Try.func86 (by kernel_rfl) rfl)
        (chain1 (n - 1) s hs dir w.heap.size W7.heap.size (W7.heap.size + 1) ds ms W9 cS cD kSp (by have := HZ9.out; have := HZ6.out; omega) (by have := HZ9.out; have := HZ6.out; omega) (by omega))
        (fun b hb => by have := HZ9.out; omega) KeepC.trans (fun W l o o' hl ho hc => by have := HZ9.out; have := HZ6.out; exact keepC_put (B := W9.heap.size) (by omega) (by omega) (by omega) W l o o' hl ho hc) (Below.refl _ _) (fun _ => rfl)
        (fun pre W => W.heap[w.heap.size]? = some (.cells #[ds, ms] 32) ∧ Boxed W (w.heap.size + 1 + 1) 9 (.string ⟨#[]⟩) ∧ Boxed W (w.heap.size + 1 + 1 + 1) 4 (.bool false) ∧ (∃ v, Boxed W W6.heap.size 88 v ∧ W.ownsRow W9.heap.size 9 1 v (accW s pre).length ((accW s pre).map Value.string)) ∧ (0, 1) ∉ pre ∧ Below w.heap.size w W)
        (fun c pre W => c = .ret ∧ Boxed W (w.heap.size + 1 + 1) 9 (.string (pathW s (pre.takeWhile fun x : Fil => decide (x ≠ (0, 1))))) ∧ Boxed W (w.heap.size + 1 + 1 + 1) 4 (.bool true) ∧ (0, 1) ∈ pre ∧ Below w.heap.size w W)
        (fun s X Y h hm => by
          obtain ⟨h1, h2, h3, ⟨v, h4, h5⟩, h6, h7⟩ := h
          have z9 := HZ9.out
          have z6 := HZ6.out
          exact ⟨(hm.block _ (lt_some h1) (by omega) (.inr ⟨_, h1, rfl⟩)).trans h1, hm.boxed h2 (by omega), hm.boxed h3 (by omega), ⟨v, hm.boxed h4 (by omega), hm.row h5 (fun b hb => by omega)⟩, h6, hm.under h7 (Nat.le_refl _) (fun b hb => by omega) (by omega)⟩)
        (fun c s X Y h hm => by
          obtain ⟨h1, h2, h3, h6, h7⟩ := h
          have z9 := HZ9.out
          have z6 := HZ6.out
          exact ⟨h1, hm.boxed h2 (by omega), hm.boxed h3 (by omega), h6, hm.under h7 (Nat.le_refl _) (fun b hb => by omega) (by omega)⟩)
        ⟨k9S, k9P, k9E, ⟨_, kN9, World.ownsRow_nil _ _ _ _⟩, by simp, hBw⟩
        (fun x W => { tmps := #[.agg #[ds, ms], .agg #[.int .i64 dir.1, .int .i64 dir.2], .pointer (some ⟨w.heap.size, 0, none⟩), .pointer (some ⟨w.heap.size + 1, 0, none⟩), .pointer (some ⟨w.heap.size + 1 + 1, 0, none⟩), .pointer (some ⟨w.heap.size + 1 + 1 + 1, 0, none⟩), .pointer (some ⟨W6.heap.size, 0, none⟩), .pointer (some ⟨W.heap.size, 0, none⟩), undef, undef, undef, .agg #[ds, ms],
          .agg #[.int .i64 dir.1, .int .i64 dir.2], .bool true, .bool false, .bool false, .agg #[ds, ms], .pointer (some ⟨w.heap.size + 1, 0, none⟩), .int .i64 dir.1, .bool true, .bool false, .bool false, .agg #[ds, ms], .agg #[.int .i64 dir.1, .int .i64 dir.2],
          .func (.func 86) #[] #[.pointer (some ⟨W7.heap.size, 0, none⟩), .pointer (some ⟨W7.heap.size + 1, 0, none⟩)], .agg #[.int .i64 x.1, .int .i64 x.2], undef, undef, undef, undef, undef, undef, undef, undef, undef, undef, undef, undef, undef, undef, undef, undef, undef, undef, undef, undef, undef, undef], defers := [] })
        (fun x W => W.alloc (.cells #[.int .i64 x.1, .int .i64 x.2] 24))
        (fun x W hsz => ⟨below_a1 _ _, by have := HZ9.out; have := HZ6.out; exact keepC_below (below_a1 _ _) (by omega) (by omega) (by omega)⟩) ?assign ?body ?done ?stop
      case assign =>
        intro l x W K hsz hK
        unfold FilV
        gi_wp2
        exact hK
      case body =>
        rintro l pre x W0 W ⟨c1, cP, cE, ⟨v, cN, hrow⟩, hnm, hbw⟩ hpf hsz hszW hcell hlW hrl
        have cX := hcell _ _ (blk_a1_0 W0 (.cells #[.int .i64 x.1, .int .i64 x.2] 24)) rfl
        simp only [size_a1] at hszW
        have HN := Lib.hid hnm
        have HZ := Lib.hid hsz
        have HPF := Lib.hid hpf
        clear hnm hsz hcell hpf k9S k9P k9E kN9 cS cD kSp
        obtain ⟨a1, b1⟩ := cells_of c1
        obtain ⟨aX, bX⟩ := cells_of cX
        have aP := cP.cell
        have bP := cP.frozen
        have aE := cE.cell
        have bE := cE.frozen
        have aN := cN.cell
        have bN := cN.frozen
        obtain ⟨xd, xi⟩ := x
        simp only at aX cX
        by_cases hx : (xd, xi) = (0, 1)
        · obtain ⟨rfl, rfl⟩ := Prod.mk.inj hx
          obtain ⟨A, cc, rfl⟩ : ∃ A c, v = .slice A (accW s pre).length c := by
            rcases hrow.2 with ⟨rfl, hn⟩ | ⟨g, cap, cur, rfl, _⟩
            · exact ⟨none, 0, by rw [hn]⟩
            · exact ⟨_, _, rfl⟩
          have cN' : Boxed (W.alloc (.cells #[.string ⟨#[47]⟩] 9)) W6.heap.size 88 (.slice A (accW s pre).length cc) := blk_alloc cN _
          have aN' := cN'.cell
          gi_wp2_with fail
          refine wideCall ((CallsIn.inRound l (callsIn_wide.2 (backward_any A (accW s pre).length cc _))).mono ?_)
          rintro e Wb ⟨rfl, hWb⟩
          have z9 := HZ9.out
          have z6 := HZ6.out
          have zz := HZ.out
          obtain ⟨g, hgl, hNI⟩ := namesIn_row hrow (g0 := w.heap.size) (by omega)
          have hza : (W.alloc (.cells #[.string ⟨#[47]⟩] 9)).heap.size = W.heap.size + 1 := size_a1 _ _
          rw [hza]
          have hBb : Below W.heap.size W Wb := by rw [hWb]; exact below_a2 _ _ _
          have hzb : Wb.heap.size = W.heap.size + 2 := by rw [hWb]; exact size_a2 _ _ _
          have kW : Boxed Wb W.heap.size 9 (.string ⟨#[47]⟩) := by rw [hWb]; exact blk_a2_0 _ _ _
          have kB : Boxed Wb (W.heap.size + 1) 88 (.slice A (accW s pre).length cc) := by rw [hWb]; exact blk_a2_1 _ _ _
          have kP : Boxed Wb (w.heap.size + 1 + 1) 9 (.string ⟨#[]⟩) := blk_below cP hBb (lt_some cP)
          have kE : Boxed Wb (w.heap.size + 1 + 1 + 1) 4 (.bool false) := blk_below cE hBb (lt_some cE)
          have kG := hNI.keep (hBb.block g hgl)
          have kL : ∃ r, Wb.heap[l]? = some (.loop r) := hrl.imp fun r hr => blk_below hr hBb (lt_some hr)
          obtain ⟨rl, kL⟩ := kL
          have hbb : Below w.heap.size w Wb := hbw.trans (hBb.mono hbw.size)
          have hkf : KeepsFrom W9.heap.size W Wb := keepsFrom_below hBb
          have hlen : (accW s pre).length ≤ 5000 := by
            have h1 := accW_len s pre
            have h2 := HPF.out.length_le
            have h3 := chainP_len s (mostL s.files) dir
            simp only [List.length_append] at h2
            omega
          have hall : ∀ y ∈ accW s pre, y.size ≤ 100 := by
            intro y hy
            unfold accW at hy
            obtain ⟨z, _, rfl⟩ := List.mem_map.1 hy
            exact HNM.out z
          have HL := Lib.hid hlen
          have HA := Lib.hid hall
          have HB := Lib.hid hzb
          have HGL := Lib.hid hgl
          clear hWb cN' aN' a1 b1 aX bX aP bP aE bE aN bN hza hlen hall hzb hgl z9 z6 zz
          gi_wp2_with fail
          refine wpIn_rangeFunc_sn (l₀ := l) (r₀ := rl) rfl kL (by have := hn.out; omega) (gf := 87) rfl trivial (enters_of Try.func87 (by kernel_rfl) rfl)
            ((backward1 (n - 1 - 1 - 1) (accW s pre) (by have := HL.out; omega) (W.heap.size + 1) g A (accW s pre).length cc Wb kB kG (.inr (by have := HB.out; have := HGL.out; omega))).inRound l)
            (fun b hb => hb.elim) (fun h k => ⟨k.1.trans h.1, k.2.trans h.2⟩) (fun X l' o o' hl' _ _ => by have := HB.out; have := HGL.out; exact ⟨World.putObj_heap_other (by omega), World.putObj_heap_other (by omega)⟩) (Below.refl _ _) (fun _ => rfl)
            (fun pr X => Boxed X W.heap.size 9 (.string ((pr.map (·.2)).foldl joinS ⟨#[47]⟩)) ∧ Boxed X (w.heap.size + 1 + 1) 9 (.string ⟨#[]⟩) ∧ Boxed X (w.heap.size + 1 + 1 + 1) 4 (.bool false) ∧ KeepsFrom W9.heap.size W X ∧ Below w.heap.size w X)
            (fun _ _ _ => False)
            (fun s' X Y h hm => ⟨hm.boxed h.1 (fun h => h), hm.boxed h.2.1 (fun h => h), hm.boxed h.2.2.1 (fun h => h), ⟨Nat.le_trans h.2.2.2.1.size hm.size, fun k o hk hko hc => by
              have hX := h.2.2.2.1.same k o hk hko hc
              have := lt_some hko
              have := HB.out
              exact (hm.block k (lt_some hX) (fun h => h) (.inl (by omega))).trans hX⟩, hm.under h.2.2.2.2 (Nat.le_refl _) (fun b hb => hb.elim) (by have := HB.out; have := HZ.out; have := HZ9.out; have := HZ6.out; omega)⟩)
            (fun _ _ _ _ h _ => h)
            ⟨kW, kP, kE, hkf, hbb⟩
            (fun y => { tmps := #[.agg #[ds, ms], .agg #[.int .i64 dir.1, .int .i64 dir.2], .pointer (some ⟨w.heap.size, 0, none⟩), .pointer (some ⟨w.heap.size + 1, 0, none⟩), .pointer (some ⟨w.heap.size + 1 + 1, 0, none⟩), .pointer (some ⟨w.heap.size + 1 + 1 + 1, 0, none⟩), .pointer (some ⟨W6.heap.size, 0, none⟩), .pointer (some ⟨W0.heap.size, 0, none⟩), .pointer (some ⟨W.heap.size, 0, none⟩), undef, .string y.2, .agg #[ds, ms],
              .agg #[.int .i64 dir.1, .int .i64 dir.2], .bool true, .bool false, .bool false, .agg #[ds, ms], .pointer (some ⟨w.heap.size + 1, 0, none⟩), .int .i64 dir.1, .bool true, .bool false, .bool false, .agg #[ds, ms], .agg #[.int .i64 dir.1, .int .i64 dir.2],
              .func (.func 86) #[] #[.pointer (some ⟨W7.heap.size, 0, none⟩), .pointer (some ⟨W7.heap.size + 1, 0, none⟩)], .agg #[.int .i64 0, .int .i64 1], .bool true, .agg #[.int .i64 0, .int .i64 1], .agg #[.int .i64 0, .int .i64 1], .bool true, .slice A (accW s pre).length cc,
              .func (.func 87) #[] #[.pointer (some ⟨W.heap.size + 1, 0, none⟩)], .int .i64 y.1, .string y.2, undef, undef, undef, undef, undef, undef, undef, undef, undef, undef, undef, undef, undef, undef], defers := [] }) ?assign2 ?body2 ?done2 ?stop2
          case assign2 =>
            intro l2 y X K hK
            gi_wp2
            exact hK
          case body2 =>
            rintro l2 pr y X ⟨e1, e2, e3, e4, e5⟩ hpf2 hszX
            have hp1 : (pr.map (·.2) ++ [y.2]) <+: (accW s pre).reverse := by simpa using hpf2
            have hl1 := hp1.length_le
            have hs1 := fold_size (pr.map (·.2)) ⟨#[47]⟩ fun z hz => HA.out z (List.mem_reverse.1 (hp1.subset (List.mem_append_left _ hz)))
            have hs2 : y.2.size ≤ 100 := HA.out _ (List.mem_reverse.1 (hp1.subset (by simp)))
            have hs3 : ((pr.map (·.2)).foldl joinS ⟨#[47]⟩).size ≤ 1000000 := by
              have h1 : (⟨#[47]⟩ : ByteArray).size = 1 := rfl
              have := HL.out
              simp only [List.length_append, List.length_map, List.length_cons, List.length_nil, List.length_reverse] at hl1
              simp only [List.length_map] at hs1
              omega
            have HF : Hid (((pr ++ [y]).map (·.2)).foldl joinS ⟨#[47]⟩ = joinS ((pr.map (·.2)).foldl joinS ⟨#[47]⟩) y.2) := Lib.hid (by simp)
            clear hpf2 hp1 hl1 hs1
            generalize (pr.map (·.2)).foldl joinS ⟨#[47]⟩ = dd at *
            obtain ⟨yi, yn⟩ := y
            simp only at hs2 HF
            have t1 := e1.cell
            have t2 := e1.frozen
            gi_wp2_with fail
            refine wideCall ((CallsIn.inRound l2 (CallsIn.inRound l (callsIn_wide.2 (join_o dd yn X hs3 (by omega))))).mono ?_)
            rintro e X' ⟨rfl, rfl⟩
            gi_wp2
            have := HB.out
            have hgl := HGL.out
            have z9 := HZ9.out
            have z6 := HZ6.out
            have zz := HZ.out
            refine ⟨keepsFrom_set (KeepsFrom.refl _ _) (by omega) _, ⟨Below.heap_setCell _ _ _ _ (by show W.heap.size + 1 ≠ W.heap.size; omega), Below.heap_setCell _ _ _ _ (by show g ≠ W.heap.size; omega)⟩, by rw [HF.out]; exact e1.set _, e2.other (by omega) _, e3.other (by omega) _, ?_, e5.setCell (by show w.heap.size ≤ W.heap.size; omega) _⟩
            refine ⟨Nat.le_trans e4.size (by simp), fun k o hk hko hc => ?_⟩
            have := lt_some hko
            exact (Below.heap_setCell _ _ _ _ (by show k ≠ W.heap.size; omega)).trans (e4.same k o hk hko hc)
          case done2 =>
            rintro xs X hS ⟨e1, e2, e3, e4, e5⟩
            rw [hS] at e1
            change Boxed X W.heap.size 9 (.string (pathW s pre)) at e1
            have t1 := e1.cell
            have t2 := e1.frozen
            have t3 := e2.cell
            have t4 := e2.frozen
            have t5 := e3.cell
            have t6 := e3.frozen
            clear hS
            gi_wp2_with fail
            have z9 := HZ9.out
            have z6 := HZ6.out
            have zz := HZ.out
            refine ⟨keepsFrom_set (keepsFrom_set e4 (by omega) _) (by omega) _, rfl, ?_, (Boxed.other e3 (by omega) _).set _, by simp, (e5.setCell (by show w.heap.size ≤ w.heap.size + 1 + 1; omega) _).setCell (by show w.heap.size ≤ w.heap.size + 1 + 1 + 1; omega) _⟩
            rw [takeWhile_no HN.out]
            exact Boxed.other (e2.set _) (by omega) _
          case stop2 =>
            intro c pr X _ hf
            exact hf.elim
        · by_cases hi : xi = 1
          · subst hi
            have hd : xd ≠ 0 := fun e => hx (by rw [e])
            gi_wp2_with fail
            have z9 := HZ9.out
            have z6 := HZ6.out
            have zz := HZ.out
            exact ⟨keepsFrom_below (Below.refl _ _), keepC_below (Below.refl _ _) (by omega) (by omega) (by omega), c1, cP, cE, ⟨v, cN, by rw [accW_snoc, if_pos rfl]; exact hrow⟩, by
              intro hm
              rcases List.mem_append.1 hm with hm | hm
              · exact HN.out hm
              · exact hx (List.mem_singleton.1 hm).symm, hbw⟩
          · gi_wp2_with fail
            have hbd : Below W.heap.size W W.drew := (Below.refl _ _).drew
            have d1 : W.drew.heap[w.heap.size]? = some (.cells #[ds, ms] 32) := c1
            have dX : W.drew.heap[W0.heap.size]? = some (.cells #[.int .i64 xd, .int .i64 xi] 24) := cX
            have dN : Boxed W.drew W6.heap.size 88 v := cN
            have dP : Boxed W.drew (w.heap.size + 1 + 1) 9 (.string ⟨#[]⟩) := cP
            have dE : Boxed W.drew (w.heap.size + 1 + 1 + 1) 4 (.bool false) := cE
            have drow : W.drew.ownsRow W9.heap.size 9 1 v (accW s pre).length ((accW s pre).map Value.string) := hrow
            refine any_start (by kernel_rfl) 7 rfl ?_
            intro ops hops
            have HO := Lib.hid hops
            clear hops
            have hszD : W.drew.heap.size = W.heap.size := rfl
            have hszO := hszW
            rw [← hszD] at hszW
            have hbW := hbd
            clear a1 b1 aX bX aP bP aE bE aN bN c1 cX cN cP cE hrow hszD hrl hbd
            generalize W.drew = W1 at *
            obtain ⟨a1, b1⟩ := cells_of d1
            obtain ⟨aX, bX⟩ := cells_of dX
            have aN := dN.cell
            have bN := dN.frozen
            have hB1 : Below w.heap.size w W1 := hbw.trans (hbW.mono hbw.size)
            have hcall : ∀ X, Below w.heap.size w X → Calls Try.prog 57 #[.agg #[ds, ms], .agg #[.int .i64 xd, .int .i64 xi]] X fun e w' => e = .returned (.string (nmoL s (xd, xi))) ∧ Below X.heap.size X w' := by
              intro X hX
              have hSX := h.below hX (Nat.le_refl _)
              refine (calls_rep (PnameOf s (xd, xi) hs) (vs := [.agg #[ds, ms], .agg #[.int .i64 xd, .int .i64 xi]]) hSX.1 (fso hSX hs (xd, xi))).mono ?_
              rintro e w' ⟨u, G', rfl, hr, hb⟩
              simp only [rep] at hr
              exact ⟨by rw [hr], hb⟩
            have tail : ∀ w2 : World, Below W1.heap.size W1 w2 → (w2.alloc (.cells #[.string (nmoL s (xd, xi))] 9)).cell? ⟨W6.heap.size, 0, none⟩ = some v →
                wpAnyIn (Fence.wide.inRound l) (n - 1 - 1) Try.prog .any ops (Exit.inBlock 2 (Exit.inBlock 1 (ownPostG W9.heap.size (KeepC w.heap.size W7.heap.size (W7.heap.size + 1))
                  (fun pre W => W.heap[w.heap.size]? = some (.cells #[ds, ms] 32) ∧ Boxed W (w.heap.size + 1 + 1) 9 (.string ⟨#[]⟩) ∧ Boxed W (w.heap.size + 1 + 1 + 1) 4 (.bool false) ∧ (∃ v, Boxed W W6.heap.size 88 v ∧ W.ownsRow W9.heap.size 9 1 v (accW s pre).length ((accW s pre).map Value.string)) ∧ (0, 1) ∉ pre ∧ Below w.heap.size w W)
                  (fun c pre W => c = .ret ∧ Boxed W (w.heap.size + 1 + 1) 9 (.string (pathW s (pre.takeWhile fun x : Fil => decide (x ≠ (0, 1))))) ∧ Boxed W (w.heap.size + 1 + 1 + 1) 4 (.bool true) ∧ (0, 1) ∈ pre ∧ Below w.heap.size w W)
                  (pre ++ [(xd, xi)]) W))) 2 #[true, true, true, true, true, false, false]
                  { tmps := #[.agg #[ds, ms], .agg #[.int .i64 dir.1, .int .i64 dir.2], .pointer (some ⟨w.heap.size, 0, none⟩), .pointer (some ⟨w.heap.size + 1, 0, none⟩), .pointer (some ⟨w.heap.size + 1 + 1, 0, none⟩), .pointer (some ⟨w.heap.size + 1 + 1 + 1, 0, none⟩), .pointer (some ⟨W6.heap.size, 0, none⟩), .pointer (some ⟨W0.heap.size, 0, none⟩), undef, undef, undef, .agg #[ds, ms], .agg #[.int .i64 dir.1, .int .i64 dir.2], .bool true, .bool false, .bool false, .agg #[ds, ms], .pointer (some ⟨w.heap.size + 1, 0, none⟩), .int .i64 dir.1, .bool true, .bool false, .bool false, .agg #[ds, ms], .agg #[.int .i64 dir.1, .int .i64 dir.2], .func (.func 86) #[] #[.pointer (some ⟨W7.heap.size, 0, none⟩), .pointer (some ⟨W7.heap.size + 1, 0, none⟩)], .agg #[.int .i64 xd, .int .i64 xi], .bool false, .agg #[.int .i64 xd, .int .i64 xi], .agg #[.int .i64 0, .int .i64 1], .bool false, undef, undef, undef, undef, undef, undef, undef, undef, .bool true, .pointer (some ⟨W0.heap.size, 1, none⟩), .int .i64 xi, .bool true, v, .agg #[ds, ms], .agg #[.int .i64 xd, .int .i64 xi], .string (nmoL s (xd, xi)), .slice (some ⟨w2.heap.size, 0, none⟩) 1 1, undef], defers := [] } (w2.alloc (.cells #[.string (nmoL s (xd, xi))] 9)) := by
              intro w2 hb2 hcN
              have z9 := HZ9.out
              have z6 := HZ6.out
              have zz := HZ.out
              have hw2 := hb2.size
              have hw1 := hbW.size
              have drow2 : w2.ownsRow W9.heap.size 9 1 v (accW s pre).length ((accW s pre).map Value.string) := World.ownsRow.kept drow (grown_of_below hb2 none) (by cases v.ownBlock <;> simp)
              have dN2 : Boxed w2 W6.heap.size 88 v := blk_below dN hb2 (lt_some dN)
              have hlen : (accW s pre).length + 1 ≤ 100000 := by
                have h1 := accW_len s pre
                have h2 := HPF.out.length_le
                have h3 := chainP_len s (mostL s.files) dir
                simp only [List.length_append] at h2
                omega
              have hmx : (accW s pre).length + 1 ≤ maxLen := by unfold maxLen; omega
              have HZ2 : Hid (W9.heap.size ≤ w2.heap.size) := Lib.hid (by omega)
              have HZB : Hid (W6.heap.size < W9.heap.size) := Lib.hid (by omega)
              clear z9 z6 zz hw2 hw1
              refine any_step (rs := [5]) (by rw [HO.out]; kernel_rfl) (by simp) ?_
              intro i hi'
              obtain rfl := List.mem_singleton.1 hi'
              refine op_list HO.out rfl fun K hK => ?_
              refine wpListIn_append_own _ rfl _ _ 88 rfl W9.heap.size 9 i0 (.string ⟨#[]⟩) 1 16 Try.underlying88 hi0 hz0 hz1 hz2 rfl (by decide) _ _ _ rfl (drow2.alloc _) ⟨w2.heap.size, 0, none⟩ 1 1 [.string (nmoL s (xd, xi))] rfl rfl (cell_one_new _ _ _) (by simp [Value.oneCell']) (by omega) (by omega) (by have := HZ2.out; simp; omega) ?_
              intro v' w4 hown' hgrow _
              obtain ⟨g', cap', rfl⟩ := ownsRow_succ hown'
              obtain ⟨hv1, hv2, hr2, hk2, hb4, hj2, ht2⟩ := appended_ dN2 drow2 HZ2.out HZB.out hown' hgrow
              have hc1 := hv1.cell
              have hf1 := hv1.frozen
              gi_wp2
              refine any_step (rs := [6]) (by rw [HO.out]; kernel_rfl) (by simp) ?_
              intro i hi'
              obtain rfl := List.mem_singleton.1 hi'
              refine op_list HO.out rfl fun K hK => ?_
              gi_wp2
              refine ⟨by rw [HO.out]; kernel_rfl, ?_⟩
              have z9 := HZ9.out
              have z6 := HZ6.out
              have zz := HZ.out
              have hw2 := hb2.size
              have hw1 := hbW.size
              have hb02 : Below W.heap.size W w2 := hbW.trans (hb2.mono hw1)
              have e1 := (hj2 w.heap.size (by omega) (by omega)).trans (blk_below d1 hb2 (lt_some d1))
              have eP : Boxed _ (w.heap.size + 1 + 1) 9 (.string ⟨#[]⟩) := (hj2 (w.heap.size + 1 + 1) (by omega) (by omega)).trans (blk_below dP hb2 (lt_some dP))
              have eE : Boxed _ (w.heap.size + 1 + 1 + 1) 4 (.bool false) := (hj2 (w.heap.size + 1 + 1 + 1) (by omega) (by omega)).trans (blk_below dE hb2 (lt_some dE))
              refine ⟨(keepsFrom_below hb02).trans (hk2.from _), (keepC_below hb02 (by omega) (by omega) (by omega)).trans ⟨hk2.size, hj2 _ (by omega) (by omega), hj2 _ (by omega) (by omega), fun b hb => hj2 b (by omega) (by omega), fun b cs hb => ht2 b cs _ (by decide) (by decide) hb⟩, e1, eP, eE, ⟨_, hv2, ?_⟩, ?_, (hB1.trans (hb2.mono hB1.size)).trans (hb4.mono (by omega))⟩
              · rw [accW_snoc, if_neg (show ¬ (xd, xi).2 = 1 from hi), List.length_append, List.map_append]
                exact hr2
              · intro hm
                rcases List.mem_append.1 hm with hm | hm
                · exact HN.out hm
                · exact hx (List.mem_singleton.1 hm).symm
            refine any_step (rs := [0, 1, 2]) (by rw [HO.out]; kernel_rfl) (by simp) ?_
            intro i hi
            simp only [List.mem_cons, List.not_mem_nil, or_false] at hi
            rcases hi with rfl | rfl | rfl
            · skip
              refine op_list HO.out rfl fun K hK => ?_
              gi_wp2
              refine any_step (rs := [1, 2]) (by rw [HO.out]; kernel_rfl) (by simp) ?_
              intro i hi
              simp only [List.mem_cons, List.not_mem_nil, or_false] at hi
              rcases hi with rfl | rfl
              · skip
                refine op_list HO.out rfl fun K hK => ?_
                gi_wp2
                refine any_step (rs := [2]) (by rw [HO.out]; kernel_rfl) (by simp) ?_
                intro i hi
                obtain rfl := List.mem_singleton.1 hi
                refine op_list HO.out rfl fun K hK => ?_
                gi_wp2
                refine any_step (rs := [3]) (by rw [HO.out]; kernel_rfl) (by simp) ?_
                intro i hi
                obtain rfl := List.mem_singleton.1 hi
                refine op_list HO.out rfl fun K hK => ?_
                gi_wp2_with fail
                refine wideCall ((CallsIn.inRound l (callsIn_wide.2 (hcall _ hB1))).mono ?_)
                rintro e w2 ⟨rfl, hb2⟩
                have n1 := blk_below d1 hb2 (lt_some d1)
                have nX := blk_below dX hb2 (lt_some dX)
                have nN : Boxed w2 W6.heap.size 88 v := blk_below dN hb2 (lt_some dN)
                clear a1 b1 aX bX aN bN
                obtain ⟨a1, b1⟩ := cells_of n1
                obtain ⟨aX, bX⟩ := cells_of nX
                have aN := nN.cell
                have bN := nN.frozen
                gi_wp2
                refine any_step (rs := [4]) (by rw [HO.out]; kernel_rfl) (by simp) ?_
                intro i hi
                obtain rfl := List.mem_singleton.1 hi
                refine op_list HO.out rfl fun K hK => ?_
                have nN3 : Boxed (w2.alloc (.cells #[.string (nmoL s (xd, xi))] 9)) W6.heap.size 88 v := blk_alloc nN _
                have hc2 : (w2.alloc (.cells #[.string (nmoL s (xd, xi))] 9)).cell? ⟨W6.heap.size, 0, none⟩ = some v := nN3.cell
                gi_wp2
                exact tail w2 hb2 hc2
              · skip
                refine op_list HO.out rfl fun K hK => ?_
                gi_wp2
                refine any_step (rs := [1]) (by rw [HO.out]; kernel_rfl) (by simp) ?_
                intro i hi
                obtain rfl := List.mem_singleton.1 hi
                refine op_list HO.out rfl fun K hK => ?_
                gi_wp2
                refine any_step (rs := [3]) (by rw [HO.out]; kernel_rfl) (by simp) ?_
                intro i hi
                obtain rfl := List.mem_singleton.1 hi
                refine op_list HO.out rfl fun K hK => ?_
                gi_wp2_with fail
                refine wideCall ((CallsIn.inRound l (callsIn_wide.2 (hcall _ hB1))).mono ?_)
                rintro e w2 ⟨rfl, hb2⟩
                have n1 := blk_below d1 hb2 (lt_some d1)
                have nX := blk_below dX hb2 (lt_some dX)
                have nN : Boxed w2 W6.heap.size 88 v := blk_below dN hb2 (lt_some dN)
                clear a1 b1 aX bX aN bN
                obtain ⟨a1, b1⟩ := cells_of n1
                obtain ⟨aX, bX⟩ := cells_of nX
                have aN := nN.cell
                have bN := nN.frozen
                gi_wp2
                refine any_step (rs := [4]) (by rw [HO.out]; kernel_rfl) (by simp) ?_
                intro i hi
                obtain rfl := List.mem_singleton.1 hi
                refine op_list HO.out rfl fun K hK => ?_
                have nN3 : Boxed (w2.alloc (.cells #[.string (nmoL s (xd, xi))] 9)) W6.heap.size 88 v := blk_alloc nN _
                have hc2 : (w2.alloc (.cells #[.string (nmoL s (xd, xi))] 9)).cell? ⟨W6.heap.size, 0, none⟩ = some v := nN3.cell
                gi_wp2
                exact tail w2 hb2 hc2
            · skip
              refine op_list HO.out rfl fun K hK => ?_
              gi_wp2
              refine any_step (rs := [0, 2]) (by rw [HO.out]; kernel_rfl) (by simp) ?_
              intro i hi
              simp only [List.mem_cons, List.not_mem_nil, or_false] at hi
              rcases hi with rfl | rfl
              · skip
                refine op_list HO.out rfl fun K hK => ?_
                gi_wp2
                refine any_step (rs := [2]) (by rw [HO.out]; kernel_rfl) (by simp) ?_
                intro i hi
                obtain rfl := List.mem_singleton.1 hi
                refine op_list HO.out rfl fun K hK => ?_
                gi_wp2
                refine any_step (rs := [3]) (by rw [HO.out]; kernel_rfl) (by simp) ?_
                intro i hi
                obtain rfl := List.mem_singleton.1 hi
                refine op_list HO.out rfl fun K hK => ?_
                gi_wp2_with fail
                refine wideCall ((CallsIn.inRound l (callsIn_wide.2 (hcall _ hB1))).mono ?_)
                rintro e w2 ⟨rfl, hb2⟩
                have n1 := blk_below d1 hb2 (lt_some d1)
                have nX := blk_below dX hb2 (lt_some dX)
                have nN : Boxed w2 W6.heap.size 88 v := blk_below dN hb2 (lt_some dN)
                clear a1 b1 aX bX aN bN
                obtain ⟨a1, b1⟩ := cells_of n1
                obtain ⟨aX, bX⟩ := cells_of nX
                have aN := nN.cell
                have bN := nN.frozen
                gi_wp2
                refine any_step (rs := [4]) (by rw [HO.out]; kernel_rfl) (by simp) ?_
                intro i hi
                obtain rfl := List.mem_singleton.1 hi
                refine op_list HO.out rfl fun K hK => ?_
                have nN3 : Boxed (w2.alloc (.cells #[.string (nmoL s (xd, xi))] 9)) W6.heap.size 88 v := blk_alloc nN _
                have hc2 : (w2.alloc (.cells #[.string (nmoL s (xd, xi))] 9)).cell? ⟨W6.heap.size, 0, none⟩ = some v := nN3.cell
                gi_wp2
                exact tail w2 hb2 hc2
              · skip
                refine op_list HO.out rfl fun K hK => ?_
                gi_wp2
                refine any_step (rs := [0, 3]) (by rw [HO.out]; kernel_rfl) (by simp) ?_
                intro i hi
                simp only [List.mem_cons, List.not_mem_nil, or_false] at hi
                rcases hi with rfl | rfl
                · skip
                  refine op_list HO.out rfl fun K hK => ?_
                  gi_wp2
                  refine any_step (rs := [3]) (by rw [HO.out]; kernel_rfl) (by simp) ?_
                  intro i hi
                  obtain rfl := List.mem_singleton.1 hi
                  refine op_list HO.out rfl fun K hK => ?_
                  gi_wp2_with fail
                  refine wideCall ((CallsIn.inRound l (callsIn_wide.2 (hcall _ hB1))).mono ?_)
                  rintro e w2 ⟨rfl, hb2⟩
                  have n1 := blk_below d1 hb2 (lt_some d1)
                  have nX := blk_below dX hb2 (lt_some dX)
                  have nN : Boxed w2 W6.heap.size 88 v := blk_below dN hb2 (lt_some dN)
                  clear a1 b1 aX bX aN bN
                  obtain ⟨a1, b1⟩ := cells_of n1
                  obtain ⟨aX, bX⟩ := cells_of nX
                  have aN := nN.cell
                  have bN := nN.frozen
                  gi_wp2
                  refine any_step (rs := [4]) (by rw [HO.out]; kernel_rfl) (by simp) ?_
                  intro i hi
                  obtain rfl := List.mem_singleton.1 hi
                  refine op_list HO.out rfl fun K hK => ?_
                  have nN3 : Boxed (w2.alloc (.cells #[.string (nmoL s (xd, xi))] 9)) W6.heap.size 88 v := blk_alloc nN _
                  have hc2 : (w2.alloc (.cells #[.string (nmoL s (xd, xi))] 9)).cell? ⟨W6.heap.size, 0, none⟩ = some v := nN3.cell
                  gi_wp2
                  exact tail w2 hb2 hc2
                · skip
                  refine op_list HO.out rfl fun K hK => ?_
                  gi_wp2_with fail
                  refine wideCall ((CallsIn.inRound l (callsIn_wide.2 (hcall _ hB1))).mono ?_)
                  rintro e w2 ⟨rfl, hb2⟩
                  have n1 := blk_below d1 hb2 (lt_some d1)
                  have nX := blk_below dX hb2 (lt_some dX)
                  have nN : Boxed w2 W6.heap.size 88 v := blk_below dN hb2 (lt_some dN)
                  clear a1 b1 aX bX aN bN
                  obtain ⟨a1, b1⟩ := cells_of n1
                  obtain ⟨aX, bX⟩ := cells_of nX
                  have aN := nN.cell
                  have bN := nN.frozen
                  gi_wp2
                  refine any_step (rs := [0, 4]) (by rw [HO.out]; kernel_rfl) (by simp) ?_
                  intro i hi
                  simp only [List.mem_cons, List.not_mem_nil, or_false] at hi
                  rcases hi with rfl | rfl
                  · skip
                    refine op_list HO.out rfl fun K hK => ?_
                    gi_wp2
                    refine any_step (rs := [4]) (by rw [HO.out]; kernel_rfl) (by simp) ?_
                    intro i hi
                    obtain rfl := List.mem_singleton.1 hi
                    refine op_list HO.out rfl fun K hK => ?_
                    have nN3 : Boxed (w2.alloc (.cells #[.string (nmoL s (xd, xi))] 9)) W6.heap.size 88 v := blk_alloc nN _
                    have hc2 : (w2.alloc (.cells #[.string (nmoL s (xd, xi))] 9)).cell? ⟨W6.heap.size, 0, none⟩ = some v := nN3.cell
                    gi_wp2
                    exact tail w2 hb2 hc2
                  · skip
                    refine op_list HO.out rfl fun K hK => ?_
                    have nN3 : Boxed (w2.alloc (.cells #[.string (nmoL s (xd, xi))] 9)) W6.heap.size 88 v := blk_alloc nN _
                    have hc2 : (w2.alloc (.cells #[.string (nmoL s (xd, xi))] 9)).cell? ⟨W6.heap.size, 0, none⟩ = some v := nN3.cell
                    gi_wp2
                    refine any_step (rs := [0]) (by rw [HO.out]; kernel_rfl) (by simp) ?_
                    intro i hi
                    obtain rfl := List.mem_singleton.1 hi
                    refine op_list HO.out rfl fun K hK => ?_
                    gi_wp2
                    exact tail w2 hb2 hc2
            · skip
              refine op_list HO.out rfl fun K hK => ?_
              gi_wp2
              refine any_step (rs := [0, 1]) (by rw [HO.out]; kernel_rfl) (by simp) ?_
              intro i hi
              simp only [List.mem_cons, List.not_mem_nil, or_false] at hi
              rcases hi with rfl | rfl
              · skip
                refine op_list HO.out rfl fun K hK => ?_
                gi_wp2
                refine any_step (rs := [1]) (by rw [HO.out]; kernel_rfl) (by simp) ?_
                intro i hi
                obtain rfl := List.mem_singleton.1 hi
                refine op_list HO.out rfl fun K hK => ?_
                gi_wp2
                refine any_step (rs := [3]) (by rw [HO.out]; kernel_rfl) (by simp) ?_
                intro i hi
                obtain rfl := List.mem_singleton.1 hi
                refine op_list HO.out rfl fun K hK => ?_
                gi_wp2_with fail
                refine wideCall ((CallsIn.inRound l (callsIn_wide.2 (hcall _ hB1))).mono ?_)
                rintro e w2 ⟨rfl, hb2⟩
                have n1 := blk_below d1 hb2 (lt_some d1)
                have nX := blk_below dX hb2 (lt_some dX)
                have nN : Boxed w2 W6.heap.size 88 v := blk_below dN hb2 (lt_some dN)
                clear a1 b1 aX bX aN bN
                obtain ⟨a1, b1⟩ := cells_of n1
                obtain ⟨aX, bX⟩ := cells_of nX
                have aN := nN.cell
                have bN := nN.frozen
                gi_wp2
                refine any_step (rs := [4]) (by rw [HO.out]; kernel_rfl) (by simp) ?_
                intro i hi
                obtain rfl := List.mem_singleton.1 hi
                refine op_list HO.out rfl fun K hK => ?_
                have nN3 : Boxed (w2.alloc (.cells #[.string (nmoL s (xd, xi))] 9)) W6.heap.size 88 v := blk_alloc nN _
                have hc2 : (w2.alloc (.cells #[.string (nmoL s (xd, xi))] 9)).cell? ⟨W6.heap.size, 0, none⟩ = some v := nN3.cell
                gi_wp2
                exact tail w2 hb2 hc2
              · skip
                refine op_list HO.out rfl fun K hK => ?_
                gi_wp2
                refine any_step (rs := [0, 3]) (by rw [HO.out]; kernel_rfl) (by simp) ?_
                intro i hi
                simp only [List.mem_cons, List.not_mem_nil, or_false] at hi
                rcases hi with rfl | rfl
                · skip
                  refine op_list HO.out rfl fun K hK => ?_
                  gi_wp2
                  refine any_step (rs := [3]) (by rw [HO.out]; kernel_rfl) (by simp) ?_
                  intro i hi
                  obtain rfl := List.mem_singleton.1 hi
                  refine op_list HO.out rfl fun K hK => ?_
                  gi_wp2_with fail
                  refine wideCall ((CallsIn.inRound l (callsIn_wide.2 (hcall _ hB1))).mono ?_)
                  rintro e w2 ⟨rfl, hb2⟩
                  have n1 := blk_below d1 hb2 (lt_some d1)
                  have nX := blk_below dX hb2 (lt_some dX)
                  have nN : Boxed w2 W6.heap.size 88 v := blk_below dN hb2 (lt_some dN)
                  clear a1 b1 aX bX aN bN
                  obtain ⟨a1, b1⟩ := cells_of n1
                  obtain ⟨aX, bX⟩ := cells_of nX
                  have aN := nN.cell
                  have bN := nN.frozen
                  gi_wp2
                  refine any_step (rs := [4]) (by rw [HO.out]; kernel_rfl) (by simp) ?_
                  intro i hi
                  obtain rfl := List.mem_singleton.1 hi
                  refine op_list HO.out rfl fun K hK => ?_
                  have nN3 : Boxed (w2.alloc (.cells #[.string (nmoL s (xd, xi))] 9)) W6.heap.size 88 v := blk_alloc nN _
                  have hc2 : (w2.alloc (.cells #[.string (nmoL s (xd, xi))] 9)).cell? ⟨W6.heap.size, 0, none⟩ = some v := nN3.cell
                  gi_wp2
                  exact tail w2 hb2 hc2
                · skip
                  refine op_list HO.out rfl fun K hK => ?_
                  gi_wp2_with fail
                  refine wideCall ((CallsIn.inRound l (callsIn_wide.2 (hcall _ hB1))).mono ?_)
                  rintro e w2 ⟨rfl, hb2⟩
                  have n1 := blk_below d1 hb2 (lt_some d1)
                  have nX := blk_below dX hb2 (lt_some dX)
                  have nN : Boxed w2 W6.heap.size 88 v := blk_below dN hb2 (lt_some dN)
                  clear a1 b1 aX bX aN bN
                  obtain ⟨a1, b1⟩ := cells_of n1
                  obtain ⟨aX, bX⟩ := cells_of nX
                  have aN := nN.cell
                  have bN := nN.frozen
                  gi_wp2
                  refine any_step (rs := [0, 4]) (by rw [HO.out]; kernel_rfl) (by simp) ?_
                  intro i hi
                  simp only [List.mem_cons, List.not_mem_nil, or_false] at hi
                  rcases hi with rfl | rfl
                  · skip
                    refine op_list HO.out rfl fun K hK => ?_
                    gi_wp2
                    refine any_step (rs := [4]) (by rw [HO.out]; kernel_rfl) (by simp) ?_
                    intro i hi
                    obtain rfl := List.mem_singleton.1 hi
                    refine op_list HO.out rfl fun K hK => ?_
                    have nN3 : Boxed (w2.alloc (.cells #[.string (nmoL s (xd, xi))] 9)) W6.heap.size 88 v := blk_alloc nN _
                    have hc2 : (w2.alloc (.cells #[.string (nmoL s (xd, xi))] 9)).cell? ⟨W6.heap.size, 0, none⟩ = some v := nN3.cell
                    gi_wp2
                    exact tail w2 hb2 hc2
                  · skip
                    refine op_list HO.out rfl fun K hK => ?_
                    have nN3 : Boxed (w2.alloc (.cells #[.string (nmoL s (xd, xi))] 9)) W6.heap.size 88 v := blk_alloc nN _
                    have hc2 : (w2.alloc (.cells #[.string (nmoL s (xd, xi))] 9)).cell? ⟨W6.heap.size, 0, none⟩ = some v := nN3.cell
                    gi_wp2
                    refine any_step (rs := [0]) (by rw [HO.out]; kernel_rfl) (by simp) ?_
                    intro i hi
                    obtain rfl := List.mem_singleton.1 hi
                    refine op_list HO.out rfl fun K hK => ?_
                    gi_wp2
                    exact tail w2 hb2 hc2
      case done =>
        rintro D xs W hD hS ⟨c1, cP, cE, _, hnm, hbw⟩ hK
        have HS := Lib.hid hS
        have HN := Lib.hid hnm
        clear hS hnm
        have aP := cP.cell
        have bP := cP.frozen
        have aE := cE.cell
        have bE := cE.frozen
        gi_wp2
        have z6 := HZ6.out
        have z9 := HZ9.out
        have cP2 := Boxed.other (cP.set (.string ⟨#[]⟩)) (show w.heap.size + 1 + 1 ≠ w.heap.size + 1 + 1 + 1 by omega) (.bool false)
        have cE2 := (Boxed.other cE (show w.heap.size + 1 + 1 + 1 ≠ w.heap.size + 1 + 1 by omega) (.string ⟨#[]⟩)).set (.bool false)
        have hB2 := (hbw.setCell (p := ⟨w.heap.size + 1 + 1, 0, none⟩) (by show w.heap.size ≤ w.heap.size + 1 + 1; omega) (.string ⟨#[]⟩)).setCell (p := ⟨w.heap.size + 1 + 1 + 1, 0, none⟩) (by show w.heap.size ≤ w.heap.size + 1 + 1 + 1; omega) (.bool false)
        have hK2 := (KeepsOthers.setCell _ ⟨w.heap.size + 1 + 1 + 1, 0, none⟩ (.bool false)).same D _ ((KeepsOthers.setCell _ ⟨w.heap.size + 1 + 1, 0, none⟩ (.string ⟨#[]⟩)).same D _ hK rfl) rfl
        refine ⟨by simp, .inl ⟨_, _, rfl, run_takeDeferred hK2, ?_⟩⟩
        have hP := (boxed_put cP2 (show w.heap.size + 1 + 1 ≠ D by omega) (.deferred none)).cell
        have hE := (boxed_put cE2 (show w.heap.size + 1 + 1 + 1 ≠ D by omega) (.deferred none)).cell
        refine ⟨.tuple #[.string ⟨#[]⟩, .bool false], by simp [results, Try.f23, go_sem, hP, hE], by rw [HW.out, if_neg (by rw [← HS.out]; exact HN.out)], below_put hB2 (by omega) _⟩
      case stop =>
        rintro D c pre W hD hSp ⟨rfl, cP, cE, hnm, hbw⟩ hK
        have HS := Lib.hid hSp
        have HN := Lib.hid hnm
        clear hSp hnm
        have aP := cP.cell
        have aE := cE.cell
        gi_wp2
        have z6 := HZ6.out
        have z9 := HZ9.out
        refine ⟨by simp, .inl ⟨_, _, rfl, run_takeDeferred hK, ?_⟩⟩
        have hP := (boxed_put cP (show w.heap.size + 1 + 1 ≠ D by omega) (.deferred none)).cell
        have hE := (boxed_put cE (show w.heap.size + 1 + 1 + 1 ≠ D by omega) (.deferred none)).cell
        refine ⟨.tuple #[.string (pathW s (pre.takeWhile fun x : Fil => decide (x ≠ (0, 1)))), .bool true], by simp [results, Try.f23, go_sem, hP, hE], by rw [HW.out, if_pos (HS.out.subset HN.out), takeWhile_pre HS.out HN.out], below_put hbw (by omega) _⟩
end Go.Proofs.Ytgliiknfmlmddaa
namespace Go.Proofs.Ytgliiknfmlmddaa
open Go.RowKit Go.Shelf
attribute [local go_sem] Oper.semAt_some

def seesP (s : Spc) (dir x : Fil) : Bool := match covL s x with
  | none => true
  | some d => decide (∃ y ∈ chainP s (mostL s.files) dir, y.1 = d)
def visP (s : Spc) (dir : Fil) : Bool := (whereP s dir).2 && (chainP s (mostL s.files) dir).all (seesP s dir)
set_option maxRecDepth 100000 in
set_option maxHeartbeats 4000000 in
theorem visible_o (n : Nat) (hn : Hid (4 ≤ n)) (s : Spc) (hs : SpcB s) (hnm : ∀ x, (nmoL s x).size ≤ 100) (hmo : mostL s.files ≤ 5000) (dir : Fil) (ds ms : Value) (w : World) (h : SpcIn s w.heap.size w ds ms) :
    CallsIn Fence.wide n Try.prog 32 #[.agg #[ds, ms], FilV dir] w fun e w' => e = .returned (.bool (visP s dir)) ∧ Below w.heap.size w w' := by
  have HWh := Lib.hid (fun X (hX : SpcIn s X.heap.size X ds ms) => where_o 4 (Lib.hid (Nat.le_refl _)) s hs hnm hmo dir ds ms X hX)
  clear hnm
  obtain ⟨wp, hwp⟩ : ∃ wp, whereP s dir = wp := ⟨_, rfl⟩
  obtain ⟨ws, wb⟩ := wp
  rw [hwp] at HWh
  have HWP := Lib.hid hwp
  clear hwp
  unfold FilV at HWh ⊢
  refine callsIn_of_wp_marks Try.func32 rfl trivial ?_ rfl
  simp only [Try.ntmps32, List.size_toArray, List.length_cons, List.length_nil, Nat.reduceAdd, Nat.reduceSub, Array.replicate_succ, Array.replicate_zero, List.push_toArray, List.append_toArray, List.nil_append, List.cons_append]
  gi_wp2_with fail
  obtain ⟨W3, hW3⟩ : ∃ W3, ((w.alloc (.cells #[ds, ms] 32)).alloc (.cells #[.int .i64 dir.1, .int .i64 dir.2] 24)).alloc (.cells #[.bool false] 4) = W3 := ⟨_, rfl⟩
  have hz3 : W3.heap.size = w.heap.size + 3 := by rw [← hW3]; simp
  have hB3 : Below w.heap.size w W3 := by rw [← hW3]; exact below_a3 _ _ _ _
  have kS : W3.heap[w.heap.size]? = some (.cells #[ds, ms] 32) := by rw [← hW3]; exact blk_a3_0 _ _ _ _
  have kD : W3.heap[w.heap.size + 1]? = some (.cells #[.int .i64 dir.1, .int .i64 dir.2] 24) := by rw [← hW3]; exact blk_a3_1 _ _ _ _
  have kE : Boxed W3 (w.heap.size + 1 + 1) 4 (.bool false) := by rw [← hW3]; exact blk_a3_2 _ _ _ _
  have hSp := h.below hB3 (Nat.le_refl _)
  rw [hW3]
  clear hW3
  refine wideCall ((callsIn_wide.2 (callsIn_wide.1 (HWh.out W3 (hSp.grow hB3.size)))).mono ?_)
  rintro e W5 ⟨rfl, hb5⟩
  have hz5 := hb5.size
  have k5S := blk_below kS hb5 (lt_some kS)
  have k5D := blk_below kD hb5 (lt_some kD)
  have k5E : Boxed W5 (w.heap.size + 1 + 1) 4 (.bool false) := blk_below kE hb5 (lt_some kE)
  have hB5 : Below w.heap.size w W5 := hB3.trans (hb5.mono hB3.size)
  have h5 := h.below hB5 (Nat.le_refl _)
  have HZ5 : Hid (w.heap.size + 3 ≤ W5.heap.size) := Lib.hid (by omega)
  clear kS kD kE hB3 hSp hb5 hz3 hz5
  obtain ⟨c0, f0⟩ := cells_of k5S
  obtain ⟨c1, f1⟩ := cells_of k5D
  have c3 := k5E.cell
  have f3 := k5E.frozen
  cases wb with
  | false =>
    have HV : Hid (visP s dir = false) := Lib.hid (by unfold visP; rw [HWP.out]; rfl)
    gi_wp2
    have hE := (k5E.set (.bool false)).cell
    refine ⟨.bool false, by simp [results, Try.f32, go_sem, hE], by rw [HV.out], hB5.setCell (by show w.heap.size ≤ w.heap.size + 1 + 1; omega) _⟩
  | true =>
    have HV : Hid (visP s dir = (chainP s (mostL s.files) dir).all (seesP s dir)) := Lib.hid (by unfold visP; rw [HWP.out]; rfl)
    gi_wp2_with fail
    refine wideCall ((callsIn_wide.2 (chain_any ds ms dir W5)).mono ?_)
    rintro e W9 ⟨rfl, hW9⟩
    have hB9 : Below W5.heap.size W5 W9 := by rw [hW9]; exact below_a2 _ _ _
    have hz9 : W9.heap.size = W5.heap.size + 2 := by rw [hW9]; simp
    have cS : W9.heap[W5.heap.size]? = some (.cells #[ds, ms] 32) := by rw [hW9]; exact blk_a2_0 _ _ _
    have cD : W9.heap[W5.heap.size + 1]? = some (.cells #[.int .i64 dir.1, .int .i64 dir.2] 24) := by rw [hW9]; exact blk_a2_1 _ _ _
    have k9S := blk_below k5S hB9 (lt_some k5S)
    have k9D := blk_below k5D hB9 (lt_some k5D)
    have k9E : Boxed W9 (w.heap.size + 1 + 1) 4 (.bool false) := blk_below k5E hB9 (lt_some k5E)
    have hBw : Below w.heap.size w W9 := hB5.trans (hB9.mono hB5.size)
    have kSp := h.below hBw (Nat.le_refl _)
    have HZ9 : Hid (W9.heap.size = W5.heap.size + 2) := Lib.hid hz9
    clear hW9 hB9 hB5 hz9 k5S k5D k5E c0 f0 c1 f1 c3 f3 h5
    gi_wp2_with fail
    refine wpIn_rangeFunc_sa rfl (by have := hn.out; omega) (gf := 86) rfl trivial (enters_of Try.func86 (by kernel_rfl) rfl)
      (chain1 (n - 1) s hs dir w.heap.size W5.heap.size (W5.heap.size + 1) ds ms W9 cS cD kSp (by have := HZ9.out; have := HZ5.out; omega) (by have := HZ9.out; have := HZ5.out; omega) (by omega))
      (fun b hb => by have := HZ9.out; omega) KeepC.trans (fun W l o o' hl ho hc => by have := HZ9.out; have := HZ5.out; exact keepC_put (B := W9.heap.size) (by omega) (by omega) (by omega) W l o o' hl ho hc) (Below.refl _ _) (fun _ => rfl)
      (fun pre W => W.heap[w.heap.size]? = some (.cells #[ds, ms] 32) ∧ W.heap[w.heap.size + 1]? = some (.cells #[.int .i64 dir.1, .int .i64 dir.2] 24) ∧ Boxed W (w.heap.size + 1 + 1) 4 (.bool false) ∧ pre.all (seesP s dir) = true ∧ Below w.heap.size w W)
      (fun c pre W => c = .ret ∧ Boxed W (w.heap.size + 1 + 1) 4 (.bool false) ∧ pre.all (seesP s dir) = false ∧ Below w.heap.size w W)
      (fun s X Y h hm => by
        obtain ⟨h1, h2, h3, h6, h7⟩ := h
        have z9 := HZ9.out
        have z5 := HZ5.out
        exact ⟨(hm.block _ (lt_some h1) (by omega) (.inr ⟨_, h1, rfl⟩)).trans h1, (hm.block _ (lt_some h2) (by omega) (.inr ⟨_, h2, rfl⟩)).trans h2, hm.boxed h3 (by omega), h6, hm.under h7 (Nat.le_refl _) (fun b hb => by omega) (by omega)⟩)
      (fun c s X Y h hm => by
        obtain ⟨h1, h3, h6, h7⟩ := h
        have z9 := HZ9.out
        have z5 := HZ5.out
        exact ⟨h1, hm.boxed h3 (by omega), h6, hm.under h7 (Nat.le_refl _) (fun b hb => by omega) (by omega)⟩)
      ⟨k9S, k9D, k9E, rfl, hBw⟩
      (fun x W => { tmps := #[.agg #[ds, ms], .agg #[.int .i64 dir.1, .int .i64 dir.2], .pointer (some ⟨w.heap.size, 0, none⟩), .pointer (some ⟨w.heap.size + 1, 0, none⟩), .pointer (some ⟨w.heap.size + 1 + 1, 0, none⟩), .string ws, .bool true, .pointer (some ⟨W.heap.size, 0, none⟩), undef, undef, .tuple #[.string ws, .bool true], .agg #[ds, ms], .agg #[.int .i64 dir.1, .int .i64 dir.2],
        .tuple #[.string ws, .bool true], .string ws, .bool true, .bool true, .bool false, .agg #[ds, ms], .agg #[.int .i64 dir.1, .int .i64 dir.2],
        .func (.func 86) #[] #[.pointer (some ⟨W5.heap.size, 0, none⟩), .pointer (some ⟨W5.heap.size + 1, 0, none⟩)], .agg #[.int .i64 x.1, .int .i64 x.2], undef, undef, undef, undef, undef, undef, undef, undef, undef, undef, undef, undef, undef, undef], defers := [] })
      (fun x W => W.alloc (.cells #[.int .i64 x.1, .int .i64 x.2] 24))
      (fun x W hsz => ⟨below_a1 _ _, by have := HZ9.out; have := HZ5.out; exact keepC_below (below_a1 _ _) (by omega) (by omega) (by omega)⟩) ?assign ?body ?done ?stop
    case assign =>
      intro l x W K hsz hK
      unfold FilV
      gi_wp2
      exact hK
    case body =>
      rintro l pre x W0 W ⟨c1, c2, cE, hall, hbw⟩ _ hsz hszW hcell _ _
      have cX := hcell _ _ (blk_a1_0 W0 (.cells #[.int .i64 x.1, .int .i64 x.2] 24)) rfl
      simp only [size_a1] at hszW
      have HN := Lib.hid hall
      have HZ := Lib.hid hsz
      clear hall hsz hcell k9S k9D k9E cS cD kSp
      obtain ⟨a1, b1⟩ := cells_of c1
      obtain ⟨aX, bX⟩ := cells_of cX
      gi_wp2_with fail
      refine wideCall ((CallsIn.inRound l (callsIn_wide.2 (cover_o (h.below hbw (Nat.le_refl _)) hs x))).mono ?_)
      rintro e W1 ⟨rfl, hb1⟩
      have HSE := Lib.hid (show seesP s dir x = (match covL s x with
        | none => true
        | some d => decide (∃ y ∈ chainP s (mostL s.files) dir, y.1 = d)) from rfl)
      obtain ⟨cv, hcv⟩ : ∃ cv, covL s x = cv := ⟨_, rfl⟩
      rw [hcv] at HSE ⊢
      have d1 := blk_below c1 hb1 (lt_some c1)
      have d2 := blk_below c2 hb1 (lt_some c2)
      have dE : Boxed W1 (w.heap.size + 1 + 1) 4 (.bool false) := blk_below cE hb1 (lt_some cE)
      have hw1 := hbw.trans (hb1.mono hbw.size)
      have HB1 := Lib.hid hb1
      clear a1 b1 aX bX c1 c2 cE cX hcv hb1
      obtain ⟨a1, b1⟩ := cells_of d1
      obtain ⟨a2, b2⟩ := cells_of d2
      have aE := dE.cell
      have bE := dE.frozen
      have HAL : Hid ((pre ++ [x]).all (seesP s dir) = seesP s dir x) := Lib.hid (by rw [List.all_append, HN.out]; simp)
      cases cv with
      | none =>
        gi_wp2_with fail
        refine ⟨trivial, ?_⟩
        gi_wp2
        have z9 := HZ9.out
        have z5 := HZ5.out
        have zz := HZ.out
        exact ⟨keepsFrom_below HB1.out, keepC_below HB1.out (by omega) (by omega) (by omega), d1, d2, dE, by rw [HAL.out, HSE.out], hw1⟩
      | some dv =>
        gi_wp2_with fail
        refine wideCall ((CallsIn.inRound l (callsIn_wide.2 (callsIn_wide.1 (crosses_o 4 (Lib.hid (by omega)) s hs dir dv ds ms W1 ((h.below hw1 (Nat.le_refl _)).grow hw1.size))))).mono ?_)
        rintro e W2 ⟨rfl, hb2⟩
        obtain ⟨cr, hcr⟩ : ∃ cr, decide (∃ y ∈ chainP s (mostL s.files) dir, y.1 = dv) = cr := ⟨_, rfl⟩
        simp only [hcr] at HSE ⊢
        have e1 := blk_below d1 hb2 (lt_some d1)
        have e2 := blk_below d2 hb2 (lt_some d2)
        have eE : Boxed W2 (w.heap.size + 1 + 1) 4 (.bool false) := blk_below dE hb2 (lt_some dE)
        have hw2 := hw1.trans (hb2.mono hw1.size)
        have HB2 := Lib.hid (HB1.out.trans (hb2.mono HB1.out.size))
        clear a1 b1 a2 b2 aE bE d1 d2 dE hb2 hcr
        have aE := eE.cell
        have bE := eE.frozen
        cases cr with
        | true =>
          gi_wp2
          have z9 := HZ9.out
          have z5 := HZ5.out
          have zz := HZ.out
          exact ⟨keepsFrom_below HB2.out, keepC_below HB2.out (by omega) (by omega) (by omega), e1, e2, eE, by rw [HAL.out, HSE.out], hw2⟩
        | false =>
          gi_wp2
          have z9 := HZ9.out
          have z5 := HZ5.out
          exact ⟨keepsFrom_set (keepsFrom_below HB2.out) (by omega) _, rfl, eE.set _, by rw [HAL.out, HSE.out], hw2.setCell (by show w.heap.size ≤ w.heap.size + 1 + 1; omega) _⟩
    case done =>
      rintro D xs W hD hS ⟨_, _, hc, hnm, hbw⟩ hK
      have HS := Lib.hid hS
      have HN := Lib.hid hnm
      clear hS hnm
      have hcell := hc.cell
      have hfz := hc.frozen
      gi_wp2
      have z9 := HZ9.out
      have z5 := HZ5.out
      refine ⟨by simp, .inl ⟨_, _, rfl, run_takeDeferred ((KeepsOthers.setCell _ _ _).same D _ hK rfl), ?_⟩⟩
      have hcb := (boxed_put (hc.set (.bool true)) (show w.heap.size + 1 + 1 ≠ D by omega) (.deferred none)).cell
      refine ⟨.bool true, by simp [results, Try.f32, go_sem, hcb], by rw [HV.out, ← HS.out, HN.out], below_put (hbw.setCell (p := ⟨w.heap.size + 1 + 1, 0, none⟩) (by show w.heap.size ≤ w.heap.size + 1 + 1; omega) _) (by omega) _⟩
    case stop =>
      rintro D c pre W hD hSp ⟨rfl, hc, hnm, hbw⟩ hK
      have HS := Lib.hid hSp
      have HN := Lib.hid hnm
      clear hSp hnm
      have hcell := hc.cell
      gi_wp2
      have z9 := HZ9.out
      have z5 := HZ5.out
      refine ⟨by simp, .inl ⟨_, _, rfl, run_takeDeferred hK, ?_⟩⟩
      have hcb := (boxed_put hc (show w.heap.size + 1 + 1 ≠ D by omega) (.deferred none)).cell
      refine ⟨.bool false, by simp [results, Try.f32, go_sem, hcb], ?_, below_put hbw (by omega) _⟩
      rw [HV.out]
      obtain ⟨t, ht⟩ := HS.out
      rw [← ht, List.all_append, HN.out]
      rfl
end Go.Proofs.Ytgliiknfmlmddaa
namespace Go.Proofs.Ytgliiknfmlmddaa
open Go.RowKit

theorem SpcV.b {s : Spc} (h : SpcV s) (hm : s.mounts.length ≤ 1000) : SpcB s := ⟨h.files.b, hm⟩
section
set_option maxRecDepth 10000
set_option maxHeartbeats 1000000
theorem Gspace (l : List Int) (a : Nat) (ha : a ≤ 10000000) : GenF Try.prog 12 l a [] 1100 (fun r => ∃ s, r = .agg (spcA s) ∧ SpcV s ∧ s.mounts.length ≤ 3) := by
  refine enter Try.func12 rfl rfl rfl rfl rfl 1 rfl ?_
  refine w_ (al_ (h:=e_ (w_ (m_ (h:=?_)))))
  refine al_p rfl (s_gen 0 (hc := Gfiles l _ (by omega)) (hR := ?_))
  rintro r a1 ha1 ⟨f1, rfl, hv1, hp1⟩
  refine ⟨rfl, _, (by repeat constructor), ?_⟩
  refine al_p rfl (st_le (y := .agg (spcA ⟨f1, []⟩)) (st_build (by repeat (first | exact FillA.nil _ | (apply FillA.cons; (focus exact rfl); (focus exact rfl); (focus exact rfl); (focus exact rfl); (focus exact rfl); (focus (repeat constructor))))) ⟨rfl, rfl⟩) (by repeat (first | exact LeA.refl _ | exact LeA.nil _ | exact LeL.refl _ | refine LeA.agg ?_ | refine LeA.tup ?_ | exact LeL.nil | refine LeL.cons ?_ ?_ | exact LeA.any _)) ?_)
  refine al_ (h:=s_ (h:=e_ (q_ (w_ (m_ (h:=?_))))))
  refine al_p rfl (s_gen 0 (hc := Gn l _ (4) (by omega) (by omega)) (hR := ?_))
  rintro r a2 ha2 ⟨k2, rfl, p2, q2, o2⟩
  refine ⟨rfl, _, (by repeat constructor), ?_⟩
  refine a_ (h:=e_ (aw_block (?_)))
  obtain ⟨M, rfl⟩ := Int.eq_ofNat_of_zero_le p2
  have hM : M ≤ 3 := by omega
  refine aw_loopW (fun n t => ∃ (j b : Nat) (s : Spc), j ≤ M ∧ n = j ∧ b + 10 * j ≤ a + 1001 + 10 * M ∧ SpcV s ∧ s.mounts.length + j ≤ M ∧ t = ⟨look [(0, .bp 0 0), (2, .bp 1 0), (3, .bp 2 0), (4, .v (.int .i64 (j : Int)))], ⟨[srcA l b, [.v (.slice none 0 0), .v (.slice none 0 0)], spcA s], []⟩⟩) (M) ((wk 3 0)) (⟨M, _, ⟨f1, []⟩, Nat.le_refl _, rfl, by omega, ⟨hv1, hp1, fun i m hi => by simp at hi⟩, by simp, rfl⟩) ?_
  rintro n t ⟨j, b, s, hj, rfl, hb, hv, hm, rfl⟩
  have hsb := hv.b (by omega)
  refine q_ (w_ (m_ (h:=gt_ (h:=e_ (?_)))))
  refine aw_cond rfl (fun hb1 => ?_) (fun hb1 => ?_)
  · have hc1 := bp hb1
    refine kt_ (q_ (aw_block (?_)))
    refine aw_midI (fun t => ∃ (dev : Int) (x : Fil) (b2 : Nat), b2 ≤ b + 10 ∧ t = ⟨look [(0, .bp 0 0), (2, .bp 1 0), (3, .bp 2 0), (4, .v (.int .i64 (n : Int))), (5, .bp 3 0), (6, .v (.int .i64 (addL s dev x).2))], ⟨[srcA l b2, [.v (.slice none 0 0), .v (.slice none 0 0)], spcA s, spcA (addL s dev x).1], []⟩⟩) ?_ ?_
    · skip
      refine yk_ ([(2, spcA s)]) 14 (h:=?_)
      first | refine dl_ 0 (h:=?_) | refine tk_ 0 rfl (fun _ hS => st_loadBE (row := spcA s) rfl (kb hS rfl) (Nat.le_of_ble_eq_true rfl) rfl ⟨rfl, rfl⟩) ?_
      refine dm_ 1 (h:=dm_ 3 (h:=df_ 4 (h:=?_)))
      first | refine dl_ 5 (h:=?_) | refine tk_ 5 rfl (fun _ hS => st_loadBE (row := spcA s) rfl (kb hS rfl) (Nat.le_of_ble_eq_true rfl) rfl ⟨rfl, rfl⟩) ?_
      refine c2_ 2 11 rfl rfl ?_ ?_
      · refine s_gen 0 (hc := Grange l _ (1) (2) (by omega) (by omega) (by omega) (by omega)) (hR := ?_)
        rintro r a3 ha3 ⟨k3, rfl, p3, q3⟩
        refine ⟨rfl, _, (by repeat constructor), ?_⟩
        refine o_ (h:=?_)
        refine c2_ 6 11 rfl rfl ?_ ?_
        · refine s_gen 0 (hc := Gfile l _ s.files (by omega) hv.files.b hv.files.ne) (hR := ?_)
          rintro r a4 ha4 ⟨x4, rfl⟩
          refine ⟨rfl, _, (by repeat constructor), ?_⟩
          refine o_ (h:=?_)
          refine c2_ 7 11 rfl rfl ?_ ?_
          · refine q_call (Radd s _ _ hsb) ?_
            rintro r rfl
            refine o_ (h:=?_)
            refine dm_ 8 (h:=dx_ 9 (h:=dx_ 10 (h:=?_)))
            refine c_ 11 rfl (s_alloc (by repeat constructor) ?_)
            refine o_ (h:=?_)
            refine c0_ 12 rfl (s_store rfl rfl rfl rfl rfl rfl (by repeat constructor) (by repeat constructor) ?_)
            refine o_ (h:=da_ 13 (h:=z_ (h:=?_)))
            refine x_then ?_
            refine ⟨_, ⟨_, _, _, ?_, rfl⟩, (wk 4 0)⟩
            omega
          · refine s_alloc (by repeat constructor) ?_
            refine o_ (h:=?_)
            refine c_ 7 rfl (q_call (Radd s _ _ hsb) ?_)
            rintro r rfl
            refine o_ (h:=dm_ 8 (h:=dx_ 9 (h:=dx_ 10 (h:=?_))))
            refine c0_ 12 rfl (s_store rfl rfl rfl rfl rfl rfl (by repeat constructor) (by repeat constructor) ?_)
            refine o_ (h:=da_ 13 (h:=z_ (h:=?_)))
            refine x_then ?_
            refine ⟨_, ⟨_, _, _, ?_, rfl⟩, (wk 4 0)⟩
            omega
        · refine s_alloc (by repeat constructor) ?_
          refine o_ (h:=?_)
          refine c_ 6 rfl (s_gen 0 (hc := Gfile l _ s.files (by omega) hv.files.b hv.files.ne) (hR := ?_))
          rintro r a5 ha5 ⟨x5, rfl⟩
          refine ⟨rfl, _, (by repeat constructor), ?_⟩
          refine o_ (h:=?_)
          refine c_ 7 rfl (q_call (Radd s _ _ hsb) ?_)
          rintro r rfl
          refine o_ (h:=dm_ 8 (h:=dx_ 9 (h:=dx_ 10 (h:=?_))))
          refine c0_ 12 rfl (s_store rfl rfl rfl rfl rfl rfl (by repeat constructor) (by repeat constructor) ?_)
          refine o_ (h:=da_ 13 (h:=z_ (h:=?_)))
          refine x_then ?_
          refine ⟨_, ⟨_, _, _, ?_, rfl⟩, (wk 4 0)⟩
          omega
      · refine s_alloc (by repeat constructor) ?_
        refine o_ (h:=?_)
        refine c_ 2 rfl (s_gen 0 (hc := Grange l _ (1) (2) (by omega) (by omega) (by omega) (by omega)) (hR := ?_))
        rintro r a6 ha6 ⟨k6, rfl, p6, q6⟩
        refine ⟨rfl, _, (by repeat constructor), ?_⟩
        refine o_ (h:=?_)
        refine c_ 6 rfl (s_gen 0 (hc := Gfile l _ s.files (by omega) hv.files.b hv.files.ne) (hR := ?_))
        rintro r a7 ha7 ⟨x7, rfl⟩
        refine ⟨rfl, _, (by repeat constructor), ?_⟩
        refine o_ (h:=?_)
        refine c_ 7 rfl (q_call (Radd s _ _ hsb) ?_)
        rintro r rfl
        refine o_ (h:=dm_ 8 (h:=dx_ 9 (h:=dx_ 10 (h:=?_))))
        refine c0_ 12 rfl (s_store rfl rfl rfl rfl rfl rfl (by repeat constructor) (by repeat constructor) ?_)
        refine o_ (h:=da_ 13 (h:=z_ (h:=?_)))
        refine x_then ?_
        refine ⟨_, ⟨_, _, _, ?_, rfl⟩, (wk 4 0)⟩
        omega
    · rintro t ⟨dev, x, b2, hb2, rfl⟩
      refine w_ (m_ (h:=eq_ (h:=e_ (?_))))
      refine aw_cond rfl (fun hb2 => ?_) (fun hb2 => ?_)
      · have hc2 := bp hb2
        obtain ⟨hv2, he2⟩ := add_valid hv dev x (by omega)
        have hm2 : (addL s dev x).1.mounts.length = s.mounts.length + 1 := by rw [he2]; simp
        refine aw_region (l_ (h:=s_ (h:=al_nil (x_blockN (t_ (aw_region (m_ (h:=?_))))))))
        refine al_p rfl (st_sub64 rfl rfl (by omega) ?_)
        refine a_ (h:=al_nil (?_))
        refine x_then ?_
        first | refine ⟨n - 1, _, by omega, ⟨n - 1, _, (addL s dev x).1, by omega, rfl, ?_, hv2, ?_, rfl⟩, (by rw [show ((n - 1 : Nat) : Int) = (n : Int) - 1 by omega]; exact weak_of 3 0 rfl rfl rfl rfl ((by repeat (first | exact Sub.nil | refine Sub.cons _ _ _ rfl rfl ?_ | refine Sub.any _ _ ?_ | refine Sub.sl _ _ _ _ _ rfl ?_ | refine Sub.slnil _ _ _ rfl ?_))))⟩ | refine ⟨n - 1, _, by omega, ⟨n - 1, _, s, by omega, rfl, ?_, hv, ?_, rfl⟩, (by rw [show ((n - 1 : Nat) : Int) = (n : Int) - 1 by omega]; exact weak_of 3 0 rfl rfl rfl rfl ((by repeat (first | exact Sub.nil | refine Sub.cons _ _ _ rfl rfl ?_ | refine Sub.any _ _ ?_ | refine Sub.sl _ _ _ _ _ rfl ?_ | refine Sub.slnil _ _ _ rfl ?_))))⟩
        · omega
        · omega
      · have hc2 := bp hb2
        refine aw_skip (x_blockN (t_ (aw_region (m_ (h:=?_)))))
        refine al_p rfl (st_sub64 rfl rfl (by omega) ?_)
        refine a_ (h:=al_nil (?_))
        refine x_then ?_
        first | refine ⟨n - 1, _, by omega, ⟨n - 1, _, (addL s dev x).1, by omega, rfl, ?_, hv2, ?_, rfl⟩, (by rw [show ((n - 1 : Nat) : Int) = (n : Int) - 1 by omega]; exact weak_of 3 0 rfl rfl rfl rfl ((by repeat (first | exact Sub.nil | refine Sub.cons _ _ _ rfl rfl ?_ | refine Sub.any _ _ ?_ | refine Sub.sl _ _ _ _ _ rfl ?_ | refine Sub.slnil _ _ _ rfl ?_))))⟩ | refine ⟨n - 1, _, by omega, ⟨n - 1, _, s, by omega, rfl, ?_, hv, ?_, rfl⟩, (by rw [show ((n - 1 : Nat) : Int) = (n : Int) - 1 by omega]; exact weak_of 3 0 rfl rfl rfl rfl ((by repeat (first | exact Sub.nil | refine Sub.cons _ _ _ rfl rfl ?_ | refine Sub.any _ _ ?_ | refine Sub.sl _ _ _ _ _ rfl ?_ | refine Sub.slnil _ _ _ rfl ?_))))⟩
        · omega
        · omega
  · have hc1 := bp hb1
    refine aw_exit (x_thenE (x_thenE (ABlock_out (t_ (w_ (l_ (h:=s_ (h:=e_ (aw_ret (?_))))))))))
    refine rt_ none (h5 := (LeA.refl _)) (h6 := ⟨_, rfl, rfl, b, by omega, rfl, s, rfl, hv, by omega⟩)

end
end Go.Proofs.Ytgliiknfmlmddaa
namespace Go.Proofs.Ytgliiknfmlmddaa
open Go.RowKit

section
variable {P : Program} {ev : Operand → Option AV} {h : AH} {R : AV → AH → Prop} {d : Option Tmp} {ty : TypeId} {pos : String} {af : Array Edge} {gd : Option (Nat × Bool)}
theorem st_slit0B {T : TypeId} {E sz bytes k : Nat} {bx' : List (List AV)} [hE : Elm P T E sz bytes] (hs : SnocAt h.bx [] k bx') (hR : R (.bs k 0 sz 0 0) ⟨bx', h.tk⟩) : AStep P ⟨d, .buildSlice T 0 #[], ty, pos, af, gd⟩ ev h R := by
  intro E' G w ec hr he
  obtain ⟨hu, inf, z, hinf, hz, hzs, hsz, hby, hp⟩ := elm_spec hE.eq
  have c2 : (Instr.buildSlice T 0 #[]).run P w = .ok (.slice (some ⟨w.heap.size, 0, none⟩) 0 0) (w.alloc (.cells ([] : List Value).toArray E)) := by
    simp [Instr.buildSlice, run_underlying hu, sizeOf, typeInfo, hinf, Instr.fill, newRow]
    rw [show Array.map (fun _ => (default : Value)) (Array.range 0) = #[] from Array.eq_empty_of_size_eq_zero (by simp)]
  obtain ⟨G', q1, q2, q3⟩ := new_box (T := E) hr (us := []) (row := []) (by simp only [repL]) (by simp) hs
  simp only [rep] at q3
  obtain ⟨b, q4, q5⟩ := q3
  injection q5 with q5
  injection q5 with q5
  injection q5 with q5
  subst q5
  have c3 : (Instr.buildSlice T 0 ((#[] : Array (Nat × Operand)).map fun p => (p.1, ec p.2))).run P w = .ok (.slice (some ⟨w.heap.size, 0, none⟩) 0 0) (w.alloc (.cells ([] : List Value).toArray E)) := by simpa using c2
  simp only [execOp, Sem.run_bind, c3, Result.andThen_ok, Sem.run_pure]
  exact ⟨_, _, G', hR, q1, q2, by simp only [rep]; exact ⟨_, q4, rfl, Nat.le_refl _, Nat.zero_le _⟩⟩
end
end Go.Proofs.Ytgliiknfmlmddaa
namespace Go.Proofs.Ytgliiknfmlmddaa
open Go.RowKit

theorem clone_row {sz cap : Nat} {rows : List (List AV)} : (([] : List AV).drop 0).take (0 * sz) ++ rows.flatten ++ List.replicate ((cap - (0 + rows.length)) * sz) .any = rowsB sz cap rows := by
  unfold rowsB
  simp
theorem mnt_plain (l : List Mnt) : ∀ r ∈ l.map mntA, ∀ x ∈ r, ∃ v, x = .v v := by
  intro r hr x hx
  obtain ⟨c, _, rfl⟩ := List.mem_map.1 hr
  simp [mntA] at hx
  rcases hx with h | h | h <;> exact ⟨_, h⟩
theorem bp_plain {n m sz cap : Nat} {rows : List (List AV)} (h : ∀ r ∈ rows, ∀ x ∈ r, ∃ v, x = .v v) : bpLtL n m (rowsB sz cap rows) = true :=
  bpLt_rowsB fun r hr => bpLtL_all.2 fun x hx => by obtain ⟨v, rfl⟩ := h r hr x hx; rfl
theorem NB_same {ns : List Nod} {cap j : Nat} {n : Nod} (h : ns[j]? = some n) : SetAt (NB ns cap) (0 + j * 8 + 7) [.sl 2 (n.entries.map entA) none] (NB ns cap) := by
  have key := NB_set (cap1 := cap) (n' := n) (k := 7) (cs := [.sl 2 (n.entries.map entA) none]) h (by repeat constructor) (by simp)
  have e : ns.set j n = ns := by
    obtain ⟨h1, h2⟩ := List.getElem?_eq_some_iff.1 h
    rw [← h2, List.set_getElem_self]
  rwa [e] at key
theorem back_newR {bx : List (List AV)} (r1 r2 : List AV) (h1 : renL (backS [] bx.length) r1 = r1) (h2 : renL (backS [] bx.length) r2 = r2) : Back bx [] [r1, r2] (bx ++ [r1, r2]) := by
  refine ⟨by simp, fun i row _ h => ?_, fun k i row h => by simp at h, fun k row h => ?_⟩
  · rw [List.getElem?_append_left (List.getElem?_eq_some_iff.1 h).1]; exact h
  · rw [List.getElem?_append_right (by omega), show bx.length + k - bx.length = k by omega]
    simp only [List.length_nil, Nat.zero_add] at h
    match k, h with
    | 0, h => injection h with h; subst h; rw [h1]; rfl
    | 1, h => injection h with h; subst h; rw [h2]; rfl
    | k + 2, h => simp at h
section
set_option maxRecDepth 10000
set_option maxHeartbeats 1000000
theorem PcloneN (ns : List Nod) (h1 : ns.length ≤ 1000) (h0 : 0 < ns.length) : ACall Try.prog 75 [.sl 8 (ns.map nodA) none] [] (fun r b t => t = [] ∧ ∃ cap, ns.length ≤ cap ∧ r = .bs 1 0 8 ns.length cap ∧ b = [[], NB ns cap]) := by
  have hml : (ns.map nodA).length = ns.length := by simp
  refine enter Try.func75 rfl rfl rfl rfl rfl 2 rfl ?_
  refine w_ (a_ (h:=e_ (q_ (w_ (m_ (h:=?_))))))
  refine al_p rfl (st_eqNil rfl rfl ?_)
  intro b hb
  refine e_ (?_)
  refine aw_cond rfl (fun hb1 => ?_) (fun hb1 => ?_)
  · have hc1 := bp hb1
    exfalso
    have := hb hb1
    rw [this] at hml
    simp at hml
    omega
  · have hc1 := bp hb1
    refine kt_ (w_ (?_))
    refine al_p rfl (st_slit0B (k := 0) (by repeat constructor) ?_)
    refine m_ (h:=?_)
    refine al_p rfl (st_appendB rfl rfl rfl (Nat.le_of_ble_eq_true rfl) (SrcA.sl _ _) (by omega) (by omega) (fun h => absurd h (by omega)) ?_)
    rintro hg cap k bx2 hcp hs
    rw [clone_row] at hs
    obtain ⟨rfl, rfl⟩ : k = 1 ∧ bx2 = [_, NB ns cap] := hs.eq
    refine a_ (h:=e_ (aw_ret (?_)))
    refine abody_ret (r := .bs 1 0 8 ns.length cap) none (by repeat (first | exact ResA.nil | (apply ResA.tmp; (focus exact rfl)) | (apply ResA.cellN; (focus exact inferInstance); (focus exact rfl); (focus exact rfl); (focus exact rfl)) | (apply ResA.cell1; (focus exact inferInstance); (focus exact rfl); (focus exact rfl); (focus exact rfl)))) rfl rfl (by simp [bpLtB, bpLtL, bp_NB]) (LeA.of_eq (by rw [show reT none (tupA [AV.bs 1 0 8 (0 + (ns.map nodA).length) cap]) = AV.bs 1 0 8 (0 + (ns.map nodA).length) cap from rfl, hml, Nat.zero_add])) ⟨rfl, cap, by omega, rfl, rfl⟩

theorem PcloneE (es : List Ent) (h1 : es.length ≤ 1000) : AFn Try.prog 76 [.sl 2 (es.map entA) none] (fun x => x = .sl 2 (es.map entA) none) := by
  refine enter Try.func76 rfl rfl rfl rfl rfl 0 rfl ?_
  refine w_ (a_ (h:=e_ (q_ (w_ (m_ (h:=?_))))))
  refine al_p rfl (st_eqNil rfl rfl ?_)
  intro b hb
  refine e_ (?_)
  refine aw_cond rfl (fun hb1 => ?_) (fun hb1 => ?_)
  · have hc1 := bp hb1
    refine w_ (a_ (h:=e_ (aw_ret (x_thenR (?_)))))
    refine abody_ret (xs := [.v (.slice none 0 0)]) (r := .sl 2 [] none) none (by repeat (first | exact ResA.nil | (apply ResA.tmp; (focus exact rfl)) | (apply ResA.cellN; (focus exact inferInstance); (focus exact rfl); (focus exact rfl); (focus exact rfl)) | (apply ResA.cell1; (focus exact inferInstance); (focus exact rfl); (focus exact rfl); (focus exact rfl)))) rfl rfl rfl (LeA.nil _) ⟨rfl, rfl, ?_⟩
    rw [hb hc1]
  · have hc1 := bp hb1
    refine kt_ (w_ (?_))
    refine al_p rfl (s_slit0 (by repeat constructor) ?_)
    refine m_ (h:=ap_ (h:=a_ (h:=e_ (aw_ret (?_)))))
    refine e_ret ?_
    rfl

theorem PcloneMT (ms : List Mnt) (h1 : ms.length ≤ 1000) : AFnT Try.prog 74 [.sl 3 (ms.map mntA) none] (fun g => .sl 3 (ms.map mntA) g) (60, 3, ms.map mntA) := by
  refine enter Try.func74 rfl rfl rfl rfl rfl 0 rfl ?_
  refine w_ (a_ (h:=e_ (q_ (w_ (m_ (h:=?_))))))
  refine al_p rfl (st_eqNil rfl rfl ?_)
  intro b hb
  refine e_ (?_)
  refine aw_cond rfl (fun hb1 => ?_) (fun hb1 => ?_)
  · have hc1 := bp hb1
    refine aw_midI (fun t => t = ⟨look [(2, .v (.slice none 0 0))], ⟨[], []⟩⟩) ?_ ?_
    · skip
      refine aw_region (a_ (h:=al_nil (?_)))
      refine x_then ?_
      exact ⟨_, rfl, (wk 0 0)⟩
    · rintro t rfl
      refine aw_nilTok 2 60 3 rfl (by repeat constructor) ?_
      rw [hb hb1]
      refine aw_ret (x_thenR (?_))
      refine rt_ (some 0) (h5 := (LeA.refl _)) (h6 := ⟨rfl, rfl, rfl⟩)
  · have hc1 := bp hb1
    refine kt_ (w_ (?_))
    refine al_p rfl (s_slit0 (by repeat constructor) ?_)
    refine m_ (h:=ap_ (h:=a_ (h:=e_ (aw_ret (?_)))))
    refine rt_ (some 0) (h5 := (LeA.refl _)) (h6 := ⟨rfl, rfl, rfl⟩)

theorem PspcT (s : Spc) (hs : SpcB s) (hne : ∀ d ∈ s.files, 0 < d.nodes.length) : AFnT Try.prog 46 [.agg (spcA s)] (fun g => .agg [.sl 2 (s.files.map dvcA) none, .sl 3 (s.mounts.map mntA) g]) (60, 3, s.mounts.map mntA) := by
  have hm := hs.few
  have hfew := hs.files.few
  refine enter Try.func46 rfl rfl rfl rfl rfl 0 rfl ?_
  refine w_ (b_ (h:=al_ (h:=e_ (w_ (f_ (h:=l_ (h:=?_)))))))
  refine al_p rfl (s_callT rfl (by repeat (first | exact Args.nil | refine Args.cons _ _ _ _ _ rfl (argOk_clean rfl) ?_ | refine Args.cons _ _ _ _ _ rfl (argOk_nil _) ?_ | refine Args.cons _ _ _ _ _ rfl (argOk_era _) ?_ | refine Args.cons _ _ _ _ _ rfl (argOk_le rfl (by repeat (first | exact LeA.refl _ | exact LeA.nil _ | exact LeL.refl _ | refine LeA.agg ?_ | refine LeA.tup ?_ | exact LeL.nil | refine LeL.cons ?_ ?_ | exact LeA.any _))) ?_)) (PcloneMT s.mounts hm) (fun _ => rfl) (by repeat constructor) ?_)
  refine bd_ (h:=al_ (h:=s_ (h:=e_ (q_ (w_ (f_ (h:=f_ (h:=l_ (h:=n_ (h:=m_ (h:=e_ (aw_block (?_)))))))))))))
  refine aw_nilTokB 2 0 68 2 rfl rfl (by repeat constructor) (by repeat constructor) (by repeat constructor) ?_
  refine aw_loopW (fun m t => ∃ j : Nat, j ≤ s.files.length ∧ m = s.files.length - j ∧ t = ⟨look [(2, .bp 1 0), (3, .bp 2 0), (14, .sl 2 (s.files.map dvcA) none), (15, .v (.int .i64 ((s.files.map dvcA).length : Int))), (16, .v (.int .i64 (j : Int)))], ⟨[spcA s, [.v (.slice none 0 0), .v (.slice none 0 0)], [.sl 2 ((s.files.take j).map dvcA) (some 1), .sl 3 (s.mounts.map mntA) (some 0)]], [(60, 3, s.mounts.map mntA), (68, 2, (s.files.take j).map dvcA)]⟩⟩) (s.files.length) ((wk 3 2)) (⟨0, Nat.zero_le _, rfl, rfl⟩) ?_
  rintro m t ⟨j, hj, rfl, rfl⟩
  refine w_ (lt_ (h:=e_ (q_ (?_))))
  refine aw_cond rfl (fun hb1 => ?_) (fun hb1 => ?_)
  · have hc1 := bp hb1
    obtain ⟨hlt, d, hd, hrow, e⟩ := row_at dvcA hc1
    have hdn := hs.files.nodes d (List.mem_of_getElem? hd)
    have hdp := hne d (List.mem_of_getElem? hd)
    refine kt_ (q_ (aw_block (w_ (i_ (h:=l_ (h:=al_ (h:=s_ (h:=e_ (w_ (f_ (h:=l_ (h:=?_))))))))))))
    refine al_p rfl (s_callM [] rfl (.cons _ _ _ _ _ rfl (LeA.refl _) .nil) (by decide) .nil (PcloneN d.nodes hdn hdp) ?_)
    rintro r bc tc ⟨rfl, cap, hcap, rfl, rfl⟩
    refine ⟨rfl, _, (back_newR [] (NB d.nodes cap) (by simp [renL]) (ren_NB _ _ _) : Back _ [] _ [_, _, _, _, _, _]), ?_⟩
    refine a_ (h:=e_ (?_))
    refine aw_midI (fun t => t = ⟨look [(2, .bp 1 0), (3, .bp 2 0), (14, .sl 2 (s.files.map dvcA) none), (15, .v (.int .i64 ((s.files.map dvcA).length : Int))), (16, .v (.int .i64 (j : Int))), (5, .bp 3 0), (6, .sl 8 (d.nodes.map nodA) none)], ⟨[spcA s, [.v (.slice none 0 0), .v (.slice none 0 0)], [.sl 2 ((s.files.take j).map dvcA) (some 1), .sl 3 (s.mounts.map mntA) (some 0)], dvcA d], [(60, 3, s.mounts.map mntA), (68, 2, (s.files.take j).map dvcA)]⟩⟩) ?_ ?_
    · skip
      refine w_ (m_ (h:=?_))
      refine al_p rfl (st_lenB rfl ?_)
      refine m_ (h:=e_ (aw_block (?_)))
      refine aw_loopW (fun m t => ∃ i : Nat, i ≤ d.nodes.length ∧ m = d.nodes.length - i ∧ t = ⟨look [(2, .bp 1 0), (3, .bp 2 0), (14, .sl 2 (s.files.map dvcA) none), (15, .v (.int .i64 ((s.files.map dvcA).length : Int))), (16, .v (.int .i64 (j : Int))), (5, .bp 3 0), (6, .bs 5 0 8 d.nodes.length cap), (24, .v (.int .i64 (d.nodes.length : Int))), (25, .v (.int .i64 (i : Int)))], ⟨[spcA s, [.v (.slice none 0 0), .v (.slice none 0 0)], [.sl 2 ((s.files.take j).map dvcA) (some 1), .sl 3 (s.mounts.map mntA) (some 0)], dvcA d, [], NB d.nodes cap], [(60, 3, s.mounts.map mntA), (68, 2, (s.files.take j).map dvcA)]⟩⟩) (d.nodes.length) (weak_of 6 2 rfl rfl rfl (by simp [bpLtB, bpLtL, bpLt, bp_NB, bp_plain (mnt_plain s.mounts), spcA, dvcA]) (by repeat (first | exact Sub.nil | refine Sub.cons _ _ _ rfl rfl ?_ | refine Sub.any _ _ ?_ | refine Sub.sl _ _ _ _ _ rfl ?_ | refine Sub.slnil _ _ _ rfl ?_))) (⟨0, Nat.zero_le _, rfl, rfl⟩) ?_
      rintro m t ⟨i, hi, rfl, rfl⟩
      refine w_ (lt_ (h:=e_ (q_ (?_))))
      refine aw_cond rfl (fun hb2 => ?_) (fun hb2 => ?_)
      · have hc2 := bp hb2
        have hil : i < d.nodes.length := by omega
        obtain ⟨n, hy⟩ : ∃ n, d.nodes[i]? = some n := ⟨_, List.getElem?_eq_getElem hil⟩
        have hen := hs.files.ents d (List.mem_of_getElem? hd) n (List.mem_of_getElem? hy)
        refine kt_ (q_ (aw_block (w_ (m_ (h:=a_ (h:=e_ (aw_region (m_ (h:=m_ (h:=m_ (h:=m_ (h:=?_))))))))))))
        refine al_p rfl (st_indexS (m := i) rfl rfl rfl hil ?_)
        refine f_ (h:=?_)
        refine al_p rfl (st_loadB1 rfl rfl (NB_get hy rfl) ?_)
        refine al_p rfl (q_call (PcloneE n.entries hen) ?_)
        rintro r rfl
        refine al_p rfl (st_indexS (m := i) rfl rfl rfl hil ?_)
        refine f_ (h:=?_)
        refine al_p0 (s_store rfl rfl rfl rfl rfl rfl (NB_same hy) (by repeat constructor) ?_)
        refine al_nil (x_blockN (t_ (aw_region (ad_ (h:=m_ (h:=al_nil (?_)))))))
        refine x_then ?_
        refine ⟨_, _, ?_, ⟨i + 1, by omega, rfl, rfl⟩, weak_of 6 2 rfl rfl rfl (by simp [bpLtB, bpLtL, bpLt, bp_NB, bp_plain (mnt_plain s.mounts), spcA, dvcA]) ((by repeat (first | exact Sub.nil | refine Sub.cons _ _ _ rfl rfl ?_ | refine Sub.any _ _ ?_ | refine Sub.sl _ _ _ _ _ rfl ?_ | refine Sub.slnil _ _ _ rfl ?_)))⟩
        omega
      · have hc2 := bp hb2
        refine aw_exit (x_thenE (x_thenE (ABlock_out (?_))))
        refine x_then ?_
        exact ⟨_, rfl, weak_fz 4 1 rfl rfl (.cons _ _ _ _ rfl (LeA.refl _) (.cons _ _ _ _ rfl (LeA.refl _) (.cons _ _ _ _ rfl (LeA.refl _) (.cons _ _ _ _ rfl (LeA.refl _) (.cons _ _ _ _ rfl (LeA.refl _) (.cons _ _ _ _ rfl (LeA.refl _) (.cons _ _ _ _ rfl (LeA.of_eq (liv_rows (rows := d.nodes.map nodA) (Nat.le_of_ble_eq_true rfl) (frz_NB (n := 4) (k := 0) (j := 5) (Nat.le_of_ble_eq_true rfl) rfl) (nods_eight _) (by simp) (by simpa using hcap))) .nil)))))))⟩
    · rintro t rfl
      refine aw_region (f_ (h:=f_ (h:=l_ (h:=f_ (h:=l_ (h:=m_ (h:=bd_ (h:=bs_ (h:=?_)))))))))
      first | refine al_p rfl (s_append rfl rfl rfl (by simp; omega) (by repeat constructor) ?_) | refine al_p rfl (s_append0 rfl rfl (by simp; omega) (by repeat constructor) ?_)
      refine f_ (h:=f_ (h:=s_ (h:=al_nil (x_blockN (t_ (aw_region (ad_ (h:=m_ (h:=al_nil (?_))))))))))
      refine x_then ?_
      refine ⟨_, _, ?_, ⟨j + 1, by omega, rfl, rfl⟩, (by rw [e]; exact weak_of 3 2 rfl rfl rfl rfl ((by repeat (first | exact Sub.nil | refine Sub.cons _ _ _ rfl rfl ?_ | refine Sub.any _ _ ?_ | refine Sub.sl _ _ _ _ _ rfl ?_ | refine Sub.slnil _ _ _ rfl ?_))))⟩
      omega
  · have hc1 := bp hb1
    have e := row_no dvcA hj hc1
    subst e
    rw [List.take_length]
    refine aw_exit (x_thenE (x_thenE (ABlock_out (t_ (w_ (l_ (h:=s_ (h:=e_ (aw_ret (?_))))))))))
    refine rt_ (some 0) (h5 := (LeA.refl _)) (h6 := ⟨rfl, rfl, rfl⟩)

end
end Go.Proofs.Ytgliiknfmlmddaa
