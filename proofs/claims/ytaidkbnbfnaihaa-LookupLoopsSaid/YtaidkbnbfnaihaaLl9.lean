/-
  Part 9 of the proof of LookupLoopsP: what the statement's proof uses of the texts in wip/tpl.
-/
import Derived.Maps.AppendAt
import Derived.OwnWalk
import Derived.StillTailTactics
import Derived.Test.YtaidkbnbfnaihaaLl8
namespace Go.Proofs.Ytaidkbnbfnaihaa
open Go.RowKit Go.Shelf
attribute [local go_sem] Oper.semAt_some

theorem SeqW.inRound {α : Type} {F : Fence} {n : Nat} {P : Program} {g : Nat} {lb : Array Value} {encs : α → Array Value} {own : Nat → Prop} {Kp : World → World → Prop} {Pf : List α → Prop} {S Sp : List α → Prop} {w : World} (l : Nat) (h : SeqW F n P g lb encs own Kp Pf S Sp w) : SeqW (F.inRound l) n P g lb encs own Kp Pf S Sp w := h
theorem backward_any (A : Option Addr) (m c : Nat) (w : World) :
    Calls Try.prog 84 #[.slice A m c] w fun e w' =>
      e = .returned (.func (.func 94) #[] #[.pointer (some ⟨w.heap.size, 0, none⟩)]) ∧ w' = w.alloc (.cells #[.slice A m c] 60) := by
  go_enter Try.func84, Try.ntmps84
  go_wp2
  go_ret
  exact ⟨rfl, rfl⟩
def NamesIn (w : World) (A : Option Addr) (m c : Nat) (ns : List Str) (g : Nat) : Prop :=
  ns.length = m ∧ m ≤ c ∧ (ns = [] ∨ A = some ⟨g, 0, none⟩ ∧ ∀ i x, ns[i]? = some x → w.cell? ⟨g, i, none⟩ = some (.string x))
theorem NamesIn.keep {w w' : World} {A : Option Addr} {m c : Nat} {ns : List Str} {g : Nat} (h : NamesIn w A m c ns g) (hg : w'.heap[g]? = w.heap[g]?) : NamesIn w' A m c ns g :=
  ⟨h.1, h.2.1, h.2.2.imp id fun h => ⟨h.1, fun i x hx => (World.cell?_of_block (w := w) (w' := w') (a := ⟨g, i, none⟩) hg).trans (h.2 i x hx)⟩⟩
def KeepB (b0 g : Nat) (X Y : World) : Prop := Y.heap[b0]? = X.heap[b0]? ∧ Y.heap[g]? = X.heap[g]?
set_option maxRecDepth 100000 in
set_option maxHeartbeats 2000000 in
theorem backward1 (n : Nat) (ns : List Str) (hns : ns.length ≤ 1000000) (b0 g : Nat) (A : Option Addr) (m c : Nat) (w : World) (h0 : Boxed w b0 60 (.slice A m c)) (hN : NamesIn w A m c ns g) (hg : ns = [] ∨ g < w.heap.size) :
    SeqW Fence.wide n Try.prog 94 #[.pointer (some ⟨b0, 0, none⟩)] (fun x : Int × Str => #[.int .i64 x.1, .string x.2]) (fun _ => False) (KeepB b0 g) (fun xs => xs.map (·.2) <+: ns.reverse)
      (fun xs => xs.map (·.2) = ns.reverse) (fun _ => True) w := fun l J Jx W hW hJ hJx hY hst => by
  have k0 : Boxed W b0 60 (.slice A m c) := blk_below h0 hW h0.lt
  have kN : NamesIn W A m c ns g := by
    rcases hg with hg | hg
    · exact ⟨hN.1, hN.2.1, .inl hg⟩
    · exact hN.keep (hW.block g hg)
  have hmc := kN.2.1
  have hme := kN.1
  subst hme
  have c0 := k0.cell
  have f0 := k0.frozen
  have HJ := Lib.hid hJ
  have HJx := Lib.hid hJx
  have HY := Lib.hid hY
  clear hN hg hW hJ hJx hY h0
  refine callsIn_of_wp Try.func94 rfl trivial ?_ rfl
  simp only [Try.ntmps94, List.size_toArray, List.length_cons, List.length_nil, Nat.reduceAdd, Nat.reduceSub, Array.replicate_succ, Array.replicate_zero, List.push_toArray, List.append_toArray, List.nil_append, List.cons_append]
  gi_wp2
  gi_loopw [3] (fun i wr => ∃ (j : Nat) (pre : List (Int × Str)), j ≤ ns.length ∧ i = .int .i64 ((j : Int) - 1) ∧ J pre wr ∧ Boxed wr b0 60 (.slice A ns.length c) ∧ NamesIn wr A ns.length c ns g ∧ Hid (pre.map (·.2) = (ns.drop j).reverse)) (fun i _ => (intOf i + 1).toNat)
  case atStart => exact ⟨ns.length, [], Nat.le_refl _, rfl, hst, k0, kN, by rw [List.drop_length]; exact Lib.hid rfl⟩
  case round =>
    obtain ⟨j, pre, hj, rfl, hJp, m0, mN, hpre⟩ := hrel
    clear k0 kN hst c0 f0
    have c0 := m0.cell
    have f0 := m0.frozen
    cases j with
    | zero =>
      gi_wp2
      go_end0
      exact ⟨⟨_, rfl⟩, .inl ⟨pre, by rw [hpre.out]; simp, hJp⟩⟩
    | succ j =>
      have hlt : j < ns.length := by omega
      have hx : ns[j]? = some ns[j] := List.getElem?_eq_getElem hlt
      obtain ⟨_, _, hA⟩ := mN
      obtain ⟨rfl, hcell⟩ := hA.resolve_left (fun e => by rw [e] at hlt; simp at hlt)
      have hc := hcell j _ hx
      have HD : Hid ((ns.drop j).reverse = (ns.drop (j + 1)).reverse ++ [ns[j]]) := Lib.hid (by rw [List.drop_eq_getElem_cons hlt]; simp)
      obtain ⟨fn, tmps, assign, body, hy, hR⟩ := HY.out pre ((j : Int), ns[j]) wr hJp (by rw [List.map_append, hpre.out]; refine ⟨(ns.take j).reverse, ?_⟩; rw [show (ns.drop (j + 1)).reverse ++ List.map (·.2) [((j : Int), ns[j])] = (ns.drop j).reverse by rw [HD.out]; rfl, ← List.reverse_append, List.take_append_drop])
      have HC := Lib.hid hcell
      clear hcell hA hx
      generalize ns[j] = x at *
      gi_wp2_with fail
      refine ⟨(fun h => by cases h), hR.mono ?_⟩
      rintro e W3 (⟨rfl, hJ3, hk3⟩ | ⟨rfl, hJx3⟩)
      · have q0 : Boxed W3 b0 60 (.slice (some ⟨g, 0, none⟩) ns.length c) := hk3.1.trans m0
        have qN : NamesIn W3 (some ⟨g, 0, none⟩) ns.length c ns g := ⟨rfl, hmc, .inr ⟨rfl, fun i y hy => (World.cell?_of_block (w := wr) (w' := W3) (a := ⟨g, i, none⟩) hk3.2).trans (HC.out i y hy)⟩⟩
        clear c0 f0 hy hR hc
        gi_wp2
        go_roundw
        case rel => exact ⟨j, pre ++ [((j : Int), x)], by omega, rfl, hJ3, q0, qN, by rw [HD.out, ← hpre.out]; exact Lib.hid (by simp)⟩
        case measure => simp [intOf]
      · gi_wp2
        refine bodyPost_ret (results_none rfl _ _ _) rfl ?_
        exact ⟨⟨_, rfl⟩, .inr ⟨pre ++ [((j : Int), x)], trivial, hJx3⟩⟩
end Go.Proofs.Ytaidkbnbfnaihaa
namespace Go.Proofs.Ytaidkbnbfnaihaa
open Go.RowKit Go.Shelf
attribute [local go_sem] Oper.semAt_some

theorem Try.infoStrH : (Try.prog.info? 9).map (fun i => (i.zero, i.size, i.bytes)) = some (some (.string ⟨#[]⟩), 1, 16) := by kernel_rfl
def accW (s : Spc) (pre : List Fil) : List Str := (pre.filter fun x : Fil => decide (x.2 ≠ 1)).map (nmoL s)
def pathW (s : Spc) (pre : List Fil) : Str := (accW s pre).reverse.foldl joinS ⟨#[47]⟩
def whereP (s : Spc) (dir : Fil) : Str × Bool :=
  if dirL s.files dir = true ∧ mtdL s dir.1 = true ∧ (0, 1) ∈ chainP s (mostL s.files) dir then (pathW s ((chainP s (mostL s.files) dir).takeWhile fun x => decide (x ≠ (0, 1))), true) else (⟨#[]⟩, false)
theorem chainP_len (s : Spc) : ∀ (k : Nat) (a : Fil), (chainP s k a).length ≤ k
  | 0, _ => by simp [chainP]
  | k + 1, a => by
    unfold chainP
    split
    · cases h : stepC s a with
      | none => simp
      | some b => have := chainP_len s k b; simp; omega
    · simp
theorem join_size (d m : Str) : (joinS d m).size ≤ d.size + 1 + m.size := by
  unfold joinS
  split
  · rw [ByteArray.size_append]; omega
  · rw [ByteArray.size_append, ByteArray.size_append]; exact Nat.le_refl _
theorem fold_size : ∀ (l : List Str) (d : Str), (∀ x ∈ l, x.size ≤ 100) → (l.foldl joinS d).size ≤ d.size + 101 * l.length
  | [], d, _ => by simp
  | x :: l, d, h => by
    have h1 := fold_size l (joinS d x) fun y hy => h y (List.mem_cons_of_mem _ hy)
    have h2 := join_size d x
    have h3 := h x (List.mem_cons_self ..)
    simp only [List.foldl_cons, List.length_cons]
    omega
theorem namesIn_row {w : World} {base : Nat} {e : TypeId} {A : Option Addr} {c g0 : Nat} {ns : List Str} (h : w.ownsRow base e 1 (.slice A ns.length c) ns.length (ns.map Value.string)) (hg0 : g0 < w.heap.size) : ∃ g, g < w.heap.size ∧ NamesIn w A ns.length c ns g := by
  rcases h.2 with ⟨hv, hn⟩ | ⟨g, cap, cur, hv, _, hb, h1, _, _, h2⟩
  · injection hv with _ _ hc
    exact ⟨g0, hg0, rfl, by omega, .inl (List.length_eq_zero_iff.1 hn)⟩
  · injection hv with hA _ hc
    subst hA hc
    refine ⟨g, lt_some hb, rfl, h1, .inr ⟨rfl, fun i x hx => ?_⟩⟩
    rw [(cells_of hb).1 i, ← Array.getElem?_toList]
    have hi : i < ns.length := (List.getElem?_eq_some_iff.1 hx).1
    rw [← List.getElem?_take_of_lt (show i < ns.length * 1 by omega), h2, List.getElem?_map, hx]
    rfl
theorem takeWhile_pre {pre l : List Fil} (h : pre <+: l) (hm : (0, 1) ∈ pre) : (l.takeWhile fun x : Fil => decide (x ≠ (0, 1))) = pre.takeWhile fun x : Fil => decide (x ≠ (0, 1)) := by
  obtain ⟨t, rfl⟩ := h
  induction pre with
  | nil => simp at hm
  | cons y ys ih =>
    by_cases hy : y = (0, 1)
    · simp [hy]
    · have hm' : (0, 1) ∈ ys := by
        rcases List.mem_cons.1 hm with h | h
        · exact absurd h.symm hy
        · exact h
      rw [List.cons_append, List.takeWhile_cons, List.takeWhile_cons, ih hm']
theorem takeWhile_no {pre : List Fil} (h : (0, 1) ∉ pre) : ((pre ++ [(0, 1)]).takeWhile fun x : Fil => decide (x ≠ (0, 1))) = pre := by
  induction pre with
  | nil => simp
  | cons y ys ih =>
    have hy : y ≠ (0, 1) := fun e => h (by rw [e]; simp)
    rw [List.cons_append, List.takeWhile_cons, if_pos (by simpa using hy), ih (fun hm => h (List.mem_cons_of_mem _ hm))]
theorem accW_snoc (s : Spc) (pre : List Fil) (x : Fil) : accW s (pre ++ [x]) = if x.2 = 1 then accW s pre else accW s pre ++ [nmoL s x] := by
  unfold accW
  rw [List.filter_append, List.map_append]
  by_cases h : x.2 = 1 <;> simp [h]
theorem accW_len (s : Spc) (pre : List Fil) : (accW s pre).length ≤ pre.length := by
  unfold accW
  rw [List.length_map]
  exact List.length_filter_le _ _
theorem any_step {F : Fence} {n : Nat} {P : Program} {ops : Array Oper} {Q : Exit → Act → World → Prop} {fuel : Nat} {listed : Array Bool} {a : Act} {w : World} {rs : List Nat} (hr : Region.ready .any ops listed = rs) (hne : rs ≠ [])
    (h : ∀ i ∈ rs, wpOpIn F n P ops Q i (wpAnyIn F n P .any ops Q fuel (listed.setIfInBounds i true)) a w) : wpAnyIn F n P .any ops Q (fuel + 1) listed a w :=
  ⟨fun h0 => absurd (hr.symm.trans h0) hne, fun i hi => h i (hr ▸ hi)⟩
theorem op_list {F : Fence} {n : Nat} {P : Program} {ops l : Array Oper} {Q : Exit → Act → World → Prop} {i : Nat} {o : Oper} {K : Act → World → Prop} {a : Act} {w : World} (hops : ops = l) (ho : l[i]? = some o)
    (h : ∀ K' : Act → World → Prop, (∀ a w, K a w → K' a w) → wpListIn F n P ops (Exit.then K' Q) [o] a w) : wpOpIn F n P ops Q i K a w := by
  have h1 := h K fun _ _ h => h
  subst hops
  unfold wpOpIn
  rw [ho]
  unfold wpListIn at h1
  simp only
  split at h1
  · rename_i hw
    rw [if_pos hw]
    refine ⟨h1.1, ?_⟩
    have h2 := h1.2
    generalize (o.semAt F.round a.eval).run P w = r at h2
    cases r with
    | ok x w' => cases x <;> exact h2
    | halt x w' => cases x <;> exact h2
  · rename_i hw
    rw [if_neg hw]
    exact h1
theorem any_start {F : Fence} {n : Nat} {P : Program} {ops : Array Oper} {Q : Exit → Act → World → Prop} {id : Nat} {a : Act} {w : World} (hm : P.follows .mixedOrders = true) (k : Nat) (hk : ops.size = k)
    (h : ∀ ops', ops' = ops → wpAnyIn F n P .any ops' Q k (Array.replicate k false) a w.drew) : (Code.region id ops true).wpIn F n P Q a w := by
  subst hk
  exact wpIn_region_any hm (h ops rfl)
theorem appendedH_ {W w1 : World} {base B : Nat} {t e : TypeId} {size : Nat} {v v' : Value} {k m : Nat} {xs ys : List Value} {tmp : Obj}
    (hv : Boxed W B t v) (hrow : W.ownsRow base e size v k xs) (hbase : base ≤ W.heap.size) (hB : B < base)
    (hown' : w1.ownsRow base e size v' m ys) (hgrow : (W.alloc tmp).grownBy w1 v.ownBlock) :
    Boxed w1 B t v ∧ Boxed (w1.setCell ⟨B, 0, none⟩ v') B t v' ∧ (w1.setCell ⟨B, 0, none⟩ v').ownsRow base e size v' m ys ∧ KeepsOthers W (w1.setCell ⟨B, 0, none⟩ v') ∧
      Below B W (w1.setCell ⟨B, 0, none⟩ v') ∧ (∀ j : Nat, j < base → j ≠ B → (w1.setCell ⟨B, 0, none⟩ v').heap[j]? = W.heap[j]?) ∧
      ∀ (j : Nat) (cs : Array Value) (t' : TypeId), t' ≠ e → t' ≠ t → W.heap[j]? = some (.cells cs t') → (w1.setCell ⟨B, 0, none⟩ v').heap[j]? = some (.cells cs t') := by
  have hne : ∀ j, j < base → some j ≠ v.ownBlock := by
    intro j hj e
    have := World.ownsRow.lt hrow j e.symm
    omega
  have hblk : ∀ j, j < base → w1.heap[j]? = W.heap[j]? := fun j hj => (hgrow.block j (by simp; omega) (hne j hj)).trans (Below.heap_alloc W tmp j (by omega))
  have hv1 : Boxed w1 B t v := (hblk B hB).trans hv
  refine ⟨hv1, hv1.set v', ownsRow_setCell_below hown' hB v', ?_, ?_, fun j hj hj' => (Below.heap_setCell w1 ⟨B, 0, none⟩ v' j hj').trans (hblk j hj), ?_⟩
  · refine ((KeepsOthers.alloc W tmp).trans (KeepsOthers.of_grownBy hgrow fun j o ej hj => ?_)).trans (KeepsOthers.setCell _ _ _)
    rcases (hrow.alloc tmp).2 with ⟨rfl, _⟩ | ⟨g, cap, cur, rfl, _, hgb, _⟩
    · simp [Value.ownBlock] at ej
    · obtain rfl : g = j := by simpa [Value.ownBlock] using ej
      rw [hgb] at hj; cases hj; rfl
  · have hs := hgrow.size
    simp at hs
    exact ⟨hgrow.os, hgrow.tape, hgrow.output, by simp [World.setCell]; omega, fun j hj => (Below.heap_setCell w1 ⟨B, 0, none⟩ v' j (by show j ≠ B; omega)).trans (hblk j (by omega))⟩
  · intro j cs t' he ht hj
    have hjl := lt_some hj
    refine (Below.heap_setCell w1 ⟨B, 0, none⟩ v' j fun eq => ?_).trans (((hgrow.block j (by simp; omega) fun eq => ?_).trans (Below.heap_alloc W tmp j (by omega))).trans hj)
    · have eq' : j = B := eq
      subst eq'
      rw [show W.heap[j]? = _ from hv] at hj
      injection hj with hj
      injection hj with _ h2
      exact ht h2.symm
    · rcases hrow.2 with ⟨rfl, _⟩ | ⟨g, cap, cur, rfl, _, hgb, _⟩
      · simp [Value.ownBlock] at eq
      · obtain rfl : j = g := by simpa [Value.ownBlock] using eq
        rw [hgb] at hj
        injection hj with hj
        injection hj with _ h2
        exact he h2.symm
theorem Moves.rowH {own : Nat → Prop} {B : Nat} {X Y : World} (h : Moves own B X Y) {base e size k : Nat} {v : Value} {xs : List Value} (hr : X.ownsRow base e size v k xs) (ho : ∀ b, own b → b < base) : Y.ownsRow base e size v k xs := by
  refine ⟨hr.1, ?_⟩
  rcases hr.2 with h' | ⟨g, cap, cur, hv, hg, hb, r⟩
  · exact .inl h'
  · refine .inr ⟨g, cap, cur, hv, hg, ?_, r⟩
    exact (h.block g (Array.getElem?_eq_some_iff.1 hb).1 (fun e => by have := ho g e; omega) (.inr ⟨_, hb, rfl⟩)).trans hb
set_option maxRecDepth 100000 in
set_option maxHeartbeats 4000000 in
theorem where_o (n : Nat) (hn : Hid (4 ≤ n)) (s : Spc) (hs : SpcB s) (hnm : ∀ x, (nmoL s x).size ≤ 100) (hmo : mostL s.files ≤ 5000) (dir : Fil) (ds ms : Value) (w : World) (h : SpcIn s w.heap.size w ds ms) :
    CallsIn Fence.wide n Try.prog 59 #[.agg #[ds, ms], FilV dir] w fun e w' => e = .returned (.tuple #[.string (whereP s dir).1, .bool (whereP s dir).2]) ∧ Below w.heap.size w w' := by
  obtain ⟨i0, hi0, hz0, hz1, hz2⟩ := info_parts Try.infoStrH
  have HNM := Lib.hid hnm
  clear hnm
  unfold FilV
  refine callsIn_of_wp_marks Try.func59 rfl trivial ?_ rfl
  simp only [Try.ntmps59, List.size_toArray, List.length_cons, List.length_nil, Nat.reduceAdd, Nat.reduceSub, Array.replicate_succ, Array.replicate_zero, List.push_toArray, List.append_toArray, List.nil_append, List.cons_append]
  gi_wp2_with fail
  obtain ⟨W4, hW4⟩ : ∃ W4, (((w.alloc (.cells #[ds, ms] 30)).alloc (.cells #[.int .i64 dir.1, .int .i64 dir.2] 33)).alloc (.cells #[.string ⟨#[]⟩] 9)).alloc (.cells #[.bool false] 4) = W4 := ⟨_, rfl⟩
  have hz4 : W4.heap.size = w.heap.size + 4 := by rw [← hW4]; simp
  have hB4 : Below w.heap.size w W4 := by rw [← hW4]; exact below_a4 _ _ _ _ _
  have kS : W4.heap[w.heap.size]? = some (.cells #[ds, ms] 30) := by rw [← hW4]; exact blk_a4_0 _ _ _ _ _
  have kD : W4.heap[w.heap.size + 1]? = some (.cells #[.int .i64 dir.1, .int .i64 dir.2] 33) := by rw [← hW4]; exact blk_a4_1 _ _ _ _ _
  have kP : Boxed W4 (w.heap.size + 1 + 1) 9 (.string ⟨#[]⟩) := by rw [← hW4]; exact blk_a4_2 _ _ _ _ _
  have kE : Boxed W4 (w.heap.size + 1 + 1 + 1) 4 (.bool false) := by rw [← hW4]; exact blk_a4_3 _ _ _ _ _
  have hSp := h.below hB4 (Nat.le_refl _)
  rw [hW4]
  have HZ4 := Lib.hid hz4
  clear hW4
  refine wideCall ((callsIn_wide.2 (isDir_o hSp hs dir)).mono ?_)
  rintro e W5 ⟨rfl, hb5⟩
  obtain ⟨di, hdi⟩ : ∃ di, dirL s.files dir = di := ⟨_, rfl⟩
  rw [hdi]
  have hz5 := hb5.size
  have k5S := blk_below kS hb5 (lt_some kS)
  have k5D := blk_below kD hb5 (lt_some kD)
  have k5P : Boxed W5 (w.heap.size + 1 + 1) 9 (.string ⟨#[]⟩) := blk_below kP hb5 (lt_some kP)
  have k5E : Boxed W5 (w.heap.size + 1 + 1 + 1) 4 (.bool false) := blk_below kE hb5 (lt_some kE)
  have hB5 : Below w.heap.size w W5 := hB4.trans (hb5.mono hB4.size)
  have h5 := h.below hB5 (Nat.le_refl _)
  have HZ5 : Hid (w.heap.size + 4 ≤ W5.heap.size) := Lib.hid (by omega)
  have HDI := Lib.hid hdi
  clear kS kD kP kE hB4 hSp hb5 hz4 hz5 hdi HZ4
  obtain ⟨c0, f0⟩ := cells_of k5S
  obtain ⟨c1, f1⟩ := cells_of k5D
  have c2 := k5P.cell
  have f2 := k5P.frozen
  have c3 := k5E.cell
  have f3 := k5E.frozen
  cases di with
  | false =>
    have HW : Hid (whereP s dir = (⟨#[]⟩, false)) := Lib.hid (by unfold whereP; rw [HDI.out]; simp)
    gi_wp2
    refine ⟨trivial, ?_⟩
    gi_wp2
    have hP := (Boxed.other (k5P.set (.string ⟨#[]⟩)) (show w.heap.size + 1 + 1 ≠ w.heap.size + 1 + 1 + 1 by omega) (.bool false)).cell
    have hE := ((Boxed.other k5E (show w.heap.size + 1 + 1 + 1 ≠ w.heap.size + 1 + 1 by omega) (.string ⟨#[]⟩)).set (.bool false)).cell
    refine ⟨.tuple #[.string ⟨#[]⟩, .bool false], by simp [results, Try.f59, go_sem, hP, hE], by rw [HW.out], (hB5.setCell (by show w.heap.size ≤ w.heap.size + 1 + 1; omega) _).setCell (by show w.heap.size ≤ w.heap.size + 1 + 1 + 1; omega) _⟩
  | true =>
    gi_wp2_with fail
    refine wideCall ((callsIn_wide.2 (mounted_o h5 hs dir.1)).mono ?_)
    rintro e W6 ⟨rfl, hb6⟩
    obtain ⟨mi, hmi⟩ : ∃ mi, mtdL s dir.1 = mi := ⟨_, rfl⟩
    rw [hmi]
    have hz6 := hb6.size
    have k6S := blk_below k5S hb6 (lt_some k5S)
    have k6D := blk_below k5D hb6 (lt_some k5D)
    have k6P : Boxed W6 (w.heap.size + 1 + 1) 9 (.string ⟨#[]⟩) := blk_below k5P hb6 (lt_some k5P)
    have k6E : Boxed W6 (w.heap.size + 1 + 1 + 1) 4 (.bool false) := blk_below k5E hb6 (lt_some k5E)
    have hB6 : Below w.heap.size w W6 := hB5.trans (hb6.mono hB5.size)
    have HZ6 : Hid (w.heap.size + 4 ≤ W6.heap.size) := Lib.hid (by have := HZ5.out; omega)
    have HMI := Lib.hid hmi
    clear k5S k5D k5P k5E hB5 h5 hb6 hz6 hmi HZ5 c0 f0 c1 f1 c2 f2 c3 f3
    obtain ⟨c0, f0⟩ := cells_of k6S
    obtain ⟨c1, f1⟩ := cells_of k6D
    have c2 := k6P.cell
    have f2 := k6P.frozen
    have c3 := k6E.cell
    have f3 := k6E.frozen
    cases mi with
    | false =>
      have HW : Hid (whereP s dir = (⟨#[]⟩, false)) := Lib.hid (by unfold whereP; rw [HMI.out]; simp)
      gi_wp2
      have hP := (Boxed.other (k6P.set (.string ⟨#[]⟩)) (show w.heap.size + 1 + 1 ≠ w.heap.size + 1 + 1 + 1 by omega) (.bool false)).cell
      have hE := ((Boxed.other k6E (show w.heap.size + 1 + 1 + 1 ≠ w.heap.size + 1 + 1 by omega) (.string ⟨#[]⟩)).set (.bool false)).cell
      refine ⟨.tuple #[.string ⟨#[]⟩, .bool false], by simp [results, Try.f59, go_sem, hP, hE], by rw [HW.out], (hB6.setCell (by show w.heap.size ≤ w.heap.size + 1 + 1; omega) _).setCell (by show w.heap.size ≤ w.heap.size + 1 + 1 + 1; omega) _⟩
    | true =>
      have HW : Hid (whereP s dir = if (0, 1) ∈ chainP s (mostL s.files) dir then (pathW s ((chainP s (mostL s.files) dir).takeWhile fun x => decide (x ≠ (0, 1))), true) else (⟨#[]⟩, false)) := Lib.hid (by unfold whereP; rw [HDI.out, HMI.out]; simp)
      obtain ⟨d0, g0⟩ := cells_of (blk_alloc k6S (.cells #[.slice none 0 0] 60))
      obtain ⟨d1, g1⟩ := cells_of (blk_alloc k6D (.cells #[.slice none 0 0] 60))
      gi_wp2_with fail
      obtain ⟨W7, hW7⟩ : ∃ W7, W6.alloc (.cells #[.slice none 0 0] 60) = W7 := ⟨_, rfl⟩
      have hB7 : Below W6.heap.size W6 W7 := by rw [← hW7]; exact below_a1 _ _
      have hz7 : W7.heap.size = W6.heap.size + 1 := by rw [← hW7]; simp
      have kN : Boxed W7 W6.heap.size 60 (.slice none 0 0) := by rw [← hW7]; exact blk_a1_0 _ _
      rw [hW7]
      clear hW7 d0 g0 d1 g1 c0 f0 c1 f1 c2 f2 c3 f3
      refine wideCall ((callsIn_wide.2 (chain_any ds ms dir W7)).mono ?_)
      rintro e W9 ⟨rfl, hW9⟩
      have hB9 : Below W7.heap.size W7 W9 := by rw [hW9]; exact below_a2 _ _ _
      have hz9 : W9.heap.size = W6.heap.size + 3 := by rw [hW9]; simp [hz7]
      have cS : W9.heap[W7.heap.size]? = some (.cells #[ds, ms] 30) := by rw [hW9]; exact blk_a2_0 _ _ _
      have cD : W9.heap[W7.heap.size + 1]? = some (.cells #[.int .i64 dir.1, .int .i64 dir.2] 33) := by rw [hW9]; exact blk_a2_1 _ _ _
      have hB69 : Below W6.heap.size W6 W9 := hB7.trans (hB9.mono (by omega))
      have kN9 : Boxed W9 W6.heap.size 60 (.slice none 0 0) := blk_below kN hB9 (by omega)
      have k9S := blk_below k6S hB69 (lt_some k6S)
      have k9P : Boxed W9 (w.heap.size + 1 + 1) 9 (.string ⟨#[]⟩) := blk_below k6P hB69 (lt_some k6P)
      have k9E : Boxed W9 (w.heap.size + 1 + 1 + 1) 4 (.bool false) := blk_below k6E hB69 (lt_some k6E)
      have hBw : Below w.heap.size w W9 := hB6.trans (hB69.mono hB6.size)
      have kSp := h.below hBw (Nat.le_refl _)
      have HZ9 : Hid (W7.heap.size = W6.heap.size + 1 ∧ W9.heap.size = W6.heap.size + 3) := Lib.hid ⟨hz7, hz9⟩
      clear hW9 kN hB7 hB9 hB69 hB6 hz7 hz9 k6S k6D k6P k6E
      gi_wp2_with fail
      refine wpIn_rangeFunc_sa rfl (by have := hn.out; omega) (gf := 93) rfl trivial (enters_of Try.func93 (by kernel_rfl) rfl)
        (chain1 (n - 1) s hs dir w.heap.size W7.heap.size (W7.heap.size + 1) ds ms W9 cS cD kSp (by have := HZ9.out; have := HZ6.out; omega) (by have := HZ9.out; have := HZ6.out; omega) (by omega))
        (fun b hb => by have := HZ9.out; omega) KeepC.trans (fun W l o o' hl ho hc => by have := HZ9.out; have := HZ6.out; exact keepC_put (B := W9.heap.size) (by omega) (by omega) (by omega) W l o o' hl ho hc) (Below.refl _ _) (fun _ => rfl)
        (fun pre W => W.heap[w.heap.size]? = some (.cells #[ds, ms] 30) ∧ Boxed W (w.heap.size + 1 + 1) 9 (.string ⟨#[]⟩) ∧ Boxed W (w.heap.size + 1 + 1 + 1) 4 (.bool false) ∧ (∃ v, Boxed W W6.heap.size 60 v ∧ W.ownsRow W9.heap.size 9 1 v (accW s pre).length ((accW s pre).map Value.string)) ∧ (0, 1) ∉ pre ∧ Below w.heap.size w W)
        (fun c pre W => c = .ret ∧ Boxed W (w.heap.size + 1 + 1) 9 (.string (pathW s (pre.takeWhile fun x : Fil => decide (x ≠ (0, 1))))) ∧ Boxed W (w.heap.size + 1 + 1 + 1) 4 (.bool true) ∧ (0, 1) ∈ pre ∧ Below w.heap.size w W)
        (fun s X Y h hm => by
          obtain ⟨h1, h2, h3, ⟨v, h4, h5⟩, h6, h7⟩ := h
          have z9 := HZ9.out
          have z6 := HZ6.out
          exact ⟨(hm.block _ (lt_some h1) (by omega) (.inr ⟨_, h1, rfl⟩)).trans h1, hm.boxed h2 (by omega), hm.boxed h3 (by omega), ⟨v, hm.boxed h4 (by omega), hm.rowH h5 (fun b hb => by omega)⟩, h6, hm.under h7 (Nat.le_refl _) (fun b hb => by omega) (by omega)⟩)
        (fun c s X Y h hm => by
          obtain ⟨h1, h2, h3, h6, h7⟩ := h
          have z9 := HZ9.out
          have z6 := HZ6.out
          exact ⟨h1, hm.boxed h2 (by omega), hm.boxed h3 (by omega), h6, hm.under h7 (Nat.le_refl _) (fun b hb => by omega) (by omega)⟩)
        ⟨k9S, k9P, k9E, ⟨_, kN9, World.ownsRow_nil _ _ _ _⟩, by simp, hBw⟩
        (fun x W => { tmps := #[.agg #[ds, ms], .agg #[.int .i64 dir.1, .int .i64 dir.2], .pointer (some ⟨w.heap.size, 0, none⟩), .pointer (some ⟨w.heap.size + 1, 0, none⟩), .pointer (some ⟨w.heap.size + 1 + 1, 0, none⟩), .pointer (some ⟨w.heap.size + 1 + 1 + 1, 0, none⟩), .pointer (some ⟨W6.heap.size, 0, none⟩), .pointer (some ⟨W.heap.size, 0, none⟩), undef, undef, undef, .agg #[ds, ms],
          .agg #[.int .i64 dir.1, .int .i64 dir.2], .bool true, .bool false, .bool false, .agg #[ds, ms], .pointer (some ⟨w.heap.size + 1, 0, none⟩), .int .i64 dir.1, .bool true, .bool false, .bool false, .agg #[ds, ms], .agg #[.int .i64 dir.1, .int .i64 dir.2],
          .func (.func 93) #[] #[.pointer (some ⟨W7.heap.size, 0, none⟩), .pointer (some ⟨W7.heap.size + 1, 0, none⟩)], .agg #[.int .i64 x.1, .int .i64 x.2], undef, undef, undef, undef, undef, undef, undef, undef, undef, undef, undef, undef, undef, undef, undef, undef, undef, undef, undef, undef, undef, undef], defers := [] })
        (fun x W => W.alloc (.cells #[.int .i64 x.1, .int .i64 x.2] 33))
        (fun x W hsz => ⟨below_a1 _ _, by have := HZ9.out; have := HZ6.out; exact keepC_below (below_a1 _ _) (by omega) (by omega) (by omega)⟩) ?assign ?body ?done ?stop
      case assign =>
        intro l x W K hsz hK
        unfold FilV
        gi_wp2
        exact hK
      case body =>
        rintro l pre x W0 W ⟨c1, cP, cE, ⟨v, cN, hrow⟩, hnm, hbw⟩ hpf hsz hszW hcell hlW hrl
        have cX := hcell _ _ (blk_a1_0 W0 (.cells #[.int .i64 x.1, .int .i64 x.2] 33)) rfl
        simp only [size_a1] at hszW
        have HN := Lib.hid hnm
        have HZ := Lib.hid hsz
        have HPF := Lib.hid hpf
        clear hnm hsz hcell hpf k9S k9P k9E kN9 cS cD kSp
        obtain ⟨a1, b1⟩ := cells_of c1
        obtain ⟨aX, bX⟩ := cells_of cX
        have aP := cP.cell
        have bP := cP.frozen
        have aE := cE.cell
        have bE := cE.frozen
        have aN := cN.cell
        have bN := cN.frozen
        obtain ⟨xd, xi⟩ := x
        simp only at aX cX
        by_cases hx : (xd, xi) = (0, 1)
        · obtain ⟨rfl, rfl⟩ := Prod.mk.inj hx
          obtain ⟨A, cc, rfl⟩ : ∃ A c, v = .slice A (accW s pre).length c := by
            rcases hrow.2 with ⟨rfl, hn⟩ | ⟨g, cap, cur, rfl, _⟩
            · exact ⟨none, 0, by rw [hn]⟩
            · exact ⟨_, _, rfl⟩
          have cN' : Boxed (W.alloc (.cells #[.string ⟨#[47]⟩] 9)) W6.heap.size 60 (.slice A (accW s pre).length cc) := blk_alloc cN _
          have aN' := cN'.cell
          gi_wp2_with fail
          refine wideCall ((CallsIn.inRound l (callsIn_wide.2 (backward_any A (accW s pre).length cc _))).mono ?_)
          rintro e Wb ⟨rfl, hWb⟩
          have z9 := HZ9.out
          have z6 := HZ6.out
          have zz := HZ.out
          obtain ⟨g, hgl, hNI⟩ := namesIn_row hrow (g0 := w.heap.size) (by omega)
          have hza : (W.alloc (.cells #[.string ⟨#[47]⟩] 9)).heap.size = W.heap.size + 1 := size_a1 _ _
          rw [hza]
          have hBb : Below W.heap.size W Wb := by rw [hWb]; exact below_a2 _ _ _
          have hzb : Wb.heap.size = W.heap.size + 2 := by rw [hWb]; exact size_a2 _ _ _
          have kW : Boxed Wb W.heap.size 9 (.string ⟨#[47]⟩) := by rw [hWb]; exact blk_a2_0 _ _ _
          have kB : Boxed Wb (W.heap.size + 1) 60 (.slice A (accW s pre).length cc) := by rw [hWb]; exact blk_a2_1 _ _ _
          have kP : Boxed Wb (w.heap.size + 1 + 1) 9 (.string ⟨#[]⟩) := blk_below cP hBb (lt_some cP)
          have kE : Boxed Wb (w.heap.size + 1 + 1 + 1) 4 (.bool false) := blk_below cE hBb (lt_some cE)
          have kG := hNI.keep (hBb.block g hgl)
          have kL : ∃ r, Wb.heap[l]? = some (.loop r) := hrl.imp fun r hr => blk_below hr hBb (lt_some hr)
          obtain ⟨rl, kL⟩ := kL
          have hbb : Below w.heap.size w Wb := hbw.trans (hBb.mono hbw.size)
          have hkf : KeepsFrom W9.heap.size W Wb := keepsFrom_below hBb
          have hlen : (accW s pre).length ≤ 5000 := by
            have h1 := accW_len s pre
            have h2 := HPF.out.length_le
            have h3 := chainP_len s (mostL s.files) dir
            simp only [List.length_append] at h2
            omega
          have hall : ∀ y ∈ accW s pre, y.size ≤ 100 := by
            intro y hy
            unfold accW at hy
            obtain ⟨z, _, rfl⟩ := List.mem_map.1 hy
            exact HNM.out z
          have HL := Lib.hid hlen
          have HA := Lib.hid hall
          have HB := Lib.hid hzb
          have HGL := Lib.hid hgl
          clear hWb cN' aN' a1 b1 aX bX aP bP aE bE aN bN hza hlen hall hzb hgl z9 z6 zz
          gi_wp2_with fail
          refine wpIn_rangeFunc_sn (l₀ := l) (r₀ := rl) rfl kL (by have := hn.out; omega) (gf := 94) rfl trivial (enters_of Try.func94 (by kernel_rfl) rfl)
            ((backward1 (n - 1 - 1 - 1) (accW s pre) (by have := HL.out; omega) (W.heap.size + 1) g A (accW s pre).length cc Wb kB kG (.inr (by have := HB.out; have := HGL.out; omega))).inRound l)
            (fun b hb => hb.elim) (fun h k => ⟨k.1.trans h.1, k.2.trans h.2⟩) (fun X l' o o' hl' _ _ => by have := HB.out; have := HGL.out; exact ⟨World.putObj_heap_other (by omega), World.putObj_heap_other (by omega)⟩) (Below.refl _ _) (fun _ => rfl)
            (fun pr X => Boxed X W.heap.size 9 (.string ((pr.map (·.2)).foldl joinS ⟨#[47]⟩)) ∧ Boxed X (w.heap.size + 1 + 1) 9 (.string ⟨#[]⟩) ∧ Boxed X (w.heap.size + 1 + 1 + 1) 4 (.bool false) ∧ KeepsFrom W9.heap.size W X ∧ Below w.heap.size w X)
            (fun _ _ _ => False)
            (fun s' X Y h hm => ⟨hm.boxed h.1 (fun h => h), hm.boxed h.2.1 (fun h => h), hm.boxed h.2.2.1 (fun h => h), ⟨Nat.le_trans h.2.2.2.1.size hm.size, fun k o hk hko hc => by
              have hX := h.2.2.2.1.same k o hk hko hc
              have := lt_some hko
              have := HB.out
              exact (hm.block k (lt_some hX) (fun h => h) (.inl (by omega))).trans hX⟩, hm.under h.2.2.2.2 (Nat.le_refl _) (fun b hb => hb.elim) (by have := HB.out; have := HZ.out; have := HZ9.out; have := HZ6.out; omega)⟩)
            (fun _ _ _ _ h _ => h)
            ⟨kW, kP, kE, hkf, hbb⟩
            (fun y => { tmps := #[.agg #[ds, ms], .agg #[.int .i64 dir.1, .int .i64 dir.2], .pointer (some ⟨w.heap.size, 0, none⟩), .pointer (some ⟨w.heap.size + 1, 0, none⟩), .pointer (some ⟨w.heap.size + 1 + 1, 0, none⟩), .pointer (some ⟨w.heap.size + 1 + 1 + 1, 0, none⟩), .pointer (some ⟨W6.heap.size, 0, none⟩), .pointer (some ⟨W0.heap.size, 0, none⟩), .pointer (some ⟨W.heap.size, 0, none⟩), undef, .string y.2, .agg #[ds, ms],
              .agg #[.int .i64 dir.1, .int .i64 dir.2], .bool true, .bool false, .bool false, .agg #[ds, ms], .pointer (some ⟨w.heap.size + 1, 0, none⟩), .int .i64 dir.1, .bool true, .bool false, .bool false, .agg #[ds, ms], .agg #[.int .i64 dir.1, .int .i64 dir.2],
              .func (.func 93) #[] #[.pointer (some ⟨W7.heap.size, 0, none⟩), .pointer (some ⟨W7.heap.size + 1, 0, none⟩)], .agg #[.int .i64 0, .int .i64 1], .bool true, .agg #[.int .i64 0, .int .i64 1], .agg #[.int .i64 0, .int .i64 1], .bool true, .slice A (accW s pre).length cc,
              .func (.func 94) #[] #[.pointer (some ⟨W.heap.size + 1, 0, none⟩)], .int .i64 y.1, .string y.2, undef, undef, undef, undef, undef, undef, undef, undef, undef, undef, undef, undef, undef, undef], defers := [] }) ?assign2 ?body2 ?done2 ?stop2
          case assign2 =>
            intro l2 y X K hK
            gi_wp2
            exact hK
          case body2 =>
            rintro l2 pr y X ⟨e1, e2, e3, e4, e5⟩ hpf2 hszX
            have hp1 : (pr.map (·.2) ++ [y.2]) <+: (accW s pre).reverse := by simpa using hpf2
            have hl1 := hp1.length_le
            have hs1 := fold_size (pr.map (·.2)) ⟨#[47]⟩ fun z hz => HA.out z (List.mem_reverse.1 (hp1.subset (List.mem_append_left _ hz)))
            have hs2 : y.2.size ≤ 100 := HA.out _ (List.mem_reverse.1 (hp1.subset (by simp)))
            have hs3 : ((pr.map (·.2)).foldl joinS ⟨#[47]⟩).size ≤ 1000000 := by
              have h1 : (⟨#[47]⟩ : ByteArray).size = 1 := rfl
              have := HL.out
              simp only [List.length_append, List.length_map, List.length_cons, List.length_nil, List.length_reverse] at hl1
              simp only [List.length_map] at hs1
              omega
            have HF : Hid (((pr ++ [y]).map (·.2)).foldl joinS ⟨#[47]⟩ = joinS ((pr.map (·.2)).foldl joinS ⟨#[47]⟩) y.2) := Lib.hid (by simp)
            clear hpf2 hp1 hl1 hs1
            generalize (pr.map (·.2)).foldl joinS ⟨#[47]⟩ = dd at *
            obtain ⟨yi, yn⟩ := y
            simp only at hs2 HF
            have t1 := e1.cell
            have t2 := e1.frozen
            gi_wp2_with fail
            refine wideCall ((CallsIn.inRound l2 (CallsIn.inRound l (callsIn_wide.2 (join_o dd yn X hs3 (by omega))))).mono ?_)
            rintro e X' ⟨rfl, rfl⟩
            gi_wp2
            have := HB.out
            have hgl := HGL.out
            have z9 := HZ9.out
            have z6 := HZ6.out
            have zz := HZ.out
            refine ⟨keepsFrom_set (KeepsFrom.refl _ _) (by omega) _, ⟨Below.heap_setCell _ _ _ _ (by show W.heap.size + 1 ≠ W.heap.size; omega), Below.heap_setCell _ _ _ _ (by show g ≠ W.heap.size; omega)⟩, by rw [HF.out]; exact e1.set _, e2.other (by omega) _, e3.other (by omega) _, ?_, e5.setCell (by show w.heap.size ≤ W.heap.size; omega) _⟩
            refine ⟨Nat.le_trans e4.size (by simp), fun k o hk hko hc => ?_⟩
            have := lt_some hko
            exact (Below.heap_setCell _ _ _ _ (by show k ≠ W.heap.size; omega)).trans (e4.same k o hk hko hc)
          case done2 =>
            rintro xs X hS ⟨e1, e2, e3, e4, e5⟩
            rw [hS] at e1
            change Boxed X W.heap.size 9 (.string (pathW s pre)) at e1
            have t1 := e1.cell
            have t2 := e1.frozen
            have t3 := e2.cell
            have t4 := e2.frozen
            have t5 := e3.cell
            have t6 := e3.frozen
            clear hS
            gi_wp2_with fail
            have z9 := HZ9.out
            have z6 := HZ6.out
            have zz := HZ.out
            refine ⟨keepsFrom_set (keepsFrom_set e4 (by omega) _) (by omega) _, rfl, ?_, (Boxed.other e3 (by omega) _).set _, by simp, (e5.setCell (by show w.heap.size ≤ w.heap.size + 1 + 1; omega) _).setCell (by show w.heap.size ≤ w.heap.size + 1 + 1 + 1; omega) _⟩
            rw [takeWhile_no HN.out]
            exact Boxed.other (e2.set _) (by omega) _
          case stop2 =>
            intro c pr X _ hf
            exact hf.elim
        · by_cases hi : xi = 1
          · subst hi
            have hd : xd ≠ 0 := fun e => hx (by rw [e])
            gi_wp2_with fail
            have z9 := HZ9.out
            have z6 := HZ6.out
            have zz := HZ.out
            exact ⟨keepsFrom_below (Below.refl _ _), keepC_below (Below.refl _ _) (by omega) (by omega) (by omega), c1, cP, cE, ⟨v, cN, by rw [accW_snoc, if_pos rfl]; exact hrow⟩, by
              intro hm
              rcases List.mem_append.1 hm with hm | hm
              · exact HN.out hm
              · exact hx (List.mem_singleton.1 hm).symm, hbw⟩
          · gi_wp2_with fail
            have hbd : Below W.heap.size W W.drew := (Below.refl _ _).drew
            have d1 : W.drew.heap[w.heap.size]? = some (.cells #[ds, ms] 30) := c1
            have dX : W.drew.heap[W0.heap.size]? = some (.cells #[.int .i64 xd, .int .i64 xi] 33) := cX
            have dN : Boxed W.drew W6.heap.size 60 v := cN
            have dP : Boxed W.drew (w.heap.size + 1 + 1) 9 (.string ⟨#[]⟩) := cP
            have dE : Boxed W.drew (w.heap.size + 1 + 1 + 1) 4 (.bool false) := cE
            have drow : W.drew.ownsRow W9.heap.size 9 1 v (accW s pre).length ((accW s pre).map Value.string) := hrow
            refine any_start (by kernel_rfl) 7 rfl ?_
            intro ops hops
            have HO := Lib.hid hops
            clear hops
            have hszD : W.drew.heap.size = W.heap.size := rfl
            have hszO := hszW
            rw [← hszD] at hszW
            have hbW := hbd
            clear a1 b1 aX bX aP bP aE bE aN bN c1 cX cN cP cE hrow hszD hrl hbd
            generalize W.drew = W1 at *
            obtain ⟨a1, b1⟩ := cells_of d1
            obtain ⟨aX, bX⟩ := cells_of dX
            have aN := dN.cell
            have bN := dN.frozen
            have hB1 : Below w.heap.size w W1 := hbw.trans (hbW.mono hbw.size)
            have hcall : ∀ X, Below w.heap.size w X → Calls Try.prog 85 #[.agg #[ds, ms], .agg #[.int .i64 xd, .int .i64 xi]] X fun e w' => e = .returned (.string (nmoL s (xd, xi))) ∧ Below X.heap.size X w' := by
              intro X hX
              have hSX := h.below hX (Nat.le_refl _)
              refine (calls_rep (PnameOf s (xd, xi) hs) (vs := [.agg #[ds, ms], .agg #[.int .i64 xd, .int .i64 xi]]) hSX.1 (fso hSX hs (xd, xi))).mono ?_
              rintro e w' ⟨u, G', rfl, hr, hb⟩
              simp only [rep] at hr
              exact ⟨by rw [hr], hb⟩
            have tail : ∀ w2 : World, Below W1.heap.size W1 w2 → (w2.alloc (.cells #[.string (nmoL s (xd, xi))] 9)).cell? ⟨W6.heap.size, 0, none⟩ = some v →
                wpAnyIn (Fence.wide.inRound l) (n - 1 - 1) Try.prog .any ops (Exit.inBlock 2 (Exit.inBlock 1 (ownPostG W9.heap.size (KeepC w.heap.size W7.heap.size (W7.heap.size + 1))
                  (fun pre W => W.heap[w.heap.size]? = some (.cells #[ds, ms] 30) ∧ Boxed W (w.heap.size + 1 + 1) 9 (.string ⟨#[]⟩) ∧ Boxed W (w.heap.size + 1 + 1 + 1) 4 (.bool false) ∧ (∃ v, Boxed W W6.heap.size 60 v ∧ W.ownsRow W9.heap.size 9 1 v (accW s pre).length ((accW s pre).map Value.string)) ∧ (0, 1) ∉ pre ∧ Below w.heap.size w W)
                  (fun c pre W => c = .ret ∧ Boxed W (w.heap.size + 1 + 1) 9 (.string (pathW s (pre.takeWhile fun x : Fil => decide (x ≠ (0, 1))))) ∧ Boxed W (w.heap.size + 1 + 1 + 1) 4 (.bool true) ∧ (0, 1) ∈ pre ∧ Below w.heap.size w W)
                  (pre ++ [(xd, xi)]) W))) 2 #[true, true, true, true, true, false, false]
                  { tmps := #[.agg #[ds, ms], .agg #[.int .i64 dir.1, .int .i64 dir.2], .pointer (some ⟨w.heap.size, 0, none⟩), .pointer (some ⟨w.heap.size + 1, 0, none⟩), .pointer (some ⟨w.heap.size + 1 + 1, 0, none⟩), .pointer (some ⟨w.heap.size + 1 + 1 + 1, 0, none⟩), .pointer (some ⟨W6.heap.size, 0, none⟩), .pointer (some ⟨W0.heap.size, 0, none⟩), undef, undef, undef, .agg #[ds, ms], .agg #[.int .i64 dir.1, .int .i64 dir.2], .bool true, .bool false, .bool false, .agg #[ds, ms], .pointer (some ⟨w.heap.size + 1, 0, none⟩), .int .i64 dir.1, .bool true, .bool false, .bool false, .agg #[ds, ms], .agg #[.int .i64 dir.1, .int .i64 dir.2], .func (.func 93) #[] #[.pointer (some ⟨W7.heap.size, 0, none⟩), .pointer (some ⟨W7.heap.size + 1, 0, none⟩)], .agg #[.int .i64 xd, .int .i64 xi], .bool false, .agg #[.int .i64 xd, .int .i64 xi], .agg #[.int .i64 0, .int .i64 1], .bool false, undef, undef, undef, undef, undef, undef, undef, undef, .bool true, .pointer (some ⟨W0.heap.size, 1, none⟩), .int .i64 xi, .bool true, v, .agg #[ds, ms], .agg #[.int .i64 xd, .int .i64 xi], .string (nmoL s (xd, xi)), .slice (some ⟨w2.heap.size, 0, none⟩) 1 1, undef], defers := [] } (w2.alloc (.cells #[.string (nmoL s (xd, xi))] 9)) := by
              intro w2 hb2 hcN
              have z9 := HZ9.out
              have z6 := HZ6.out
              have zz := HZ.out
              have hw2 := hb2.size
              have hw1 := hbW.size
              have drow2 : w2.ownsRow W9.heap.size 9 1 v (accW s pre).length ((accW s pre).map Value.string) := World.ownsRow.kept drow (grown_of_below hb2 none) (by cases v.ownBlock <;> simp)
              have dN2 : Boxed w2 W6.heap.size 60 v := blk_below dN hb2 (lt_some dN)
              have hlen : (accW s pre).length + 1 ≤ 100000 := by
                have h1 := accW_len s pre
                have h2 := HPF.out.length_le
                have h3 := chainP_len s (mostL s.files) dir
                simp only [List.length_append] at h2
                omega
              have hmx : (accW s pre).length + 1 ≤ maxLen := by unfold maxLen; omega
              have HZ2 : Hid (W9.heap.size ≤ w2.heap.size) := Lib.hid (by omega)
              have HZB : Hid (W6.heap.size < W9.heap.size) := Lib.hid (by omega)
              clear z9 z6 zz hw2 hw1
              refine any_step (rs := [5]) (by rw [HO.out]; kernel_rfl) (by simp) ?_
              intro i hi'
              obtain rfl := List.mem_singleton.1 hi'
              refine op_list HO.out rfl fun K hK => ?_
              refine wpListIn_append_own _ rfl _ _ 60 rfl W9.heap.size 9 i0 (.string ⟨#[]⟩) 1 16 Try.underlying60 hi0 hz0 hz1 hz2 rfl (by decide) _ _ _ rfl (drow2.alloc _) ⟨w2.heap.size, 0, none⟩ 1 1 [.string (nmoL s (xd, xi))] rfl rfl (cell_one_new _ _ _) (by simp [Value.oneCell']) (by omega) (by omega) (by have := HZ2.out; simp; omega) ?_
              intro v' w4 hown' hgrow _
              obtain ⟨g', cap', rfl⟩ := ownsRow_succ hown'
              obtain ⟨hv1, hv2, hr2, hk2, hb4, hj2, ht2⟩ := appendedH_ dN2 drow2 HZ2.out HZB.out hown' hgrow
              have hc1 := hv1.cell
              have hf1 := hv1.frozen
              gi_wp2
              refine any_step (rs := [6]) (by rw [HO.out]; kernel_rfl) (by simp) ?_
              intro i hi'
              obtain rfl := List.mem_singleton.1 hi'
              refine op_list HO.out rfl fun K hK => ?_
              gi_wp2
              refine ⟨by rw [HO.out]; kernel_rfl, ?_⟩
              have z9 := HZ9.out
              have z6 := HZ6.out
              have zz := HZ.out
              have hw2 := hb2.size
              have hw1 := hbW.size
              have hb02 : Below W.heap.size W w2 := hbW.trans (hb2.mono hw1)
              have e1 := (hj2 w.heap.size (by omega) (by omega)).trans (blk_below d1 hb2 (lt_some d1))
              have eP : Boxed _ (w.heap.size + 1 + 1) 9 (.string ⟨#[]⟩) := (hj2 (w.heap.size + 1 + 1) (by omega) (by omega)).trans (blk_below dP hb2 (lt_some dP))
              have eE : Boxed _ (w.heap.size + 1 + 1 + 1) 4 (.bool false) := (hj2 (w.heap.size + 1 + 1 + 1) (by omega) (by omega)).trans (blk_below dE hb2 (lt_some dE))
              refine ⟨(keepsFrom_below hb02).trans (hk2.from _), (keepC_below hb02 (by omega) (by omega) (by omega)).trans ⟨hk2.size, hj2 _ (by omega) (by omega), hj2 _ (by omega) (by omega), fun b hb => hj2 b (by omega) (by omega), fun b cs hb => ht2 b cs _ (by decide) (by decide) hb⟩, e1, eP, eE, ⟨_, hv2, ?_⟩, ?_, (hB1.trans (hb2.mono hB1.size)).trans (hb4.mono (by omega))⟩
              · rw [accW_snoc, if_neg (show ¬ (xd, xi).2 = 1 from hi), List.length_append, List.map_append]
                exact hr2
              · intro hm
                rcases List.mem_append.1 hm with hm | hm
                · exact HN.out hm
                · exact hx (List.mem_singleton.1 hm).symm
            refine any_step (rs := [0, 1, 2]) (by rw [HO.out]; kernel_rfl) (by simp) ?_
            intro i hi
            simp only [List.mem_cons, List.not_mem_nil, or_false] at hi
            rcases hi with rfl | rfl | rfl
            · skip
              refine op_list HO.out rfl fun K hK => ?_
              gi_wp2
              refine any_step (rs := [1, 2]) (by rw [HO.out]; kernel_rfl) (by simp) ?_
              intro i hi
              simp only [List.mem_cons, List.not_mem_nil, or_false] at hi
              rcases hi with rfl | rfl
              · skip
                refine op_list HO.out rfl fun K hK => ?_
                gi_wp2
                refine any_step (rs := [2]) (by rw [HO.out]; kernel_rfl) (by simp) ?_
                intro i hi
                obtain rfl := List.mem_singleton.1 hi
                refine op_list HO.out rfl fun K hK => ?_
                gi_wp2
                refine any_step (rs := [3]) (by rw [HO.out]; kernel_rfl) (by simp) ?_
                intro i hi
                obtain rfl := List.mem_singleton.1 hi
                refine op_list HO.out rfl fun K hK => ?_
                gi_wp2_with fail
                refine wideCall ((CallsIn.inRound l (callsIn_wide.2 (hcall _ hB1))).mono ?_)
                rintro e w2 ⟨rfl, hb2⟩
                have n1 := blk_below d1 hb2 (lt_some d1)
                have nX := blk_below dX hb2 (lt_some dX)
                have nN : Boxed w2 W6.heap.size 60 v := blk_below dN hb2 (lt_some dN)
                clear a1 b1 aX bX aN bN
                obtain ⟨a1, b1⟩ := cells_of n1
                obtain ⟨aX, bX⟩ := cells_of nX
                have aN := nN.cell
                have bN := nN.frozen
                gi_wp2
                refine any_step (rs := [4]) (by rw [HO.out]; kernel_rfl) (by simp) ?_
                intro i hi
                obtain rfl := List.mem_singleton.1 hi
                refine op_list HO.out rfl fun K hK => ?_
                have nN3 : Boxed (w2.alloc (.cells #[.string (nmoL s (xd, xi))] 9)) W6.heap.size 60 v := blk_alloc nN _
                have hc2 : (w2.alloc (.cells #[.string (nmoL s (xd, xi))] 9)).cell? ⟨W6.heap.size, 0, none⟩ = some v := nN3.cell
                gi_wp2
                exact tail w2 hb2 hc2
              · skip
                refine op_list HO.out rfl fun K hK => ?_
                gi_wp2
                refine any_step (rs := [1]) (by rw [HO.out]; kernel_rfl) (by simp) ?_
                intro i hi
                obtain rfl := List.mem_singleton.1 hi
                refine op_list HO.out rfl fun K hK => ?_
                gi_wp2
                refine any_step (rs := [3]) (by rw [HO.out]; kernel_rfl) (by simp) ?_
                intro i hi
                obtain rfl := List.mem_singleton.1 hi
                refine op_list HO.out rfl fun K hK => ?_
                gi_wp2_with fail
                refine wideCall ((CallsIn.inRound l (callsIn_wide.2 (hcall _ hB1))).mono ?_)
                rintro e w2 ⟨rfl, hb2⟩
                have n1 := blk_below d1 hb2 (lt_some d1)
                have nX := blk_below dX hb2 (lt_some dX)
                have nN : Boxed w2 W6.heap.size 60 v := blk_below dN hb2 (lt_some dN)
                clear a1 b1 aX bX aN bN
                obtain ⟨a1, b1⟩ := cells_of n1
                obtain ⟨aX, bX⟩ := cells_of nX
                have aN := nN.cell
                have bN := nN.frozen
                gi_wp2
                refine any_step (rs := [4]) (by rw [HO.out]; kernel_rfl) (by simp) ?_
                intro i hi
                obtain rfl := List.mem_singleton.1 hi
                refine op_list HO.out rfl fun K hK => ?_
                have nN3 : Boxed (w2.alloc (.cells #[.string (nmoL s (xd, xi))] 9)) W6.heap.size 60 v := blk_alloc nN _
                have hc2 : (w2.alloc (.cells #[.string (nmoL s (xd, xi))] 9)).cell? ⟨W6.heap.size, 0, none⟩ = some v := nN3.cell
                gi_wp2
                exact tail w2 hb2 hc2
            · skip
              refine op_list HO.out rfl fun K hK => ?_
              gi_wp2
              refine any_step (rs := [0, 2]) (by rw [HO.out]; kernel_rfl) (by simp) ?_
              intro i hi
              simp only [List.mem_cons, List.not_mem_nil, or_false] at hi
              rcases hi with rfl | rfl
              · skip
                refine op_list HO.out rfl fun K hK => ?_
                gi_wp2
                refine any_step (rs := [2]) (by rw [HO.out]; kernel_rfl) (by simp) ?_
                intro i hi
                obtain rfl := List.mem_singleton.1 hi
                refine op_list HO.out rfl fun K hK => ?_
                gi_wp2
                refine any_step (rs := [3]) (by rw [HO.out]; kernel_rfl) (by simp) ?_
                intro i hi
                obtain rfl := List.mem_singleton.1 hi
                refine op_list HO.out rfl fun K hK => ?_
                gi_wp2_with fail
                refine wideCall ((CallsIn.inRound l (callsIn_wide.2 (hcall _ hB1))).mono ?_)
                rintro e w2 ⟨rfl, hb2⟩
                have n1 := blk_below d1 hb2 (lt_some d1)
                have nX := blk_below dX hb2 (lt_some dX)
                have nN : Boxed w2 W6.heap.size 60 v := blk_below dN hb2 (lt_some dN)
                clear a1 b1 aX bX aN bN
                obtain ⟨a1, b1⟩ := cells_of n1
                obtain ⟨aX, bX⟩ := cells_of nX
                have aN := nN.cell
                have bN := nN.frozen
                gi_wp2
                refine any_step (rs := [4]) (by rw [HO.out]; kernel_rfl) (by simp) ?_
                intro i hi
                obtain rfl := List.mem_singleton.1 hi
                refine op_list HO.out rfl fun K hK => ?_
                have nN3 : Boxed (w2.alloc (.cells #[.string (nmoL s (xd, xi))] 9)) W6.heap.size 60 v := blk_alloc nN _
                have hc2 : (w2.alloc (.cells #[.string (nmoL s (xd, xi))] 9)).cell? ⟨W6.heap.size, 0, none⟩ = some v := nN3.cell
                gi_wp2
                exact tail w2 hb2 hc2
              · skip
                refine op_list HO.out rfl fun K hK => ?_
                gi_wp2
                refine any_step (rs := [0, 3]) (by rw [HO.out]; kernel_rfl) (by simp) ?_
                intro i hi
                simp only [List.mem_cons, List.not_mem_nil, or_false] at hi
                rcases hi with rfl | rfl
                · skip
                  refine op_list HO.out rfl fun K hK => ?_
                  gi_wp2
                  refine any_step (rs := [3]) (by rw [HO.out]; kernel_rfl) (by simp) ?_
                  intro i hi
                  obtain rfl := List.mem_singleton.1 hi
                  refine op_list HO.out rfl fun K hK => ?_
                  gi_wp2_with fail
                  refine wideCall ((CallsIn.inRound l (callsIn_wide.2 (hcall _ hB1))).mono ?_)
                  rintro e w2 ⟨rfl, hb2⟩
                  have n1 := blk_below d1 hb2 (lt_some d1)
                  have nX := blk_below dX hb2 (lt_some dX)
                  have nN : Boxed w2 W6.heap.size 60 v := blk_below dN hb2 (lt_some dN)
                  clear a1 b1 aX bX aN bN
                  obtain ⟨a1, b1⟩ := cells_of n1
                  obtain ⟨aX, bX⟩ := cells_of nX
                  have aN := nN.cell
                  have bN := nN.frozen
                  gi_wp2
                  refine any_step (rs := [4]) (by rw [HO.out]; kernel_rfl) (by simp) ?_
                  intro i hi
                  obtain rfl := List.mem_singleton.1 hi
                  refine op_list HO.out rfl fun K hK => ?_
                  have nN3 : Boxed (w2.alloc (.cells #[.string (nmoL s (xd, xi))] 9)) W6.heap.size 60 v := blk_alloc nN _
                  have hc2 : (w2.alloc (.cells #[.string (nmoL s (xd, xi))] 9)).cell? ⟨W6.heap.size, 0, none⟩ = some v := nN3.cell
                  gi_wp2
                  exact tail w2 hb2 hc2
                · skip
                  refine op_list HO.out rfl fun K hK => ?_
                  gi_wp2_with fail
                  refine wideCall ((CallsIn.inRound l (callsIn_wide.2 (hcall _ hB1))).mono ?_)
                  rintro e w2 ⟨rfl, hb2⟩
                  have n1 := blk_below d1 hb2 (lt_some d1)
                  have nX := blk_below dX hb2 (lt_some dX)
                  have nN : Boxed w2 W6.heap.size 60 v := blk_below dN hb2 (lt_some dN)
                  clear a1 b1 aX bX aN bN
                  obtain ⟨a1, b1⟩ := cells_of n1
                  obtain ⟨aX, bX⟩ := cells_of nX
                  have aN := nN.cell
                  have bN := nN.frozen
                  gi_wp2
                  refine any_step (rs := [0, 4]) (by rw [HO.out]; kernel_rfl) (by simp) ?_
                  intro i hi
                  simp only [List.mem_cons, List.not_mem_nil, or_false] at hi
                  rcases hi with rfl | rfl
                  · skip
                    refine op_list HO.out rfl fun K hK => ?_
                    gi_wp2
                    refine any_step (rs := [4]) (by rw [HO.out]; kernel_rfl) (by simp) ?_
                    intro i hi
                    obtain rfl := List.mem_singleton.1 hi
                    refine op_list HO.out rfl fun K hK => ?_
                    have nN3 : Boxed (w2.alloc (.cells #[.string (nmoL s (xd, xi))] 9)) W6.heap.size 60 v := blk_alloc nN _
                    have hc2 : (w2.alloc (.cells #[.string (nmoL s (xd, xi))] 9)).cell? ⟨W6.heap.size, 0, none⟩ = some v := nN3.cell
                    gi_wp2
                    exact tail w2 hb2 hc2
                  · skip
                    refine op_list HO.out rfl fun K hK => ?_
                    have nN3 : Boxed (w2.alloc (.cells #[.string (nmoL s (xd, xi))] 9)) W6.heap.size 60 v := blk_alloc nN _
                    have hc2 : (w2.alloc (.cells #[.string (nmoL s (xd, xi))] 9)).cell? ⟨W6.heap.size, 0, none⟩ = some v := nN3.cell
                    gi_wp2
                    refine any_step (rs := [0]) (by rw [HO.out]; kernel_rfl) (by simp) ?_
                    intro i hi
                    obtain rfl := List.mem_singleton.1 hi
                    refine op_list HO.out rfl fun K hK => ?_
                    gi_wp2
                    exact tail w2 hb2 hc2
            · skip
              refine op_list HO.out rfl fun K hK => ?_
              gi_wp2
              refine any_step (rs := [0, 1]) (by rw [HO.out]; kernel_rfl) (by simp) ?_
              intro i hi
              simp only [List.mem_cons, List.not_mem_nil, or_false] at hi
              rcases hi with rfl | rfl
              · skip
                refine op_list HO.out rfl fun K hK => ?_
                gi_wp2
                refine any_step (rs := [1]) (by rw [HO.out]; kernel_rfl) (by simp) ?_
                intro i hi
                obtain rfl := List.mem_singleton.1 hi
                refine op_list HO.out rfl fun K hK => ?_
                gi_wp2
                refine any_step (rs := [3]) (by rw [HO.out]; kernel_rfl) (by simp) ?_
                intro i hi
                obtain rfl := List.mem_singleton.1 hi
                refine op_list HO.out rfl fun K hK => ?_
                gi_wp2_with fail
                refine wideCall ((CallsIn.inRound l (callsIn_wide.2 (hcall _ hB1))).mono ?_)
                rintro e w2 ⟨rfl, hb2⟩
                have n1 := blk_below d1 hb2 (lt_some d1)
                have nX := blk_below dX hb2 (lt_some dX)
                have nN : Boxed w2 W6.heap.size 60 v := blk_below dN hb2 (lt_some dN)
                clear a1 b1 aX bX aN bN
                obtain ⟨a1, b1⟩ := cells_of n1
                obtain ⟨aX, bX⟩ := cells_of nX
                have aN := nN.cell
                have bN := nN.frozen
                gi_wp2
                refine any_step (rs := [4]) (by rw [HO.out]; kernel_rfl) (by simp) ?_
                intro i hi
                obtain rfl := List.mem_singleton.1 hi
                refine op_list HO.out rfl fun K hK => ?_
                have nN3 : Boxed (w2.alloc (.cells #[.string (nmoL s (xd, xi))] 9)) W6.heap.size 60 v := blk_alloc nN _
                have hc2 : (w2.alloc (.cells #[.string (nmoL s (xd, xi))] 9)).cell? ⟨W6.heap.size, 0, none⟩ = some v := nN3.cell
                gi_wp2
                exact tail w2 hb2 hc2
              · skip
                refine op_list HO.out rfl fun K hK => ?_
                gi_wp2
                refine any_step (rs := [0, 3]) (by rw [HO.out]; kernel_rfl) (by simp) ?_
                intro i hi
                simp only [List.mem_cons, List.not_mem_nil, or_false] at hi
                rcases hi with rfl | rfl
                · skip
                  refine op_list HO.out rfl fun K hK => ?_
                  gi_wp2
                  refine any_step (rs := [3]) (by rw [HO.out]; kernel_rfl) (by simp) ?_
                  intro i hi
                  obtain rfl := List.mem_singleton.1 hi
                  refine op_list HO.out rfl fun K hK => ?_
                  gi_wp2_with fail
                  refine wideCall ((CallsIn.inRound l (callsIn_wide.2 (hcall _ hB1))).mono ?_)
                  rintro e w2 ⟨rfl, hb2⟩
                  have n1 := blk_below d1 hb2 (lt_some d1)
                  have nX := blk_below dX hb2 (lt_some dX)
                  have nN : Boxed w2 W6.heap.size 60 v := blk_below dN hb2 (lt_some dN)
                  clear a1 b1 aX bX aN bN
                  obtain ⟨a1, b1⟩ := cells_of n1
                  obtain ⟨aX, bX⟩ := cells_of nX
                  have aN := nN.cell
                  have bN := nN.frozen
                  gi_wp2
                  refine any_step (rs := [4]) (by rw [HO.out]; kernel_rfl) (by simp) ?_
                  intro i hi
                  obtain rfl := List.mem_singleton.1 hi
                  refine op_list HO.out rfl fun K hK => ?_
                  have nN3 : Boxed (w2.alloc (.cells #[.string (nmoL s (xd, xi))] 9)) W6.heap.size 60 v := blk_alloc nN _
                  have hc2 : (w2.alloc (.cells #[.string (nmoL s (xd, xi))] 9)).cell? ⟨W6.heap.size, 0, none⟩ = some v := nN3.cell
                  gi_wp2
                  exact tail w2 hb2 hc2
                · skip
                  refine op_list HO.out rfl fun K hK => ?_
                  gi_wp2_with fail
                  refine wideCall ((CallsIn.inRound l (callsIn_wide.2 (hcall _ hB1))).mono ?_)
                  rintro e w2 ⟨rfl, hb2⟩
                  have n1 := blk_below d1 hb2 (lt_some d1)
                  have nX := blk_below dX hb2 (lt_some dX)
                  have nN : Boxed w2 W6.heap.size 60 v := blk_below dN hb2 (lt_some dN)
                  clear a1 b1 aX bX aN bN
                  obtain ⟨a1, b1⟩ := cells_of n1
                  obtain ⟨aX, bX⟩ := cells_of nX
                  have aN := nN.cell
                  have bN := nN.frozen
                  gi_wp2
                  refine any_step (rs := [0, 4]) (by rw [HO.out]; kernel_rfl) (by simp) ?_
                  intro i hi
                  simp only [List.mem_cons, List.not_mem_nil, or_false] at hi
                  rcases hi with rfl | rfl
                  · skip
                    refine op_list HO.out rfl fun K hK => ?_
                    gi_wp2
                    refine any_step (rs := [4]) (by rw [HO.out]; kernel_rfl) (by simp) ?_
                    intro i hi
                    obtain rfl := List.mem_singleton.1 hi
                    refine op_list HO.out rfl fun K hK => ?_
                    have nN3 : Boxed (w2.alloc (.cells #[.string (nmoL s (xd, xi))] 9)) W6.heap.size 60 v := blk_alloc nN _
                    have hc2 : (w2.alloc (.cells #[.string (nmoL s (xd, xi))] 9)).cell? ⟨W6.heap.size, 0, none⟩ = some v := nN3.cell
                    gi_wp2
                    exact tail w2 hb2 hc2
                  · skip
                    refine op_list HO.out rfl fun K hK => ?_
                    have nN3 : Boxed (w2.alloc (.cells #[.string (nmoL s (xd, xi))] 9)) W6.heap.size 60 v := blk_alloc nN _
                    have hc2 : (w2.alloc (.cells #[.string (nmoL s (xd, xi))] 9)).cell? ⟨W6.heap.size, 0, none⟩ = some v := nN3.cell
                    gi_wp2
                    refine any_step (rs := [0]) (by rw [HO.out]; kernel_rfl) (by simp) ?_
                    intro i hi
                    obtain rfl := List.mem_singleton.1 hi
                    refine op_list HO.out rfl fun K hK => ?_
                    gi_wp2
                    exact tail w2 hb2 hc2
      case done =>
        rintro D xs W hD hS ⟨c1, cP, cE, _, hnm, hbw⟩ hK
        have HS := Lib.hid hS
        have HN := Lib.hid hnm
        clear hS hnm
        have aP := cP.cell
        have bP := cP.frozen
        have aE := cE.cell
        have bE := cE.frozen
        gi_wp2
        have z6 := HZ6.out
        have z9 := HZ9.out
        have cP2 := Boxed.other (cP.set (.string ⟨#[]⟩)) (show w.heap.size + 1 + 1 ≠ w.heap.size + 1 + 1 + 1 by omega) (.bool false)
        have cE2 := (Boxed.other cE (show w.heap.size + 1 + 1 + 1 ≠ w.heap.size + 1 + 1 by omega) (.string ⟨#[]⟩)).set (.bool false)
        have hB2 := (hbw.setCell (p := ⟨w.heap.size + 1 + 1, 0, none⟩) (by show w.heap.size ≤ w.heap.size + 1 + 1; omega) (.string ⟨#[]⟩)).setCell (p := ⟨w.heap.size + 1 + 1 + 1, 0, none⟩) (by show w.heap.size ≤ w.heap.size + 1 + 1 + 1; omega) (.bool false)
        have hK2 := (KeepsOthers.setCell _ ⟨w.heap.size + 1 + 1 + 1, 0, none⟩ (.bool false)).same D _ ((KeepsOthers.setCell _ ⟨w.heap.size + 1 + 1, 0, none⟩ (.string ⟨#[]⟩)).same D _ hK rfl) rfl
        refine ⟨by simp, .inl ⟨_, _, rfl, run_takeDeferred hK2, ?_⟩⟩
        have hP := (boxed_put cP2 (show w.heap.size + 1 + 1 ≠ D by omega) (.deferred none)).cell
        have hE := (boxed_put cE2 (show w.heap.size + 1 + 1 + 1 ≠ D by omega) (.deferred none)).cell
        refine ⟨.tuple #[.string ⟨#[]⟩, .bool false], by simp [results, Try.f59, go_sem, hP, hE], by rw [HW.out, if_neg (by rw [← HS.out]; exact HN.out)], below_put hB2 (by omega) _⟩
      case stop =>
        rintro D c pre W hD hSp ⟨rfl, cP, cE, hnm, hbw⟩ hK
        have HS := Lib.hid hSp
        have HN := Lib.hid hnm
        clear hSp hnm
        have aP := cP.cell
        have aE := cE.cell
        gi_wp2
        have z6 := HZ6.out
        have z9 := HZ9.out
        refine ⟨by simp, .inl ⟨_, _, rfl, run_takeDeferred hK, ?_⟩⟩
        have hP := (boxed_put cP (show w.heap.size + 1 + 1 ≠ D by omega) (.deferred none)).cell
        have hE := (boxed_put cE (show w.heap.size + 1 + 1 + 1 ≠ D by omega) (.deferred none)).cell
        refine ⟨.tuple #[.string (pathW s (pre.takeWhile fun x : Fil => decide (x ≠ (0, 1)))), .bool true], by simp [results, Try.f59, go_sem, hP, hE], by rw [HW.out, if_pos (HS.out.subset HN.out), takeWhile_pre HS.out HN.out], below_put hbw (by omega) _⟩
end Go.Proofs.Ytaidkbnbfnaihaa
namespace Go.Proofs.Ytaidkbnbfnaihaa
open Go.RowKit Go.Shelf
attribute [local go_sem] Oper.semAt_some

def seesP (s : Spc) (dir x : Fil) : Bool := match covL s x with
  | none => true
  | some d => decide (∃ y ∈ chainP s (mostL s.files) dir, y.1 = d)
def visP (s : Spc) (dir : Fil) : Bool := (whereP s dir).2 && (chainP s (mostL s.files) dir).all (seesP s dir)
end Go.Proofs.Ytaidkbnbfnaihaa
namespace Go.Proofs.Ytaidkbnbfnaihaa
open Go.RowKit

theorem afn_spc {P : Program} {f : FuncId} {s : Spc} {xs : List AV} {us : List Value} {z : Value} {R : AV} (hx : ∀ (G : Gh) (w : World) (vs : List Value), repL G w xs vs → vs = us) (hR : ∀ (G : Gh) (w : World), rep G w R z)
    (h : ∀ (w : World) (ds ms : Value), SpcIn s w.heap.size w ds ms → Calls P f (.agg #[ds, ms] :: us).toArray w fun e w' => e = .returned z ∧ Below w.heap.size w w') : AFn P f (.agg (spcA s) :: xs) (fun r => r = R) := by
  intro w St bl vs hr hv
  simp only [repL] at hv
  obtain ⟨z0, zs, rfl, h1, h2⟩ := hv
  obtain rfl := hx _ _ _ h2
  simp only [rep, spcA, repL] at h1
  obtain ⟨ys, rfl, ds, _, rfl, h3, ms, _, rfl, h4, rfl⟩ := h1
  have hs : SpcIn s w.heap.size w ds ms := by
    refine ⟨Nat.le_refl _, ?_⟩
    refine froL_mono (St := St) (fun b o hb => ⟨hr.stlt b o hb, rfl⟩) _ _ ?_
    simp only [spcA, froL]
    exact ⟨_, _, rfl, h3, _, _, rfl, h4, rfl⟩
  refine (h w ds ms hs).mono ?_
  rintro e w' ⟨rfl, hb⟩
  obtain ⟨k1, k2⟩ := hr.below hb
  exact ⟨_, _, _, _, ⟨rfl, rfl, rfl⟩, k1, k2, hR _ _⟩
theorem repL_fil {G : Gh} {w : World} {a : Fil} {vs : List Value} (h : repL G w [.agg (filA a)] vs) : vs = [FilV a] := by
  simp only [repL, rep, filA] at h
  obtain ⟨_, _, rfl, ⟨_, rfl, _, _, rfl, rfl, _, _, rfl, rfl, rfl⟩, rfl⟩ := h
  rfl
structure SpcN (s : Spc) : Prop where
  b : SpcB s
  nm : ∀ x, (nmoL s x).size ≤ 100
  most : mostL s.files ≤ 5000
section
variable {s : Spc} (hs : SpcN s)
include hs
theorem Pwhere (a : Fil) : AFn Try.prog 59 [.agg (spcA s), .agg (filA a)] (fun r => r = .tup [.v (.string (whereP s a).1), .v (.bool (whereP s a).2)]) :=
  afn_spc (us := [FilV a]) (z := .tuple #[.string (whereP s a).1, .bool (whereP s a).2]) (fun _ _ _ h => repL_fil h) (fun G w => by simp only [rep, repL]; exact ⟨[_, _], rfl, _, _, rfl, rfl, _, _, rfl, rfl, rfl⟩)
    fun w ds ms h => callsIn_wide.1 (where_o 4 (Lib.hid (Nat.le_refl _)) s hs.b hs.nm hs.most a ds ms w h)
end
theorem mem_nodG {f : Fls} {a : Fil} (h : hasG f a = true) : ∃ d ∈ f, nodG f a ∈ d.nodes := by
  obtain ⟨q, i, d, m, _, h2, h3, _, _, h6⟩ := at_ok h
  exact ⟨d, List.mem_of_getElem? h2, by rw [h6]; exact List.mem_of_getElem? h3⟩
theorem nameL_size {x : Str} (h : nameL x = true) : x.size ≤ 12 := by
  rw [name_eq] at h
  by_cases hc : x.size < 1 ∨ 12 < x.size
  · rw [if_pos hc] at h; cases h
  · omega
theorem nmo_size {s : Spc} (h : FlsV s.files) (x : Fil) : (nmoL s x).size ≤ 12 := by
  unfold nmoL
  cases hf : (abvL s x).entries.find? fun e : Ent => decide (e.2 = x.2) with
  | none => exact Nat.zero_le _
  | some e =>
    have hm := List.mem_of_find?_eq_some hf
    unfold abvL at hm
    by_cases hh : hasG s.files (x.1, (nodG s.files x).parent) = true
    · obtain ⟨d, hd, hn⟩ := mem_nodG hh
      exact nameL_size ((h.vd d hd).ent _ hn e hm).1
    · have : nodG s.files (x.1, (nodG s.files x).parent) = Nod.zero := by
        unfold hasG at hh
        cases hq : nodeL s.files (x.1, (nodG s.files x).parent) with
        | none => show (nodeL s.files (x.1, (nodG s.files x).parent)).getD Nod.zero = Nod.zero; rw [hq]; rfl
        | some m => rw [hq] at hh; exact absurd rfl hh
      rw [this] at hm
      cases hm
theorem most_le {f : Fls} (h : FlsV f) : mostL f ≤ 48 := by
  have : ∀ (l : Fls), (∀ d ∈ l, d.nodes.length ≤ 16) → mostL l ≤ l.length * 16 := by
    intro l
    induction l with
    | nil => intro _; simp [mostL]
    | cons d l ih =>
      intro h
      have h1 := ih fun d hd => h d (List.mem_cons_of_mem _ hd)
      have h2 := h d (List.mem_cons_self ..)
      simp only [mostL, List.map_cons, List.sum_cons, List.length_cons] at h1 ⊢
      omega
  have h1 := this f fun d hd => (h.vd d hd).len
  have h2 := h.few
  omega
theorem SpcV.n {s : Spc} (h : SpcV s) (hm : s.mounts.length ≤ 1000) : SpcN s := ⟨⟨h.files.b, hm⟩, fun x => by have := nmo_size h.files x; omega, by have := most_le h.files; omega⟩

end Go.Proofs.Ytaidkbnbfnaihaa
namespace Go.Proofs.Ytaidkbnbfnaihaa
open Go.RowKit

theorem mtd_of {s : Spc} {dev : Int} (h : mtdL s dev = true) (h0 : dev ≠ 0) : ∃ m ∈ s.mounts, m.1 = dev := by
  unfold mtdL onL at h
  simp only [Bool.or_eq_true, decide_eq_true_eq, h0, or_false] at h
  cases hf : s.mounts.find? fun m : Mnt => decide (m.1 = dev) with
  | none => rw [hf] at h; cases h
  | some m => exact ⟨m, List.mem_of_find?_eq_some hf, by have := List.find?_some hf; simpa using this⟩
theorem mtd_mem {s : Spc} {m : Mnt} (h : m ∈ s.mounts) : mtdL s m.1 = true := by
  unfold mtdL onL
  rw [Bool.or_eq_true]
  refine .inl ?_
  rw [Option.isSome_map]
  cases hf : s.mounts.find? fun m' : Mnt => decide (m'.1 = m.1) with
  | none => have := List.find?_eq_none.1 hf m h; simp at this
  | some m => rfl
theorem mtd_mono {f : Fls} {ms ms' : List Mnt} {dev : Int} (h : mtdL ⟨f, ms⟩ dev = true) (hs : ∀ m ∈ ms, m ∈ ms') : mtdL ⟨f, ms'⟩ dev = true := by
  by_cases h0 : dev = 0
  · unfold mtdL; simp [h0]
  · obtain ⟨m, hm, rfl⟩ := mtd_of h h0
    exact mtd_mem (s := ⟨f, ms'⟩) (hs m hm)
end Go.Proofs.Ytaidkbnbfnaihaa
namespace Go.Proofs.Ytaidkbnbfnaihaa
open Go.RowKit

section
set_option maxRecDepth 10000
set_option maxHeartbeats 1000000
theorem chainP_len' (s : Spc) : ∀ (k : Nat) (a : Fil), (chainP s k a).length ≤ k
  | 0, _ => by simp [chainP]
  | k + 1, a => by
    unfold chainP
    split
    · cases h : stepC s a with
      | none => simp
      | some b => have := chainP_len' s k b; simp; omega
    · simp
end
end Go.Proofs.Ytaidkbnbfnaihaa
namespace Go.Proofs.Ytaidkbnbfnaihaa

section
variable {s : Spc} (hv : SpcV s)
include hv
theorem node_in {q : Nat} {d : Dvc} {p : Nod} {x : Int} (hq : s.files[q]? = some d) (hp : p ∈ d.nodes) (hx : p.ino = x) : nodeL s.files ((q : Int), x) = some p :=
  node_asc (a := ((q : Int), x)) rfl hq (hv.files.vd d (List.mem_of_getElem? hq)).asc hp hx
theorem step_dir {a b : Fil} (h : dirL s.files a = true) (hs : stepR s a = some b) : dirL s.files b = true := by
  obtain ⟨q, d, m, h1, h2, h3, h4, h5, h6⟩ := dir_node (f := s.files) (a := a) (by rw [h]; simp)
  have hd := hv.files.vd d (List.mem_of_getElem? h2)
  unfold stepR at hs
  by_cases h0 : a.2 ≠ 1
  · rw [if_pos h0] at hs
    injection hs with hs
    subst hs
    rw [h5, h1]
    obtain ⟨p, hp, hpi, e, he, _⟩ := hd.par m h3 (by rw [h4]; exact h0) h6
    have hk : p.kind = 2 := by
      by_cases hk : p.kind = 2
      · exact hk
      · have := (hd.leaf p hp hk).2
        rw [this] at he; cases he
    exact (dir_kind (node_in hv h2 hp hpi)).2 hk
  · rw [if_neg h0] at hs
    obtain ⟨m', hm', _, e⟩ := on_mem hs
    obtain ⟨i, hi⟩ := List.getElem?_of_mem hm'
    rw [← e]
    exact (hv.mnt i m' hi).dir
theorem step_mtd {a b : Fil} (h : mtdL s a.1 = true) (hs : stepR s a = some b) : mtdL s b.1 = true := by
  unfold stepR at hs
  by_cases h0 : a.2 ≠ 1
  · rw [if_pos h0] at hs
    injection hs with hs
    subst hs
    exact h
  · rw [if_neg h0] at hs
    obtain ⟨m', hm', _, e⟩ := on_mem hs
    obtain ⟨i, hi⟩ := List.getElem?_of_mem hm'
    rw [← e]
    exact mtd_mono (f := s.files) (hv.mnt i m' hi).there (fun x hx => List.mem_of_mem_take hx)
theorem on_zero : onL s 0 = none := by
  cases h : onL s 0 with
  | none => rfl
  | some on =>
    obtain ⟨m', hm', e, _⟩ := on_mem h
    obtain ⟨i, hi⟩ := List.getElem?_of_mem hm'
    have := (hv.mnt i m' hi).dev1
    omega
theorem step_some {a : Fil} (h : mtdL s a.1 = true) (h0 : a ≠ (0, 1)) : ∃ b, stepR s a = some b := by
  have _ := hv
  unfold stepR
  by_cases h1 : a.2 ≠ 1
  · exact ⟨_, if_pos h1⟩
  · rw [if_neg h1]
    have h2 : a.1 ≠ 0 := fun e => h0 (Prod.ext e (by simpa using h1))
    unfold mtdL at h
    rw [decide_eq_false h2, Bool.or_false] at h
    cases ho : onL s a.1 with
    | none => rw [ho] at h; cases h
    | some b => exact ⟨b, rfl⟩
theorem chain_cons {a : Fil} (h : dirL s.files a = true) : chainP s (mostL s.files) a = a :: (match stepR s a with
    | none => []
    | some b => chainP s (mostL s.files) b) := by
  have hd : ¬ dirL s.files a = false := by rw [h]; simp
  have he := ends_most hv a
  cases hm : mostL s.files with
  | zero => rw [hm] at he; exact absurd he hd
  | succ m =>
    rw [hm] at he
    rw [chain_yes hd, step_eq hv hd]
    cases hs : stepR s a with
    | none => rfl
    | some b =>
      simp only
      have h1 := he.resolve_left hd b hs
      have h2 := ends_most hv b
      rw [hm] at h2
      rw [chain_irr hv m (m + 1) b h1 h2]
theorem root_in {a : Fil} (h : dirL s.files a = true) (hm : mtdL s a.1 = true) : (0, 1) ∈ chainP s (mostL s.files) a := by
  have key : ∀ (k : Nat) (a : Fil), ends s k a → dirL s.files a = true → mtdL s a.1 = true → (0, 1) ∈ chainP s (mostL s.files) a := by
    intro k
    induction k with
    | zero => intro a he h _; rw [show dirL s.files a = false from he] at h; cases h
    | succ k ih =>
      intro a he h hm
      by_cases h0 : a = (0, 1)
      · rw [chain_cons hv h, h0]; exact List.mem_cons_self ..
      · obtain ⟨b, hb⟩ := step_some hv hm h0
        rw [chain_cons hv h, hb]
        exact List.mem_cons_of_mem _ (ih b (he.resolve_left (by rw [h]; simp) b hb) (step_dir hv h hb) (step_mtd hv hm hb))
  exact key _ a (ends_most hv a) h hm
theorem where_no {a : Fil} (h : ¬(dirL s.files a = true ∧ mtdL s a.1 = true)) : whereP s a = (⟨#[]⟩, false) := by
  have _ := hv
  unfold whereP
  rw [if_neg fun c => h ⟨c.1, c.2.1⟩]
theorem where_yes {a : Fil} (h : dirL s.files a = true) (hm : mtdL s a.1 = true) : whereP s a = (pathW s ((chainP s (mostL s.files) a).takeWhile fun x => decide (x ≠ (0, 1))), true) := by
  unfold whereP
  rw [if_pos ⟨h, hm, root_in hv h hm⟩]
def upF (s : Spc) : Nat → Fil → Fil
  | 0, a => a
  | k + 1, a => if dirL s.files a = true then (if a.2 ≠ 1 then (a.1, (nodG s.files a).parent) else match onL s a.1 with
    | some on => upF s k on
    | none => a) else (0, 0)
theorem mnt_one {i j : Nat} {m m' : Mnt} (hi : s.mounts[i]? = some m) (hj : s.mounts[j]? = some m') (h : m.1 = m'.1) : i = j := by
  have key : ∀ {i j : Nat} {m m' : Mnt}, s.mounts[i]? = some m → s.mounts[j]? = some m' → m.1 = m'.1 → ¬ i < j := by
    intro i j m m' hi hj h hlt
    have hf := (hv.mnt j m' hj).fresh
    have hm : m ∈ s.mounts.take j := by
      refine List.mem_of_getElem? (i := i) ?_
      rw [List.getElem?_take, if_pos hlt]; exact hi
    have := mtd_mem (s := ⟨s.files, s.mounts.take j⟩) hm
    rw [h, hf] at this
    cases this
  have h1 := key hi hj h
  have h2 := key hj hi h.symm
  omega
omit hv in
theorem cov_mem {a : Fil} {d : Int} (h : covL s a = some d) : ∃ i : Nat, s.mounts[i]? = some ((d, a) : Mnt) := by
  unfold covL at h
  cases hf : s.mounts.find? fun m : Mnt => decide (m.2 = a) with
  | none => rw [hf] at h; cases h
  | some m =>
    rw [hf] at h
    injection h with h
    have h2 := List.find?_some hf
    simp only [decide_eq_true_eq] at h2
    obtain ⟨i, hi⟩ := List.getElem?_of_mem (List.mem_of_find?_eq_some hf)
    exact ⟨i, by rw [hi, ← h, ← h2]⟩
omit hv in
theorem cov_none {a : Fil} (h : ∀ (i : Nat) (m : Mnt), s.mounts[i]? = some m → m.2 ≠ a) : covL s a = none := by
  cases hc : covL s a with
  | none => rfl
  | some d => obtain ⟨i, hi⟩ := cov_mem hc; exact absurd rfl (h i _ hi)
theorem down_end : ∀ (n : Nat) (a : Fil), (∀ (i : Nat) (m : Mnt), s.mounts[i]? = some m → m.2 = a → s.mounts.length ≤ i + n) → covL s (itD s n a) = none := by
  intro n
  induction n with
  | zero =>
    intro a h
    refine cov_none fun i m hi e => ?_
    have h1 := h i m hi e
    have h2 := (List.getElem?_eq_some_iff.1 hi).1
    omega
  | succ n ih =>
    intro a h
    cases hc : covL s a with
    | none => rw [itD_fix (by rw [hc]; rfl)]; exact hc
    | some d =>
      obtain ⟨i, hi⟩ := cov_mem hc
      rw [itD]
      refine ih _ fun j m hj e => ?_
      have he : stepD s a = (d, 1) := by unfold stepD; rw [hc]
      rw [he] at e
      have h1 := h i _ hi rfl
      have hth := (hv.mnt j m hj).there
      have hd1 := (hv.mnt i _ hi).dev1
      rw [e] at hth
      obtain ⟨m'', hm'', e2⟩ := mtd_of hth (by simp only at hd1 ⊢; omega)
      obtain ⟨k, hk⟩ := List.getElem?_of_mem hm''
      have hkj : k < j := by
        have := (List.getElem?_eq_some_iff.1 hk).1
        simp at this
        omega
      rw [List.getElem?_take, if_pos hkj] at hk
      have := mnt_one hv hk hi e2
      omega
theorem on_of {i : Nat} {m : Mnt} (hi : s.mounts[i]? = some m) : onL s m.1 = some m.2 := by
  have h1 : mtdL s m.1 = true := mtd_mem (List.mem_of_getElem? hi)
  have hd := (hv.mnt i m hi).dev1
  unfold mtdL at h1
  rw [decide_eq_false (by omega), Bool.or_false] at h1
  cases ho : onL s m.1 with
  | none => rw [ho] at h1; cases h1
  | some on =>
    obtain ⟨m', hm', e1, e2⟩ := on_mem ho
    obtain ⟨j, hj⟩ := List.getElem?_of_mem hm'
    have := mnt_one hv hj hi e1
    subst this
    rw [hi] at hj
    injection hj with hj
    rw [← e2, hj]
theorem seg {x : Fil} {dev : Int} (hc : covL s x = some dev) : ∀ (k : Nat) (y : Fil), ends s k y → dirL s.files y = true → y.1 = dev → ∃ t r, chainP s (mostL s.files) y = t ++ (dev, 1) :: x :: r := by
  intro k
  induction k with
  | zero => intro y he h _; rw [show dirL s.files y = false from he] at h; cases h
  | succ k ih =>
    intro y he h hy
    obtain ⟨i, hi⟩ := cov_mem hc
    by_cases h1 : y.2 = 1
    · have hs : stepR s y = some x := by
        unfold stepR
        rw [if_neg (by simpa using h1), hy]
        exact on_of hv hi
      obtain ⟨t, ht⟩ := chain_head hv (step_dir hv h hs)
      refine ⟨[], t, ?_⟩
      rw [chain_cons hv h, hs]
      simp only [List.nil_append]
      rw [ht, ← hy, ← h1]
    · have hs : stepR s y = some (y.1, (nodG s.files y).parent) := if_pos h1
      obtain ⟨t, r, ht⟩ := ih _ (he.resolve_left (by rw [h]; simp) _ hs) (step_dir hv h hs) hy
      refine ⟨y :: t, r, ?_⟩
      rw [chain_cons hv h, hs]
      simp only [List.cons_append]
      rw [ht]
def okAt (s : Spc) (L : List Fil) (i : Nat) : Bool := match L[i]? with
  | none => true
  | some x => match covL s x with
    | none => true
    | some dev => decide (0 < i) && decide (L[i - 1]? = some (dev, 1))
theorem sees_ok {a : Fil} {i : Nat} {x : Fil} (hi : (chainP s (mostL s.files) a)[i]? = some x) : okAt s (chainP s (mostL s.files) a) i = seesP s a x := by
  unfold okAt seesP
  simp only [hi]
  cases hc : covL s x with
  | none => rfl
  | some dev =>
    simp only
    rw [Bool.eq_iff_iff]
    simp only [Bool.and_eq_true, decide_eq_true_eq]
    constructor
    · rintro ⟨_, h2⟩
      exact ⟨_, List.mem_of_getElem? h2, rfl⟩
    · rintro ⟨y, hy, hyd⟩
      obtain ⟨t, r, ht⟩ := seg hv hc _ y (ends_most hv y) (within_dir hv hy) hyd
      obtain ⟨p, hp⟩ := most_suf hv hy
      have hL : chainP s (mostL s.files) a = (p ++ t) ++ (dev, 1) :: x :: r := by rw [← hp, ht, List.append_assoc]
      have hn := chain_nodup hv _ a (ends_most hv a)
      have hx : (chainP s (mostL s.files) a)[(p ++ t).length + 1]? = some x := by
        rw [hL, List.getElem?_append_right (by omega)]
        simp
      have hx0 : (chainP s (mostL s.files) a)[(p ++ t).length]? = some (dev, 1) := by
        rw [hL, List.getElem?_append_right (by omega)]
        simp
      have e : i = (p ++ t).length + 1 := by
        obtain ⟨h1, h2⟩ := List.getElem?_eq_some_iff.1 hi
        obtain ⟨h3, h4⟩ := List.getElem?_eq_some_iff.1 hx
        exact (List.getElem_inj hn).1 (h2.trans h4.symm)
      subst e
      exact ⟨by omega, hx0⟩
theorem vis_eq (a : Fil) : visP s a = ((whereP s a).2 && (List.range (chainP s (mostL s.files) a).length).all (okAt s (chainP s (mostL s.files) a))) := by
  unfold visP
  congr 1
  rw [Bool.eq_iff_iff, List.all_eq_true, List.all_eq_true]
  constructor
  · intro h i hi
    have hl := List.mem_range.1 hi
    rw [sees_ok hv (List.getElem?_eq_getElem hl)]
    exact h _ (List.getElem_mem hl)
  · intro h x hx
    obtain ⟨i, hi⟩ := List.getElem?_of_mem hx
    rw [← sees_ok hv hi]
    exact h i (List.mem_range.2 (List.getElem?_eq_some_iff.1 hi).1)
end
end Go.Proofs.Ytaidkbnbfnaihaa
namespace Go.Proofs.Ytaidkbnbfnaihaa
open Go.RowKit

theorem jn_size (d m : Str) : (joinS d m).size ≤ d.size + 1 + m.size := by
  unfold joinS
  split
  · rw [ByteArray.size_append]; omega
  · rw [ByteArray.size_append, ByteArray.size_append]
    show d.size + 1 + m.size ≤ _
    omega
theorem path_size {s : Spc} (hv : SpcV s) (pre : List Fil) : (pathW s pre).size ≤ 1 + 13 * pre.length := by
  have key : ∀ (l : List Str) (d : Str), (∀ x ∈ l, x.size ≤ 12) → (l.foldl joinS d).size ≤ d.size + 13 * l.length := by
    intro l
    induction l with
    | nil => intro d _; simp
    | cons x l ih =>
      intro d h
      have h1 := ih (joinS d x) fun y hy => h y (List.mem_cons_of_mem _ hy)
      have h2 := h x (List.mem_cons_self ..)
      have h3 := jn_size d x
      rw [List.foldl_cons, List.length_cons]
      omega
  have h := key (accW s pre).reverse ⟨#[47]⟩ (fun x hx => by
    rw [List.mem_reverse] at hx
    obtain ⟨y, _, rfl⟩ := List.mem_map.1 hx
    exact nmo_size hv.files y)
  have h2 : (accW s pre).length ≤ pre.length := by unfold accW; rw [List.length_map]; exact List.length_filter_le _ _
  rw [List.length_reverse] at h
  have : (⟨#[47]⟩ : Str).size = 1 := rfl
  unfold pathW
  omega
theorem where_size {s : Spc} (hv : SpcV s) (a : Fil) : (whereP s a).1.size ≤ 1000 := by
  unfold whereP
  split
  · have h3 := chainP_len' s (mostL s.files) a
    have h4 := most_le hv.files
    refine Nat.le_trans (path_size hv _) ?_
    refine Nat.le_trans (Nat.add_le_add_left (Nat.mul_le_mul_left 13 ((List.takeWhile_sublist _).length_le)) 1) ?_
    omega
  · exact Nat.zero_le _
end Go.Proofs.Ytaidkbnbfnaihaa
namespace Go.Proofs.Ytaidkbnbfnaihaa
open Go.RowKit

def strA (s : Str) : List AV := [.v (.string s)]
def hdL (s : Str) : Bool := decide (s.data.toList.head? = some 47)
def lsL (s : Str) : Bool := decide (s.data.toList.getLast? = some 47)
theorem ps_len (ps : List Str) : ps.length ≤ (flatS (bsL ps)).length := by
  induction ps with
  | nil => simp
  | cons p ps ih =>
    have : bsL (p :: ps) = p.data.toList :: bsL ps := rfl
    rw [this, flatS_cons]
    simp
    omega
theorem str_eqS {a b : Str} (h : a.data.toList = b.data.toList) : a = b := ByteArray.ext (Array.toList_inj.1 h)
end Go.Proofs.Ytaidkbnbfnaihaa
namespace Go.Proofs.Ytaidkbnbfnaihaa
open Go.RowKit

theorem dir_ino {f : Fls} {a : Fil} (h : dirL f a = true) : (nodG f a).ino = a.2 := by
  obtain ⟨q, d, m, _, _, _, h4, h5, _⟩ := dir_node (f := f) (a := a) (by rw [h]; simp)
  rw [h5, h4]
theorem on_get {s : Spc} {d : Int} (h : (onL s d).isSome = true) : onL s d = some ((onL s d).getD (0, 0)) := by
  cases ho : onL s d with
  | none => rw [ho] at h; cases h
  | some o => rfl
theorem on_no {s : Spc} {d : Int} (h : (onL s d).isSome = false) : onL s d = none := by
  cases ho : onL s d with
  | none => rfl
  | some o => rw [ho] at h; cases h
theorem up_no {s : Spc} {a : Fil} (k : Nat) (h : dirL s.files a = false) : upF s (k + 1) a = (0, 0) := by unfold upF; rw [h]; rfl
theorem up_in {s : Spc} {a : Fil} (k : Nat) (h : dirL s.files a = true) (h1 : ¬ a.2 = 1) : upF s (k + 1) a = (a.1, (nodG s.files a).parent) := by unfold upF; rw [if_pos h, if_pos h1]
theorem up_on {s : Spc} {a : Fil} (k : Nat) (h : dirL s.files a = true) (h1 : a.2 = 1) (ho : (onL s a.1).isSome = true) : upF s (k + 1) a = upF s k ((onL s a.1).getD (0, 0)) := by
  conv => lhs; unfold upF
  rw [if_pos h, if_neg (by simpa using h1), on_get ho]
  rfl
theorem up_root {s : Spc} {a : Fil} (k : Nat) (h : dirL s.files a = true) (h1 : a.2 = 1) (ho : (onL s a.1).isSome = false) : upF s (k + 1) a = a := by
  conv => lhs; unfold upF
  rw [if_pos h, if_neg (by simpa using h1), on_no ho]
section
set_option maxRecDepth 10000
set_option maxHeartbeats 1000000
theorem PupS {s : Spc} (hs : SpcB s) (hv : SpcV s) (a : Fil) : AFn Try.prog 55 [.agg (spcA s), .agg (filA a)] (fun r => r = .agg (filA (upF s (s.mounts.length + 1) a))) := by
  have hfew := hs.few
  have hml : (s.mounts.map mntA).length = s.mounts.length := by simp
  refine enter Try.func55 rfl rfl rfl rfl rfl 0 rfl ?_
  refine w_ (b_ (h:=b_ (h:=al_ (h:=e_ (q_ (w_ (f_ (h:=l_ (h:=n_ (h:=ad_ (h:=m_ (h:=e_ (aw_block (?_))))))))))))))
  refine aw_loopW (fun m t => ∃ (j : Nat) (b : Fil), j ≤ s.mounts.length + 1 ∧ m = s.mounts.length + 1 - j ∧ upF s (s.mounts.length + 1 - j) b = upF s (s.mounts.length + 1) a ∧ t = ⟨look [(2, .bp 0 0), (3, .bp 1 0), (4, .bp 2 0), (11, .v (.int .i64 (((s.mounts.map mntA).length : Int) + 1))), (12, .v (.int .i64 (j : Int)))], ⟨[spcA s, filA b, [.v (.int .i64 0), .v (.int .i64 0)]], []⟩⟩) (s.mounts.length + 1) ((wk 3 0)) (⟨0, a, by omega, rfl, rfl, rfl⟩) ?_
  rintro m t ⟨j, b, hj, rfl, hit, rfl⟩
  have hde := dirL_eq s.files b
  refine w_ (lt_ (h:=e_ (q_ (?_))))
  refine aw_cond rfl (fun hb1 => ?_) (fun hb1 => ?_)
  · have hc1 := bp hb1
    obtain ⟨k, hk⟩ : ∃ k, s.mounts.length + 1 - j = k + 1 := ⟨s.mounts.length - j, by omega⟩
    rw [hk] at hit
    refine kt_ (q_ (aw_block (w_ (f_ (h:=l_ (h:=l_ (h:=?_)))))))
    refine al_p rfl (q_call (Pnode s.files b hs.files) ?_)
    rintro r rfl
    refine m_ (h:=x_ (h:=x_ (h:=al_ (h:=s_ (h:=a_ (h:=e_ (q_ (w_ (m_ (h:=nt_ (h:=m_ (h:=?_))))))))))))
    refine al_gs false rfl rfl (fun hb2 => ?_) (fun hb2 => ?_)
    · have hc2 := bp hb2
      refine g0_ (h:=g0_ (h:=g0_ (h:=pt_ (h:=e_ (cy_ (h:=w_ (bd_ (h:=s_ (h:=e_ (aw_ret (x_thenR (x_blockR (x_thenR (x_thenR (x_blockR (x_thenR (?_)))))))))))))))))
      refine e_ret ?_
      rw [← hit, up_no k (by rw [hde, hc2]; rfl)]
      rfl
    · have hc2 := bp hb2
      refine f_ (h:=l_ (h:=nq_ (h:=pf_ (h:=e_ (?_)))))
      refine aw_cond rfl (fun hb3 => ?_) (fun hb3 => ?_)
      · have hc3 := bp hb3
        refine w_ (bd_ (h:=s_ (h:=e_ (aw_ret (x_thenR (x_blockR (x_thenR (x_thenR (x_blockR (x_thenR (?_)))))))))))
        refine e_ret ?_
        rw [← hit, up_no k (by rw [hde, decide_eq_false hc3, Bool.and_false])]
        rfl
      · have hc3 := bp hb3
        refine kt_ (q_ (w_ (f_ (h:=l_ (h:=nq_ (h:=e_ (?_)))))))
        refine aw_cond rfl (fun hb4 => ?_) (fun hb4 => ?_)
        · have hc4 := bp hb4
          have hdd : dirL s.files b = true := by rw [hde, hc2, decide_eq_true hc3]; rfl
          have hb1 : ¬ b.2 = 1 := by rw [← dir_ino hdd]; exact hc4
          refine w_ (f_ (h:=l_ (h:=f_ (h:=l_ (h:=bd_ (h:=s_ (h:=e_ (aw_ret (x_thenR (x_blockR (x_thenR (x_thenR (x_blockR (x_thenR (?_)))))))))))))))
          refine e_ret ?_
          rw [← hit, up_in k hdd hb1]
          rfl
        · have hc4 := bp hb4
          have hdd : dirL s.files b = true := by rw [hde, hc2, decide_eq_true hc3]; rfl
          have hb1 : b.2 = 1 := by rw [← dir_ino hdd]; exact hc4
          refine kt_ (w_ (l_ (h:=f_ (h:=l_ (h:=?_)))))
          refine al_p rfl (q_call (Pplace s b.1 hs) ?_)
          rintro r rfl
          refine m_ (h:=x_ (h:=x_ (h:=al_ (h:=s_ (h:=a_ (h:=e_ (q_ (w_ (m_ (h:=nt_ (h:=m_ (h:=?_))))))))))))
          refine al_gs false rfl rfl (fun hb5 => ?_) (fun hb5 => ?_)
          · have hc5 := bp hb5
            refine g0_ (h:=g0_ (h:=g0_ (h:=pt_ (h:=e_ (cy_ (h:=w_ (l_ (h:=s_ (h:=e_ (aw_ret (x_thenR (x_blockR (x_thenR (x_thenR (x_blockR (x_thenR (?_)))))))))))))))))
            refine e_ret ?_
            rw [← hit, up_root k hdd hb1 hc5]
            rfl
          · have hc5 := bp hb5
            refine f_ (h:=l_ (h:=eq_ (h:=pf_ (h:=e_ (?_)))))
            refine aw_cond rfl (fun hb6 => ?_) (fun hb6 => ?_)
            · have hc6 := bp hb6
              refine w_ (l_ (h:=s_ (h:=e_ (aw_ret (x_thenR (x_blockR (x_thenR (x_thenR (x_blockR (x_thenR (?_)))))))))))
              refine e_ret ?_
              exfalso
              rw [hc6, on_zero hv] at hc5
              cases hc5
            · have hc6 := bp hb6
              refine kt_ (aw_region (l_ (h:=s_ (h:=al_nil (x_blockN (t_ (aw_region (ad_ (h:=m_ (h:=al_nil (?_)))))))))))
              refine x_then ?_
              refine ⟨_, _, ?_, ⟨j + 1, ((onL s b.1).getD (0, 0)), by omega, rfl, (by rw [← hit, up_on k hdd hb1 hc5, show s.mounts.length + 1 - (j + 1) = k by omega]), rfl⟩, (wk 3 0)⟩
              omega
  · have hc1 := bp hb1
    refine aw_exit (x_thenE (x_thenE (ABlock_out (t_ (w_ (l_ (h:=s_ (h:=e_ (aw_ret (?_))))))))))
    refine e_ret ?_
    have ej : s.mounts.length + 1 - j = 0 := by omega
    rw [ej] at hit
    rw [← hit]
    rfl

end
end Go.Proofs.Ytaidkbnbfnaihaa
namespace Go.Proofs.Ytaidkbnbfnaihaa

section
variable {s : Spc} (hv : SpcV s)
include hv
omit hv in
theorem where_ok {a : Fil} (h : (whereP s a).2 = true) : dirL s.files a = true ∧ mtdL s a.1 = true := by
  unfold whereP at h
  split at h
  · rename_i c; exact ⟨c.1, c.2.1⟩
  · cases h
theorem root_dir {d : Int} (h0 : 0 ≤ d) (h1 : d < (s.files.length : Int)) : dirL s.files (d, 1) = true := by
  obtain ⟨q, rfl⟩ := Int.eq_ofNat_of_zero_le h0
  have hq : s.files[q]? = some s.files[q] := List.getElem?_eq_getElem (by omega)
  obtain ⟨r, rest, hr, h2, h3, _⟩ := (hv.files.vd _ (List.mem_of_getElem? hq)).root
  exact (dir_kind (node_in hv hq (by rw [hr]; exact List.mem_cons_self ..) h2)).2 h3
end
end Go.Proofs.Ytaidkbnbfnaihaa
namespace Go.Proofs.Ytaidkbnbfnaihaa

structure Fnd where
  dir : Fil
  name : Str
  file : Fil
  ex : Bool
  slash : Bool
  path : Str
def fnd0 : Fnd := ⟨(0, 0), ⟨#[]⟩, (0, 0), false, false, ⟨#[]⟩⟩
def fndA (x : Fnd) : List AV := [.v (.int .i64 x.dir.1), .v (.int .i64 x.dir.2), .v (.string x.name), .v (.int .i64 x.file.1), .v (.int .i64 x.file.2), .v (.bool x.ex), .v (.bool x.slash), .v (.string x.path)]
def splS (s : Str) : List Str := (pieces s.data.toList).map fun l => ⟨l.toArray⟩
theorem bls_splS (s : Str) : bsL (splS s) = pieces s.data.toList := by
  unfold bsL splS
  rw [List.map_map]
  have : ((fun x : Str => x.data.toList) ∘ fun l : Bs => (⟨l.toArray⟩ : Str)) = id := by funext l; simp
  rw [this, List.map_id]
theorem bls_inj : ∀ {a b : List Str}, bsL a = bsL b → a = b
  | [], [], _ => rfl
  | [], _ :: _, h => by simp [bsL] at h
  | _ :: _, [], h => by simp [bsL] at h
  | x :: a, y :: b, h => by
    simp only [bsL, List.map_cons, List.cons.injEq] at h
    rw [str_eqS h.1, bls_inj (a := a) (b := b) h.2]
theorem splS_of {s : Str} {ps : List Str} (h : bsL ps = pieces s.data.toList) : ps = splS s := bls_inj (h.trans (bls_splS s).symm)
theorem splS_len (s : Str) : (splS s).length ≤ s.size + 1 := by
  have h1 := ps_len (splS s)
  have h2 := flat_pieces s.data.toList
  rw [← bls_splS] at h2
  rw [Lib.size_eq]
  omega
def rootD (s : Spc) : Fil := itD s s.mounts.length (0, 1)
structure Lk where
  ps : List Str
  dir : Fil
  name : Str
  file : Fil
  ex : Bool
  links : Nat
abbrev dot1 : Str := ⟨#[46]⟩
abbrev dot2 : Str := ⟨#[46, 46]⟩
def lkS (s : Spc) (fl : Bool) (p : Str) (ps : List Str) (a : Fil) (lk : Nat) : Int ⊕ Lk :=
  if dirL s.files a = false then .inl 20
  else if 12 < p.size then .inl 36
  else if p = dot1 then .inr ⟨ps, a, ⟨#[]⟩, a, true, lk⟩
  else if p = dot2 then .inr ⟨ps, itD s s.mounts.length (upF s (s.mounts.length + 1) a), ⟨#[]⟩, itD s s.mounts.length (upF s (s.mounts.length + 1) a), true, lk⟩
  else if (lookL s.files a p).2 ≠ 0 then (if ps ≠ [] ∨ nameL p = false then .inl 2 else .inr ⟨[], a, p, (0, 0), false, lk⟩)
  else if (nodG s.files (lookL s.files a p).1).kind = 3 ∧ (ps ≠ [] ∨ fl = true) then
    (if lk = 8 then .inl 40 else
      .inr ⟨splS (nodG s.files (lookL s.files a p).1).target ++ ps, if hdL (nodG s.files (lookL s.files a p).1).target = true then rootD s else a, ⟨#[]⟩, if hdL (nodG s.files (lookL s.files a p).1).target = true then rootD s else a, true, lk + 1⟩)
  else .inr ⟨ps, a, p, itD s s.mounts.length (lookL s.files a p).1, true, lk⟩
def lkZ : Lk := ⟨[], (0, 0), ⟨#[]⟩, (0, 0), false, 0⟩
def lkG (s : Spc) (fl : Bool) : Nat → Lk → Int × Lk
  | 0, σ => (0, σ)
  | k + 1, σ => match σ.ps with
    | [] => (0, σ)
    | p :: ps => match lkS s fl p ps σ.file σ.links with
      | .inl e => (e, lkZ)
      | .inr τ => lkG s fl k τ
def lkM (σ : Lk) : Nat := (8 - σ.links) * 200 + σ.ps.length
section
variable {s : Spc} (hv : FlsV s.files)
include hv
theorem lk_less {fl : Bool} {p : Str} {ps : List Str} {a : Fil} {lk : Nat} {τ : Lk} (h8 : lk ≤ 8) (h : lkS s fl p ps a lk = .inr τ) : τ.links ≤ 8 ∧ lkM τ < (8 - lk) * 200 + (ps.length + 1) := by
  unfold lkS at h
  split at h
  · cases h
  · split at h
    · cases h
    · split at h
      · injection h with h; subst h; exact ⟨h8, by unfold lkM; simp only; omega⟩
      · split at h
        · injection h with h; subst h; exact ⟨h8, by unfold lkM; simp only; omega⟩
        · split at h
          · split at h
            · cases h
            · injection h with h; subst h; exact ⟨h8, by unfold lkM; simp only [List.length_nil]; omega⟩
          · split at h
            · split at h
              · cases h
              · rename_i h9
                injection h with h
                subst h
                have ht := nodG_target hv (lookL s.files a p).1
                have hl := splS_len (nodG s.files (lookL s.files a p).1).target
                refine ⟨by simp only; omega, ?_⟩
                unfold lkM
                simp only [List.length_append]
                have : (8 - lk) * 200 = (8 - (lk + 1)) * 200 + 200 := by
                  rw [show 8 - lk = (8 - (lk + 1)) + 1 by omega, Nat.add_mul]
                omega
            · injection h with h; subst h; exact ⟨h8, by unfold lkM; simp only; omega⟩
theorem lk_irr (fl : Bool) : ∀ (k k' : Nat) (σ : Lk), σ.links ≤ 8 → lkM σ ≤ k → lkM σ ≤ k' → lkG s fl k σ = lkG s fl k' σ := by
  intro k
  induction k with
  | zero =>
    intro k' σ h8 h h'
    have he : σ.ps = [] := by
      unfold lkM at h
      exact List.eq_nil_of_length_eq_zero (by omega)
    cases k' with
    | zero => rfl
    | succ k' => unfold lkG; rw [he]
  | succ k ih =>
    intro k' σ h8 h h'
    cases hps : σ.ps with
    | nil => cases k' <;> (unfold lkG; rw [hps])
    | cons p ps =>
      have hm : lkM σ = (8 - σ.links) * 200 + (ps.length + 1) := by unfold lkM; rw [hps]; rfl
      cases k' with
      | zero => rw [hm] at h'; omega
      | succ k' =>
        unfold lkG
        rw [hps]
        simp only
        cases hs : lkS s fl p ps σ.file σ.links with
        | inl e => rfl
        | inr τ =>
          simp only
          obtain ⟨h1, h2⟩ := lk_less hv h8 hs
          exact ih k' τ h1 (by omega) (by omega)
end
def lkT (s : Spc) (fl : Bool) (σ : Lk) : Int × Lk := lkG s fl (lkM σ) σ
theorem lkT_nil {s : Spc} {fl : Bool} {σ : Lk} (h : σ.ps = []) : lkT s fl σ = (0, σ) := by
  unfold lkT
  cases lkM σ with
  | zero => rfl
  | succ k => unfold lkG; rw [h]
theorem lkT_cons {s : Spc} (hv : FlsV s.files) {fl : Bool} {σ : Lk} {p : Str} {ps : List Str} (h8 : σ.links ≤ 8) (h : σ.ps = p :: ps) : lkT s fl σ = match lkS s fl p ps σ.file σ.links with
    | .inl e => (e, lkZ)
    | .inr τ => lkT s fl τ := by
  have hm : lkM σ = ((8 - σ.links) * 200 + ps.length) + 1 := by unfold lkM; rw [h]; rfl
  unfold lkT
  rw [hm]
  conv => lhs; unfold lkG
  rw [h]
  simp only
  cases hs : lkS s fl p ps σ.file σ.links with
  | inl e => rfl
  | inr τ =>
    simp only
    obtain ⟨h1, h2⟩ := lk_less hv h8 hs
    exact lk_irr hv fl _ _ τ h1 (by omega) (Nat.le_refl _)
def fndOf (s : Spc) (sl : Bool) (τ : Lk) : Fnd := ⟨τ.dir, τ.name, τ.file, τ.ex, sl, if (whereP s τ.dir).2 = true then (if τ.name = ⟨#[]⟩ then (whereP s τ.dir).1 else joinS (whereP s τ.dir).1 τ.name) else ⟨#[]⟩⟩
def lk0 (ps : List Str) (a : Fil) : Lk := ⟨ps, a, ⟨#[]⟩, a, true, 0⟩
def findL (s : Spc) (start : Fil) (p : Str) (fl : Bool) : Fnd × Int :=
  if p = ⟨#[]⟩ then (fnd0, 2) else if 128 < p.size then (fnd0, 36)
  else if dirL s.files (if hdL p = true then rootD s else start) = false then (fnd0, 2)
  else if (lkT s (fl || lsL p) (lk0 (splS p) (if hdL p = true then rootD s else start))).1 ≠ 0 then (fnd0, (lkT s (fl || lsL p) (lk0 (splS p) (if hdL p = true then rootD s else start))).1)
  else if lsL p = true ∧ (lkT s (fl || lsL p) (lk0 (splS p) (if hdL p = true then rootD s else start))).2.ex = true ∧ dirL s.files (lkT s (fl || lsL p) (lk0 (splS p) (if hdL p = true then rootD s else start))).2.file = false then (fnd0, 20)
  else (fndOf s (lsL p) (lkT s (fl || lsL p) (lk0 (splS p) (if hdL p = true then rootD s else start))).2, 0)
end Go.Proofs.Ytaidkbnbfnaihaa
