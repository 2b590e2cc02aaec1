/-
  strings.SplitSeq at a slash: the iterator's contract.
-/
import Derived.Test.YtokaaebbmcldaaaGreatDoorIter
import Derived.Test.YtokaaebbmcldaaaGreatDoorStrA
import Derived.Shelf.Abstract
import Derived.Shelf.RegionOpen
import Derived.OwnWalkIn
import Derived.TacticsInMore
import Derived.LoopNIn
import Derived.LoopIn
namespace Go.Proofs.YtokaaebbmcldaaaGreatDoor
open Go.RowKit Go.Shelf
attribute [local go_sem] Oper.semAt_some

theorem SplitSeq_slash (s : ByteArray) (w : World) :
    Calls Tryz.prog 81 #[.string s, .string ⟨#[47]⟩] w fun e w' =>
      e = .returned (.func (.func 87) #[] #[.pointer (some ⟨w.heap.size + 1, 0, none⟩), .pointer (some ⟨w.heap.size, 0, none⟩), .pointer (some ⟨w.heap.size + 1 + 1, 0, none⟩)]) ∧
      w' = ((w.alloc (.cells #[.string s] 9)).alloc (.cells #[.string ⟨#[47]⟩] 9)).alloc (.cells #[.int .i64 0] 3) := by
  go_enter Tryz.func81, Tryz.ntmps81
  go_wp2
  go_ret
  exact ⟨rfl, rfl⟩

/-- The length of the string in a box. -/
def boxLen (w : World) (b : Nat) : Nat := match w.cell? ⟨b, 0, none⟩ with
  | some (.string r) => r.size
  | _ => 0
theorem boxLen_eq {w : World} {b : Nat} {t : TypeId} {r : ByteArray} (h : Boxed w b t (.string r)) : boxLen w b = r.size := by simp [boxLen, h.cell]
/-- What the rounds keep: three boxes. -/
def Keep3 (a b c : Nat) (X Y : World) : Prop := Y.heap[a]? = X.heap[a]? ∧ Y.heap[b]? = X.heap[b]? ∧ Y.heap[c]? = X.heap[c]?
theorem Keep3.trans {a b c : Nat} {X Y Z : World} (h : Keep3 a b c X Y) (k : Keep3 a b c Y Z) : Keep3 a b c X Z := ⟨k.1.trans h.1, k.2.1.trans h.2.1, k.2.2.trans h.2.2⟩
theorem keep3_put {a b c N : Nat} (ha : a < N) (hb : b < N) (hc : c < N) (W : World) (l : Nat) (o' : Obj) (hl : N ≤ l) : Keep3 a b c W (W.putObj l o') :=
  ⟨World.putObj_heap_other (by omega), World.putObj_heap_other (by omega), World.putObj_heap_other (by omega)⟩
theorem keep3_below {a b c : Nat} {X Y : World} (h : Below X.heap.size X Y) (ha : a < X.heap.size) (hb : b < X.heap.size) (hc : c < X.heap.size) : Keep3 a b c X Y := ⟨h.block _ ha, h.block _ hb, h.block _ hc⟩
theorem size_lt_of_extract (s : ByteArray) (i : Nat) (h : i < s.size) : (s.extract (i + 1) s.size).size < s.size := by
  rw [ByteArray.size_extract]; omega
theorem segs_at {s : ByteArray} {i : Nat} (hi : Lib.indexByte s.data.toList 47 = i) : i < s.size ∧ segs s.data.toList = (s.extract 0 i).data.toList :: segs (s.extract (i + 1) s.size).data.toList := by
  have hm : (47 : UInt8) ∈ s.data.toList := by
    apply Classical.byContradiction
    intro h
    rw [index_none h] at hi
    omega
  obtain ⟨j, hj, hlt, hl, hn⟩ := index_some hm
  obtain rfl : j = i := by omega
  refine ⟨by rw [Lib.size_eq]; exact hlt, ?_⟩
  rw [Lib.extract_data, Lib.extract_to_end]
  simp only [List.drop_zero, Nat.sub_zero]
  conv => lhs; rw [hl]
  exact segs_cut hn _
theorem segs_end {s : ByteArray} (hi : Lib.indexByte s.data.toList 47 < 0) : segs s.data.toList = [s.data.toList] := by
  refine segs_none fun h => ?_
  obtain ⟨i, hi', _⟩ := index_some h
  omega

def bls (xs : List Str) : List Bs := xs.map fun x => x.data.toList
set_option maxRecDepth 100000 in
set_option maxHeartbeats 1000000 in
theorem splitSeq1 (n : Nat) (s : ByteArray) (hs : s.size ≤ 1000000) (b0 b1 b2 : Nat) (w : World) (h0 : Boxed w b0 9 (.string s)) (h1 : Boxed w b1 9 (.string ⟨#[47]⟩)) (h2 : Boxed w b2 3 (.int .i64 0)) (h01 : b0 ≠ b1) (h02 : b0 ≠ b2) :
    SeqW Fence.wide n Tryz.prog 87 #[.pointer (some ⟨b1, 0, none⟩), .pointer (some ⟨b0, 0, none⟩), .pointer (some ⟨b2, 0, none⟩)] (fun x : Str => #[.string x]) (fun b => b = b0) (Keep3 b0 b1 b2) (fun xs => bls xs <+: segs s.data.toList)
      (fun xs => bls xs = segs s.data.toList) (fun pre => bls pre <+: segs s.data.toList) w := fun l J Jx W hW hJ hJx hY hst => by
  have k0 : Boxed W b0 9 (.string s) := blk_below h0 hW h0.lt
  have k1 : Boxed W b1 9 (.string ⟨#[47]⟩) := blk_below h1 hW h1.lt
  have k2 : Boxed W b2 3 (.int .i64 0) := blk_below h2 hW h2.lt
  refine callsIn_of_wp Tryz.func87 rfl trivial ?_ rfl
  simp only [Tryz.ntmps87, List.size_toArray, List.length_cons, List.length_nil, Nat.reduceAdd, Nat.reduceSub, Array.replicate_succ, Array.replicate_zero, List.push_toArray, List.append_toArray, List.nil_append, List.cons_append]
  have c1 := k1.cell
  gi_wp2
  gi_loopw [7] (fun _ wr => ∃ (pre : List Str) (r : ByteArray), Boxed wr b0 9 (.string r) ∧ Boxed wr b1 9 (.string ⟨#[47]⟩) ∧ Boxed wr b2 3 (.int .i64 0) ∧ J pre wr ∧ Hid (bls pre ++ segs r.data.toList = segs s.data.toList) ∧ r.size ≤ s.size) (fun _ wr => boxLen wr b0)
  case atStart => exact ⟨[], s, k0, k1, k2, hst, rfl, Nat.le_refl _⟩
  case round =>
    obtain ⟨pre, r, m0, m1, m2, hj, hpre, hle⟩ := hrel
    clear k0 k1 k2 c1 hst
    have c0 := m0.cell
    have c1 := m1.cell
    have c2 := m2.cell
    have f0 := m0.frozen
    gi_wp2_with fail
    refine wideCall ((callsIn_wide.2 (SIndex_slash _ _)).mono ?_)
    rintro e w' ⟨rfl, rfl⟩
    have hge := Lib.indexByte_ge r.data.toList 47
    by_cases hneg : Lib.indexByte r.data.toList 47 < 0
    · have HS := Lib.hid (segs_end hneg)
      obtain ⟨fn, tmps, assign, body, hy, hR⟩ := hY pre r wr hj (by rw [← hpre.out, HS.out]; simp [bls])
      gi_wp2
      refine ⟨(fun h => by cases h), hR.mono ?_⟩
      rintro e W3 (⟨rfl, hJ3, hk3⟩ | ⟨rfl, hJx3⟩)
      · gi_wp2
        go_end0
        exact ⟨⟨_, rfl⟩, .inl ⟨pre ++ [r], by rw [← hpre.out, HS.out]; simp [bls], hJ3⟩⟩
      · gi_wp2
        go_end0
        exact ⟨⟨_, rfl⟩, .inr ⟨pre ++ [r], by rw [← hpre.out, HS.out]; simp [bls], hJx3⟩⟩
    · obtain ⟨i, hi⟩ := Int.eq_ofNat_of_zero_le (show 0 ≤ Lib.indexByte r.data.toList 47 by omega)
      obtain ⟨hlt, hseg⟩ := segs_at hi
      have HS := Lib.hid hseg
      clear hseg hge hneg
      rw [hi]
      clear hi
      obtain ⟨fn, tmps, assign, body, hy, hR⟩ := hY pre (r.extract 0 i) wr hj (by rw [← hpre.out, HS.out]; simp [bls])
      gi_wp2
      refine ⟨(fun h => by cases h), hR.mono ?_⟩
      rintro e W3 (⟨rfl, hJ3, hk3⟩ | ⟨rfl, hJx3⟩)
      · have q0 : Boxed W3 b0 9 (.string r) := hk3.1.trans m0
        have q1 : Boxed W3 b1 9 (.string ⟨#[47]⟩) := hk3.2.1.trans m1
        have q2 : Boxed W3 b2 3 (.int .i64 0) := hk3.2.2.trans m2
        clear c0 c1 c2 f0 hy hR
        have c0 := q0.cell
        have c1 := q1.cell
        have c2 := q2.cell
        have f0 := q0.frozen
        gi_wp2
        go_roundw
        case rel => exact ⟨pre ++ [r.extract 0 i], r.extract (i + 1) r.size, q0.set _, q1.other (Ne.symm h01) _, q2.other (Ne.symm h02) _, hJ _ _ _ hJ3 (Moves.set_ (own := fun b => b = b0) _ rfl _), Lib.hid (by rw [← hpre.out, HS.out]; simp [bls]), Nat.le_trans (Nat.le_of_lt (size_lt_of_extract r i hlt)) hle⟩
        case measure => rw [boxLen_eq (q0.set _), boxLen_eq m0]; exact size_lt_of_extract r i hlt
      · gi_wp2
        refine bodyPost_ret (results_none rfl _ _ _) rfl ?_
        exact ⟨⟨_, rfl⟩, .inr ⟨pre ++ [r.extract 0 i], by rw [← hpre.out, HS.out]; simp [bls], hJx3⟩⟩

end Go.Proofs.YtokaaebbmcldaaaGreatDoor
