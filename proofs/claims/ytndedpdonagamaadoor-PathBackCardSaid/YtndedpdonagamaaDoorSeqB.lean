/-
  path.parts: the iterator's contract.
-/
import Derived.Test.YtndedpdonagamaaDoorSeqA
namespace Go.Proofs.YtndedpdonagamaaDoor
open Go.RowKit Go.Shelf
attribute [local go_sem] Oper.semAt_some

/-- What Cut at a slash leaves. -/
def CutQ (s : Str) (w : World) (e : Ending) (w' : World) : Prop := ∃ (p q : Str) (b : Bool) (n : Nat), e = .returned (.tuple #[.string p, .string q, .bool b]) ∧ w' = w.drewN n ∧ pieces s.data.toList = one_ p.data.toList ++ pieces q.data.toList ∧ (0 < s.size → q.size < s.size)
theorem Cut_any (s : ByteArray) (w : World) (hmax : s.size ≤ 1000000) : Calls Tryd.prog 40 #[.string s, .string ⟨#[47]⟩] w (CutQ s w) := by
  by_cases h : (47 : UInt8) ∈ s.data.toList
  · obtain ⟨i, hi, hlt, hl, hn⟩ := index_some h
    have hlt' : i < s.size := by rw [Lib.size_eq]; exact hlt
    refine (Cut_yes s w i hi hlt' hmax).mono ?_
    rintro e w' ⟨rfl, n, rfl⟩
    refine ⟨_, _, _, n, rfl, rfl, ?_, fun _ => size_lt_of_extract s i hlt'⟩
    rw [Lib.extract_data, Lib.extract_to_end]
    simp only [List.drop_zero, Nat.sub_zero]
    conv => lhs; rw [hl]
    exact pieces_cut hn _
  · refine (Cut_no s w (index_none h)).mono ?_
    rintro e w' ⟨rfl, rfl⟩
    refine ⟨_, _, _, 0, rfl, rfl, ?_, fun h => h⟩
    rw [pieces_none h]
    simp [pieces_nil]

theorem parts_any (s : ByteArray) (w : World) :
    Calls Tryd.prog 30 #[.string s] w fun e w' =>
      e = .returned (.func (.func 39) #[] #[.pointer (some ⟨w.heap.size, 0, none⟩)]) ∧ w' = w.alloc (.cells #[.string s] 9) := by
  go_enter Tryd.func30, Tryd.ntmps30
  go_wp2
  go_ret
  exact ⟨rfl, rfl⟩

theorem empty_iff (s : ByteArray) : s.toList.isEmpty = decide (s.size = 0) := by
  rw [toL, Lib.size_eq, Bool.eq_iff_iff, List.isEmpty_iff, decide_eq_true_iff, List.length_eq_zero_iff]
def Keep1 (a : Nat) (X Y : World) : Prop := Y.heap[a]? = X.heap[a]?
set_option maxRecDepth 100000 in
set_option maxHeartbeats 1000000 in
theorem parts1 (n : Nat) (s : ByteArray) (hs : s.size ≤ 1000000) (b0 : Nat) (w : World) (h0 : Boxed w b0 9 (.string s)) :
    SeqW Fence.wide n Tryd.prog 39 #[.pointer (some ⟨b0, 0, none⟩)] (fun x : Str => #[.string x]) (fun b => b = b0) (Keep1 b0) (fun xs => bls xs <+: pieces s.data.toList)
      (fun xs => bls xs = pieces s.data.toList) (fun pre => bls pre <+: pieces s.data.toList) w := fun l J Jx W hW hJ hJx hY hst => by
  have k0 : Boxed W b0 9 (.string s) := blk_below h0 hW h0.lt
  refine callsIn_of_wp Tryd.func39 rfl trivial ?_ rfl
  simp only [Tryd.ntmps39, List.size_toArray, List.length_cons, List.length_nil, Nat.reduceAdd, Nat.reduceSub, Array.replicate_succ, Array.replicate_zero, List.push_toArray, List.append_toArray, List.nil_append, List.cons_append]
  gi_wp2
  gi_loopw [3] (fun _ wr => ∃ (pre : List Str) (r : ByteArray), Boxed wr b0 9 (.string r) ∧ J pre wr ∧ Hid (bls pre ++ pieces r.data.toList = pieces s.data.toList) ∧ r.size ≤ s.size) (fun _ wr => boxLen wr b0)
  case atStart => exact ⟨[], s, k0, hst, rfl, Nat.le_refl _⟩
  case round =>
    obtain ⟨pre, r, m0, hj, hpre, hle⟩ := hrel
    clear k0 hst
    have c0 := m0.cell
    have f0 := m0.frozen
    by_cases hr : r.size = 0
    · have he : r.toList.isEmpty = true := by rw [empty_iff]; simp [hr]
      have he' : r.toList = [] := List.isEmpty_iff.1 he
      have HP : Hid (pieces r.data.toList = []) := by rw [← toL, he']; exact Lib.hid pieces_nil
      gi_wp2
      go_end0
      exact ⟨⟨_, rfl⟩, .inl ⟨pre, by rw [← hpre.out, HP.out]; simp, hj⟩⟩
    · have he : r.toList.isEmpty = false := by rw [empty_iff]; simp [hr]
      gi_wp2_with fail
      refine wideCall ((callsIn_wide.2 (Cut_any _ _ (by omega))).mono ?_)
      rintro e w' ⟨p, q, b, nd, rfl, rfl, hpq, hq⟩
      have hql := hq (by omega)
      have HP := Lib.hid hpq
      clear hpq hq
      have hj' : J pre ((wr.drewN nd).setCell ⟨b0, 0, none⟩ (.string q)) := hJ _ _ _ (hJ _ _ _ hj (Moves.below (below_drewN (Below.refl _ _) nd))) (Moves.set_ (own := fun b => b = b0) _ rfl _)
      have m0' : Boxed ((wr.drewN nd).setCell ⟨b0, 0, none⟩ (.string q)) b0 9 (.string q) := Boxed.set _ (show Boxed (wr.drewN nd) b0 9 (.string r) from m0)
      by_cases hp : p.size = 0
      · have hpe : p.toList.isEmpty = true := by rw [empty_iff]; simp [hp]
        have hpe' : p.toList = [] := List.isEmpty_iff.1 hpe
        have HO : Hid (one_ p.data.toList = []) := by rw [← toL, hpe']; exact Lib.hid rfl
        gi_wp2
        refine ⟨fun _ h => (by cases h), ?_⟩
        gi_wp2
        go_roundw
        case rel => exact ⟨pre, q, m0', hj', Lib.hid (by rw [← hpre.out, HP.out, HO.out]; simp), by omega⟩
        case measure => rw [boxLen_eq m0', boxLen_eq m0]; exact hql
      · have HO : Hid (one_ p.data.toList = [p.data.toList]) := Lib.hid (if_neg (fun e => hp (by rw [Lib.size_eq, e]; rfl)))
        have hpe : p.toList.isEmpty = false := by rw [empty_iff]; simp [hp]
        obtain ⟨fn, tmps, assign, body, hy, hR⟩ := hY pre p _ hj' (by rw [← hpre.out, HP.out, HO.out]; simp [bls])
        gi_wp2
        refine ⟨(fun h => by cases h), hR.mono ?_⟩
        rintro e W3 (⟨rfl, hJ3, hk3⟩ | ⟨rfl, hJx3⟩)
        · have q0 : Boxed W3 b0 9 (.string q) := hk3.trans m0'
          clear c0 f0 hy hR
          gi_wp2
          go_roundw
          case rel => exact ⟨pre ++ [p], q, q0, hJ3, Lib.hid (by rw [← hpre.out, HP.out, HO.out]; simp [bls]), by omega⟩
          case measure => rw [boxLen_eq q0, boxLen_eq m0]; exact hql
        · gi_wp2
          refine bodyPost_ret (results_none rfl _ _ _) rfl ?_
          exact ⟨⟨_, rfl⟩, .inr ⟨pre ++ [p], by rw [← hpre.out, HP.out, HO.out]; simp [bls], hJx3⟩⟩

end Go.Proofs.YtndedpdonagamaaDoor
