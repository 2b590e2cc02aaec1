/-
  The reference's Split and Join.
-/
import Derived.Test.YtokaaebbmcldaaaGreatDoorPathT
import Derived.Maps.AppendAt
import Derived.StillTailTactics
import Derived.Deep.LoopGhost
import Derived.IntWalk
namespace Go.Proofs.YtokaaebbmcldaaaGreatDoor
open Go.RowKit

theorem byte47 (x : UInt8) : ((x.toNat : Int) == 47) = decide (x = 47) := by
  rw [Bool.eq_iff_iff, beq_iff_eq, decide_eq_true_iff]
  constructor
  · intro h
    apply UInt8.toNat_inj.1
    have : (47 : UInt8).toNat = 47 := rfl
    omega
  · rintro rfl; rfl
/-- How far the reference's Split has come. -/
def SplitI (l : Bs) (f k : Nat) (bs : List Bs) : Prop := (k ≤ l.length ∧ f ≤ k ∧ Ends (l.take f) ∧ (47 : UInt8) ∉ (l.drop f).take (k - f) ∧ bs = pieces (l.take f)) ∨ (k = l.length + 1 ∧ bs = pieces l)
theorem splitI_next {l : Bs} {f k : Nat} {bs : List Bs} {x : UInt8} (h : SplitI l f k bs) (hx : l[k]? = some x) (hne : x ≠ 47) : SplitI l f (k + 1) bs := by
  have hk := (List.getElem?_eq_some_iff.1 hx).1
  rcases h with ⟨h1, h2, h3, h4, h5⟩ | ⟨h1, h2⟩
  · refine .inl ⟨hk, by omega, h3, ?_, h5⟩
    rw [show k + 1 - f = (k - f) + 1 by omega, List.take_add_one]
    have : (l.drop f)[k - f]? = some x := by rw [List.getElem?_drop, show f + (k - f) = k by omega]; exact hx
    rw [this]
    simp only [Option.toList_some, List.mem_append, List.mem_singleton, not_or]
    exact ⟨h4, fun e => hne e.symm⟩
  · omega
theorem take_split {l : Bs} {f k : Nat} (h : f ≤ k) : l.take k = l.take f ++ (l.drop f).take (k - f) := by
  rw [show k = f + (k - f) by omega, List.take_add]
  simp
theorem splitI_slash {l : Bs} {f k : Nat} {bs : List Bs} (h : SplitI l f k bs) (hx : l[k]? = some 47) : SplitI l (k + 1) (k + 1) (bs ++ one_ ((l.drop f).take (k - f))) := by
  have hk := (List.getElem?_eq_some_iff.1 hx).1
  rcases h with ⟨h1, h2, h3, h4, h5⟩ | ⟨h1, h2⟩
  · have e : l.take (k + 1) = l.take f ++ (l.drop f).take (k - f) ++ [47] := by rw [List.take_add_one, hx, take_split h2]; rfl
    refine .inl ⟨hk, Nat.le_refl _, .inr ⟨_, e⟩, by simp, ?_⟩
    rw [e, pieces_slash h3 h4, h5]
  · omega
theorem splitI_end {l : Bs} {f : Nat} {bs : List Bs} (h : SplitI l f l.length bs) : SplitI l (l.length + 1) (l.length + 1) (bs ++ one_ ((l.drop f).take (l.length - f))) := by
  rcases h with ⟨h1, h2, h3, h4, h5⟩ | ⟨h1, h2⟩
  · refine .inr ⟨rfl, ?_⟩
    have e := take_split (l := l) h2
    rw [List.take_length] at e
    have h6 := pieces_step h3 h4
    rw [← e] at h6
    rw [h5]
    exact h6.symm
  · omega
theorem splitI_start (l : Bs) : SplitI l 0 0 [] := .inl ⟨Nat.zero_le _, Nat.le_refl _, .inl rfl, by simp, by simp [pieces_nil]⟩
theorem splitI_done {l : Bs} {f k : Nat} {bs : List Bs} (h : SplitI l f k bs) (hk : l.length < k) : bs = pieces l := by
  rcases h with ⟨h1, _⟩ | ⟨_, h2⟩
  · omega
  · exact h2

theorem one_pos {p : Bs} (h : p ≠ []) : one_ p = [p] := if_neg h
theorem extract_ne (s : ByteArray) {f k : Nat} (h : f < k) (hk : k ≤ s.size) : (s.data.toList.drop f).take (k - f) ≠ [] := by
  intro e
  have := congrArg List.length e
  rw [Lib.size_eq] at hk
  simp at this
  simp at hk
  omega
theorem head_dec (s : ByteArray) (h : 0 < s.size) : decide (s.data.toList.head? = some 47) = (((s[0]'h).toNat : Int) == 47) := by
  rw [byte47]
  have : s.data.toList.head? = some (s[0]'h) := by rw [List.head?_eq_getElem?]; exact Lib.data_getElem? s 0 h
  rw [this]
  simp
theorem last_dec (s : ByteArray) (h : 0 < s.size) : decide (s.data.toList.getLast? = some 47) = (((s[s.size - 1]'(by omega)).toNat : Int) == 47) := by
  rw [byte47]
  have : s.data.toList.getLast? = some (s[s.size - 1]'(by omega)) := by rw [List.getLast?_eq_getElem?, ← Lib.size_eq]; exact Lib.data_getElem? s _ (by omega)
  rw [this]
  simp

theorem below_app {w wr w1 : World} {e size k : Nat} {v : Value} {xs : List Value} {tmp : Obj} (hbw : Below w.heap.size w wr) (hrow : wr.ownsRow w.heap.size e size v k xs) (hgrow : (wr.alloc tmp).grownBy w1 v.ownBlock) : Below w.heap.size w w1 :=
  (hbw.alloc hbw.size tmp).grown hgrow (by have := hbw.size; simp; omega) (fun j ej => (World.ownsRow.lt hrow j ej).1)
theorem splitI_app {s : ByteArray} {a k a' k' : Nat} {ss : List Str} (h : SplitI s.data.toList a' k' (bls ss ++ one_ ((s.data.toList.drop a).take (k - a)))) (ho : one_ ((s.data.toList.drop a).take (k - a)) = [(s.data.toList.drop a).take (k - a)]) : SplitI s.data.toList a' k' (bls (ss ++ [s.extract a k])) := by
  rw [ho] at h
  have : bls (ss ++ [s.extract a k]) = bls ss ++ [(s.data.toList.drop a).take (k - a)] := by
    rw [← Lib.extract_data]
    simp [bls]
  rw [this]
  exact h
theorem splitI_app0 {s : ByteArray} {a k a' k' : Nat} {bs : List Bs} (h : SplitI s.data.toList a' k' (bs ++ one_ ((s.data.toList.drop a).take (k - a)))) (ho : k ≤ a) : SplitI s.data.toList a' k' bs := by
  rw [show k - a = 0 by omega] at h
  simpa [one_] using h
theorem split_row {w w' : World} {ss : List Str} {v : Value} (h : w'.ownsRow w.heap.size 9 1 v ss.length (ss.map Value.string)) (hl : ss.length ≤ few) : StrsR w' (Fresh w w') v ss := by
  refine OwnL.list (sz := 1) (cell := strCell) (E := 9) (base := w.heap.size) ?_ hl (fun b hb hlt => ⟨hb, hlt⟩)
  unfold OwnL
  rw [flat_str]
  exact h

set_option maxRecDepth 100000 in
set_option maxHeartbeats 2000000 in
theorem RSplit_any (s : ByteArray) (w : World) (hs : s.size ≤ 60000) : Calls Tryz.prog 73 #[.string s] w (SplitQ s.data.toList w) := by
  obtain ⟨i0, hi, hz0, hz1, hz2⟩ := info_parts Tryz.infoStr
  have HL := Lib.hid (Lib.size_eq s)
  go_enter Tryz.func73, Tryz.ntmps73
  go_wp2
  go_loopw [5, 6, 7] (fun v f i wr => ∃ (a k : Nat) (ss : List Str), f = .int .i64 a ∧ i = .int .i64 k ∧ k ≤ s.size + 1 ∧ a ≤ k ∧ ss.length ≤ k ∧ wr.ownsRow w.heap.size 9 1 v ss.length (ss.map Value.string) ∧ Below w.heap.size w wr ∧ Hid (SplitI s.data.toList a k (bls ss))) (fun _ _ i _ => s.size + 1 - (intOf i).toNat)
  case atStart => exact ⟨0, 0, [], rfl, rfl, by omega, by omega, by simp, World.ownsRow_nil _ _ _ _, Below.refl _ _, Lib.hid (splitI_start _)⟩
  case round =>
    obtain ⟨a, k, ss, rfl, rfl, hk, hak, hsl, hrow, hbw, hI⟩ := hrel
    have hmx : ss.length + 1 ≤ maxLen := by unfold maxLen; omega
    have hbs := hbw.size
    by_cases hle : k ≤ s.size
    · by_cases heq : k = s.size
      · subst heq
        have heq' : ((s.size : Int) == (s.size : Int)) = true := by simp
        by_cases hgt : a < s.size
        · have hne := extract_ne s hgt (Nat.le_refl _)
          have HN := Lib.hid (one_pos hne)
          clear hne
          go_wp2_with (at_builtin; refine wpList_append_own _ rfl _ _ 33 rfl w.heap.size 9 i0 (.string ⟨#[]⟩) 1 16 Tryz.underlying33 hi hz0 hz1 hz2 rfl (by decide) _ _ _ rfl (hrow.alloc _) ⟨wr.heap.size, 0, none⟩ 1 1 [.string (s.extract a s.size)] rfl rfl (cell_one_new _ _ _) (by simp [Value.oneCell']) (by omega) (by omega) (by simp; omega) ?_; intro v' w1 hown' hgrow _)
          go_roundw
          case rel => exact ⟨s.size + 1, s.size + 1, ss ++ [s.extract a s.size], by go_num, by go_num, by omega, by omega, by simp; omega, by simpa using hown', below_app hbw hrow hgrow, Lib.hid (splitI_app (by have h1 := hI.out; rw [HL.out] at h1 ⊢; exact splitI_end h1) HN.out)⟩
          case measure => first | (simp [intOf]; done) | (simp [intOf]; omega)
        · go_wp2
          go_roundw
          case rel => exact ⟨s.size + 1, s.size + 1, ss, by go_num, by go_num, by omega, by omega, by omega, hrow, hbw, Lib.hid (splitI_app0 (a := a) (k := s.size) (by have h1 := hI.out; rw [HL.out] at h1 ⊢; exact splitI_end h1) (by omega))⟩
          case measure => first | (simp [intOf]; done) | (simp [intOf]; omega)
      · have hlt : k < s.size := by omega
        have heq' : ((k : Int) == (s.size : Int)) = false := beq_eq_false_iff_ne.2 (by omega)
        have hx : s.data.toList[k]? = some (s[k]'hlt) := Lib.data_getElem? s k hlt
        have Hx := Lib.hid hx
        clear hx
        cases h47 : (((s[k]'hlt).toNat : Int) == 47) with
        | true =>
          have he : s[k]'hlt = 47 := by rw [byte47] at h47; exact of_decide_eq_true h47
          have HE := Lib.hid he
          clear he
          by_cases hgt : a < k
          · have hne := extract_ne s hgt (by omega)
            have HN := Lib.hid (one_pos hne)
            clear hne
            go_wp2_with (at_builtin; refine wpList_append_own _ rfl _ _ 33 rfl w.heap.size 9 i0 (.string ⟨#[]⟩) 1 16 Tryz.underlying33 hi hz0 hz1 hz2 rfl (by decide) _ _ _ rfl (hrow.alloc _) ⟨wr.heap.size, 0, none⟩ 1 1 [.string (s.extract a k)] rfl rfl (cell_one_new _ _ _) (by simp [Value.oneCell']) (by omega) (by omega) (by simp; omega) ?_; intro v' w1 hown' hgrow _)
            go_roundw
            case rel => exact ⟨k + 1, k + 1, ss ++ [s.extract a k], by go_num, by go_num, by omega, by omega, by simp; omega, by simpa using hown', below_app hbw hrow hgrow, Lib.hid (splitI_app (splitI_slash hI.out (by rw [Hx.out, HE.out])) HN.out)⟩
            case measure => first | (simp [intOf]; done) | (simp [intOf]; omega)
          · go_wp2
            go_roundw
            case rel => exact ⟨k + 1, k + 1, ss, by go_num, by go_num, by omega, by omega, by omega, hrow, hbw, Lib.hid (splitI_app0 (a := a) (k := k) (splitI_slash hI.out (by rw [Hx.out, HE.out])) (by omega))⟩
            case measure => first | (simp [intOf]; done) | (simp [intOf]; omega)
        | false =>
          have he : s[k]'hlt ≠ 47 := by rw [byte47] at h47; exact of_decide_eq_false h47
          have HE := Lib.hid he
          clear he
          go_wp2
          go_roundw
          case rel => exact ⟨a, k + 1, ss, by go_num, by go_num, by omega, by omega, by omega, hrow, hbw, Lib.hid (splitI_next hI.out Hx.out HE.out)⟩
          case measure => first | (simp [intOf]; done) | (simp [intOf]; omega)
    · have HD : Hid (bls ss = pieces s.data.toList) := Lib.hid (splitI_done hI.out (by rw [← HL.out]; omega))
      have hfew : ss.length ≤ few := by unfold few; omega
      obtain ⟨A, c, rfl⟩ : ∃ A c, u5 = .slice A ss.length c := by
        rcases hrow.2 with ⟨rfl, hn⟩ | ⟨g, cap, cur, rfl, _⟩
        · exact ⟨none, 0, by rw [hn]⟩
        · exact ⟨_, _, rfl⟩
      by_cases h0 : 0 < s.size
      · have h0' : decide ((0 : Int) < (s.size : Int)) = true := decide_eq_true (by omega)
        have HA := Lib.hid (head_dec s h0)
        have HB := Lib.hid (last_dec s h0)
        have h0i : (0 : Int) < (s.size : Int) := by omega
        have h1i : (1 : Int) ≤ (s.size : Int) := by omega
        have h2i : IntKind.i64.wrap ((s.size : Int) - 1) = (s.size : Int) - 1 := IntWalk.i64_in _ (by omega)
        have h3i : ((s.size : Int) - 1).toNat = s.size - 1 := by omega
        have h4i : (s.size : Int) - 1 < (s.size : Int) := by omega
        go_wp2
        go_quiet (fail)
        go_wp2
        go_ret3
        refine ⟨_, ss, by rw [HA.out, HB.out]; rfl, split_row (w' := wr.drewN _) hrow hfew, HD.out, below_drewN hbw _⟩
      · have h0' : decide ((0 : Int) < (s.size : Int)) = false := decide_eq_false (by omega)
        have HA : Hid (decide (s.data.toList.head? = some 47) = false) := Lib.hid (by have := HL.out; rw [List.eq_nil_of_length_eq_zero (by omega : s.data.toList.length = 0)]; rfl)
        have HB : Hid (decide (s.data.toList.getLast? = some 47) = false) := Lib.hid (by have := HL.out; rw [List.eq_nil_of_length_eq_zero (by omega : s.data.toList.length = 0)]; rfl)
        go_wp2
        go_quiet (fail)
        go_wp2
        go_ret3
        refine ⟨_, ss, by rw [HA.out, HB.out]; rfl, split_row (w' := wr.drewN _) hrow hfew, HD.out, below_drewN hbw _⟩

end Go.Proofs.YtokaaebbmcldaaaGreatDoor
