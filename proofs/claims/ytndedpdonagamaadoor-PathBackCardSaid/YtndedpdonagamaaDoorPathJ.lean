/-
  path.Join, path.Parent, path.Under.
-/
import Derived.Test.YtndedpdonagamaaDoorPathS
namespace Go.Proofs.YtndedpdonagamaaDoor
open Go.RowKit

theorem slash_size' : ({ data := #[47] } : ByteArray).size = 1 := rfl
theorem app_data (a b : ByteArray) : (a ++ b).data.toList = a.data.toList ++ b.data.toList := by simp [ByteArray.data_append]
/-- A string that is a list. -/
def StrQ (l : Bs) (w : World) (e : Ending) (w' : World) : Prop := ∃ r : Str, e = .returned (.string r) ∧ r.data.toList = l ∧ w = w'
set_option maxHeartbeats 400000 in
theorem PJoin_any (d m : ByteArray) (w : World) (hd : d.size ≤ 1000000) (hm : m.size ≤ 1000000) :
    Calls Tryd.prog 19 #[.string d, .string m] w (StrQ (joinL d.data.toList m.data.toList) w) := by
  have HL := Lib.hid (hasSuffix_slash d.data.toList)
  by_cases h : d.data.toList.getLast? = some 47
  · have HJ : Hid (joinL d.data.toList m.data.toList = d.data.toList ++ m.data.toList) := Lib.hid (if_pos h)
    have HD : Hid (decide (d.data.toList.getLast? = some 47) = true) := Lib.hid (decide_eq_true h)
    clear h
    go_enter Tryd.func19, Tryd.ntmps19
    go_wp2_with fail
    refine (Tryd.strings_HasSuffix _ _ _ (by omega)).mono ?_
    rintro e w' ⟨rfl, rfl⟩
    rw [show ({ data := #[47] } : ByteArray).data.toList = [47] from rfl, HL.out, HD.out]
    go_wp2
    go_ret
    exact ⟨_, rfl, by rw [HJ.out, app_data], rfl⟩
  · have HJ : Hid (joinL d.data.toList m.data.toList = d.data.toList ++ 47 :: m.data.toList) := Lib.hid (if_neg h)
    have HD : Hid (decide (d.data.toList.getLast? = some 47) = false) := Lib.hid (decide_eq_false h)
    clear h
    go_enter Tryd.func19, Tryd.ntmps19
    go_wp2_with fail
    refine (Tryd.strings_HasSuffix _ _ _ (by omega)).mono ?_
    rintro e w' ⟨rfl, rfl⟩
    rw [show ({ data := #[47] } : ByteArray).data.toList = [47] from rfl, HL.out, HD.out]
    go_wp2
    go_ret
    exact ⟨_, rfl, by rw [HJ.out, app_data, app_data]; simp, rfl⟩

theorem lastIdx_eq {s : ByteArray} {a b : Bs} (h : s.data.toList = a ++ 47 :: b) (hb : (47 : UInt8) ∉ b) : Lib.lastIndexByte s 47 = a.length := by
  have hsz : s.size = a.length + 1 + b.length := by rw [Lib.size_eq, h]; simp; omega
  have hget : ∀ j, j < s.size → s.data.toList[j]? = some (s.data[j]!) := by
    intro j hj
    have hj' : j < s.data.size := hj
    rw [Array.getElem?_toList, getElem!_pos s.data j hj', Array.getElem?_eq_getElem hj']
  rcases Lib.lastIndexByte_spec s 47 with ⟨h1, h2⟩ | ⟨i, h1, h2, h3, h4⟩
  · have := h2 a.length (by omega)
    have hg := hget a.length (by omega)
    rw [h] at hg
    simp at hg
    rw [← hg] at this
    exact absurd rfl this
  · rw [h2]
    have hg := hget i h1
    have h3' : s.data[i]! = 47 := by
      apply UInt8.toNat_inj.1
      have : (47 : UInt8).toNat = 47 := rfl
      omega
    rw [h3', h] at hg
    by_cases e : i = a.length
    · omega
    · exfalso
      by_cases hlt : i < a.length
      · have h5 := h4 a.length hlt (by omega)
        have hg' := hget a.length (by omega)
        rw [h] at hg'
        simp at hg'
        rw [← hg'] at h5
        exact h5 rfl
      · rw [List.getElem?_append_right (by omega)] at hg
        obtain ⟨k, hk⟩ : ∃ k, i - a.length = k + 1 := ⟨i - a.length - 1, by omega⟩
        rw [hk] at hg
        simp at hg
        exact hb (List.mem_of_getElem? hg)

/-- A clean path that is not the root: its directory and its last name. -/
theorem clean_cut {l : Bs} (h : cleanL l = true) (hr : l ≠ [47]) : ∃ init p, (∀ q ∈ init, nmL q = true) ∧ nmL p = true ∧ l = flatS init ++ 47 :: p ∧ pieces l = init ++ [p] := by
  rcases (clean_iff l).1 h with h' | ⟨ps, hne, hn, rfl⟩
  · exact absurd h' hr
  · obtain ⟨init, p, rfl⟩ : ∃ init p, ps = init ++ [p] := ⟨ps.dropLast, ps.getLast hne, (List.dropLast_concat_getLast hne).symm⟩
    exact ⟨init, p, fun q hq => hn q (by simp [hq]), hn p (by simp), by simp [flatS], pieces_flat hn⟩
theorem prnt_cut {l : Bs} (h : cleanL l = true) (hr : l ≠ [47]) {init : List Bs} {p : Bs} (hp : pieces l = init ++ [p]) : prntL l = (dirOf init, p, true) := by
  unfold prntL
  rw [if_pos ⟨h, hr⟩, hp]
  simp
theorem flatS_nil_iff {ps : List Bs} : (flatS ps).length = 0 ↔ ps = [] := by
  cases ps with
  | nil => simp [flatS]
  | cons p ps => rw [flatS_cons]; simp

/-- What Parent leaves. -/
def PrntQ (l : Bs) (w : World) (e : Ending) (w' : World) : Prop := ∃ (p q : Str) (b : Bool), e = .returned (.tuple #[.string p, .string q, .bool b]) ∧ prntL l = (p.data.toList, q.data.toList, b) ∧ Below w.heap.size w w'
set_option maxRecDepth 100000 in
set_option maxHeartbeats 1000000 in
theorem PParent_any (s : ByteArray) (w : World) (hs : s.size ≤ 1000000) : Calls Tryd.prog 18 #[.string s] w (PrntQ s.data.toList w) := by
  by_cases h1 : s.data.toList = [47]
  · have e1 : (s.toList == [47]) = true := by rw [toL, beq_iff_eq]; exact h1
    have HP : Hid (prntL s.data.toList = ([], [], false)) := Lib.hid (if_neg (fun h => h.2 h1))
    clear h1
    go_enter Tryd.func18, Tryd.ntmps18
    go_wp2
    go_ret3
    exact ⟨_, _, _, rfl, HP.out, Below.refl _ _⟩
  · have e1 : (s.toList == [47]) = false := by rw [toL, beq_eq_false_iff_ne]; exact h1
    cases hc : cleanL s.data.toList with
    | false =>
      have HP : Hid (prntL s.data.toList = ([], [], false)) := Lib.hid (if_neg (fun h => by rw [hc] at h; exact absurd h.1 (by decide)))
      have HC := Lib.hid hc
      clear h1 hc
      go_enter Tryd.func18, Tryd.ntmps18
      go_wp2_with fail
      refine (PClean_any s w hs).mono ?_
      rintro e w' ⟨rfl, hb⟩
      rw [HC.out]
      go_wp2
      go_ret3
      exact ⟨_, _, _, rfl, HP.out, hb⟩
    | true =>
      obtain ⟨init, p, hi, hp, hl, hps⟩ := clean_cut hc h1
      have HP := Lib.hid (prnt_cut hc h1 hps)
      have HI := Lib.hid (lastIdx_eq hl (name_free hp))
      have hsz : s.size = (flatS init).length + 1 + p.length := by rw [Lib.size_eq, hl]; simp; omega
      have hlt : (flatS init).length < s.size := by omega
      have HL := Lib.hid hl
      have HC := Lib.hid hc
      have HF := Lib.hid (@flatS_nil_iff init)
      clear h1 hc hl hps hsz
      obtain ⟨i, hii⟩ : ∃ i, (flatS init).length = i := ⟨_, rfl⟩
      have HII := Lib.hid hii
      rw [hii] at HI hlt HF
      clear hii
      by_cases h0 : i = 0
      · subst h0
        go_enter Tryd.func18, Tryd.ntmps18
        go_wp2_with fail
        refine (PClean_any s w hs).mono ?_
        rintro e w' ⟨rfl, hb⟩
        rw [HC.out]
        go_wp2_with fail
        refine (Tryd.strings_LastIndexByte _ _ (by omega) _).mono ?_
        rintro e w' ⟨rfl, rfl⟩
        rw [HI.out]
        go_wp2_with fail
        go_quiet (fail)
        go_wp2
        go_ret3
        refine ⟨_, _, _, rfl, ?_, below_drewN hb _⟩
        obtain rfl : init = [] := by simpa using HF.out
        rw [HP.out, Lib.extract_to_end, HL.out]
        rfl
      · have h0' : ((i : Int) == 0) = false := beq_eq_false_iff_ne.2 (by omega)
        go_enter Tryd.func18, Tryd.ntmps18
        go_wp2_with fail
        refine (PClean_any s w hs).mono ?_
        rintro e w' ⟨rfl, hb⟩
        rw [HC.out]
        go_wp2_with fail
        refine (Tryd.strings_LastIndexByte _ _ (by omega) _).mono ?_
        rintro e w' ⟨rfl, rfl⟩
        rw [HI.out]
        go_wp2_with fail
        go_quiet (fail)
        go_wp2
        go_ret3
        refine ⟨_, _, _, rfl, ?_, below_drewN hb _⟩
        have hne : init ≠ [] := fun e => h0 (HF.out.2 e)
        rw [HP.out, Lib.extract_to_end, Lib.extract_data, HL.out, flat_dirOf hne, ← HII.out]
        simp

theorem data_inj {a b : ByteArray} : a = b ↔ a.data.toList = b.data.toList := str_eq_iff.symm
set_option maxRecDepth 100000 in
set_option maxHeartbeats 1000000 in
theorem PUnder_any (a b : ByteArray) (w : World) (ha : a.size ≤ 1000000) (hb : b.size ≤ 1000000) :
    Calls Tryd.prog 21 #[.string a, .string b] w fun e w' => e = .returned (.bool (underL a.data.toList b.data.toList)) ∧ Below w.heap.size w w' := by
  have HU := Lib.hid (underP_eq a.data.toList b.data.toList)
  cases hca : cleanL a.data.toList with
  | false =>
    have HF : Hid (underL a.data.toList b.data.toList = false) := Lib.hid (by unfold underL; rw [hca]; simp)
    have HC := Lib.hid hca
    clear hca
    go_enter Tryd.func21, Tryd.ntmps21
    go_wp2_with fail
    refine (PClean_any a w ha).mono ?_
    rintro e w' ⟨rfl, hb'⟩
    rw [HC.out]
    go_wp2
    go_ret
    exact ⟨ret_bool HF.out.symm, hb'⟩
  | true =>
    have HC := Lib.hid hca
    cases hcb : cleanL b.data.toList with
    | false =>
      have HF : Hid (underL a.data.toList b.data.toList = false) := Lib.hid (by unfold underL; rw [hca, hcb]; simp)
      have HD := Lib.hid hcb
      clear hca hcb
      go_enter Tryd.func21, Tryd.ntmps21
      go_wp2_with fail
      refine (PClean_any a w ha).mono ?_
      rintro e w' ⟨rfl, hb'⟩
      rw [HC.out]
      go_wp2_with fail
      refine (PClean_any b _ hb).mono ?_
      rintro e w2 ⟨rfl, hb2⟩
      rw [HD.out]
      go_wp2
      go_ret
      exact ⟨ret_bool HF.out.symm, hb'.trans (hb2.mono hb'.size)⟩
    | true =>
      have HD := Lib.hid hcb
      have HF : Hid (underL a.data.toList b.data.toList = (decide (a.data.toList = [47]) || decide (a.data.toList = b.data.toList) || (a.data.toList ++ [47]).isPrefixOf b.data.toList)) := Lib.hid (by
        rw [← HU.out]; unfold underP; rw [hca, hcb]; simp)
      clear hca hcb HU
      by_cases h1 : a.data.toList = [47]
      · have e1 : (a.toList == [47]) = true := by rw [toL, beq_iff_eq]; exact h1
        have HG : Hid (underL a.data.toList b.data.toList = true) := Lib.hid (by rw [HF.out]; simp [h1])
        clear h1 HF
        go_enter Tryd.func21, Tryd.ntmps21
        go_wp2_with fail
        refine (PClean_any a w ha).mono ?_
        rintro e w' ⟨rfl, hb'⟩
        rw [HC.out]
        go_wp2_with fail
        refine (PClean_any b _ hb).mono ?_
        rintro e w2 ⟨rfl, hb2⟩
        rw [HD.out]
        go_wp2
        go_ret
        exact ⟨ret_bool HG.out.symm, hb'.trans (hb2.mono hb'.size)⟩
      · have e1 : (a.toList == [47]) = false := by rw [toL, beq_eq_false_iff_ne]; exact h1
        by_cases h2 : a.data.toList = b.data.toList
        · have e2 : (a.toList == b.toList) = true := by rw [toL, toL, beq_iff_eq]; exact h2
          have HG : Hid (underL a.data.toList b.data.toList = true) := Lib.hid (by rw [HF.out]; simp [h2])
          clear h1 h2 HF
          go_enter Tryd.func21, Tryd.ntmps21
          go_wp2_with fail
          refine (PClean_any a w ha).mono ?_
          rintro e w' ⟨rfl, hb'⟩
          rw [HC.out]
          go_wp2_with fail
          refine (PClean_any b _ hb).mono ?_
          rintro e w2 ⟨rfl, hb2⟩
          rw [HD.out]
          go_wp2
          go_ret
          exact ⟨ret_bool HG.out.symm, hb'.trans (hb2.mono hb'.size)⟩
        · have e2 : (a.toList == b.toList) = false := by rw [toL, toL, beq_eq_false_iff_ne]; exact h2
          have HG : Hid (underL a.data.toList b.data.toList = Lib.hasPrefix b.data.toList (a.data.toList ++ [47])) := Lib.hid (by rw [HF.out]; simp [h1, h2, Lib.hasPrefix])
          clear h1 h2 HF
          go_enter Tryd.func21, Tryd.ntmps21
          go_wp2_with fail
          refine (PClean_any a w ha).mono ?_
          rintro e w' ⟨rfl, hb'⟩
          rw [HC.out]
          go_wp2_with fail
          refine (PClean_any b _ hb).mono ?_
          rintro e w2 ⟨rfl, hb2⟩
          rw [HD.out]
          go_wp2_with fail
          refine (Tryd.strings_HasPrefix _ _ _).mono ?_
          rintro e w3 ⟨rfl, rfl⟩
          go_wp2
          go_ret
          exact ⟨ret_bool HG.out.symm, hb'.trans (hb2.mono hb'.size)⟩

end Go.Proofs.YtndedpdonagamaaDoor
