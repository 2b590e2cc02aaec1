/-
  PathLimits: the walk.
-/
import Derived.Test.YtndedpdonagamaaDoorLaw4B
namespace Go.Proofs.YtndedpdonagamaaDoor
open Go.RowKit

theorem nm_rep (m : Nat) (h : 1 ≤ m) : nmL (List.replicate m 110) = decide (m ≤ 12) := by
  rw [Bool.eq_iff_iff, nmL_iff, decide_eq_true_iff]
  constructor
  · intro h; simpa using h.2.1
  · intro h2
    have hm : ∀ c, c ∈ List.replicate m (110 : UInt8) → c = 110 := fun c hc => (List.mem_replicate.1 hc).2
    refine ⟨?_, by simpa using h2, ?_, ?_, ?_, ?_⟩
    · intro e; have := congrArg List.length e; simp at this; omega
    · intro e
      have := hm 46 (by rw [e]; simp)
      exact absurd this (by decide)
    · intro e
      have := hm 46 (by rw [e]; simp)
      exact absurd this (by decide)
    · intro hc; exact absurd (hm 0 hc) (by decide)
    · intro hc; exact absurd (hm 47 hc) (by decide)
theorem rep_free (m : Nat) : (47 : UInt8) ∉ List.replicate m (110 : UInt8) := fun hc => absurd (List.mem_replicate.1 hc).2 (by decide)
theorem clean_rep (m : Nat) (h : 1 ≤ m) : cleanL (flatS (List.replicate 40 (List.replicate m 110))) = decide (m ≤ 12) := by
  rw [← nm_rep m h]
  generalize hp : List.replicate m (110 : UInt8) = p
  have hfree : (47 : UInt8) ∉ p := by rw [← hp]; exact rep_free m
  rw [show List.replicate 40 p = p :: List.replicate 39 p from rfl, flatS_cons]
  unfold cleanL
  have hne : ¬ (47 :: (p ++ flatS (List.replicate 39 p)) = [47]) := by
    intro e
    simp at e
    rw [e.1] at hp
    have := congrArg List.length hp
    simp at this
    omega
  rw [decide_eq_false hne]
  simp only [List.head?_cons, List.tail_cons, decide_true, Bool.true_and, Bool.false_or]
  rw [segs_flat _ p hfree (fun q hq => by rw [(List.mem_replicate.1 hq).2]; exact hfree)]
  rw [Bool.eq_iff_iff, List.all_eq_true]
  constructor
  · intro h; exact h p (by simp)
  · intro h q hq
    rcases List.mem_cons.1 hq with rfl | hq
    · exact h
    · rw [(List.mem_replicate.1 hq).2]; exact h
theorem clean_one (m : Nat) (h : 1 ≤ m) : cleanL (47 :: List.replicate m 110) = decide (m ≤ 12) := by
  rw [← nm_rep m h]
  have hfree := rep_free m
  unfold cleanL
  have hne : ¬ (47 :: List.replicate m (110 : UInt8) = [47]) := by intro e; have := congrArg List.length e; simp at this; omega
  rw [decide_eq_false hne]
  simp only [List.head?_cons, List.tail_cons, decide_true, Bool.true_and, Bool.false_or]
  rw [segs_none hfree]
  simp
theorem under_rep (m : Nat) (h : 1 ≤ m) : underL (47 :: List.replicate m 110) (flatS (List.replicate 40 (List.replicate m 110))) = decide (m ≤ 12) := by
  unfold underL
  rw [clean_one m h, clean_rep m h]
  by_cases h12 : m ≤ 12
  · have hn : nmL (List.replicate m 110) = true := by rw [nm_rep m h]; exact decide_eq_true h12
    have e1 : (47 :: List.replicate m (110 : UInt8)) = flatS [List.replicate m 110] := by simp [flatS]
    rw [e1, pieces_flat (by simpa using hn), pieces_flat (fun p hp => by rw [(List.mem_replicate.1 hp).2]; exact hn), decide_eq_true h12]
    simp only [Bool.true_and]
    rw [List.isPrefixOf_iff_prefix]
    exact ⟨List.replicate 39 (List.replicate m 110), rfl⟩
  · simp [h12]
theorem flat_rep_len (k m : Nat) : (flatS (List.replicate k (List.replicate m (110 : UInt8)))).length = k * (m + 1) := by
  induction k with
  | zero => simp [flatS]
  | succ k ih => rw [List.replicate_succ, flatS_cons]; simp [ih, Nat.add_mul]; omega

set_option maxRecDepth 100000 in
set_option maxHeartbeats 2000000 in
theorem PathLimits_walk (n : Int) (w : World) (h0 : 0 ≤ n) (h1 : n ≤ 255) :
    Calls Tryd.prog 6 #[.int .u8 n] w fun e w' => e = .returned (.bool true) ∧ Below w.heap.size w w' := by
  obtain ⟨r, hr⟩ : ∃ r : Nat, n % 5 = r := ⟨(n % 5).toNat, by omega⟩
  have hr5 : r < 5 := by omega
  have hr0 : 0 ≤ n % 5 := by omega
  have hr1 : n % 5 < 5 := by omega
  have HR := Lib.hid hr
  clear hr
  go_enter Tryd.func6, Tryd.ntmps6
  go_wp2
  go_loop [3, 4] (fun t i => ∃ (k : Nat) (T : Str), (k : Int) ≤ 10 + n % 5 ∧ i = .int .i64 k ∧ t = .string T ∧ T.size ≤ 14 ∧ Hid (T.data.toList = List.replicate k 110)) (fun _ i => 15 - (intOf i).toNat)
  case atStart => exact ⟨0, _, by omega, rfl, rfl, by decide, Lib.hid rfl⟩
  case round =>
    obtain ⟨k, T, hk, rfl, rfl, hT, hTl⟩ := hrel
    by_cases hlt : (k : Int) < 10 + n % 5
    · have HX : Hid ((T ++ ({ data := #[110] } : ByteArray)).data.toList = List.replicate (k + 1) 110) := Lib.hid (by
        rw [app_data, hTl.out, List.replicate_succ'])
      go_wp2
      go_round
      case rel => exact ⟨k + 1, _, by omega, by go_num, rfl, by rw [Lib.size_eq, HX.out, List.length_replicate]; omega, HX⟩
      case measure => first | (simp [intOf]; done) | (simp [intOf]; omega)
    · have hke : k = 10 + r := by have := HR.out; omega
      have hk1 : 1 ≤ k := by omega
      have hk14 : k ≤ 14 := by omega
      have HTS : Hid (T.size = k) := Lib.hid (by rw [Lib.size_eq, hTl.out]; simp)
      clear hke
      go_wp2
      go_loop [5, 6] (fun t i => ∃ (j : Nat) (U : Str), j ≤ 40 ∧ i = .int .i64 j ∧ t = .string U ∧ U.size ≤ 600 ∧ Hid (U.data.toList = flatS (List.replicate j (List.replicate k 110)))) (fun _ i => 40 - (intOf i).toNat)
      case atStart => exact ⟨0, _, by omega, rfl, rfl, by decide, Lib.hid rfl⟩
      case round =>
        obtain ⟨j, U, hj, rfl, rfl, hU, hUl⟩ := hrel
        by_cases hjl : j < 40
        · have HX : Hid ((U ++ (({ data := #[47] } : ByteArray) ++ T)).data.toList = flatS (List.replicate (j + 1) (List.replicate k 110))) := Lib.hid (by
            have hl : (({ data := #[47] } : ByteArray) ++ T).data.toList = 47 :: T.data.toList := by rw [app_data]; rfl
            rw [app_data, hl, hTl.out, hUl.out, List.replicate_succ', flatS_append]; simp [flatS])
          go_wp2
          go_round
          case rel => exact ⟨j + 1, _, by omega, by go_num, rfl, by
            rw [Lib.size_eq, HX.out, flat_rep_len]
            have : (j + 1) * (k + 1) ≤ 40 * 15 := Nat.mul_le_mul (by omega) (by omega)
            omega, HX⟩
          case measure => first | (simp [intOf]; done) | (simp [intOf]; omega)
        · obtain rfl : j = 40 := by omega
          have HN : Hid (nmL T.data.toList = decide (k ≤ 12)) := Lib.hid (by rw [hTl.out]; exact nm_rep k hk1)
          have HCL : Hid (cleanL U.data.toList = decide (k ≤ 12)) := Lib.hid (by rw [hUl.out]; exact clean_rep k hk1)
          have HUN : Hid (underL (({ data := #[47] } : ByteArray) ++ T).data.toList U.data.toList = decide (k ≤ 12)) := Lib.hid (by
            have hl : (({ data := #[47] } : ByteArray) ++ T).data.toList = 47 :: T.data.toList := by rw [app_data]; rfl
            rw [hl, hUl.out, hTl.out]; exact under_rep k hk1)
          have hsl := slash_size'
          have hfin : ∀ b : Bool, decide (k ≤ 12) = b → decide ((T.size : Int) ≤ 12) = b := fun b hb => by
            rw [← hb, decide_eq_decide]; have := HTS.out; omega
          cases hb : decide (k ≤ 12)
          all_goals
            have h12 := hfin _ hb
            rw [hb] at HN HCL HUN
            clear hfin hb
            go_wp2_with fail
            refine (PName_any T _).mono ?_
            rintro e w1 ⟨rfl, hb1⟩
            rw [HN.out]
            go_wp2_with fail
            refine (PClean_any U _ (by omega)).mono ?_
            rintro e w2 ⟨rfl, hb2⟩
            rw [HCL.out]
            go_wp2_with fail
            refine (PUnder_any _ U _ (by simp; omega) (by omega)).mono ?_
            rintro e w3 ⟨rfl, hb3⟩
            rw [HUN.out]
            go_wp2_with fail
            refine (awake_any _).mono ?_
            rintro e w4 ⟨rfl, hb4⟩
            go_wp2
            go_ret
            exact ⟨rfl, bt2 (bt2 (bt2 hb1 hb2) hb3) hb4⟩

end Go.Proofs.YtndedpdonagamaaDoor
