/-
  The reference's Name.
-/
import Derived.Test.YtokaaebbmcldaaaGreatDoorRep
namespace Go.Proofs.YtokaaebbmcldaaaGreatDoor
open Go.RowKit

set_option maxRecDepth 100000 in
set_option maxHeartbeats 1000000 in
theorem Name4_any (s : Str) (w : World) (hs : s.size ≤ 1000000) :
    Calls Tryz.prog 74 #[.string s] w fun e w' => e = .returned (.bool (nameL s)) ∧ w = w' := by
  by_cases h1 : s.size < 1 ∨ 12 < s.size
  · have HE : Hid (nameL s = false) := by unfold nameL; rw [if_pos h1]; rfl
    by_cases h1a : s.size < 1
    all_goals
      go_enter Tryz.func74, Tryz.ntmps74
      go_wp2
      go_ret
      exact ⟨ret_bool HE.out.symm, rfl⟩
  · have h1a : ¬ s.size < 1 := by omega
    have h1b : ¬ 12 < s.size := by omega
    cases h2 : (s.toList == [46]) with
    | true =>
      have HE : Hid (nameL s = false) := by unfold nameL; rw [if_neg h1, if_pos h2]; rfl
      clear h1
      go_enter Tryz.func74, Tryz.ntmps74
      go_wp2
      go_ret
      exact ⟨ret_bool HE.out.symm, rfl⟩
    | false =>
      cases h3 : (s.toList == [46, 46]) with
      | true =>
        have HE : Hid (nameL s = false) := by unfold nameL; rw [if_neg h1, if_neg (by simp [h2]), if_pos h3]; rfl
        clear h1
        go_enter Tryz.func74, Tryz.ntmps74
        go_wp2
        go_ret
        exact ⟨ret_bool HE.out.symm, rfl⟩
      | false =>
        have HE : Hid (nameL s = s.data.toList.all byteOK) := by unfold nameL; rw [if_neg h1, if_neg (by simp [h2]), if_neg (by simp [h3])]; rfl
        clear h1
        go_enter Tryz.func74, Tryz.ntmps74
        go_wp2
        go_loop [3] (fun i => ∃ m : Nat, m ≤ s.size ∧ i = .int .i64 m ∧ Hid (∀ j (hj : j < s.size), j < m → byteOK s[j] = true)) (fun i => s.size - (intOf i).toNat)
        case atStart => exact ⟨0, by omega, rfl, fun j hj h => absurd h (by omega)⟩
        case round =>
          obtain ⟨m, hm, rfl, hok⟩ := hrel
          by_cases hlt : m < s.size
          · cases h4 : ((s[m].toNat : Int) == 0) with
            | true =>
              have HF := Lib.hid (all_not (p := byteOK) hlt (by simp [byteOK, h4]))
              go_wp2
              go_ret
              exact ⟨ret_bool (by rw [HE.out, HF.out]), rfl⟩
            | false =>
              cases h5 : ((s[m].toNat : Int) == 47) with
              | true =>
                have HF := Lib.hid (all_not (p := byteOK) hlt (by simp [byteOK, h5]))
                go_wp2
                go_ret
                exact ⟨ret_bool (by rw [HE.out, HF.out]), rfl⟩
              | false =>
                have HN := Lib.hid (bytes_snoc (p := byteOK) hlt hok.out (by simp [byteOK, h4, h5]))
                go_wp2
                go_round
                case rel => exact ⟨m + 1, by omega, by go_num, HN.out⟩
                case measure => simp [intOf]; omega
          · have HF := Lib.hid (all_upto (p := byteOK) (s := s) (fun j hj => hok.out j hj (by omega)))
            go_wp2
            go_ret
            exact ⟨ret_bool (by rw [HE.out, HF.out]), rfl⟩


end Go.Proofs.YtokaaebbmcldaaaGreatDoor
