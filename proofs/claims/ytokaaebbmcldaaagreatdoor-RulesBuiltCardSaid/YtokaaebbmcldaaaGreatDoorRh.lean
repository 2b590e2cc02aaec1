/-
  The first error of a rule: rule.Check, kauditref13.Check.
-/
import Derived.Test.YtokaaebbmcldaaaGreatDoorRg
import Derived.Test.YtokaaebbmcldaaaGreatDoorAvO
import Derived.Test.YtokaaebbmcldaaaGreatDoorPathC
import Derived.Test.YtokaaebbmcldaaaGreatDoorRef4B
namespace Go.Proofs.YtokaaebbmcldaaaGreatDoor
open Go.RowKit

theorem mask_bv (x : BitVec 64) : (x &&& ~~~ 4294967295#64) = 0#64 ↔ x.toNat < 4294967296 := by
  have hc : (x &&& 4294967295#64).toNat = x.toNat % 4294967296 := by
    rw [BitVec.toNat_and]; exact Nat.and_two_pow_sub_one_eq_mod x.toNat 32
  have hs : x = (x &&& 4294967295#64) ||| (x &&& ~~~ 4294967295#64) := by
    apply BitVec.eq_of_getLsbD_eq
    intro i hi
    simp only [BitVec.getLsbD_or, BitVec.getLsbD_and, BitVec.getLsbD_not, hi]
    cases x.getLsbD i <;> cases (4294967295#64).getLsbD i <;> simp
  constructor
  · intro h
    rw [h, BitVec.or_zero] at hs
    have := congrArg BitVec.toNat hs
    omega
  · intro h
    have e : x &&& 4294967295#64 = x := by
      apply BitVec.eq_of_toNat_eq
      rw [hc]
      omega
    rw [← e, BitVec.and_assoc]
    have : (4294967295#64 &&& ~~~ 4294967295#64) = 0#64 := by decide
    rw [this, BitVec.and_zero]
theorem mask_not {m : Int} (h1 : 0 ≤ m) (h2 : m < 18446744073709551616) : notI .u64 m 4294967295 = 0 ↔ m < 4294967296 := by
  have e : notI .u64 m 4294967295 = (((BitVec.ofInt 64 m &&& ~~~ 4294967295#64).toNat : Nat) : Int) := by
    show IntKind.u64.wrap ((BitVec.ofInt 64 m &&& ~~~ 4294967295#64).toNat : Nat) = _
    have h := (BitVec.ofInt 64 m &&& ~~~ 4294967295#64).isLt
    generalize (BitVec.ofInt 64 m &&& ~~~ 4294967295#64).toNat = n at h
    simp only [IntKind.wrap, IntKind.signed, IntKind.bits]
    simp
    omega
  rw [e]
  have hn : (BitVec.ofInt 64 m).toNat = m.toNat := by
    rw [BitVec.toNat_ofInt]
    omega
  have h := mask_bv (BitVec.ofInt 64 m)
  rw [hn] at h
  constructor
  · intro k
    have : (BitVec.ofInt 64 m &&& ~~~ 4294967295#64) = 0#64 := BitVec.eq_of_toNat_eq (by simpa using Int.ofNat_inj.1 k)
    have := h.1 this
    omega
  · intro k
    rw [h.2 (by omega)]
    rfl
theorem mask_shr {m : Int} (h1 : 0 ≤ m) : shrI .u64 m 32 = 0 ↔ m < 4294967296 := by
  show m.fdiv (2 ^ min (32 : Int).toNat 64) = 0 ↔ _
  rw [show ((2 : Int) ^ min (32 : Int).toNat 64) = 4294967296 by decide, Int.fdiv_eq_ediv_of_nonneg _ (by omega)]
  omega

/-- A rule as it comes up: its calls are a word, its path is not too long. -/
def RulIn (r : Rul) : Prop := 0 ≤ r.calls ∧ r.calls < 18446744073709551616 ∧ r.path.size ≤ 60000 ∧ r.tests.length ≤ 1000
def watL (r : Rul) : Bool :=
  if r.watch = 0 then decide (r.path = ⟨#[]⟩ ∧ r.perm = 0)
  else decide ((r.watch = 1 ∨ r.watch = 2) ∧ r.list = 3 ∧ cleanL r.path.data.toList = true ∧ (r.path.size : Int) ≤ 128 ∧ 1 ≤ r.perm ∧ r.perm ≤ 15)
def tchkL (list : Int) : List Tst → Int
  | [] => 0
  | t :: ts => if checkL t list = 0 then tchkL list ts else checkL t list
theorem tchk_at {list : Int} {l : List Tst} {j : Nat} {t : Tst} (ht : l[j]? = some t) : tchkL list (l.drop j) = if checkL t list = 0 then tchkL list (l.drop (j + 1)) else checkL t list := by
  obtain ⟨hk, e⟩ := List.getElem?_eq_some_iff.1 ht
  rw [List.drop_eq_getElem_cons hk, tchkL, e]
theorem tchk_end {list : Int} {l : List Tst} : tchkL list (l.drop l.length) = 0 := by simp [tchkL]
def cbadL (r : Rul) : Bool := if r.list = 2 ∨ r.list = 3 then decide (r.calls = 0 ∨ ¬ r.calls < 4294967296) else decide (r.calls ≠ 0)
def rchkL (r : Rul) : Int :=
  if r.list < 1 ∨ 5 < r.list then 130 else if r.action ≠ 1 ∧ r.action ≠ 2 then 131 else if cbadL r = true then 132 else if 8 < (r.tests.length : Int) then 133
  else if tchkL r.list r.tests ≠ 0 then tchkL r.list r.tests else if watL r = false then 134 else if 31 < (r.key.size : Int) then 135 else 0
section
set_option maxRecDepth 10000
set_option maxHeartbeats 1000000
theorem Pclean (s : Str) (hs : s.size ≤ 60000) : AFn Tryz.prog 78 [.v (.string s)] (fun r => r = .v (.bool (cleanL s.data.toList))) := afn_of (us := [.string s]) fun w => PClean_any s w (by omega)
theorem Rclean (s : Str) (hs : s.size ≤ 60000) : AFn Tryz.prog 52 [.v (.string s)] (fun r => r = .v (.bool (cleanL s.data.toList))) := afn_of (us := [.string s]) fun w => RClean_any s w hs
theorem PhasCalls (f : Int) : AFn Tryz.prog 65 [.v (.int .i64 f)] (fun r => r = .v (.bool (decide (f = 2 ∨ f = 3)))) := by
  refine enter Tryz.func65 rfl rfl rfl rfl rfl 0 rfl ?_
  refine aw_seq (fun K hK => ?_)
  refine aw_region ?_
  refine al_p rfl (st_assign rfl ?_)
  refine al_nil ?_
  refine x_then ?_
  refine hK _ ?_
  clear hK K
  refine aw_seq (fun K hK => ?_)
  refine aw_region ?_
  refine al_p rfl (st_move rfl ?_)
  first | refine al_p rfl (st_eql rfl rfl ?_) | refine al_p rfl (st_eqlS rfl rfl ?_) | refine al_p rfl (st_eqlB (by kernel_rfl) rfl rfl ?_)
  refine al_p rfl (st_move rfl ?_)
  refine al_gs false rfl rfl (fun hb1 => ?_) (fun hb1 => ?_)
  · have hc1 := bp hb1
    refine g_n ?_
    refine g_n ?_
    refine al_p rfl (p_t ?_)
    refine al_p rfl (st_assign rfl ?_)
    refine al_nil ?_
    refine x_then ?_
    refine hK _ ?_
    clear hK K
    refine aw_ret ?_
    refine e_ret ?_
    first | (exfalso; first | contradiction | omega) | (exact vb (by simp [*]))
  · have hc1 := bp hb1
    refine g_y (st_move rfl ?_)
    first | refine g_y (st_eql rfl rfl ?_) | refine g_y (st_eqlS rfl rfl ?_) | refine g_y (st_eqlB (by kernel_rfl) rfl rfl ?_)
    refine al_p rfl (p_f ?_)
    refine al_p rfl (st_assign rfl ?_)
    refine al_nil ?_
    refine x_then ?_
    refine hK _ ?_
    clear hK K
    refine aw_ret ?_
    refine e_ret ?_
    first | (exfalso; first | contradiction | omega) | (exact vb (by simp [*]))

theorem Pvalid (m : Int) (h1 : 0 ≤ m) (h2 : m < 18446744073709551616) : AFn Tryz.prog 66 [.v (.int .u64 m)] (fun r => r = .v (.bool (decide (m < 4294967296)))) := by
  refine enter Tryz.func66 rfl rfl rfl rfl rfl 0 rfl ?_
  refine aw_seq (fun K hK => ?_)
  refine aw_region ?_
  refine al_p rfl (st_assign rfl ?_)
  refine al_nil ?_
  refine x_then ?_
  refine hK _ ?_
  clear hK K
  refine aw_seq (fun K hK => ?_)
  refine aw_region ?_
  refine al_p rfl (st_move rfl ?_)
  refine al_p rfl (st_andNot rfl rfl ?_)
  first | refine al_p rfl (st_eql rfl rfl ?_) | refine al_p rfl (st_eqlS rfl rfl ?_) | refine al_p rfl (st_eqlB (by kernel_rfl) rfl rfl ?_)
  refine al_p rfl (st_assign rfl ?_)
  refine al_nil ?_
  refine x_then ?_
  refine hK _ ?_
  clear hK K
  refine aw_ret ?_
  refine e_ret ?_
  first | (exfalso; first | contradiction | omega) | (exact vb (by exact decide_eq_decide.2 (mask_not h1 h2)))

theorem Rvalid (m : Int) (h1 : 0 ≤ m) : AFn Tryz.prog 50 [.v (.int .u64 m)] (fun r => r = .v (.bool (decide (m < 4294967296)))) := by
  refine enter Tryz.func50 rfl rfl rfl rfl rfl 0 rfl ?_
  refine aw_seq (fun K hK => ?_)
  refine aw_region ?_
  refine al_p rfl (st_assign rfl ?_)
  refine al_nil ?_
  refine x_then ?_
  refine hK _ ?_
  clear hK K
  refine aw_seq (fun K hK => ?_)
  refine aw_region ?_
  refine al_p rfl (st_move rfl ?_)
  refine al_p rfl (st_shr rfl rfl (by omega) ?_)
  first | refine al_p rfl (st_eql rfl rfl ?_) | refine al_p rfl (st_eqlS rfl rfl ?_) | refine al_p rfl (st_eqlB (by kernel_rfl) rfl rfl ?_)
  refine al_p rfl (st_assign rfl ?_)
  refine al_nil ?_
  refine x_then ?_
  refine hK _ ?_
  clear hK K
  refine aw_ret ?_
  refine e_ret ?_
  first | (exfalso; first | contradiction | omega) | (exact vb (by exact decide_eq_decide.2 (mask_shr h1)))

theorem PwatchFits (r : Rul) (hp : r.path.size ≤ 60000) : AFn Tryz.prog 67 [.agg (rulA r)] (fun x => x = .v (.bool (watL r))) := by
  refine enter Tryz.func67 rfl rfl rfl rfl rfl 0 rfl ?_
  refine aw_seq (fun K hK => ?_)
  refine aw_region ?_
  first | refine al_p rfl (s_boxA rfl rfl (by repeat constructor) ?_) | refine al_p rfl (s_box rfl rfl (by repeat constructor) ?_)
  refine al_p rfl (st_assign rfl ?_)
  refine al_nil ?_
  refine x_then ?_
  refine hK _ ?_
  clear hK K
  refine aw_seq (fun K hK => ?_)
  refine aw_seq (fun K hK => ?_)
  refine aw_region ?_
  refine al_p rfl (st_fieldB rfl ?_)
  refine al_p rfl (st_loadB1 rfl rfl rfl ?_)
  refine al_nil ?_
  refine x_then ?_
  refine hK _ ?_
  clear hK K
  refine aw_block ?_
  refine aw_seq (fun K hK => ?_)
  refine aw_region ?_
  first | refine al_p rfl (st_eql rfl rfl ?_) | refine al_p rfl (st_eqlS rfl rfl ?_) | refine al_p rfl (st_eqlB (by kernel_rfl) rfl rfl ?_)
  refine al_p rfl (st_assign rfl ?_)
  refine al_nil ?_
  refine x_then ?_
  refine hK _ ?_
  clear hK K
  refine aw_cond rfl (fun hb1 => ?_) (fun hb1 => ?_)
  · have hc1 := bp hb1
    refine aw_seq (fun K hK => ?_)
    refine aw_region ?_
    refine al_p rfl (st_fieldB rfl ?_)
    refine al_p rfl (st_loadB1 rfl rfl rfl ?_)
    first | refine al_p rfl (st_eql rfl rfl ?_) | refine al_p rfl (st_eqlS rfl rfl ?_) | refine al_p rfl (st_eqlB (by kernel_rfl) rfl rfl ?_)
    refine al_p rfl (st_move rfl ?_)
    refine al_gs true rfl rfl (fun hb2 => ?_) (fun hb2 => ?_)
    · have hc2 := bp hb2
      refine g_y (st_fieldB rfl ?_)
      refine g_y (st_loadB1 rfl rfl rfl ?_)
      first | refine g_y (st_eql rfl rfl ?_) | refine g_y (st_eqlS rfl rfl ?_) | refine g_y (st_eqlB (by kernel_rfl) rfl rfl ?_)
      refine al_p rfl (p_t ?_)
      refine al_p rfl (st_assign rfl ?_)
      refine al_nil ?_
      refine x_then ?_
      refine hK _ ?_
      clear hK K
      refine aw_ret ?_
      refine x_blockR ?_
      refine x_thenR ?_
      clear hK K
      refine e_ret ?_
      first | (exfalso; first | contradiction | omega) | (exact vb (by unfold watL; simp [*]))
    · have hc2 := bp hb2
      refine g_n ?_
      refine g_n ?_
      refine g_n ?_
      refine al_p rfl (p_f ?_)
      refine al_p rfl (st_assign rfl ?_)
      refine al_nil ?_
      refine x_then ?_
      refine hK _ ?_
      clear hK K
      refine aw_ret ?_
      refine x_blockR ?_
      refine x_thenR ?_
      clear hK K
      refine e_ret ?_
      first | (exfalso; first | contradiction | omega) | (exact vb (by unfold watL; simp [*]))
  · have hc1 := bp hb1
    refine aw_seq (fun K hK => ?_)
    refine aw_seq (fun K hK => ?_)
    refine aw_region ?_
    first | refine al_p rfl (st_eql rfl rfl ?_) | refine al_p rfl (st_eqlS rfl rfl ?_) | refine al_p rfl (st_eqlB (by kernel_rfl) rfl rfl ?_)
    refine al_p rfl (st_assign rfl ?_)
    refine al_nil ?_
    refine x_then ?_
    refine hK _ ?_
    clear hK K
    refine aw_cond rfl (fun hb3 => ?_) (fun hb3 => ?_)
    · have hc3 := bp hb3
      refine aw_skip ?_
      refine x_then ?_
      refine hK _ ?_
      clear hK K
      refine aw_cy rfl (by first | rfl | assumption | simp [*]) ?_
      refine aw_seq (fun K hK => ?_)
      refine aw_region ?_
      refine al_p rfl (st_fieldB rfl ?_)
      refine al_p rfl (st_loadB1 rfl rfl rfl ?_)
      first | refine al_p rfl (st_eql rfl rfl ?_) | refine al_p rfl (st_eqlS rfl rfl ?_) | refine al_p rfl (st_eqlB (by kernel_rfl) rfl rfl ?_)
      refine al_p rfl (st_move rfl ?_)
      refine al_gs true rfl rfl (fun hb4 => ?_) (fun hb4 => ?_)
      · have hc4 := bp hb4
        refine g_y (st_fieldB rfl ?_)
        refine g_y (st_loadB1 rfl rfl rfl ?_)
        refine g_y (q_call (Pclean _ hp) ?_)
        rintro r rfl
        refine al_p rfl (p_t ?_)
        refine al_p rfl (st_move rfl ?_)
        refine al_gs true rfl rfl (fun hb5 => ?_) (fun hb5 => ?_)
        · have hc5 := bp hb5
          refine g_y (st_fieldB rfl ?_)
          refine g_y (st_loadB1 rfl rfl rfl ?_)
          first | refine g_y (st_len rfl ?_) | refine g_y (st_lenS (by kernel_rfl) rfl ?_) | refine g_y (st_len0 rfl ?_)
          refine g_y (st_leq rfl rfl ?_)
          refine al_p rfl (p_t ?_)
          refine al_p rfl (st_move rfl ?_)
          refine al_gs true rfl rfl (fun hb6 => ?_) (fun hb6 => ?_)
          · have hc6 := bp hb6
            refine g_y (st_fieldB rfl ?_)
            refine g_y (st_loadB1 rfl rfl rfl ?_)
            first | refine g_y (st_geq rfl rfl ?_) | refine g_y (st_geqS rfl rfl ?_)
            refine al_p rfl (p_t ?_)
            refine al_p rfl (st_move rfl ?_)
            refine al_gs true rfl rfl (fun hb7 => ?_) (fun hb7 => ?_)
            · have hc7 := bp hb7
              refine g_y (st_fieldB rfl ?_)
              refine g_y (st_loadB1 rfl rfl rfl ?_)
              refine g_y (st_leq rfl rfl ?_)
              refine al_p rfl (p_t ?_)
              refine al_p rfl (st_assign rfl ?_)
              refine al_nil ?_
              refine x_then ?_
              refine hK _ ?_
              clear hK K
              refine aw_ret ?_
              refine x_blockR ?_
              refine x_thenR ?_
              clear hK K
              refine e_ret ?_
              first | (exfalso; first | contradiction | omega) | (exact vb (by unfold watL; simp [*]))
            · have hc7 := bp hb7
              refine g_n ?_
              refine g_n ?_
              refine g_n ?_
              refine al_p rfl (p_f ?_)
              refine al_p rfl (st_assign rfl ?_)
              refine al_nil ?_
              refine x_then ?_
              refine hK _ ?_
              clear hK K
              refine aw_ret ?_
              refine x_blockR ?_
              refine x_thenR ?_
              clear hK K
              refine e_ret ?_
              first | (exfalso; first | contradiction | omega) | (exact vb (by unfold watL; simp [*]))
          · have hc6 := bp hb6
            refine g_n ?_
            refine g_n ?_
            refine g_n ?_
            refine al_p rfl (p_f ?_)
            refine al_p rfl (st_move rfl ?_)
            refine g_n ?_
            refine g_n ?_
            refine g_n ?_
            refine al_p rfl (p_f ?_)
            refine al_p rfl (st_assign rfl ?_)
            refine al_nil ?_
            refine x_then ?_
            refine hK _ ?_
            clear hK K
            refine aw_ret ?_
            refine x_blockR ?_
            refine x_thenR ?_
            clear hK K
            refine e_ret ?_
            first | (exfalso; first | contradiction | omega) | (exact vb (by unfold watL; simp [*]))
        · have hc5 := bp hb5
          refine g_n ?_
          refine g_n ?_
          refine g_n ?_
          refine g_n ?_
          refine al_p rfl (p_f ?_)
          refine al_p rfl (st_move rfl ?_)
          refine g_n ?_
          refine g_n ?_
          refine g_n ?_
          refine al_p rfl (p_f ?_)
          refine al_p rfl (st_move rfl ?_)
          refine g_n ?_
          refine g_n ?_
          refine g_n ?_
          refine al_p rfl (p_f ?_)
          refine al_p rfl (st_assign rfl ?_)
          refine al_nil ?_
          refine x_then ?_
          refine hK _ ?_
          clear hK K
          refine aw_ret ?_
          refine x_blockR ?_
          refine x_thenR ?_
          clear hK K
          refine e_ret ?_
          first | (exfalso; first | contradiction | omega) | (exact vb (by unfold watL; simp [*]))
      · have hc4 := bp hb4
        refine g_n ?_
        refine g_n ?_
        refine g_n ?_
        refine al_p rfl (p_f ?_)
        refine al_p rfl (st_move rfl ?_)
        refine g_n ?_
        refine g_n ?_
        refine g_n ?_
        refine g_n ?_
        refine al_p rfl (p_f ?_)
        refine al_p rfl (st_move rfl ?_)
        refine g_n ?_
        refine g_n ?_
        refine g_n ?_
        refine al_p rfl (p_f ?_)
        refine al_p rfl (st_move rfl ?_)
        refine g_n ?_
        refine g_n ?_
        refine g_n ?_
        refine al_p rfl (p_f ?_)
        refine al_p rfl (st_assign rfl ?_)
        refine al_nil ?_
        refine x_then ?_
        refine hK _ ?_
        clear hK K
        refine aw_ret ?_
        refine x_blockR ?_
        refine x_thenR ?_
        clear hK K
        refine e_ret ?_
        first | (exfalso; first | contradiction | omega) | (exact vb (by unfold watL; simp [*]))
    · have hc3 := bp hb3
      refine aw_region ?_
      first | refine al_p rfl (st_eql rfl rfl ?_) | refine al_p rfl (st_eqlS rfl rfl ?_) | refine al_p rfl (st_eqlB (by kernel_rfl) rfl rfl ?_)
      refine al_p rfl (st_assign rfl ?_)
      refine al_nil ?_
      refine x_then ?_
      refine hK _ ?_
      clear hK K
      refine aw_cond rfl (fun hb8 => ?_) (fun hb8 => ?_)
      · have hc8 := bp hb8
        refine aw_seq (fun K hK => ?_)
        refine aw_region ?_
        refine al_p rfl (st_fieldB rfl ?_)
        refine al_p rfl (st_loadB1 rfl rfl rfl ?_)
        first | refine al_p rfl (st_eql rfl rfl ?_) | refine al_p rfl (st_eqlS rfl rfl ?_) | refine al_p rfl (st_eqlB (by kernel_rfl) rfl rfl ?_)
        refine al_p rfl (st_move rfl ?_)
        refine al_gs true rfl rfl (fun hb9 => ?_) (fun hb9 => ?_)
        · have hc9 := bp hb9
          refine g_y (st_fieldB rfl ?_)
          refine g_y (st_loadB1 rfl rfl rfl ?_)
          refine g_y (q_call (Pclean _ hp) ?_)
          rintro r rfl
          refine al_p rfl (p_t ?_)
          refine al_p rfl (st_move rfl ?_)
          refine al_gs true rfl rfl (fun hb10 => ?_) (fun hb10 => ?_)
          · have hc10 := bp hb10
            refine g_y (st_fieldB rfl ?_)
            refine g_y (st_loadB1 rfl rfl rfl ?_)
            first | refine g_y (st_len rfl ?_) | refine g_y (st_lenS (by kernel_rfl) rfl ?_) | refine g_y (st_len0 rfl ?_)
            refine g_y (st_leq rfl rfl ?_)
            refine al_p rfl (p_t ?_)
            refine al_p rfl (st_move rfl ?_)
            refine al_gs true rfl rfl (fun hb11 => ?_) (fun hb11 => ?_)
            · have hc11 := bp hb11
              refine g_y (st_fieldB rfl ?_)
              refine g_y (st_loadB1 rfl rfl rfl ?_)
              first | refine g_y (st_geq rfl rfl ?_) | refine g_y (st_geqS rfl rfl ?_)
              refine al_p rfl (p_t ?_)
              refine al_p rfl (st_move rfl ?_)
              refine al_gs true rfl rfl (fun hb12 => ?_) (fun hb12 => ?_)
              · have hc12 := bp hb12
                refine g_y (st_fieldB rfl ?_)
                refine g_y (st_loadB1 rfl rfl rfl ?_)
                refine g_y (st_leq rfl rfl ?_)
                refine al_p rfl (p_t ?_)
                refine al_p rfl (st_assign rfl ?_)
                refine al_nil ?_
                refine x_then ?_
                refine hK _ ?_
                clear hK K
                refine aw_ret ?_
                refine x_blockR ?_
                refine x_thenR ?_
                clear hK K
                refine e_ret ?_
                first | (exfalso; first | contradiction | omega) | (exact vb (by unfold watL; simp [*]))
              · have hc12 := bp hb12
                refine g_n ?_
                refine g_n ?_
                refine g_n ?_
                refine al_p rfl (p_f ?_)
                refine al_p rfl (st_assign rfl ?_)
                refine al_nil ?_
                refine x_then ?_
                refine hK _ ?_
                clear hK K
                refine aw_ret ?_
                refine x_blockR ?_
                refine x_thenR ?_
                clear hK K
                refine e_ret ?_
                first | (exfalso; first | contradiction | omega) | (exact vb (by unfold watL; simp [*]))
            · have hc11 := bp hb11
              refine g_n ?_
              refine g_n ?_
              refine g_n ?_
              refine al_p rfl (p_f ?_)
              refine al_p rfl (st_move rfl ?_)
              refine g_n ?_
              refine g_n ?_
              refine g_n ?_
              refine al_p rfl (p_f ?_)
              refine al_p rfl (st_assign rfl ?_)
              refine al_nil ?_
              refine x_then ?_
              refine hK _ ?_
              clear hK K
              refine aw_ret ?_
              refine x_blockR ?_
              refine x_thenR ?_
              clear hK K
              refine e_ret ?_
              first | (exfalso; first | contradiction | omega) | (exact vb (by unfold watL; simp [*]))
          · have hc10 := bp hb10
            refine g_n ?_
            refine g_n ?_
            refine g_n ?_
            refine g_n ?_
            refine al_p rfl (p_f ?_)
            refine al_p rfl (st_move rfl ?_)
            refine g_n ?_
            refine g_n ?_
            refine g_n ?_
            refine al_p rfl (p_f ?_)
            refine al_p rfl (st_move rfl ?_)
            refine g_n ?_
            refine g_n ?_
            refine g_n ?_
            refine al_p rfl (p_f ?_)
            refine al_p rfl (st_assign rfl ?_)
            refine al_nil ?_
            refine x_then ?_
            refine hK _ ?_
            clear hK K
            refine aw_ret ?_
            refine x_blockR ?_
            refine x_thenR ?_
            clear hK K
            refine e_ret ?_
            first | (exfalso; first | contradiction | omega) | (exact vb (by unfold watL; simp [*]))
        · have hc9 := bp hb9
          refine g_n ?_
          refine g_n ?_
          refine g_n ?_
          refine al_p rfl (p_f ?_)
          refine al_p rfl (st_move rfl ?_)
          refine g_n ?_
          refine g_n ?_
          refine g_n ?_
          refine g_n ?_
          refine al_p rfl (p_f ?_)
          refine al_p rfl (st_move rfl ?_)
          refine g_n ?_
          refine g_n ?_
          refine g_n ?_
          refine al_p rfl (p_f ?_)
          refine al_p rfl (st_move rfl ?_)
          refine g_n ?_
          refine g_n ?_
          refine g_n ?_
          refine al_p rfl (p_f ?_)
          refine al_p rfl (st_assign rfl ?_)
          refine al_nil ?_
          refine x_then ?_
          refine hK _ ?_
          clear hK K
          refine aw_ret ?_
          refine x_blockR ?_
          refine x_thenR ?_
          clear hK K
          refine e_ret ?_
          first | (exfalso; first | contradiction | omega) | (exact vb (by unfold watL; simp [*]))
      · have hc8 := bp hb8
        refine aw_skip ?_
        refine x_blockN ?_
        refine x_then ?_
        refine hK _ ?_
        clear hK K
        refine aw_seq (fun K hK => ?_)
        refine aw_region ?_
        refine al_p rfl (st_assign rfl ?_)
        refine al_nil ?_
        refine x_then ?_
        refine hK _ ?_
        clear hK K
        refine aw_ret ?_
        refine e_ret ?_
        first | (exfalso; first | contradiction | omega) | (exact vb (by unfold watL; simp [*]))

theorem Prcheck (r : Rul) (hr : RulIn r) : AFn Tryz.prog 47 [.agg (rulA r)] (fun x => x = .v (.int .i64 (rchkL r))) := by
  obtain ⟨m1, m2, hp, hl⟩ := hr
  refine enter Tryz.func47 rfl rfl rfl rfl rfl 0 rfl ?_
  refine aw_seq (fun K hK => ?_)
  refine aw_region ?_
  first | refine al_p rfl (s_boxA rfl rfl (by repeat constructor) ?_) | refine al_p rfl (s_box rfl rfl (by repeat constructor) ?_)
  refine al_p rfl (st_assign rfl ?_)
  refine al_nil ?_
  refine x_then ?_
  refine hK _ ?_
  clear hK K
  refine aw_seq (fun K hK => ?_)
  refine aw_seq (fun K hK => ?_)
  refine aw_region ?_
  refine al_p rfl (st_fieldB rfl ?_)
  refine al_p rfl (st_loadB1 rfl rfl rfl ?_)
  first | refine al_p rfl (st_lss rfl rfl ?_) | refine al_p rfl (st_lssS rfl rfl ?_)
  refine al_p rfl (st_move rfl ?_)
  refine al_gs false rfl rfl (fun hb1 => ?_) (fun hb1 => ?_)
  · have hc1 := bp hb1
    refine g_n ?_
    refine g_n ?_
    refine g_n ?_
    refine al_p rfl (p_t ?_)
    refine al_nil ?_
    refine x_then ?_
    refine hK _ ?_
    clear hK K
    refine aw_cy rfl (by first | rfl | assumption | simp [*]) ?_
    refine aw_seq (fun K hK => ?_)
    refine aw_region ?_
    refine al_p rfl (st_assign rfl ?_)
    refine al_nil ?_
    refine x_then ?_
    refine hK _ ?_
    clear hK K
    refine aw_ret ?_
    refine x_thenR ?_
    clear hK K
    refine e_ret ?_
    first | (exfalso; first | contradiction | omega) | (exact vi (by first | (unfold rchkL; grind) | (unfold rchkL cbadL; grind)))
  · have hc1 := bp hb1
    refine g_y (st_fieldB rfl ?_)
    refine g_y (st_loadB1 rfl rfl rfl ?_)
    refine g_y (st_gtr rfl rfl ?_)
    refine al_p rfl (p_f ?_)
    refine al_nil ?_
    refine x_then ?_
    refine hK _ ?_
    clear hK K
    refine aw_cond rfl (fun hb2 => ?_) (fun hb2 => ?_)
    · have hc2 := bp hb2
      refine aw_seq (fun K hK => ?_)
      refine aw_region ?_
      refine al_p rfl (st_assign rfl ?_)
      refine al_nil ?_
      refine x_then ?_
      refine hK _ ?_
      clear hK K
      refine aw_ret ?_
      refine x_thenR ?_
      clear hK K
      refine e_ret ?_
      first | (exfalso; first | contradiction | omega) | (exact vi (by first | (unfold rchkL; grind) | (unfold rchkL cbadL; grind)))
    · have hc2 := bp hb2
      refine aw_skip ?_
      refine x_then ?_
      refine hK _ ?_
      clear hK K
      refine aw_midP (⟨look [(1, .bp 0 0), (2, .v (.int .i64 0))], ⟨[rulA r], []⟩⟩) (¬ (r.action ≠ 1 ∧ r.action ≠ 2)) ?_ (fun hA => ?_)
      · skip
        refine aw_seq (fun K hK => ?_)
        refine aw_region ?_
        refine al_p rfl (st_fieldB rfl ?_)
        refine al_p rfl (st_loadB1 rfl rfl rfl ?_)
        first | refine al_p rfl (st_neq rfl rfl ?_) | refine al_p rfl (st_neqS rfl rfl ?_) | refine al_p rfl (st_neqB (by kernel_rfl) rfl rfl ?_)
        refine al_p rfl (st_move rfl ?_)
        refine al_gs true rfl rfl (fun hb3 => ?_) (fun hb3 => ?_)
        · have hc3 := bp hb3
          refine g_y (st_fieldB rfl ?_)
          refine g_y (st_loadB1 rfl rfl rfl ?_)
          first | refine g_y (st_neq rfl rfl ?_) | refine g_y (st_neqS rfl rfl ?_) | refine g_y (st_neqB (by kernel_rfl) rfl rfl ?_)
          refine al_p rfl (p_t ?_)
          refine al_nil ?_
          refine x_then ?_
          refine hK _ ?_
          clear hK K
          refine aw_cond rfl (fun hb4 => ?_) (fun hb4 => ?_)
          · have hc4 := bp hb4
            refine aw_seq (fun K hK => ?_)
            refine aw_region ?_
            refine al_p rfl (st_assign rfl ?_)
            refine al_nil ?_
            refine x_then ?_
            refine hK _ ?_
            clear hK K
            refine aw_ret ?_
            refine x_thenR ?_
            refine e_ret ?_
            first | (exfalso; first | contradiction | omega) | (exact vi (by first | (unfold rchkL; grind) | (unfold rchkL cbadL; grind)))
          · have hc4 := bp hb4
            refine aw_skip ?_
            refine x_then ?_
            first | (exfalso; first | contradiction | omega) | exact ⟨(by omega), weak_of 1 0 rfl rfl rfl rfl (by repeat (first | exact Sub.nil | refine Sub.cons _ _ _ rfl rfl ?_ | refine Sub.any _ _ ?_ | refine Sub.sl _ _ _ _ _ rfl ?_ | refine Sub.slnil _ _ _ rfl ?_ | (apply Sub.of; (focus exact rfl); (focus exact LeA.of_eq (vb (by simp [*]))); (focus exact rfl))))⟩
        · have hc3 := bp hb3
          refine g_n ?_
          refine g_n ?_
          refine g_n ?_
          refine al_p rfl (p_f ?_)
          refine al_nil ?_
          refine x_then ?_
          refine hK _ ?_
          clear hK K
          refine aw_cn rfl (by first | rfl | assumption | simp [*]) ?_
          refine aw_skip ?_
          refine x_then ?_
          first | (exfalso; first | contradiction | omega) | exact ⟨(by omega), weak_of 1 0 rfl rfl rfl rfl (by repeat (first | exact Sub.nil | refine Sub.cons _ _ _ rfl rfl ?_ | refine Sub.any _ _ ?_ | refine Sub.sl _ _ _ _ _ rfl ?_ | refine Sub.slnil _ _ _ rfl ?_ | (apply Sub.of; (focus exact rfl); (focus exact LeA.of_eq (vb (by simp [*]))); (focus exact rfl))))⟩
      · skip
        refine aw_midP (⟨look [(1, .bp 0 0), (2, .v (.int .i64 0))], ⟨[rulA r], []⟩⟩) (cbadL r = false) ?_ (fun hB => ?_)
        · skip
          refine aw_seq (fun K hK => ?_)
          refine aw_region ?_
          refine al_p rfl (st_fieldB rfl ?_)
          refine al_p rfl (st_loadB1 rfl rfl rfl ?_)
          refine al_p rfl (q_call (PhasCalls _) ?_)
          rintro r rfl
          refine al_nil ?_
          refine x_then ?_
          refine hK _ ?_
          clear hK K
          refine aw_cond rfl (fun hb5 => ?_) (fun hb5 => ?_)
          · have hc5 := bp hb5
            refine aw_seq (fun K hK => ?_)
            refine aw_region ?_
            refine al_p rfl (st_fieldB rfl ?_)
            refine al_p rfl (st_loadB1 rfl rfl rfl ?_)
            first | refine al_p rfl (st_eql rfl rfl ?_) | refine al_p rfl (st_eqlS rfl rfl ?_) | refine al_p rfl (st_eqlB (by kernel_rfl) rfl rfl ?_)
            refine al_p rfl (st_move rfl ?_)
            refine al_gs false rfl rfl (fun hb6 => ?_) (fun hb6 => ?_)
            · have hc6 := bp hb6
              refine g_n ?_
              refine g_n ?_
              refine g_n ?_
              refine g_n ?_
              refine al_p rfl (p_t ?_)
              refine al_nil ?_
              refine x_then ?_
              refine hK _ ?_
              clear hK K
              refine aw_cy rfl (by first | rfl | assumption | simp [*]) ?_
              refine aw_seq (fun K hK => ?_)
              refine aw_region ?_
              refine al_p rfl (st_assign rfl ?_)
              refine al_nil ?_
              refine x_then ?_
              refine hK _ ?_
              clear hK K
              refine aw_ret ?_
              refine x_thenR ?_
              refine e_ret ?_
              first | (exfalso; first | contradiction | omega) | (exact vi (by first | (unfold rchkL; grind) | (unfold rchkL cbadL; grind)))
            · have hc6 := bp hb6
              refine g_y (st_fieldB rfl ?_)
              refine g_y (st_loadB1 rfl rfl rfl ?_)
              refine g_y (q_call (Pvalid _ m1 m2) ?_)
              rintro r rfl
              refine g_y (st_not rfl ?_)
              refine al_p rfl (p_f ?_)
              refine al_nil ?_
              refine x_then ?_
              refine hK _ ?_
              clear hK K
              refine aw_cond rfl (fun hb7 => ?_) (fun hb7 => ?_)
              · have hc7 := bp hb7
                refine aw_seq (fun K hK => ?_)
                refine aw_region ?_
                refine al_p rfl (st_assign rfl ?_)
                refine al_nil ?_
                refine x_then ?_
                refine hK _ ?_
                clear hK K
                refine aw_ret ?_
                refine x_thenR ?_
                refine e_ret ?_
                first | (exfalso; first | contradiction | omega) | (exact vi (by first | (unfold rchkL; grind) | (unfold rchkL cbadL; grind)))
              · have hc7 := bp hb7
                refine aw_skip ?_
                refine x_then ?_
                first | (exfalso; first | contradiction | omega) | exact ⟨(by unfold cbadL; grind), weak_of 1 0 rfl rfl rfl rfl (by repeat (first | exact Sub.nil | refine Sub.cons _ _ _ rfl rfl ?_ | refine Sub.any _ _ ?_ | refine Sub.sl _ _ _ _ _ rfl ?_ | refine Sub.slnil _ _ _ rfl ?_ | (apply Sub.of; (focus exact rfl); (focus exact LeA.of_eq (vb (by simp [*]))); (focus exact rfl))))⟩
          · have hc5 := bp hb5
            refine aw_seq (fun K hK => ?_)
            refine aw_region ?_
            refine al_p rfl (st_fieldB rfl ?_)
            refine al_p rfl (st_loadB1 rfl rfl rfl ?_)
            first | refine al_p rfl (st_neq rfl rfl ?_) | refine al_p rfl (st_neqS rfl rfl ?_) | refine al_p rfl (st_neqB (by kernel_rfl) rfl rfl ?_)
            refine al_nil ?_
            refine x_then ?_
            refine hK _ ?_
            clear hK K
            refine aw_cond rfl (fun hb8 => ?_) (fun hb8 => ?_)
            · have hc8 := bp hb8
              refine aw_seq (fun K hK => ?_)
              refine aw_region ?_
              refine al_p rfl (st_assign rfl ?_)
              refine al_nil ?_
              refine x_then ?_
              refine hK _ ?_
              clear hK K
              refine aw_ret ?_
              refine x_thenR ?_
              refine e_ret ?_
              first | (exfalso; first | contradiction | omega) | (exact vi (by first | (unfold rchkL; grind) | (unfold rchkL cbadL; grind)))
            · have hc8 := bp hb8
              refine aw_skip ?_
              refine x_then ?_
              first | (exfalso; first | contradiction | omega) | exact ⟨(by unfold cbadL; grind), weak_of 1 0 rfl rfl rfl rfl (by repeat (first | exact Sub.nil | refine Sub.cons _ _ _ rfl rfl ?_ | refine Sub.any _ _ ?_ | refine Sub.sl _ _ _ _ _ rfl ?_ | refine Sub.slnil _ _ _ rfl ?_ | (apply Sub.of; (focus exact rfl); (focus exact LeA.of_eq (vb (by simp [*]))); (focus exact rfl))))⟩
        · skip
          refine aw_seq (fun K hK => ?_)
          refine aw_seq (fun K hK => ?_)
          refine aw_region ?_
          refine al_p rfl (st_fieldB rfl ?_)
          refine al_p rfl (st_loadB1 rfl rfl rfl ?_)
          first | refine al_p rfl (st_len rfl ?_) | refine al_p rfl (st_lenS (by kernel_rfl) rfl ?_) | refine al_p rfl (st_len0 rfl ?_)
          refine al_p rfl (st_gtr rfl rfl ?_)
          refine al_nil ?_
          refine x_then ?_
          refine hK _ ?_
          clear hK K
          refine aw_cond rfl (fun hb9 => ?_) (fun hb9 => ?_)
          · have hc9 := bp hb9
            refine aw_seq (fun K hK => ?_)
            refine aw_region ?_
            refine al_p rfl (st_assign rfl ?_)
            refine al_nil ?_
            refine x_then ?_
            refine hK _ ?_
            clear hK K
            refine aw_ret ?_
            refine x_thenR ?_
            clear hK K
            refine e_ret ?_
            first | (exfalso; first | contradiction | omega) | (exact vi (by first | (unfold rchkL; grind) | (unfold rchkL cbadL; grind)))
          · have hc9 := bp hb9
            rw [List.length_map] at hc9
            refine aw_skip ?_
            refine x_then ?_
            refine hK _ ?_
            clear hK K
            refine aw_seq (fun K hK => ?_)
            refine aw_seq (fun K hK => ?_)
            refine aw_region ?_
            refine al_p rfl (st_fieldB rfl ?_)
            refine al_p rfl (st_loadB1 rfl rfl rfl ?_)
            first | refine al_p rfl (st_len rfl ?_) | refine al_p rfl (st_lenS (by kernel_rfl) rfl ?_) | refine al_p rfl (st_len0 rfl ?_)
            refine al_p rfl (st_move rfl ?_)
            refine al_nil ?_
            refine x_then ?_
            refine hK _ ?_
            clear hK K
            refine aw_block ?_
            refine aw_loopW (fun n s => ∃ j : Nat, j ≤ r.tests.length ∧ n = r.tests.length - j ∧ tchkL r.list (r.tests.drop j) = tchkL r.list r.tests ∧ s = ⟨look [(1, .bp 0 0), (2, .v (.int .i64 0)), (42, .sl 5 (r.tests.map tstA) none), (43, .v (.int .i64 ((r.tests.map tstA).length : Int))), (44, .v (.int .i64 (j : Int)))], ⟨[rulA r], []⟩⟩) (r.tests.length) ((wk 1 0)) (⟨0, by omega, rfl, rfl, rfl⟩) ?_
            rintro n s ⟨j, hj, rfl, ha, rfl⟩
            refine aw_seq (fun K hK => ?_)
            refine aw_region ?_
            first | refine al_p rfl (st_lss rfl rfl ?_) | refine al_p rfl (st_lssS rfl rfl ?_)
            refine al_nil ?_
            refine x_then ?_
            refine hK _ ?_
            clear hK K
            refine aw_seq (fun K hK => ?_)
            refine aw_cond rfl (fun hb10 => ?_) (fun hb10 => ?_)
            · have hc10 := bp hb10
              obtain ⟨hlt, t, hy, hrow, -⟩ := row_at tstA hc10
              refine aw_skip ?_
              refine x_then ?_
              refine hK _ ?_
              clear hK K
              refine aw_seq (fun K hK => ?_)
              refine aw_block ?_
              refine aw_seq (fun K hK => ?_)
              refine aw_region ?_
              refine al_p rfl (st_index rfl rfl rfl (by first | assumption | rfl) ?_)
              refine al_p rfl (st_loadFW rfl rfl ?_)
              refine al_p rfl (s_alloc (by repeat constructor) ?_)
              refine al_p0 (s_store rfl rfl rfl rfl rfl rfl (by repeat constructor) (by repeat constructor) ?_)
              refine al_nil ?_
              refine x_then ?_
              refine hK _ ?_
              clear hK K
              refine aw_seq (fun K hK => ?_)
              refine aw_region ?_
              refine al_p rfl (st_loadBW rfl rfl rfl ?_)
              refine al_p rfl (st_fieldB rfl ?_)
              refine al_p rfl (st_loadB1 rfl rfl rfl ?_)
              refine al_p rfl (q_call (Pcheck t _) ?_)
              rintro r rfl
              refine al_p rfl (st_assign rfl ?_)
              refine al_nil ?_
              refine x_then ?_
              refine hK _ ?_
              clear hK K
              refine aw_seq (fun K hK => ?_)
              refine aw_region ?_
              refine al_p rfl (st_move rfl ?_)
              first | refine al_p rfl (st_neq rfl rfl ?_) | refine al_p rfl (st_neqS rfl rfl ?_) | refine al_p rfl (st_neqB (by kernel_rfl) rfl rfl ?_)
              refine al_nil ?_
              refine x_then ?_
              refine hK _ ?_
              clear hK K
              refine aw_cond rfl (fun hb11 => ?_) (fun hb11 => ?_)
              · have hc11 := bp hb11
                rw [tchk_at hy, if_neg hc11] at ha
                refine aw_seq (fun K hK => ?_)
                refine aw_region ?_
                refine al_p rfl (st_move rfl ?_)
                refine al_p rfl (st_assign rfl ?_)
                refine al_nil ?_
                refine x_then ?_
                refine hK _ ?_
                clear hK K
                refine aw_ret ?_
                refine x_blockR ?_
                refine x_thenR ?_
                clear hK K
                refine x_thenR ?_
                refine x_blockR ?_
                refine x_thenR ?_
                clear hK K
                refine e_ret ?_
                first | (exfalso; first | contradiction | omega) | (exact vi (by first | (unfold rchkL; grind) | (unfold rchkL cbadL; grind)))
              · have hc11 := bp hb11
                refine aw_skip ?_
                refine x_blockN ?_
                refine x_then ?_
                refine hK _ ?_
                clear hK K
                refine aw_region ?_
                first | refine al_p rfl (st_add64 rfl rfl (by omega) ?_) | refine al_p rfl (st_addS rfl rfl (by omega) ?_) | refine al_p rfl (st_add rfl rfl ?_)
                refine al_p rfl (st_move rfl ?_)
                refine al_nil ?_
                refine x_then ?_
                refine ⟨_, _, ?_, ⟨j + 1, by omega, rfl, (by rw [← ha, tchk_at hy, if_pos (by omega)]), rfl⟩, (wk 1 0)⟩
                omega
            · have hc10 := bp hb10
              have e := row_no tstA hj hc10
              subst e
              rw [tchk_end] at ha
              refine aw_exit ?_
              refine x_thenE ?_
              clear hK K
              refine x_thenE ?_
              refine ABlock_out ?_
              refine x_then ?_
              refine hK _ ?_
              clear hK K
              refine aw_seq (fun K hK => ?_)
              refine aw_seq (fun K hK => ?_)
              refine aw_region ?_
              refine al_p rfl (st_loadBW rfl rfl rfl ?_)
              refine al_p rfl (q_call (PwatchFits r hp) ?_)
              rintro r rfl
              refine al_p rfl (st_not rfl ?_)
              refine al_nil ?_
              refine x_then ?_
              refine hK _ ?_
              clear hK K
              refine aw_cond rfl (fun hb12 => ?_) (fun hb12 => ?_)
              · have hc12 := bp hb12
                refine aw_seq (fun K hK => ?_)
                refine aw_region ?_
                refine al_p rfl (st_assign rfl ?_)
                refine al_nil ?_
                refine x_then ?_
                refine hK _ ?_
                clear hK K
                refine aw_ret ?_
                refine x_thenR ?_
                clear hK K
                refine e_ret ?_
                first | (exfalso; first | contradiction | omega) | (exact vi (by first | (unfold rchkL; grind) | (unfold rchkL cbadL; grind)))
              · have hc12 := bp hb12
                refine aw_skip ?_
                refine x_then ?_
                refine hK _ ?_
                clear hK K
                refine aw_seq (fun K hK => ?_)
                refine aw_seq (fun K hK => ?_)
                refine aw_region ?_
                refine al_p rfl (st_fieldB rfl ?_)
                refine al_p rfl (st_loadB1 rfl rfl rfl ?_)
                first | refine al_p rfl (st_len rfl ?_) | refine al_p rfl (st_lenS (by kernel_rfl) rfl ?_) | refine al_p rfl (st_len0 rfl ?_)
                refine al_p rfl (st_gtr rfl rfl ?_)
                refine al_nil ?_
                refine x_then ?_
                refine hK _ ?_
                clear hK K
                refine aw_cond rfl (fun hb13 => ?_) (fun hb13 => ?_)
                · have hc13 := bp hb13
                  refine aw_seq (fun K hK => ?_)
                  refine aw_region ?_
                  refine al_p rfl (st_assign rfl ?_)
                  refine al_nil ?_
                  refine x_then ?_
                  refine hK _ ?_
                  clear hK K
                  refine aw_ret ?_
                  refine x_thenR ?_
                  clear hK K
                  refine e_ret ?_
                  first | (exfalso; first | contradiction | omega) | (exact vi (by first | (unfold rchkL; grind) | (unfold rchkL cbadL; grind)))
                · have hc13 := bp hb13
                  refine aw_skip ?_
                  refine x_then ?_
                  refine hK _ ?_
                  clear hK K
                  refine aw_seq (fun K hK => ?_)
                  refine aw_region ?_
                  refine al_p rfl (st_assign rfl ?_)
                  refine al_nil ?_
                  refine x_then ?_
                  refine hK _ ?_
                  clear hK K
                  refine aw_ret ?_
                  refine e_ret ?_
                  first | (exfalso; first | contradiction | omega) | (exact vi (by first | (unfold rchkL; grind) | (unfold rchkL cbadL; grind)))

theorem Rrcheck (r : Rul) (hr : RulIn r) : AFn Tryz.prog 29 [.agg (rulA r)] (fun x => x = .v (.int .i64 (rchkL r))) := by
  obtain ⟨m1, m2, hp, hl⟩ := hr
  refine enter Tryz.func29 rfl rfl rfl rfl rfl 0 rfl ?_
  refine aw_seq (fun K hK => ?_)
  refine aw_region ?_
  first | refine al_p rfl (s_boxA rfl rfl (by repeat constructor) ?_) | refine al_p rfl (s_box rfl rfl (by repeat constructor) ?_)
  refine al_p rfl (st_assign rfl ?_)
  refine al_nil ?_
  refine x_then ?_
  refine hK _ ?_
  clear hK K
  refine aw_seq (fun K hK => ?_)
  refine aw_seq (fun K hK => ?_)
  refine aw_region ?_
  refine al_p rfl (st_fieldB rfl ?_)
  refine al_p rfl (st_loadB1 rfl rfl rfl ?_)
  first | refine al_p rfl (st_lss rfl rfl ?_) | refine al_p rfl (st_lssS rfl rfl ?_)
  refine al_p rfl (st_move rfl ?_)
  refine al_gs false rfl rfl (fun hb1 => ?_) (fun hb1 => ?_)
  · have hc1 := bp hb1
    refine g_n ?_
    refine g_n ?_
    refine g_n ?_
    refine al_p rfl (p_t ?_)
    refine al_nil ?_
    refine x_then ?_
    refine hK _ ?_
    clear hK K
    refine aw_cy rfl (by first | rfl | assumption | simp [*]) ?_
    refine aw_seq (fun K hK => ?_)
    refine aw_region ?_
    refine al_p rfl (st_assign rfl ?_)
    refine al_nil ?_
    refine x_then ?_
    refine hK _ ?_
    clear hK K
    refine aw_ret ?_
    refine x_thenR ?_
    clear hK K
    refine e_ret ?_
    first | (exfalso; first | contradiction | omega) | (exact vi (by first | (unfold rchkL; grind) | (unfold rchkL watL; grind)))
  · have hc1 := bp hb1
    refine g_y (st_fieldB rfl ?_)
    refine g_y (st_loadB1 rfl rfl rfl ?_)
    refine g_y (st_gtr rfl rfl ?_)
    refine al_p rfl (p_f ?_)
    refine al_nil ?_
    refine x_then ?_
    refine hK _ ?_
    clear hK K
    refine aw_cond rfl (fun hb2 => ?_) (fun hb2 => ?_)
    · have hc2 := bp hb2
      refine aw_seq (fun K hK => ?_)
      refine aw_region ?_
      refine al_p rfl (st_assign rfl ?_)
      refine al_nil ?_
      refine x_then ?_
      refine hK _ ?_
      clear hK K
      refine aw_ret ?_
      refine x_thenR ?_
      clear hK K
      refine e_ret ?_
      first | (exfalso; first | contradiction | omega) | (exact vi (by first | (unfold rchkL; grind) | (unfold rchkL watL; grind)))
    · have hc2 := bp hb2
      refine aw_skip ?_
      refine x_then ?_
      refine hK _ ?_
      clear hK K
      refine aw_midP (⟨look [(1, .bp 0 0), (2, .v (.int .i64 0))], ⟨[rulA r], []⟩⟩) (¬ (r.action ≠ 1 ∧ r.action ≠ 2)) ?_ (fun hA => ?_)
      · skip
        refine aw_seq (fun K hK => ?_)
        refine aw_region ?_
        refine al_p rfl (st_fieldB rfl ?_)
        refine al_p rfl (st_loadB1 rfl rfl rfl ?_)
        first | refine al_p rfl (st_neq rfl rfl ?_) | refine al_p rfl (st_neqS rfl rfl ?_) | refine al_p rfl (st_neqB (by kernel_rfl) rfl rfl ?_)
        refine al_p rfl (st_move rfl ?_)
        refine al_gs true rfl rfl (fun hb3 => ?_) (fun hb3 => ?_)
        · have hc3 := bp hb3
          refine g_y (st_fieldB rfl ?_)
          refine g_y (st_loadB1 rfl rfl rfl ?_)
          first | refine g_y (st_neq rfl rfl ?_) | refine g_y (st_neqS rfl rfl ?_) | refine g_y (st_neqB (by kernel_rfl) rfl rfl ?_)
          refine al_p rfl (p_t ?_)
          refine al_nil ?_
          refine x_then ?_
          refine hK _ ?_
          clear hK K
          refine aw_cond rfl (fun hb4 => ?_) (fun hb4 => ?_)
          · have hc4 := bp hb4
            refine aw_seq (fun K hK => ?_)
            refine aw_region ?_
            refine al_p rfl (st_assign rfl ?_)
            refine al_nil ?_
            refine x_then ?_
            refine hK _ ?_
            clear hK K
            refine aw_ret ?_
            refine x_thenR ?_
            refine e_ret ?_
            first | (exfalso; first | contradiction | omega) | (exact vi (by first | (unfold rchkL; grind) | (unfold rchkL watL; grind)))
          · have hc4 := bp hb4
            refine aw_skip ?_
            refine x_then ?_
            first | (exfalso; first | contradiction | omega) | exact ⟨(by omega), weak_of 1 0 rfl rfl rfl rfl (by repeat (first | exact Sub.nil | refine Sub.cons _ _ _ rfl rfl ?_ | refine Sub.any _ _ ?_ | refine Sub.sl _ _ _ _ _ rfl ?_ | refine Sub.slnil _ _ _ rfl ?_ | (apply Sub.of; (focus exact rfl); (focus exact LeA.of_eq (vb (by simp [*]))); (focus exact rfl))))⟩
        · have hc3 := bp hb3
          refine g_n ?_
          refine g_n ?_
          refine g_n ?_
          refine al_p rfl (p_f ?_)
          refine al_nil ?_
          refine x_then ?_
          refine hK _ ?_
          clear hK K
          refine aw_cn rfl (by first | rfl | assumption | simp [*]) ?_
          refine aw_skip ?_
          refine x_then ?_
          first | (exfalso; first | contradiction | omega) | exact ⟨(by omega), weak_of 1 0 rfl rfl rfl rfl (by repeat (first | exact Sub.nil | refine Sub.cons _ _ _ rfl rfl ?_ | refine Sub.any _ _ ?_ | refine Sub.sl _ _ _ _ _ rfl ?_ | refine Sub.slnil _ _ _ rfl ?_ | (apply Sub.of; (focus exact rfl); (focus exact LeA.of_eq (vb (by simp [*]))); (focus exact rfl))))⟩
      · skip
        refine aw_mid (⟨look [(1, .bp 0 0), (2, .v (.int .i64 0)), (3, .v (.bool (decide (r.list = 2 ∨ r.list = 3))))], ⟨[rulA r], []⟩⟩) ?_ ?_
        · skip
          refine aw_region ?_
          refine al_p rfl (st_fieldB rfl ?_)
          refine al_p rfl (st_loadB1 rfl rfl rfl ?_)
          first | refine al_p rfl (st_eql rfl rfl ?_) | refine al_p rfl (st_eqlS rfl rfl ?_) | refine al_p rfl (st_eqlB (by kernel_rfl) rfl rfl ?_)
          refine al_p rfl (st_move rfl ?_)
          refine al_gs false rfl rfl (fun hb5 => ?_) (fun hb5 => ?_)
          · have hc5 := bp hb5
            refine g_n ?_
            refine g_n ?_
            refine g_n ?_
            refine al_p rfl (p_t ?_)
            refine al_p rfl (st_assign rfl ?_)
            refine al_nil ?_
            refine x_then ?_
            first | (exfalso; first | contradiction | omega) | exact weak_of 1 0 rfl rfl rfl rfl (by repeat (first | exact Sub.nil | refine Sub.cons _ _ _ rfl rfl ?_ | refine Sub.any _ _ ?_ | refine Sub.sl _ _ _ _ _ rfl ?_ | refine Sub.slnil _ _ _ rfl ?_ | (apply Sub.of; (focus exact rfl); (focus exact LeA.of_eq (vb (by simp [*]))); (focus exact rfl))))
          · have hc5 := bp hb5
            refine g_y (st_fieldB rfl ?_)
            refine g_y (st_loadB1 rfl rfl rfl ?_)
            first | refine g_y (st_eql rfl rfl ?_) | refine g_y (st_eqlS rfl rfl ?_) | refine g_y (st_eqlB (by kernel_rfl) rfl rfl ?_)
            refine al_p rfl (p_f ?_)
            refine al_p rfl (st_assign rfl ?_)
            refine al_nil ?_
            refine x_then ?_
            first | (exfalso; first | contradiction | omega) | exact weak_of 1 0 rfl rfl rfl rfl (by repeat (first | exact Sub.nil | refine Sub.cons _ _ _ rfl rfl ?_ | refine Sub.any _ _ ?_ | refine Sub.sl _ _ _ _ _ rfl ?_ | refine Sub.slnil _ _ _ rfl ?_ | (apply Sub.of; (focus exact rfl); (focus exact LeA.of_eq (vb (by simp [*]))); (focus exact rfl))))
        · skip
          refine aw_seq (fun K hK => ?_)
          refine aw_mid (⟨look [(1, .bp 0 0), (2, .v (.int .i64 0)), (50, .v (.bool (cbadL r)))], ⟨[rulA r], []⟩⟩) ?_ ?_
          · skip
            refine aw_region ?_
            refine al_p rfl (st_move rfl ?_)
            refine al_p rfl (st_move rfl ?_)
            refine al_gs true rfl rfl (fun hb6 => ?_) (fun hb6 => ?_)
            · have hc6 := bp hb6
              refine g_y (st_fieldB rfl ?_)
              refine g_y (st_loadB1 rfl rfl rfl ?_)
              first | refine g_y (st_eql rfl rfl ?_) | refine g_y (st_eqlS rfl rfl ?_) | refine g_y (st_eqlB (by kernel_rfl) rfl rfl ?_)
              refine g_y (st_move rfl ?_)
              refine al_gs false rfl rfl (fun hb7 => ?_) (fun hb7 => ?_)
              · have hc7 := bp hb7
                refine g_n ?_
                refine g_n ?_
                refine g_n ?_
                refine g_n ?_
                refine g_y (p_t ?_)
                refine al_p rfl (p_t ?_)
                refine al_p rfl (st_move rfl ?_)
                refine g_n ?_
                refine g_n ?_
                refine g_n ?_
                refine al_gu rfl rfl ?_
                refine al_gu rfl rfl ?_
                refine al_gu rfl rfl ?_
                refine g_n ?_
                refine al_p rfl (p_t ?_)
                refine al_nil ?_
                refine x_then ?_
                first | (exfalso; first | contradiction | omega) | exact weak_of 1 0 rfl rfl rfl rfl (by repeat (first | exact Sub.nil | refine Sub.cons _ _ _ rfl rfl ?_ | refine Sub.any _ _ ?_ | refine Sub.sl _ _ _ _ _ rfl ?_ | refine Sub.slnil _ _ _ rfl ?_ | (apply Sub.of; (focus exact rfl); (focus exact LeA.of_eq (vb (by unfold cbadL; grind))); (focus exact rfl))))
              · have hc7 := bp hb7
                refine g_y (st_fieldB rfl ?_)
                refine g_y (st_loadB1 rfl rfl rfl ?_)
                refine g_y (q_call (Rvalid _ m1) ?_)
                rintro r rfl
                refine g_y (st_not rfl ?_)
                refine g_y (p_f ?_)
                refine al_p rfl (p_t ?_)
                refine al_p rfl (st_move rfl ?_)
                refine al_gs false rfl rfl (fun hb8 => ?_) (fun hb8 => ?_)
                · have hc8 := bp hb8
                  refine g_n ?_
                  refine g_n ?_
                  refine g_n ?_
                  refine al_gu rfl rfl ?_
                  refine al_gu rfl rfl ?_
                  refine al_gu rfl rfl ?_
                  refine g_n ?_
                  refine al_p rfl (p_t ?_)
                  refine al_nil ?_
                  refine x_then ?_
                  first | (exfalso; first | contradiction | omega) | exact weak_of 1 0 rfl rfl rfl rfl (by repeat (first | exact Sub.nil | refine Sub.cons _ _ _ rfl rfl ?_ | refine Sub.any _ _ ?_ | refine Sub.sl _ _ _ _ _ rfl ?_ | refine Sub.slnil _ _ _ rfl ?_ | (apply Sub.of; (focus exact rfl); (focus exact LeA.of_eq (vb (by unfold cbadL; grind))); (focus exact rfl))))
                · have hc8 := bp hb8
                  refine g_y (st_move rfl ?_)
                  refine g_y (st_not rfl ?_)
                  refine g_y (st_move rfl ?_)
                  refine al_gs true rfl rfl (fun hb9 => ?_) (fun hb9 => ?_)
                  · have hc9 := bp hb9
                    refine g_y (st_fieldB rfl ?_)
                    refine g_y (st_loadB1 rfl rfl rfl ?_)
                    first | refine g_y (st_neq rfl rfl ?_) | refine g_y (st_neqS rfl rfl ?_) | refine g_y (st_neqB (by kernel_rfl) rfl rfl ?_)
                    refine g_y (p_t ?_)
                    refine al_p rfl (p_f ?_)
                    refine al_nil ?_
                    refine x_then ?_
                    first | (exfalso; first | contradiction | omega) | exact weak_of 1 0 rfl rfl rfl rfl (by repeat (first | exact Sub.nil | refine Sub.cons _ _ _ rfl rfl ?_ | refine Sub.any _ _ ?_ | refine Sub.sl _ _ _ _ _ rfl ?_ | refine Sub.slnil _ _ _ rfl ?_ | (apply Sub.of; (focus exact rfl); (focus exact LeA.of_eq (vb (by unfold cbadL; grind))); (focus exact rfl))))
                  · have hc9 := bp hb9
                    refine g_n ?_
                    refine g_n ?_
                    refine g_n ?_
                    refine g_y (p_f ?_)
                    refine al_p rfl (p_f ?_)
                    refine al_nil ?_
                    refine x_then ?_
                    first | (exfalso; first | contradiction | omega) | exact weak_of 1 0 rfl rfl rfl rfl (by repeat (first | exact Sub.nil | refine Sub.cons _ _ _ rfl rfl ?_ | refine Sub.any _ _ ?_ | refine Sub.sl _ _ _ _ _ rfl ?_ | refine Sub.slnil _ _ _ rfl ?_ | (apply Sub.of; (focus exact rfl); (focus exact LeA.of_eq (vb (by unfold cbadL; grind))); (focus exact rfl))))
            · have hc6 := bp hb6
              refine g_n ?_
              refine g_n ?_
              refine g_n ?_
              refine g_n ?_
              refine al_gu rfl rfl ?_
              refine al_gu rfl rfl ?_
              refine al_gu rfl rfl ?_
              refine al_gu rfl rfl ?_
              refine g_n ?_
              refine al_p rfl (p_f ?_)
              refine al_p rfl (st_move rfl ?_)
              refine g_y (st_move rfl ?_)
              refine g_y (st_not rfl ?_)
              refine g_y (st_move rfl ?_)
              refine al_gs true rfl rfl (fun hb10 => ?_) (fun hb10 => ?_)
              · have hc10 := bp hb10
                refine g_y (st_fieldB rfl ?_)
                refine g_y (st_loadB1 rfl rfl rfl ?_)
                first | refine g_y (st_neq rfl rfl ?_) | refine g_y (st_neqS rfl rfl ?_) | refine g_y (st_neqB (by kernel_rfl) rfl rfl ?_)
                refine g_y (p_t ?_)
                refine al_p rfl (p_f ?_)
                refine al_nil ?_
                refine x_then ?_
                first | (exfalso; first | contradiction | omega) | exact weak_of 1 0 rfl rfl rfl rfl (by repeat (first | exact Sub.nil | refine Sub.cons _ _ _ rfl rfl ?_ | refine Sub.any _ _ ?_ | refine Sub.sl _ _ _ _ _ rfl ?_ | refine Sub.slnil _ _ _ rfl ?_ | (apply Sub.of; (focus exact rfl); (focus exact LeA.of_eq (vb (by unfold cbadL; grind))); (focus exact rfl))))
              · have hc10 := bp hb10
                refine g_n ?_
                refine g_n ?_
                refine g_n ?_
                refine g_y (p_f ?_)
                refine al_p rfl (p_f ?_)
                refine al_nil ?_
                refine x_then ?_
                first | (exfalso; first | contradiction | omega) | exact weak_of 1 0 rfl rfl rfl rfl (by repeat (first | exact Sub.nil | refine Sub.cons _ _ _ rfl rfl ?_ | refine Sub.any _ _ ?_ | refine Sub.sl _ _ _ _ _ rfl ?_ | refine Sub.slnil _ _ _ rfl ?_ | (apply Sub.of; (focus exact rfl); (focus exact LeA.of_eq (vb (by unfold cbadL; grind))); (focus exact rfl))))
          · skip
            refine aw_cond rfl (fun hb11 => ?_) (fun hb11 => ?_)
            · have hc11 := bp hb11
              refine aw_seq (fun K hK => ?_)
              refine aw_region ?_
              refine al_p rfl (st_assign rfl ?_)
              refine al_nil ?_
              refine x_then ?_
              refine hK _ ?_
              clear hK K
              refine aw_ret ?_
              refine x_thenR ?_
              clear hK K
              refine e_ret ?_
              first | (exfalso; first | contradiction | omega) | (exact vi (by first | (unfold rchkL; grind) | (unfold rchkL watL; grind)))
            · have hc11 := bp hb11
              refine aw_skip ?_
              refine x_then ?_
              refine hK _ ?_
              clear hK K
              refine aw_seq (fun K hK => ?_)
              refine aw_seq (fun K hK => ?_)
              refine aw_region ?_
              refine al_p rfl (st_fieldB rfl ?_)
              refine al_p rfl (st_loadB1 rfl rfl rfl ?_)
              first | refine al_p rfl (st_len rfl ?_) | refine al_p rfl (st_lenS (by kernel_rfl) rfl ?_) | refine al_p rfl (st_len0 rfl ?_)
              refine al_p rfl (st_gtr rfl rfl ?_)
              refine al_nil ?_
              refine x_then ?_
              refine hK _ ?_
              clear hK K
              refine aw_cond rfl (fun hb12 => ?_) (fun hb12 => ?_)
              · have hc12 := bp hb12
                refine aw_seq (fun K hK => ?_)
                refine aw_region ?_
                refine al_p rfl (st_assign rfl ?_)
                refine al_nil ?_
                refine x_then ?_
                refine hK _ ?_
                clear hK K
                refine aw_ret ?_
                refine x_thenR ?_
                clear hK K
                refine e_ret ?_
                first | (exfalso; first | contradiction | omega) | (exact vi (by first | (unfold rchkL; grind) | (unfold rchkL watL; grind)))
              · have hc12 := bp hb12
                rw [List.length_map] at hc12
                refine aw_skip ?_
                refine x_then ?_
                refine hK _ ?_
                clear hK K
                refine aw_seq (fun K hK => ?_)
                refine aw_seq (fun K hK => ?_)
                refine aw_region ?_
                refine al_p rfl (st_assign rfl ?_)
                refine al_nil ?_
                refine x_then ?_
                refine hK _ ?_
                clear hK K
                refine aw_block ?_
                refine aw_loopW (fun n s => ∃ j : Nat, j ≤ r.tests.length ∧ n = r.tests.length - j ∧ tchkL r.list (r.tests.drop j) = tchkL r.list r.tests ∧ s = ⟨look [(1, .bp 0 0), (2, .v (.int .i64 0)), (4, .v (.int .i64 (j : Int)))], ⟨[rulA r], []⟩⟩) (r.tests.length) ((wk 1 0)) (⟨0, by omega, rfl, rfl, rfl⟩) ?_
                rintro n s ⟨j, hj, rfl, ha, rfl⟩
                refine aw_seq (fun K hK => ?_)
                refine aw_seq (fun K hK => ?_)
                refine aw_region ?_
                refine al_p rfl (st_move rfl ?_)
                refine al_p rfl (st_fieldB rfl ?_)
                refine al_p rfl (st_loadB1 rfl rfl rfl ?_)
                first | refine al_p rfl (st_len rfl ?_) | refine al_p rfl (st_lenS (by kernel_rfl) rfl ?_) | refine al_p rfl (st_len0 rfl ?_)
                first | refine al_p rfl (st_lss rfl rfl ?_) | refine al_p rfl (st_lssS rfl rfl ?_)
                refine al_nil ?_
                refine x_then ?_
                refine hK _ ?_
                clear hK K
                refine aw_cond rfl (fun hb13 => ?_) (fun hb13 => ?_)
                · have hc13 := bp hb13
                  obtain ⟨hlt, t, hy, hrow, -⟩ := row_at tstA hc13
                  refine aw_skip ?_
                  refine x_then ?_
                  refine hK _ ?_
                  clear hK K
                  refine aw_seq (fun K hK => ?_)
                  refine aw_block ?_
                  refine aw_seq (fun K hK => ?_)
                  refine aw_drawR 9 (by kernel_rfl) ?_
                  refine r_y (i := 0) rfl (st_fieldB rfl ⟨rfl, rfl⟩) ?_
                  refine r_y (i := 1) rfl (st_loadB1 rfl rfl rfl ⟨rfl, rfl⟩) ?_
                  refine r_y (i := 2) rfl (st_move rfl ⟨rfl, rfl⟩) ?_
                  refine r_y (i := 3) rfl (st_index rfl rfl rfl (by first | assumption | rfl) ⟨rfl, rfl⟩) ?_
                  refine r_y (i := 4) rfl (st_loadFW rfl rfl ⟨rfl, rfl⟩) ?_
                  refine r_y (i := 5) rfl (st_fieldB rfl ⟨rfl, rfl⟩) ?_
                  refine r_y (i := 6) rfl (st_loadB1 rfl rfl rfl ⟨rfl, rfl⟩) ?_
                  refine aa_c (i := 7) rfl rfl (by kernel_rfl) (by first | rfl | exact wan_y rfl rfl (beq_tt ‹_›) | exact wan_y rfl rfl (beq_ff ‹_›) | exact wan_y rfl rfl (by simp [*])) (q_call (Rcheck t _) ?_)
                  rintro r rfl
                  refine ⟨.inr rfl, ?_⟩
                  refine r_y (i := 8) rfl (st_assign rfl ⟨rfl, rfl⟩) ?_
                  refine aa_done (by kernel_rfl) ?_ _
                  refine x_then ?_
                  refine hK _ ?_
                  clear hK K
                  refine aw_seq (fun K hK => ?_)
                  refine aw_region ?_
                  refine al_p rfl (st_move rfl ?_)
                  first | refine al_p rfl (st_neq rfl rfl ?_) | refine al_p rfl (st_neqS rfl rfl ?_) | refine al_p rfl (st_neqB (by kernel_rfl) rfl rfl ?_)
                  refine al_nil ?_
                  refine x_then ?_
                  refine hK _ ?_
                  clear hK K
                  refine aw_cond rfl (fun hb14 => ?_) (fun hb14 => ?_)
                  · have hc14 := bp hb14
                    rw [tchk_at hy, if_neg hc14] at ha
                    refine aw_seq (fun K hK => ?_)
                    refine aw_region ?_
                    refine al_p rfl (st_move rfl ?_)
                    refine al_p rfl (st_assign rfl ?_)
                    refine al_nil ?_
                    refine x_then ?_
                    refine hK _ ?_
                    clear hK K
                    refine aw_ret ?_
                    refine x_blockR ?_
                    refine x_thenR ?_
                    clear hK K
                    refine x_thenR ?_
                    refine x_blockR ?_
                    refine x_thenR ?_
                    clear hK K
                    refine e_ret ?_
                    first | (exfalso; first | contradiction | omega) | (exact vi (by first | (unfold rchkL; grind) | (unfold rchkL watL; grind)))
                  · have hc14 := bp hb14
                    refine aw_skip ?_
                    refine x_blockN ?_
                    refine x_then ?_
                    refine hK _ ?_
                    clear hK K
                    refine aw_region ?_
                    refine al_p rfl (st_move rfl ?_)
                    first | refine al_p rfl (st_add64 rfl rfl (by omega) ?_) | refine al_p rfl (st_addS rfl rfl (by omega) ?_) | refine al_p rfl (st_add rfl rfl ?_)
                    refine al_p rfl (st_assign rfl ?_)
                    refine al_nil ?_
                    refine x_then ?_
                    refine ⟨_, _, ?_, ⟨j + 1, by omega, rfl, (by rw [← ha, tchk_at hy, if_pos (by omega)]), rfl⟩, (wk 1 0)⟩
                    omega
                · have hc13 := bp hb13
                  have e := row_no tstA hj hc13
                  subst e
                  rw [tchk_end] at ha
                  refine aw_exit ?_
                  refine x_thenE ?_
                  clear hK K
                  refine x_thenE ?_
                  refine ABlock_out ?_
                  refine x_then ?_
                  refine hK _ ?_
                  clear hK K
                  refine aw_midP (⟨look [(1, .bp 0 0), (2, .v (.int .i64 0))], ⟨[rulA r], []⟩⟩) (watL r = true) ?_ (fun hW => ?_)
                  · skip
                    refine aw_seq (fun K hK => ?_)
                    refine aw_region ?_
                    refine al_p rfl (st_fieldB rfl ?_)
                    refine al_p rfl (st_loadB1 rfl rfl rfl ?_)
                    refine al_nil ?_
                    refine x_then ?_
                    refine hK _ ?_
                    clear hK K
                    refine aw_block ?_
                    refine aw_seq (fun K hK => ?_)
                    refine aw_region ?_
                    first | refine al_p rfl (st_eql rfl rfl ?_) | refine al_p rfl (st_eqlS rfl rfl ?_) | refine al_p rfl (st_eqlB (by kernel_rfl) rfl rfl ?_)
                    refine al_p rfl (st_assign rfl ?_)
                    refine al_nil ?_
                    refine x_then ?_
                    refine hK _ ?_
                    clear hK K
                    refine aw_cond rfl (fun hb15 => ?_) (fun hb15 => ?_)
                    · have hc15 := bp hb15
                      refine aw_seq (fun K hK => ?_)
                      refine aw_region ?_
                      refine al_p rfl (st_fieldB rfl ?_)
                      refine al_p rfl (st_loadB1 rfl rfl rfl ?_)
                      first | refine al_p rfl (st_neq rfl rfl ?_) | refine al_p rfl (st_neqS rfl rfl ?_) | refine al_p rfl (st_neqB (by kernel_rfl) rfl rfl ?_)
                      refine al_p rfl (st_move rfl ?_)
                      refine al_gs false rfl rfl (fun hb16 => ?_) (fun hb16 => ?_)
                      · have hc16 := bp hb16
                        refine g_n ?_
                        refine g_n ?_
                        refine g_n ?_
                        refine al_p rfl (p_t ?_)
                        refine al_nil ?_
                        refine x_then ?_
                        refine hK _ ?_
                        clear hK K
                        refine aw_cy rfl (by first | rfl | assumption | simp [*]) ?_
                        refine aw_seq (fun K hK => ?_)
                        refine aw_region ?_
                        refine al_p rfl (st_assign rfl ?_)
                        refine al_nil ?_
                        refine x_then ?_
                        refine hK _ ?_
                        clear hK K
                        refine aw_ret ?_
                        refine x_blockR ?_
                        refine x_thenR ?_
                        refine e_ret ?_
                        first | (exfalso; first | contradiction | omega) | (exact vi (by first | (unfold rchkL; grind) | (unfold rchkL watL; grind)))
                      · have hc16 := bp hb16
                        refine g_y (st_fieldB rfl ?_)
                        refine g_y (st_loadB1 rfl rfl rfl ?_)
                        first | refine g_y (st_neq rfl rfl ?_) | refine g_y (st_neqS rfl rfl ?_) | refine g_y (st_neqB (by kernel_rfl) rfl rfl ?_)
                        refine al_p rfl (p_f ?_)
                        refine al_nil ?_
                        refine x_then ?_
                        refine hK _ ?_
                        clear hK K
                        refine aw_cond rfl (fun hb17 => ?_) (fun hb17 => ?_)
                        · have hc17 := bp hb17
                          refine aw_seq (fun K hK => ?_)
                          refine aw_region ?_
                          refine al_p rfl (st_assign rfl ?_)
                          refine al_nil ?_
                          refine x_then ?_
                          refine hK _ ?_
                          clear hK K
                          refine aw_ret ?_
                          refine x_blockR ?_
                          refine x_thenR ?_
                          refine e_ret ?_
                          first | (exfalso; first | contradiction | omega) | (exact vi (by first | (unfold rchkL; grind) | (unfold rchkL watL; grind)))
                        · have hc17 := bp hb17
                          refine aw_skip ?_
                          refine x_blockN ?_
                          refine x_then ?_
                          first | (exfalso; first | contradiction | omega) | exact ⟨(by unfold watL; grind), weak_of 1 0 rfl rfl rfl rfl (by repeat (first | exact Sub.nil | refine Sub.cons _ _ _ rfl rfl ?_ | refine Sub.any _ _ ?_ | refine Sub.sl _ _ _ _ _ rfl ?_ | refine Sub.slnil _ _ _ rfl ?_ | (apply Sub.of; (focus exact rfl); (focus exact LeA.of_eq (vb (by simp [*]))); (focus exact rfl))))⟩
                    · have hc15 := bp hb15
                      refine aw_seq (fun K hK => ?_)
                      refine aw_seq (fun K hK => ?_)
                      refine aw_region ?_
                      first | refine al_p rfl (st_eql rfl rfl ?_) | refine al_p rfl (st_eqlS rfl rfl ?_) | refine al_p rfl (st_eqlB (by kernel_rfl) rfl rfl ?_)
                      refine al_p rfl (st_assign rfl ?_)
                      refine al_nil ?_
                      refine x_then ?_
                      refine hK _ ?_
                      clear hK K
                      refine aw_cond rfl (fun hb18 => ?_) (fun hb18 => ?_)
                      · have hc18 := bp hb18
                        refine aw_skip ?_
                        refine x_then ?_
                        refine hK _ ?_
                        clear hK K
                        refine aw_cy rfl (by first | rfl | assumption | simp [*]) ?_
                        refine aw_seq (fun K hK => ?_)
                        refine aw_region ?_
                        refine al_p rfl (st_fieldB rfl ?_)
                        refine al_p rfl (st_loadB1 rfl rfl rfl ?_)
                        first | refine al_p rfl (st_neq rfl rfl ?_) | refine al_p rfl (st_neqS rfl rfl ?_) | refine al_p rfl (st_neqB (by kernel_rfl) rfl rfl ?_)
                        refine al_p rfl (st_move rfl ?_)
                        refine al_gs false rfl rfl (fun hb19 => ?_) (fun hb19 => ?_)
                        · have hc19 := bp hb19
                          refine g_n ?_
                          refine g_n ?_
                          refine g_n ?_
                          refine g_n ?_
                          refine al_p rfl (p_t ?_)
                          refine al_p rfl (st_move rfl ?_)
                          refine g_n ?_
                          refine g_n ?_
                          refine g_n ?_
                          refine g_n ?_
                          refine al_p rfl (p_t ?_)
                          refine al_p rfl (st_move rfl ?_)
                          refine g_n ?_
                          refine g_n ?_
                          refine g_n ?_
                          refine al_p rfl (p_t ?_)
                          refine al_p rfl (st_move rfl ?_)
                          refine g_n ?_
                          refine g_n ?_
                          refine g_n ?_
                          refine al_p rfl (p_t ?_)
                          refine al_nil ?_
                          refine x_then ?_
                          refine hK _ ?_
                          clear hK K
                          refine aw_cy rfl (by first | rfl | assumption | simp [*]) ?_
                          refine aw_seq (fun K hK => ?_)
                          refine aw_region ?_
                          refine al_p rfl (st_assign rfl ?_)
                          refine al_nil ?_
                          refine x_then ?_
                          refine hK _ ?_
                          clear hK K
                          refine aw_ret ?_
                          refine x_blockR ?_
                          refine x_thenR ?_
                          refine e_ret ?_
                          first | (exfalso; first | contradiction | omega) | (exact vi (by first | (unfold rchkL; grind) | (unfold rchkL watL; grind)))
                        · have hc19 := bp hb19
                          refine g_y (st_fieldB rfl ?_)
                          refine g_y (st_loadB1 rfl rfl rfl ?_)
                          refine g_y (q_call (Rclean _ hp) ?_)
                          rintro r rfl
                          refine g_y (st_not rfl ?_)
                          refine al_p rfl (p_f ?_)
                          refine al_p rfl (st_move rfl ?_)
                          refine al_gs false rfl rfl (fun hb20 => ?_) (fun hb20 => ?_)
                          · have hc20 := bp hb20
                            refine g_n ?_
                            refine g_n ?_
                            refine g_n ?_
                            refine g_n ?_
                            refine al_p rfl (p_t ?_)
                            refine al_p rfl (st_move rfl ?_)
                            refine g_n ?_
                            refine g_n ?_
                            refine g_n ?_
                            refine al_p rfl (p_t ?_)
                            refine al_p rfl (st_move rfl ?_)
                            refine g_n ?_
                            refine g_n ?_
                            refine g_n ?_
                            refine al_p rfl (p_t ?_)
                            refine al_nil ?_
                            refine x_then ?_
                            refine hK _ ?_
                            clear hK K
                            refine aw_cy rfl (by first | rfl | assumption | simp [*]) ?_
                            refine aw_seq (fun K hK => ?_)
                            refine aw_region ?_
                            refine al_p rfl (st_assign rfl ?_)
                            refine al_nil ?_
                            refine x_then ?_
                            refine hK _ ?_
                            clear hK K
                            refine aw_ret ?_
                            refine x_blockR ?_
                            refine x_thenR ?_
                            refine e_ret ?_
                            first | (exfalso; first | contradiction | omega) | (exact vi (by first | (unfold rchkL; grind) | (unfold rchkL watL; grind)))
                          · have hc20 := bp hb20
                            refine g_y (st_fieldB rfl ?_)
                            refine g_y (st_loadB1 rfl rfl rfl ?_)
                            first | refine g_y (st_len rfl ?_) | refine g_y (st_lenS (by kernel_rfl) rfl ?_) | refine g_y (st_len0 rfl ?_)
                            refine g_y (st_gtr rfl rfl ?_)
                            refine al_p rfl (p_f ?_)
                            refine al_p rfl (st_move rfl ?_)
                            refine al_gs false rfl rfl (fun hb21 => ?_) (fun hb21 => ?_)
                            · have hc21 := bp hb21
                              refine g_n ?_
                              refine g_n ?_
                              refine g_n ?_
                              refine al_p rfl (p_t ?_)
                              refine al_p rfl (st_move rfl ?_)
                              refine g_n ?_
                              refine g_n ?_
                              refine g_n ?_
                              refine al_p rfl (p_t ?_)
                              refine al_nil ?_
                              refine x_then ?_
                              refine hK _ ?_
                              clear hK K
                              refine aw_cy rfl (by first | rfl | assumption | simp [*]) ?_
                              refine aw_seq (fun K hK => ?_)
                              refine aw_region ?_
                              refine al_p rfl (st_assign rfl ?_)
                              refine al_nil ?_
                              refine x_then ?_
                              refine hK _ ?_
                              clear hK K
                              refine aw_ret ?_
                              refine x_blockR ?_
                              refine x_thenR ?_
                              refine e_ret ?_
                              first | (exfalso; first | contradiction | omega) | (exact vi (by first | (unfold rchkL; grind) | (unfold rchkL watL; grind)))
                            · have hc21 := bp hb21
                              refine g_y (st_fieldB rfl ?_)
                              refine g_y (st_loadB1 rfl rfl rfl ?_)
                              first | refine g_y (st_lss rfl rfl ?_) | refine g_y (st_lssS rfl rfl ?_)
                              refine al_p rfl (p_f ?_)
                              refine al_p rfl (st_move rfl ?_)
                              refine al_gs false rfl rfl (fun hb22 => ?_) (fun hb22 => ?_)
                              · have hc22 := bp hb22
                                refine g_n ?_
                                refine g_n ?_
                                refine g_n ?_
                                refine al_p rfl (p_t ?_)
                                refine al_nil ?_
                                refine x_then ?_
                                refine hK _ ?_
                                clear hK K
                                refine aw_cy rfl (by first | rfl | assumption | simp [*]) ?_
                                refine aw_seq (fun K hK => ?_)
                                refine aw_region ?_
                                refine al_p rfl (st_assign rfl ?_)
                                refine al_nil ?_
                                refine x_then ?_
                                refine hK _ ?_
                                clear hK K
                                refine aw_ret ?_
                                refine x_blockR ?_
                                refine x_thenR ?_
                                refine e_ret ?_
                                first | (exfalso; first | contradiction | omega) | (exact vi (by first | (unfold rchkL; grind) | (unfold rchkL watL; grind)))
                              · have hc22 := bp hb22
                                refine g_y (st_fieldB rfl ?_)
                                refine g_y (st_loadB1 rfl rfl rfl ?_)
                                refine g_y (st_gtr rfl rfl ?_)
                                refine al_p rfl (p_f ?_)
                                refine al_nil ?_
                                refine x_then ?_
                                refine hK _ ?_
                                clear hK K
                                refine aw_cond rfl (fun hb23 => ?_) (fun hb23 => ?_)
                                · have hc23 := bp hb23
                                  refine aw_seq (fun K hK => ?_)
                                  refine aw_region ?_
                                  refine al_p rfl (st_assign rfl ?_)
                                  refine al_nil ?_
                                  refine x_then ?_
                                  refine hK _ ?_
                                  clear hK K
                                  refine aw_ret ?_
                                  refine x_blockR ?_
                                  refine x_thenR ?_
                                  refine e_ret ?_
                                  first | (exfalso; first | contradiction | omega) | (exact vi (by first | (unfold rchkL; grind) | (unfold rchkL watL; grind)))
                                · have hc23 := bp hb23
                                  refine aw_skip ?_
                                  refine x_blockN ?_
                                  refine x_then ?_
                                  first | (exfalso; first | contradiction | omega) | exact ⟨(by unfold watL; grind), weak_of 1 0 rfl rfl rfl rfl (by repeat (first | exact Sub.nil | refine Sub.cons _ _ _ rfl rfl ?_ | refine Sub.any _ _ ?_ | refine Sub.sl _ _ _ _ _ rfl ?_ | refine Sub.slnil _ _ _ rfl ?_ | (apply Sub.of; (focus exact rfl); (focus exact LeA.of_eq (vb (by simp [*]))); (focus exact rfl))))⟩
                      · have hc18 := bp hb18
                        refine aw_region ?_
                        first | refine al_p rfl (st_eql rfl rfl ?_) | refine al_p rfl (st_eqlS rfl rfl ?_) | refine al_p rfl (st_eqlB (by kernel_rfl) rfl rfl ?_)
                        refine al_p rfl (st_assign rfl ?_)
                        refine al_nil ?_
                        refine x_then ?_
                        refine hK _ ?_
                        clear hK K
                        refine aw_cond rfl (fun hb24 => ?_) (fun hb24 => ?_)
                        · have hc24 := bp hb24
                          refine aw_seq (fun K hK => ?_)
                          refine aw_region ?_
                          refine al_p rfl (st_fieldB rfl ?_)
                          refine al_p rfl (st_loadB1 rfl rfl rfl ?_)
                          first | refine al_p rfl (st_neq rfl rfl ?_) | refine al_p rfl (st_neqS rfl rfl ?_) | refine al_p rfl (st_neqB (by kernel_rfl) rfl rfl ?_)
                          refine al_p rfl (st_move rfl ?_)
                          refine al_gs false rfl rfl (fun hb25 => ?_) (fun hb25 => ?_)
                          · have hc25 := bp hb25
                            refine g_n ?_
                            refine g_n ?_
                            refine g_n ?_
                            refine g_n ?_
                            refine al_p rfl (p_t ?_)
                            refine al_p rfl (st_move rfl ?_)
                            refine g_n ?_
                            refine g_n ?_
                            refine g_n ?_
                            refine g_n ?_
                            refine al_p rfl (p_t ?_)
                            refine al_p rfl (st_move rfl ?_)
                            refine g_n ?_
                            refine g_n ?_
                            refine g_n ?_
                            refine al_p rfl (p_t ?_)
                            refine al_p rfl (st_move rfl ?_)
                            refine g_n ?_
                            refine g_n ?_
                            refine g_n ?_
                            refine al_p rfl (p_t ?_)
                            refine al_nil ?_
                            refine x_then ?_
                            refine hK _ ?_
                            clear hK K
                            refine aw_cy rfl (by first | rfl | assumption | simp [*]) ?_
                            refine aw_seq (fun K hK => ?_)
                            refine aw_region ?_
                            refine al_p rfl (st_assign rfl ?_)
                            refine al_nil ?_
                            refine x_then ?_
                            refine hK _ ?_
                            clear hK K
                            refine aw_ret ?_
                            refine x_blockR ?_
                            refine x_thenR ?_
                            refine e_ret ?_
                            first | (exfalso; first | contradiction | omega) | (exact vi (by first | (unfold rchkL; grind) | (unfold rchkL watL; grind)))
                          · have hc25 := bp hb25
                            refine g_y (st_fieldB rfl ?_)
                            refine g_y (st_loadB1 rfl rfl rfl ?_)
                            refine g_y (q_call (Rclean _ hp) ?_)
                            rintro r rfl
                            refine g_y (st_not rfl ?_)
                            refine al_p rfl (p_f ?_)
                            refine al_p rfl (st_move rfl ?_)
                            refine al_gs false rfl rfl (fun hb26 => ?_) (fun hb26 => ?_)
                            · have hc26 := bp hb26
                              refine g_n ?_
                              refine g_n ?_
                              refine g_n ?_
                              refine g_n ?_
                              refine al_p rfl (p_t ?_)
                              refine al_p rfl (st_move rfl ?_)
                              refine g_n ?_
                              refine g_n ?_
                              refine g_n ?_
                              refine al_p rfl (p_t ?_)
                              refine al_p rfl (st_move rfl ?_)
                              refine g_n ?_
                              refine g_n ?_
                              refine g_n ?_
                              refine al_p rfl (p_t ?_)
                              refine al_nil ?_
                              refine x_then ?_
                              refine hK _ ?_
                              clear hK K
                              refine aw_cy rfl (by first | rfl | assumption | simp [*]) ?_
                              refine aw_seq (fun K hK => ?_)
                              refine aw_region ?_
                              refine al_p rfl (st_assign rfl ?_)
                              refine al_nil ?_
                              refine x_then ?_
                              refine hK _ ?_
                              clear hK K
                              refine aw_ret ?_
                              refine x_blockR ?_
                              refine x_thenR ?_
                              refine e_ret ?_
                              first | (exfalso; first | contradiction | omega) | (exact vi (by first | (unfold rchkL; grind) | (unfold rchkL watL; grind)))
                            · have hc26 := bp hb26
                              refine g_y (st_fieldB rfl ?_)
                              refine g_y (st_loadB1 rfl rfl rfl ?_)
                              first | refine g_y (st_len rfl ?_) | refine g_y (st_lenS (by kernel_rfl) rfl ?_) | refine g_y (st_len0 rfl ?_)
                              refine g_y (st_gtr rfl rfl ?_)
                              refine al_p rfl (p_f ?_)
                              refine al_p rfl (st_move rfl ?_)
                              refine al_gs false rfl rfl (fun hb27 => ?_) (fun hb27 => ?_)
                              · have hc27 := bp hb27
                                refine g_n ?_
                                refine g_n ?_
                                refine g_n ?_
                                refine al_p rfl (p_t ?_)
                                refine al_p rfl (st_move rfl ?_)
                                refine g_n ?_
                                refine g_n ?_
                                refine g_n ?_
                                refine al_p rfl (p_t ?_)
                                refine al_nil ?_
                                refine x_then ?_
                                refine hK _ ?_
                                clear hK K
                                refine aw_cy rfl (by first | rfl | assumption | simp [*]) ?_
                                refine aw_seq (fun K hK => ?_)
                                refine aw_region ?_
                                refine al_p rfl (st_assign rfl ?_)
                                refine al_nil ?_
                                refine x_then ?_
                                refine hK _ ?_
                                clear hK K
                                refine aw_ret ?_
                                refine x_blockR ?_
                                refine x_thenR ?_
                                refine e_ret ?_
                                first | (exfalso; first | contradiction | omega) | (exact vi (by first | (unfold rchkL; grind) | (unfold rchkL watL; grind)))
                              · have hc27 := bp hb27
                                refine g_y (st_fieldB rfl ?_)
                                refine g_y (st_loadB1 rfl rfl rfl ?_)
                                first | refine g_y (st_lss rfl rfl ?_) | refine g_y (st_lssS rfl rfl ?_)
                                refine al_p rfl (p_f ?_)
                                refine al_p rfl (st_move rfl ?_)
                                refine al_gs false rfl rfl (fun hb28 => ?_) (fun hb28 => ?_)
                                · have hc28 := bp hb28
                                  refine g_n ?_
                                  refine g_n ?_
                                  refine g_n ?_
                                  refine al_p rfl (p_t ?_)
                                  refine al_nil ?_
                                  refine x_then ?_
                                  refine hK _ ?_
                                  clear hK K
                                  refine aw_cy rfl (by first | rfl | assumption | simp [*]) ?_
                                  refine aw_seq (fun K hK => ?_)
                                  refine aw_region ?_
                                  refine al_p rfl (st_assign rfl ?_)
                                  refine al_nil ?_
                                  refine x_then ?_
                                  refine hK _ ?_
                                  clear hK K
                                  refine aw_ret ?_
                                  refine x_blockR ?_
                                  refine x_thenR ?_
                                  refine e_ret ?_
                                  first | (exfalso; first | contradiction | omega) | (exact vi (by first | (unfold rchkL; grind) | (unfold rchkL watL; grind)))
                                · have hc28 := bp hb28
                                  refine g_y (st_fieldB rfl ?_)
                                  refine g_y (st_loadB1 rfl rfl rfl ?_)
                                  refine g_y (st_gtr rfl rfl ?_)
                                  refine al_p rfl (p_f ?_)
                                  refine al_nil ?_
                                  refine x_then ?_
                                  refine hK _ ?_
                                  clear hK K
                                  refine aw_cond rfl (fun hb29 => ?_) (fun hb29 => ?_)
                                  · have hc29 := bp hb29
                                    refine aw_seq (fun K hK => ?_)
                                    refine aw_region ?_
                                    refine al_p rfl (st_assign rfl ?_)
                                    refine al_nil ?_
                                    refine x_then ?_
                                    refine hK _ ?_
                                    clear hK K
                                    refine aw_ret ?_
                                    refine x_blockR ?_
                                    refine x_thenR ?_
                                    refine e_ret ?_
                                    first | (exfalso; first | contradiction | omega) | (exact vi (by first | (unfold rchkL; grind) | (unfold rchkL watL; grind)))
                                  · have hc29 := bp hb29
                                    refine aw_skip ?_
                                    refine x_blockN ?_
                                    refine x_then ?_
                                    first | (exfalso; first | contradiction | omega) | exact ⟨(by unfold watL; grind), weak_of 1 0 rfl rfl rfl rfl (by repeat (first | exact Sub.nil | refine Sub.cons _ _ _ rfl rfl ?_ | refine Sub.any _ _ ?_ | refine Sub.sl _ _ _ _ _ rfl ?_ | refine Sub.slnil _ _ _ rfl ?_ | (apply Sub.of; (focus exact rfl); (focus exact LeA.of_eq (vb (by simp [*]))); (focus exact rfl))))⟩
                        · have hc24 := bp hb24
                          refine aw_seq (fun K hK => ?_)
                          refine aw_region ?_
                          refine al_p rfl (st_assign rfl ?_)
                          refine al_nil ?_
                          refine x_then ?_
                          refine hK _ ?_
                          clear hK K
                          refine aw_ret ?_
                          refine x_blockR ?_
                          refine x_thenR ?_
                          refine e_ret ?_
                          first | (exfalso; first | contradiction | omega) | (exact vi (by first | (unfold rchkL; grind) | (unfold rchkL watL; grind)))
                  · skip
                    refine aw_seq (fun K hK => ?_)
                    refine aw_seq (fun K hK => ?_)
                    refine aw_region ?_
                    refine al_p rfl (st_fieldB rfl ?_)
                    refine al_p rfl (st_loadB1 rfl rfl rfl ?_)
                    first | refine al_p rfl (st_len rfl ?_) | refine al_p rfl (st_lenS (by kernel_rfl) rfl ?_) | refine al_p rfl (st_len0 rfl ?_)
                    refine al_p rfl (st_gtr rfl rfl ?_)
                    refine al_nil ?_
                    refine x_then ?_
                    refine hK _ ?_
                    clear hK K
                    refine aw_cond rfl (fun hb30 => ?_) (fun hb30 => ?_)
                    · have hc30 := bp hb30
                      refine aw_seq (fun K hK => ?_)
                      refine aw_region ?_
                      refine al_p rfl (st_assign rfl ?_)
                      refine al_nil ?_
                      refine x_then ?_
                      refine hK _ ?_
                      clear hK K
                      refine aw_ret ?_
                      refine x_thenR ?_
                      clear hK K
                      refine e_ret ?_
                      first | (exfalso; first | contradiction | omega) | (exact vi (by first | (unfold rchkL; grind) | (unfold rchkL watL; grind)))
                    · have hc30 := bp hb30
                      refine aw_skip ?_
                      refine x_then ?_
                      refine hK _ ?_
                      clear hK K
                      refine aw_seq (fun K hK => ?_)
                      refine aw_region ?_
                      refine al_p rfl (st_assign rfl ?_)
                      refine al_nil ?_
                      refine x_then ?_
                      refine hK _ ?_
                      clear hK K
                      refine aw_ret ?_
                      refine e_ret ?_
                      first | (exfalso; first | contradiction | omega) | (exact vi (by first | (unfold rchkL; grind) | (unfold rchkL watL; grind)))

end
end Go.Proofs.YtokaaebbmcldaaaGreatDoor
