/-
  The first rule that matches: rules.First, kauditref14.First.
-/
import Derived.Test.YtokaaebbmcldaaaGreatDoorRf
namespace Go.Proofs.YtokaaebbmcldaaaGreatDoor
open Go.RowKit

/-- The first place, from a number on, where a test holds. -/
def firstI {α : Type} (p : Nat → α → Bool) : List α → Nat → Int
  | [], _ => -1
  | x :: xs, i => if p i x = true then (i : Int) else firstI p xs (i + 1)
theorem firstI_at {α : Type} {p : Nat → α → Bool} {l : List α} {j : Nat} {x : α} (hx : l[j]? = some x) : firstI p (l.drop j) j = if p j x = true then (j : Int) else firstI p (l.drop (j + 1)) (j + 1) := by
  obtain ⟨hk, e⟩ := List.getElem?_eq_some_iff.1 hx
  rw [List.drop_eq_getElem_cons hk, firstI, e]
theorem firstI_end {α : Type} {p : Nat → α → Bool} {l : List α} : firstI p (l.drop l.length) l.length = -1 := by
  simp [firstI]
def bolA (b : Bool) : List AV := [.v (.bool b)]
def hitL (hits : List Bool) (i : Nat) : Bool := (hits[i]?).getD false
theorem hit_at {hits : List Bool} {i : Nat} {b : Bool} (h : hits[i]? = some b) : hitL hits i = b := by simp [hitL, h]
theorem hit_no {hits : List Bool} {i : Nat} (h : ¬ (i : Int) < ((hits.map bolA).length : Int)) : hitL hits i = false := by
  have : hits.length ≤ i := by simp at h; omega
  simp [hitL, this]
/-- Does a rule of a list match? -/
def ownL (list : Int) (hits : List Bool) (c : Ctx) (i : Nat) (r : Rul) : Bool := decide (r.list = list) && matL r (hitL hits i) c
section
set_option maxRecDepth 10000
set_option maxHeartbeats 1000000
theorem Pfirst (l : List Rul) (hl : l.length ≤ 1000) (p : Nat → Rul → Bool) (f : FuncId) (caps : List AV) [Fun Tryz.prog f] (hcl : clnL caps = true) (hbl : bpLt 0 0 (.fn f caps) = true)
    (hp : ∀ i r, l[i]? = some r → AFn Tryz.prog f ([.v (.int .i64 (i : Int)), .agg (rulA r)] ++ caps) (fun x => x = .v (.bool (p i r)))) : AFn Tryz.prog 25 [.sl 8 (l.map rulA) none, .fn f caps] (fun x => x = .v (.int .i64 (firstI p l 0))) := by
  refine enter Tryz.func25 rfl rfl rfl rfl rfl 0 rfl ?_
  refine aw_seq (fun K hK => ?_)
  refine aw_region ?_
  refine al_p rfl (st_assign rfl ?_)
  refine al_nil ?_
  refine x_then ?_
  refine hK _ ?_
  clear hK K
  refine aw_seq (fun K hK => ?_)
  refine aw_seq (fun K hK => ?_)
  refine aw_region ?_
  refine al_p rfl (st_move rfl ?_)
  first | refine al_p rfl (st_len rfl ?_) | refine al_p rfl (st_lenS (by kernel_rfl) rfl ?_) | refine al_p rfl (st_len0 rfl ?_)
  refine al_p rfl (st_move rfl ?_)
  refine al_nil ?_
  refine x_then ?_
  refine hK _ ?_
  clear hK K
  refine aw_block ?_
  refine aw_loopW (fun n s => ∃ j : Nat, j ≤ l.length ∧ n = l.length - j ∧ firstI p (l.drop j) j = firstI p l 0 ∧ s = ⟨look [(1, .fn f caps), (7, .sl 8 (l.map rulA) none), (8, .v (.int .i64 ((l.map rulA).length : Int))), (9, .v (.int .i64 (j : Int)))], ⟨[], []⟩⟩) (l.length) (weak_of 0 0 rfl rfl rfl rfl (by repeat (first | exact Sub.nil | refine Sub.cons _ _ _ rfl rfl ?_ | refine Sub.cons _ _ _ rfl hbl ?_ | refine Sub.any _ _ ?_ | refine Sub.sl _ _ _ _ _ rfl ?_ | refine Sub.slnil _ _ _ rfl ?_))) (⟨0, by omega, rfl, rfl, rfl⟩) ?_
  rintro n s ⟨j, hj, rfl, ha, rfl⟩
  refine aw_seq (fun K hK => ?_)
  refine aw_region ?_
  first | refine al_p rfl (st_lss rfl rfl ?_) | refine al_p rfl (st_lssS rfl rfl ?_)
  refine al_nil ?_
  refine x_then ?_
  refine hK _ ?_
  clear hK K
  refine aw_seq (fun K hK => ?_)
  refine aw_cond rfl (fun hb1 => ?_) (fun hb1 => ?_)
  · have hc1 := bp hb1
    obtain ⟨hlt, r, hy, hrow, -⟩ := row_at rulA hc1
    refine aw_skip ?_
    refine x_then ?_
    refine hK _ ?_
    clear hK K
    refine aw_seq (fun K hK => ?_)
    refine aw_block ?_
    refine aw_seq (fun K hK => ?_)
    refine aw_region ?_
    refine al_p rfl (st_move rfl ?_)
    refine al_p rfl (st_index rfl rfl rfl (by first | assumption | rfl) ?_)
    refine al_p rfl (st_loadFW rfl rfl ?_)
    refine al_p rfl (s_alloc (by repeat constructor) ?_)
    refine al_p rfl (st_assign rfl ?_)
    refine al_p0 (s_store rfl rfl rfl rfl rfl rfl (by repeat constructor) (by repeat constructor) ?_)
    refine al_nil ?_
    refine x_then ?_
    refine hK _ ?_
    clear hK K
    refine aw_seq (fun K hK => ?_)
    refine aw_region ?_
    refine al_p rfl (st_move rfl ?_)
    refine al_p rfl (st_move rfl ?_)
    refine al_p rfl (st_loadBW rfl rfl rfl ?_)
    refine al_p rfl (st_callC (cy := []) rfl (by repeat (first | exact Args.nil | refine Args.cons _ _ _ _ _ rfl (argOk_clean rfl) ?_ | refine Args.cons _ _ _ _ _ rfl (argOk_nil _) ?_ | refine Args.cons _ _ _ _ _ rfl (argOk_era _) ?_ | refine Args.cons _ _ _ _ _ rfl (argOk_le rfl (by repeat (first | exact LeA.refl _ | exact LeA.nil _ | exact LeL.refl _ | refine LeA.agg ?_ | refine LeA.tup ?_ | exact LeL.nil | refine LeL.cons ?_ ?_ | exact LeA.any _))) ?_)) hcl rfl (hp j r hy) ?_)
    rintro x rfl
    refine al_nil ?_
    refine x_then ?_
    refine hK _ ?_
    clear hK K
    refine aw_cond rfl (fun hb2 => ?_) (fun hb2 => ?_)
    · have hc2 := bp hb2
      refine aw_seq (fun K hK => ?_)
      refine aw_region ?_
      refine al_p rfl (st_move rfl ?_)
      refine al_p rfl (st_assign rfl ?_)
      refine al_nil ?_
      refine x_then ?_
      refine hK _ ?_
      clear hK K
      refine aw_ret ?_
      refine x_blockR ?_
      refine x_thenR ?_
      clear hK K
      refine x_thenR ?_
      refine x_blockR ?_
      refine x_thenR ?_
      clear hK K
      refine e_ret ?_
      first | (exfalso; first | contradiction | omega) | (exact vi (by rw [← ha, firstI_at hy, if_pos hc2]))
    · have hc2 := bp hb2
      refine aw_skip ?_
      refine x_blockN ?_
      refine x_then ?_
      refine hK _ ?_
      clear hK K
      refine aw_region ?_
      first | refine al_p rfl (st_add64 rfl rfl (by omega) ?_) | refine al_p rfl (st_addS rfl rfl (by omega) ?_) | refine al_p rfl (st_add rfl rfl ?_)
      refine al_p rfl (st_move rfl ?_)
      refine al_nil ?_
      refine x_then ?_
      refine ⟨_, _, ?_, ⟨j + 1, by omega, rfl, (by rw [← ha, firstI_at hy]; simp [*]), rfl⟩, weak_of 0 0 rfl rfl rfl rfl (by repeat (first | exact Sub.nil | refine Sub.cons _ _ _ rfl rfl ?_ | refine Sub.cons _ _ _ rfl hbl ?_ | refine Sub.any _ _ ?_ | refine Sub.sl _ _ _ _ _ rfl ?_ | refine Sub.slnil _ _ _ rfl ?_))⟩
      omega
  · have hc1 := bp hb1
    have e := row_no rulA hj hc1
    subst e
    refine aw_exit ?_
    refine x_thenE ?_
    clear hK K
    refine x_thenE ?_
    refine ABlock_out ?_
    refine x_then ?_
    refine hK _ ?_
    clear hK K
    refine aw_seq (fun K hK => ?_)
    refine aw_region ?_
    refine al_p rfl (st_assign rfl ?_)
    refine al_nil ?_
    refine x_then ?_
    refine hK _ ?_
    clear hK K
    refine aw_ret ?_
    refine e_ret ?_
    first | (exfalso; first | contradiction | omega) | (exact vi (by rw [← ha, firstI_end]))

theorem Pfirst1 (i : Nat) (r : Rul) (list : Int) (hits : List Bool) (c : Ctx) (k : Cxs) (hn : c.items.length ≤ 1000) (hl : r.tests.length ≤ 1000) : AFn Tryz.prog 26 [.v (.int .i64 (i : Int)), .agg (rulA r), .fp [.v (.int .i64 list)], .fp [.sl 1 (hits.map bolA) none], .fp (ctxA c k)] (fun x => x = .v (.bool (ownL list hits c i r))) := by
  refine enter Tryz.func26 rfl rfl rfl rfl rfl 0 rfl ?_
  refine aw_seq (fun K hK => ?_)
  refine aw_region ?_
  first | refine al_p rfl (s_boxA rfl rfl (by repeat constructor) ?_) | refine al_p rfl (s_box rfl rfl (by repeat constructor) ?_)
  refine al_p rfl (st_assign rfl ?_)
  refine al_nil ?_
  refine x_then ?_
  refine hK _ ?_
  clear hK K
  refine aw_seq (fun K hK => ?_)
  refine aw_drawR 20 (by kernel_rfl) ?_
  refine r_y (i := 0) rfl (st_fieldB rfl ⟨rfl, rfl⟩) ?_
  refine r_y (i := 1) rfl (st_loadB1 rfl rfl rfl ⟨rfl, rfl⟩) ?_
  first | refine r_y (i := 2) rfl (st_loadB1 rfl rfl rfl ⟨rfl, rfl⟩) ?_ | refine r_y (i := 2) rfl (st_loadBW rfl rfl rfl ⟨rfl, rfl⟩) ?_ | refine r_y (i := 2) rfl (st_loadF1 rfl rfl ⟨rfl, rfl⟩) ?_ | refine r_y (i := 2) rfl (st_loadFW rfl rfl ⟨rfl, rfl⟩) ?_ | refine r_y (i := 2) rfl (st_loadBN rfl rfl rfl ⟨rfl, rfl⟩) ?_ | refine r_y (i := 2) rfl (st_loadFN rfl rfl ⟨rfl, rfl⟩) ?_
  first | refine r_y (i := 3) rfl (st_eql rfl rfl ⟨rfl, rfl⟩) ?_ | refine r_y (i := 3) rfl (st_eqlS rfl rfl ⟨rfl, rfl⟩) ?_ | refine r_y (i := 3) rfl (st_eqlB (by kernel_rfl) rfl rfl ⟨rfl, rfl⟩) ?_
  refine r_y (i := 4) rfl (st_move rfl ⟨rfl, rfl⟩) ?_
  refine aa_both (j := 4) rfl (fun hb1 => ?_) (fun hb1 => ?_)
  · have hc1 := bp hb1
    refine r_y (i := 5) rfl (st_loadBW rfl rfl rfl ⟨rfl, rfl⟩) ?_
    refine r_y (i := 6) rfl (st_move rfl ⟨rfl, rfl⟩) ?_
    first | refine r_y (i := 7) rfl (st_loadB1 rfl rfl rfl ⟨rfl, rfl⟩) ?_ | refine r_y (i := 7) rfl (st_loadBW rfl rfl rfl ⟨rfl, rfl⟩) ?_ | refine r_y (i := 7) rfl (st_loadF1 rfl rfl ⟨rfl, rfl⟩) ?_ | refine r_y (i := 7) rfl (st_loadFW rfl rfl ⟨rfl, rfl⟩) ?_ | refine r_y (i := 7) rfl (st_loadBN rfl rfl rfl ⟨rfl, rfl⟩) ?_ | refine r_y (i := 7) rfl (st_loadFN rfl rfl ⟨rfl, rfl⟩) ?_
    first | refine r_y (i := 8) rfl (st_len rfl ⟨rfl, rfl⟩) ?_ | refine r_y (i := 8) rfl (st_lenS (by kernel_rfl) rfl ⟨rfl, rfl⟩) ?_ | refine r_y (i := 8) rfl (st_len0 rfl ⟨rfl, rfl⟩) ?_
    first | refine r_y (i := 9) rfl (st_lss rfl rfl ⟨rfl, rfl⟩) ?_ | refine r_y (i := 9) rfl (st_lssS rfl rfl ⟨rfl, rfl⟩) ?_
    refine r_y (i := 10) rfl (st_move rfl ⟨rfl, rfl⟩) ?_
    refine aa_both (j := 10) rfl (fun hb2 => ?_) (fun hb2 => ?_)
    · have hc2 := bp hb2
      obtain ⟨hlt, b, hy, hrow, -⟩ := row_at bolA hc2
      first | refine r_y (i := 11) rfl (st_loadB1 rfl rfl rfl ⟨rfl, rfl⟩) ?_ | refine r_y (i := 11) rfl (st_loadBW rfl rfl rfl ⟨rfl, rfl⟩) ?_ | refine r_y (i := 11) rfl (st_loadF1 rfl rfl ⟨rfl, rfl⟩) ?_ | refine r_y (i := 11) rfl (st_loadFW rfl rfl ⟨rfl, rfl⟩) ?_ | refine r_y (i := 11) rfl (st_loadBN rfl rfl rfl ⟨rfl, rfl⟩) ?_ | refine r_y (i := 11) rfl (st_loadFN rfl rfl ⟨rfl, rfl⟩) ?_
      refine r_y (i := 12) rfl (st_move rfl ⟨rfl, rfl⟩) ?_
      refine r_y (i := 13) rfl (st_index rfl rfl rfl (by first | assumption | rfl) ⟨rfl, rfl⟩) ?_
      refine r_y (i := 14) rfl (st_loadF1 rfl rfl ⟨rfl, rfl⟩) ?_
      refine r_y (i := 15) rfl (st_pick_t rfl (by first | rfl | assumption | simp [*]) rfl ⟨rfl, rfl⟩) ?_
      first | refine r_y (i := 16) rfl (st_loadB1 rfl rfl rfl ⟨rfl, rfl⟩) ?_ | refine r_y (i := 16) rfl (st_loadBW rfl rfl rfl ⟨rfl, rfl⟩) ?_ | refine r_y (i := 16) rfl (st_loadF1 rfl rfl ⟨rfl, rfl⟩) ?_ | refine r_y (i := 16) rfl (st_loadFW rfl rfl ⟨rfl, rfl⟩) ?_ | refine r_y (i := 16) rfl (st_loadBN rfl rfl rfl ⟨rfl, rfl⟩) ?_ | refine r_y (i := 16) rfl (st_loadFN rfl rfl ⟨rfl, rfl⟩) ?_
      refine aa_c (i := 17) rfl rfl (by kernel_rfl) (by first | rfl | exact wan_y rfl rfl (beq_tt ‹_›) | exact wan_y rfl rfl (beq_ff ‹_›) | exact wan_y rfl rfl (by simp [*])) (q_call (Pmatches r b c k hn hl) ?_)
      rintro r rfl
      refine ⟨.inr rfl, ?_⟩
      refine r_y (i := 18) rfl (st_pick_t rfl (by first | rfl | assumption | simp [*]) rfl ⟨rfl, rfl⟩) ?_
      refine r_y (i := 19) rfl (st_assign rfl ⟨rfl, rfl⟩) ?_
      refine aa_done (by kernel_rfl) ?_ _
      refine x_then ?_
      refine hK _ ?_
      clear hK K
      refine aw_ret ?_
      refine e_ret ?_
      first | (exfalso; first | contradiction | omega) | (exact vb (by simp [ownL, hc1, hit_at hy]))
    · have hc2 := bp hb2
      refine r_n (i := 11) rfl rfl ?_
      refine r_n (i := 12) rfl rfl ?_
      refine r_n (i := 13) rfl rfl ?_
      refine r_n (i := 14) rfl rfl ?_
      refine r_y (i := 15) rfl (st_pick_f rfl (by first | rfl | assumption | simp [*]) rfl ⟨rfl, rfl⟩) ?_
      first | refine r_y (i := 16) rfl (st_loadB1 rfl rfl rfl ⟨rfl, rfl⟩) ?_ | refine r_y (i := 16) rfl (st_loadBW rfl rfl rfl ⟨rfl, rfl⟩) ?_ | refine r_y (i := 16) rfl (st_loadF1 rfl rfl ⟨rfl, rfl⟩) ?_ | refine r_y (i := 16) rfl (st_loadFW rfl rfl ⟨rfl, rfl⟩) ?_ | refine r_y (i := 16) rfl (st_loadBN rfl rfl rfl ⟨rfl, rfl⟩) ?_ | refine r_y (i := 16) rfl (st_loadFN rfl rfl ⟨rfl, rfl⟩) ?_
      refine aa_c (i := 17) rfl rfl (by kernel_rfl) (by first | rfl | exact wan_y rfl rfl (beq_tt ‹_›) | exact wan_y rfl rfl (beq_ff ‹_›) | exact wan_y rfl rfl (by simp [*])) (q_call (Pmatches r false c k hn hl) ?_)
      rintro r rfl
      refine ⟨.inr rfl, ?_⟩
      refine r_y (i := 18) rfl (st_pick_t rfl (by first | rfl | assumption | simp [*]) rfl ⟨rfl, rfl⟩) ?_
      refine r_y (i := 19) rfl (st_assign rfl ⟨rfl, rfl⟩) ?_
      refine aa_done (by kernel_rfl) ?_ _
      refine x_then ?_
      refine hK _ ?_
      clear hK K
      refine aw_ret ?_
      refine e_ret ?_
      first | (exfalso; first | contradiction | omega) | (exact vb (by simp [ownL, hc1, hit_no hc2]))
  · have hc1 := bp hb1
    refine r_n (i := 5) rfl rfl ?_
    refine r_n (i := 6) rfl rfl ?_
    refine r_n (i := 7) rfl rfl ?_
    refine r_n (i := 8) rfl rfl ?_
    refine r_n (i := 9) rfl rfl ?_
    refine r_n (i := 10) rfl rfl ?_
    refine r_n (i := 11) rfl rfl ?_
    refine r_n (i := 12) rfl rfl ?_
    refine r_n (i := 13) rfl rfl ?_
    refine r_n (i := 14) rfl rfl ?_
    refine r_n (i := 15) rfl rfl ?_
    refine r_n (i := 16) rfl rfl ?_
    refine r_n (i := 17) rfl rfl ?_
    refine r_y (i := 18) rfl (st_pick_f rfl (by first | rfl | assumption | simp [*]) rfl ⟨rfl, rfl⟩) ?_
    refine r_y (i := 19) rfl (st_assign rfl ⟨rfl, rfl⟩) ?_
    refine aa_done (by kernel_rfl) ?_ _
    refine x_then ?_
    refine hK _ ?_
    clear hK K
    refine aw_ret ?_
    refine e_ret ?_
    first | (exfalso; first | contradiction | omega) | (exact vb (by simp [ownL, hc1]))

theorem Pfirsts (l : List Rul) (list : Int) (hits : List Bool) (c : Ctx) (k : Cxs) (hl : l.length ≤ 1000) (hn : c.items.length ≤ 1000) (ht : ∀ r ∈ l, r.tests.length ≤ 1000) : AFn Tryz.prog 11 [.sl 8 (l.map rulA) none, .v (.int .i64 list), .sl 1 (hits.map bolA) none, .agg (ctxA c k)] (fun x => x = .v (.int .i64 (firstI (ownL list hits c) l 0))) := by
  refine enter Tryz.func11 rfl rfl rfl rfl rfl 0 rfl ?_
  refine aw_seq (fun K hK => ?_)
  refine aw_region ?_
  first | refine al_p rfl (s_boxA rfl rfl (by repeat constructor) ?_) | refine al_p rfl (s_box rfl rfl (by repeat constructor) ?_)
  first | refine al_p rfl (s_boxA rfl rfl (by repeat constructor) ?_) | refine al_p rfl (s_box rfl rfl (by repeat constructor) ?_)
  first | refine al_p rfl (s_boxA rfl rfl (by repeat constructor) ?_) | refine al_p rfl (s_box rfl rfl (by repeat constructor) ?_)
  refine al_p rfl (st_assign rfl ?_)
  refine al_nil ?_
  refine x_then ?_
  refine hK _ ?_
  clear hK K
  refine aw_seq (fun K hK => ?_)
  refine aw_region ?_
  refine al_p rfl (st_move rfl ?_)
  refine al_p rfl (st_makeFunc rfl ?_)
  refine al_p rfl (s_callS rfl (by repeat (first | exact ArgsL.nil | refine ArgsL.cons _ _ _ _ _ rfl rfl ?_)) (Pfirst l hl (ownL list hits c) 26 [.fp [.v (.int .i64 list)], .fp [.sl 1 (hits.map bolA) none], .fp (ctxA c k)] rfl rfl fun i r hi => Pfirst1 i r list hits c k hn (ht r (List.mem_of_getElem? hi))) ?_)
  rintro x rfl
  refine ⟨rfl, ?_⟩
  refine al_p rfl (st_assign rfl ?_)
  refine al_nil ?_
  refine x_then ?_
  refine hK _ ?_
  clear hK K
  refine aw_ret ?_
  refine e_ret ?_
  rfl

theorem Rfirsts (l : List Rul) (list : Int) (hits : List Bool) (c : Ctx) (k : Cxs) (hl : l.length ≤ 1000) (hn : c.items.length ≤ 1000) (ht : ∀ r ∈ l, r.tests.length ≤ 1000) : AFn Tryz.prog 12 [.sl 8 (l.map rulA) none, .v (.int .i64 list), .sl 1 (hits.map bolA) none, .agg (ctxA c k)] (fun x => x = .v (.int .i64 (firstI (ownL list hits c) l 0))) := by
  refine enter Tryz.func12 rfl rfl rfl rfl rfl 0 rfl ?_
  refine aw_seq (fun K hK => ?_)
  refine aw_region ?_
  first | refine al_p rfl (s_boxA rfl rfl (by repeat constructor) ?_) | refine al_p rfl (s_box rfl rfl (by repeat constructor) ?_)
  refine al_p rfl (st_assign rfl ?_)
  refine al_nil ?_
  refine x_then ?_
  refine hK _ ?_
  clear hK K
  refine aw_seq (fun K hK => ?_)
  refine aw_seq (fun K hK => ?_)
  refine aw_region ?_
  refine al_p rfl (st_assign rfl ?_)
  refine al_nil ?_
  refine x_then ?_
  refine hK _ ?_
  clear hK K
  refine aw_block ?_
  refine aw_loopW (fun n s => ∃ j : Nat, j ≤ l.length ∧ n = l.length - j ∧ firstI (ownL list hits c) (l.drop j) j = firstI (ownL list hits c) l 0 ∧ s = ⟨look [(0, .sl 8 (l.map rulA) none), (1, .v (.int .i64 list)), (2, .sl 1 (hits.map bolA) none), (7, .bp 0 0), (9, .v (.int .i64 (j : Int)))], ⟨[ctxA c k], []⟩⟩) (l.length) ((wk 1 0)) (⟨0, by omega, rfl, rfl, rfl⟩) ?_
  rintro n s ⟨j, hj, rfl, ha, rfl⟩
  refine aw_seq (fun K hK => ?_)
  refine aw_seq (fun K hK => ?_)
  refine aw_region ?_
  refine al_p rfl (st_move rfl ?_)
  refine al_p rfl (st_move rfl ?_)
  first | refine al_p rfl (st_len rfl ?_) | refine al_p rfl (st_lenS (by kernel_rfl) rfl ?_) | refine al_p rfl (st_len0 rfl ?_)
  first | refine al_p rfl (st_lss rfl rfl ?_) | refine al_p rfl (st_lssS rfl rfl ?_)
  refine al_nil ?_
  refine x_then ?_
  refine hK _ ?_
  clear hK K
  refine aw_cond rfl (fun hb1 => ?_) (fun hb1 => ?_)
  · have hc1 := bp hb1
    obtain ⟨hlt, r, hy, hrow, -⟩ := row_at rulA hc1
    refine aw_skip ?_
    refine x_then ?_
    refine hK _ ?_
    clear hK K
    refine aw_seq (fun K hK => ?_)
    refine aw_block ?_
    refine aw_mid (⟨look [(0, .sl 8 (l.map rulA) none), (1, .v (.int .i64 list)), (2, .sl 1 (hits.map bolA) none), (7, .bp 0 0), (9, .v (.int .i64 (j : Int))), (40, .v (.bool (ownL list hits c j r)))], ⟨[ctxA c k], []⟩⟩) ?_ ?_
    · skip
      refine aw_drawR 25 (by kernel_rfl) ?_
      refine r_y (i := 0) rfl (st_move rfl ⟨rfl, rfl⟩) ?_
      refine r_y (i := 1) rfl (st_move rfl ⟨rfl, rfl⟩) ?_
      refine r_y (i := 2) rfl (st_index rfl rfl rfl (by first | assumption | rfl) ⟨rfl, rfl⟩) ?_
      refine r_y (i := 3) rfl (st_fieldF rfl ⟨rfl, rfl⟩) ?_
      refine r_y (i := 4) rfl (st_loadF1 rfl rfl ⟨rfl, rfl⟩) ?_
      refine r_y (i := 5) rfl (st_move rfl ⟨rfl, rfl⟩) ?_
      first | refine r_y (i := 6) rfl (st_eql rfl rfl ⟨rfl, rfl⟩) ?_ | refine r_y (i := 6) rfl (st_eqlS rfl rfl ⟨rfl, rfl⟩) ?_ | refine r_y (i := 6) rfl (st_eqlB (by kernel_rfl) rfl rfl ⟨rfl, rfl⟩) ?_
      refine r_y (i := 7) rfl (st_move rfl ⟨rfl, rfl⟩) ?_
      refine aa_both (j := 7) rfl (fun hb2 => ?_) (fun hb2 => ?_)
      · have hc2 := bp hb2
        refine r_y (i := 8) rfl (st_move rfl ⟨rfl, rfl⟩) ?_
        refine r_y (i := 9) rfl (st_move rfl ⟨rfl, rfl⟩) ?_
        refine r_y (i := 10) rfl (st_index rfl rfl rfl (by first | assumption | rfl) ⟨rfl, rfl⟩) ?_
        refine r_y (i := 11) rfl (st_loadFW rfl rfl ⟨rfl, rfl⟩) ?_
        refine r_y (i := 12) rfl (st_move rfl ⟨rfl, rfl⟩) ?_
        refine r_y (i := 13) rfl (st_move rfl ⟨rfl, rfl⟩) ?_
        first | refine r_y (i := 14) rfl (st_len rfl ⟨rfl, rfl⟩) ?_ | refine r_y (i := 14) rfl (st_lenS (by kernel_rfl) rfl ⟨rfl, rfl⟩) ?_ | refine r_y (i := 14) rfl (st_len0 rfl ⟨rfl, rfl⟩) ?_
        first | refine r_y (i := 15) rfl (st_lss rfl rfl ⟨rfl, rfl⟩) ?_ | refine r_y (i := 15) rfl (st_lssS rfl rfl ⟨rfl, rfl⟩) ?_
        refine r_y (i := 16) rfl (st_move rfl ⟨rfl, rfl⟩) ?_
        refine aa_both (j := 16) rfl (fun hb3 => ?_) (fun hb3 => ?_)
        · have hc3 := bp hb3
          obtain ⟨hlt, b, hz, hrow2, -⟩ := row_at bolA hc3
          refine r_y (i := 17) rfl (st_move rfl ⟨rfl, rfl⟩) ?_
          refine r_y (i := 18) rfl (st_move rfl ⟨rfl, rfl⟩) ?_
          refine r_y (i := 19) rfl (st_index rfl rfl rfl (by first | assumption | rfl) ⟨rfl, rfl⟩) ?_
          refine r_y (i := 20) rfl (st_loadF1 rfl rfl ⟨rfl, rfl⟩) ?_
          refine r_y (i := 21) rfl (st_pick_t rfl (by first | rfl | assumption | simp [*]) rfl ⟨rfl, rfl⟩) ?_
          refine r_y (i := 22) rfl (st_loadBW rfl rfl rfl ⟨rfl, rfl⟩) ?_
          refine aa_c (i := 23) rfl rfl (by kernel_rfl) (by first | rfl | exact wan_y rfl rfl (beq_tt ‹_›) | exact wan_y rfl rfl (beq_ff ‹_›) | exact wan_y rfl rfl (by simp [*])) (q_call (Rmatches r b c k hn (ht r (List.mem_of_getElem? hy))) ?_)
          rintro r rfl
          refine ⟨.inr rfl, ?_⟩
          refine r_y (i := 24) rfl (st_pick_t rfl (by first | rfl | assumption | simp [*]) rfl ⟨rfl, rfl⟩) ?_
          refine aa_done (by kernel_rfl) ?_ _
          refine x_then ?_
          first | (exfalso; first | contradiction | omega) | exact weak_of 1 0 rfl rfl rfl rfl (by repeat (first | exact Sub.nil | refine Sub.cons _ _ _ rfl rfl ?_ | refine Sub.any _ _ ?_ | refine Sub.sl _ _ _ _ _ rfl ?_ | refine Sub.slnil _ _ _ rfl ?_ | (apply Sub.of; (focus exact rfl); (focus exact LeA.of_eq (vb (by first | (simp [ownL, hc2, hit_at hz]; done) | (simp [ownL, hc2, hit_no hc3]; done) | simp [ownL, hc2]))); (focus exact rfl))))
        · have hc3 := bp hb3
          refine r_n (i := 17) rfl rfl ?_
          refine r_n (i := 18) rfl rfl ?_
          refine r_n (i := 19) rfl rfl ?_
          refine r_n (i := 20) rfl rfl ?_
          refine r_y (i := 21) rfl (st_pick_f rfl (by first | rfl | assumption | simp [*]) rfl ⟨rfl, rfl⟩) ?_
          refine r_y (i := 22) rfl (st_loadBW rfl rfl rfl ⟨rfl, rfl⟩) ?_
          refine aa_c (i := 23) rfl rfl (by kernel_rfl) (by first | rfl | exact wan_y rfl rfl (beq_tt ‹_›) | exact wan_y rfl rfl (beq_ff ‹_›) | exact wan_y rfl rfl (by simp [*])) (q_call (Rmatches r false c k hn (ht r (List.mem_of_getElem? hy))) ?_)
          rintro r rfl
          refine ⟨.inr rfl, ?_⟩
          refine r_y (i := 24) rfl (st_pick_t rfl (by first | rfl | assumption | simp [*]) rfl ⟨rfl, rfl⟩) ?_
          refine aa_done (by kernel_rfl) ?_ _
          refine x_then ?_
          first | (exfalso; first | contradiction | omega) | exact weak_of 1 0 rfl rfl rfl rfl (by repeat (first | exact Sub.nil | refine Sub.cons _ _ _ rfl rfl ?_ | refine Sub.any _ _ ?_ | refine Sub.sl _ _ _ _ _ rfl ?_ | refine Sub.slnil _ _ _ rfl ?_ | (apply Sub.of; (focus exact rfl); (focus exact LeA.of_eq (vb (by first | (simp [ownL, hc2, hit_at hz]; done) | (simp [ownL, hc2, hit_no hc3]; done) | simp [ownL, hc2]))); (focus exact rfl))))
      · have hc2 := bp hb2
        refine r_n (i := 8) rfl rfl ?_
        refine r_n (i := 9) rfl rfl ?_
        refine r_n (i := 10) rfl rfl ?_
        refine r_n (i := 11) rfl rfl ?_
        refine r_n (i := 12) rfl rfl ?_
        refine r_n (i := 13) rfl rfl ?_
        refine r_n (i := 14) rfl rfl ?_
        refine r_n (i := 15) rfl rfl ?_
        refine r_n (i := 16) rfl rfl ?_
        refine r_n (i := 17) rfl rfl ?_
        refine r_n (i := 18) rfl rfl ?_
        refine r_n (i := 19) rfl rfl ?_
        refine r_n (i := 20) rfl rfl ?_
        refine r_n (i := 21) rfl rfl ?_
        refine r_n (i := 22) rfl rfl ?_
        refine r_n (i := 23) rfl rfl ?_
        refine r_y (i := 24) rfl (st_pick_f rfl (by first | rfl | assumption | simp [*]) rfl ⟨rfl, rfl⟩) ?_
        refine aa_done (by kernel_rfl) ?_ _
        refine x_then ?_
        first | (exfalso; first | contradiction | omega) | exact weak_of 1 0 rfl rfl rfl rfl (by repeat (first | exact Sub.nil | refine Sub.cons _ _ _ rfl rfl ?_ | refine Sub.any _ _ ?_ | refine Sub.sl _ _ _ _ _ rfl ?_ | refine Sub.slnil _ _ _ rfl ?_ | (apply Sub.of; (focus exact rfl); (focus exact LeA.of_eq (vb (by first | (simp [ownL, hc2, hit_at hz]; done) | (simp [ownL, hc2, hit_no hc3]; done) | simp [ownL, hc2]))); (focus exact rfl))))
    · skip
      refine aw_cond rfl (fun hb4 => ?_) (fun hb4 => ?_)
      · have hc4 := bp hb4
        refine aw_seq (fun K hK => ?_)
        refine aw_region ?_
        refine al_p rfl (st_move rfl ?_)
        refine al_p rfl (st_assign rfl ?_)
        refine al_nil ?_
        refine x_then ?_
        refine hK _ ?_
        clear hK K
        refine aw_ret ?_
        refine x_blockR ?_
        refine x_thenR ?_
        clear hK K
        refine x_thenR ?_
        refine x_blockR ?_
        refine x_thenR ?_
        clear hK K
        refine e_ret ?_
        first | (exfalso; first | contradiction | omega) | (exact vi (by rw [← ha, firstI_at hy, if_pos hc4]))
      · have hc4 := bp hb4
        refine aw_skip ?_
        refine x_blockN ?_
        refine x_then ?_
        refine hK _ ?_
        clear hK K
        refine aw_region ?_
        refine al_p rfl (st_move rfl ?_)
        first | refine al_p rfl (st_add64 rfl rfl (by omega) ?_) | refine al_p rfl (st_addS rfl rfl (by omega) ?_) | refine al_p rfl (st_add rfl rfl ?_)
        refine al_p rfl (st_assign rfl ?_)
        refine al_nil ?_
        refine x_then ?_
        refine ⟨_, _, ?_, ⟨j + 1, by omega, rfl, (by rw [← ha, firstI_at hy]; simp [hc4]), rfl⟩, (wk 1 0)⟩
        omega
  · have hc1 := bp hb1
    have e := row_no rulA hj hc1
    subst e
    refine aw_exit ?_
    refine x_thenE ?_
    clear hK K
    refine x_thenE ?_
    refine ABlock_out ?_
    refine x_then ?_
    refine hK _ ?_
    clear hK K
    refine aw_seq (fun K hK => ?_)
    refine aw_region ?_
    refine al_p rfl (st_assign rfl ?_)
    refine al_nil ?_
    refine x_then ?_
    refine hK _ ?_
    clear hK K
    refine aw_ret ?_
    refine e_ret ?_
    first | (exfalso; first | contradiction | omega) | (exact vi (by rw [← ha, firstI_end]))

end
end Go.Proofs.YtokaaebbmcldaaaGreatDoor
