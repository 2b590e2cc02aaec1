/-
  Part 5 of the proof of MountsWithinP: what the statement's proof uses of the texts in wip/tpl.
-/
import Derived.Laws.StructEq
import Derived.Test.YtgliiknfmlmddaaMw4
namespace Go.Proofs.Ytgliiknfmlmddaa
open Go.RowKit

theorem find_at {α : Type} {p : α → Bool} {l : List α} {j : Nat} {x : α} (hx : l[j]? = some x) (hp : p x = true) (h : ∀ i y, i < j → l[i]? = some y → p y = false) : l.find? p = some x := by
  have := findIdx?_first hx hp h
  rw [← find?_of_findIdx?, this]
  simpa using hx
theorem find_no {α : Type} {p : α → Bool} {l : List α} (h : ∀ i y, i < l.length → l[i]? = some y → p y = false) : l.find? p = none := by
  rw [List.find?_eq_none]
  intro x hx
  obtain ⟨i, hi, rfl⟩ := List.mem_iff_getElem.1 hx
  simp [h i _ hi (List.getElem?_eq_getElem hi)]
theorem has_some {f : Fls} {a : Fil} (h : hasG f a = true) : nodeL f a = some (nodG f a) := by
  unfold hasG at h
  unfold nodG
  cases hn : nodeL f a with
  | none => rw [hn] at h; cases h
  | some n => rfl
theorem has_none {f : Fls} {a : Fil} (h : hasG f a = false) : nodeL f a = none := by
  unfold hasG at h
  cases hn : nodeL f a with
  | none => rfl
  | some n => rw [hn] at h; cases h
section
set_option maxRecDepth 10000
set_option maxHeartbeats 1000000
theorem Rlook (f : Fls) (a : Fil) (name : Str) (hf : FlsB f) : AFn Try.prog 82 [.agg (flsA f), .agg (filA a), .v (.string name)] (fun r => r = .tup [.agg (filA (lookL f a name).1), .v (.int .i64 (lookL f a name).2)]) := by
  have hen := nodG_ents hf a
  refine enter Try.func82 rfl rfl rfl rfl rfl 0 rfl ?_
  refine p_sr (fun K hK => ?_)
  first | refine al_p rfl (s_boxA rfl rfl (by repeat constructor) ?_) | refine al_p rfl (s_box rfl rfl (by repeat constructor) ?_)
  first | refine al_p rfl (s_boxA rfl rfl (by repeat constructor) ?_) | refine al_p rfl (s_box rfl rfl (by repeat constructor) ?_)
  refine al_p rfl (s_alloc (by repeat constructor) ?_)
  refine p_as ?_
  refine al_nil (x_then (hK _ ?_))
  clear hK K
  refine p_sr (fun K hK => ?_)
  refine al_p rfl (st_loadBW rfl rfl rfl ?_)
  refine al_p rfl (st_loadBW rfl rfl rfl ?_)
  refine al_p rfl (q_call (Rnode f a hf) ?_)
  rintro r rfl
  refine p_mv ?_
  refine al_p rfl (st_extract rfl rfl ?_)
  refine al_p rfl (st_extract rfl rfl ?_)
  refine al_p rfl (s_alloc (by repeat constructor) ?_)
  refine p_st ?_
  refine p_as ?_
  refine al_nil (x_then (hK _ ?_))
  clear hK K
  refine aw_seq (fun K hK => ?_)
  refine p_sr (fun K hK => ?_)
  refine p_mv ?_
  refine al_p rfl (st_not rfl ?_)
  refine al_nil (x_then (hK _ ?_))
  clear hK K
  refine aw_cond rfl (fun hb1 => ?_) (fun hb1 => ?_)
  · have hc1 := bp hb1
    have e := has_none hc1
    refine p_sr (fun K hK => ?_)
    refine p_bd ?_
    refine p_st ?_
    refine p_as ?_
    refine al_nil (x_then (hK _ ?_))
    clear hK K
    refine aw_ret ?_
    refine x_thenR ?_
    clear hK K
    refine e_ret ?_
    rw [show lookL f a name = ((0, 0), 2) by simp [lookL, e]]
    rfl
  · have hc1 := bp hb1
    have e := has_some hc1
    refine aw_skip ?_
    refine x_then ?_
    refine hK _ ?_
    clear hK K
    refine aw_seq (fun K hK => ?_)
    refine p_sr (fun K hK => ?_)
    refine al_p rfl (st_fieldB rfl ?_)
    refine al_p rfl (st_loadB1 rfl rfl rfl ?_)
    first | refine al_p rfl (st_neq rfl rfl ?_) | refine al_p rfl (st_neqS rfl rfl ?_) | refine al_p rfl (st_neqB (by kernel_rfl) rfl rfl ?_)
    refine al_nil (x_then (hK _ ?_))
    clear hK K
    refine aw_cond rfl (fun hb2 => ?_) (fun hb2 => ?_)
    · have hc2 := bp hb2
      refine p_sr (fun K hK => ?_)
      refine p_bd ?_
      refine p_st ?_
      refine p_as ?_
      refine al_nil (x_then (hK _ ?_))
      clear hK K
      refine aw_ret ?_
      refine x_thenR ?_
      clear hK K
      refine e_ret ?_
      rw [show lookL f a name = ((0, 0), 20) by simp [lookL, e, hc2]]
      rfl
    · have hc2 := bp hb2
      refine aw_skip ?_
      refine x_then ?_
      refine hK _ ?_
      clear hK K
      refine aw_seq (fun K hK => ?_)
      refine p_sr (fun K hK => ?_)
      refine p_as ?_
      refine al_nil (x_then (hK _ ?_))
      clear hK K
      refine aw_block ?_
      refine aw_loopW (fun m s => ∃ j : Nat, j ≤ (nodG f a).entries.length ∧ m = (nodG f a).entries.length - j ∧ (∀ i y, i < j → (nodG f a).entries[i]? = some y → decide (y.1 = name) = false) ∧ s = ⟨look [(2, .v (.string name)), (4, .bp 1 0), (6, .bp 2 0), (8, .bp 3 0), (10, .v (.int .i64 (j : Int)))], ⟨[flsA f, filA a, [.v (.int .i64 0), .v (.int .i64 0)], nodA (nodG f a)], []⟩⟩) ((nodG f a).entries.length) ((wk 4 0)) (⟨0, by omega, rfl, fun i y hi => by omega, rfl⟩) ?_
      rintro m s ⟨j, hj, rfl, ha, rfl⟩
      refine aw_seq (fun K hK => ?_)
      refine p_sr (fun K hK => ?_)
      refine p_mv ?_
      refine al_p rfl (st_fieldB rfl ?_)
      refine al_p rfl (st_loadB1 rfl rfl rfl ?_)
      first | refine al_p rfl (st_len rfl ?_) | refine al_p rfl (st_lenS (by kernel_rfl) rfl ?_) | refine al_p rfl (st_len0 rfl ?_)
      first | refine al_p rfl (st_lss rfl rfl ?_) | refine al_p rfl (st_lssS rfl rfl ?_)
      refine al_nil (x_then (hK _ ?_))
      clear hK K
      refine aw_cond rfl (fun hb3 => ?_) (fun hb3 => ?_)
      · have hc3 := bp hb3
        obtain ⟨hlt, x, hy, hrow, -⟩ := row_at entA hc3
        refine aw_skip ?_
        refine x_then ?_
        refine hK _ ?_
        clear hK K
        refine aw_seq (fun K hK => ?_)
        refine aw_block ?_
        refine p_sr (fun K hK => ?_)
        refine al_p rfl (st_fieldB rfl ?_)
        refine al_p rfl (st_loadB1 rfl rfl rfl ?_)
        refine p_mv ?_
        refine al_p rfl (st_index rfl rfl rfl (by first | assumption | rfl) ?_)
        refine al_p rfl (st_fieldF rfl ?_)
        refine al_p rfl (st_loadF1 rfl rfl ?_)
        refine p_mv ?_
        first | refine al_p rfl (st_eql rfl rfl ?_) | refine al_p rfl (st_eqlS rfl rfl ?_) | refine al_p rfl (st_eqlB (by kernel_rfl) rfl rfl ?_)
        refine al_nil (x_then (hK _ ?_))
        clear hK K
        refine aw_cond rfl (fun hb4 => ?_) (fun hb4 => ?_)
        · have hc4 := bp hb4
          refine aw_seq (fun K hK => ?_)
          refine aw_draw (fun h => ∃ r, h.bx = [flsA f, filA a, r, nodA (nodG f a)]) 11 (by kernel_rfl) ?_
          refine aa_t (i := 0) rfl rfl (by kernel_rfl) (by first | rfl | exact wan_y rfl rfl (beq_tt ‹_›) | exact wan_y rfl rfl (beq_ff ‹_›) | exact wan_y rfl rfl (by simp [*])) (fun h0 hS => st_fieldB rfl ⟨rfl, rfl⟩) ⟨_, rfl⟩ ?_
          first | refine aa_t (i := 1) rfl rfl (by kernel_rfl) (by first | rfl | exact wan_y rfl rfl (beq_tt ‹_›) | exact wan_y rfl rfl (beq_ff ‹_›) | exact wan_y rfl rfl (by simp [*])) (fun h0 hS => st_loadB1 (row := filA a) rfl (by obtain ⟨_, e⟩ := hS; rw [e]; rfl) rfl ⟨rfl, rfl⟩) ⟨_, rfl⟩ ?_ | refine aa_t (i := 1) rfl rfl (by kernel_rfl) (by first | rfl | exact wan_y rfl rfl (beq_tt ‹_›) | exact wan_y rfl rfl (beq_ff ‹_›) | exact wan_y rfl rfl (by simp [*])) (fun h0 hS => st_loadB1 (row := nodA (nodG f a)) rfl (by obtain ⟨_, e⟩ := hS; rw [e]; rfl) rfl ⟨rfl, rfl⟩) ⟨_, rfl⟩ ?_ | refine aa_t (i := 1) rfl rfl (by kernel_rfl) (by first | rfl | exact wan_y rfl rfl (beq_tt ‹_›) | exact wan_y rfl rfl (beq_ff ‹_›) | exact wan_y rfl rfl (by simp [*])) (fun h0 hS => st_loadB1 rfl rfl rfl ⟨rfl, rfl⟩) ⟨_, rfl⟩ ?_
          refine aa_t (i := 2) rfl rfl (by kernel_rfl) (by first | rfl | exact wan_y rfl rfl (beq_tt ‹_›) | exact wan_y rfl rfl (beq_ff ‹_›) | exact wan_y rfl rfl (by simp [*])) (fun h0 hS => st_fieldB rfl ⟨rfl, rfl⟩) ⟨_, rfl⟩ ?_
          first | refine aa_t (i := 3) rfl rfl (by kernel_rfl) (by first | rfl | exact wan_y rfl rfl (beq_tt ‹_›) | exact wan_y rfl rfl (beq_ff ‹_›) | exact wan_y rfl rfl (by simp [*])) (fun h0 hS => st_loadB1 (row := filA a) rfl (by obtain ⟨_, e⟩ := hS; rw [e]; rfl) rfl ⟨rfl, rfl⟩) ⟨_, rfl⟩ ?_ | refine aa_t (i := 3) rfl rfl (by kernel_rfl) (by first | rfl | exact wan_y rfl rfl (beq_tt ‹_›) | exact wan_y rfl rfl (beq_ff ‹_›) | exact wan_y rfl rfl (by simp [*])) (fun h0 hS => st_loadB1 (row := nodA (nodG f a)) rfl (by obtain ⟨_, e⟩ := hS; rw [e]; rfl) rfl ⟨rfl, rfl⟩) ⟨_, rfl⟩ ?_ | refine aa_t (i := 3) rfl rfl (by kernel_rfl) (by first | rfl | exact wan_y rfl rfl (beq_tt ‹_›) | exact wan_y rfl rfl (beq_ff ‹_›) | exact wan_y rfl rfl (by simp [*])) (fun h0 hS => st_loadB1 rfl rfl rfl ⟨rfl, rfl⟩) ⟨_, rfl⟩ ?_
          refine aa_t (i := 4) rfl rfl (by kernel_rfl) (by first | rfl | exact wan_y rfl rfl (beq_tt ‹_›) | exact wan_y rfl rfl (beq_ff ‹_›) | exact wan_y rfl rfl (by simp [*])) (fun h0 hS => st_move rfl ⟨rfl, rfl⟩) ⟨_, rfl⟩ ?_
          refine aa_t (i := 5) rfl rfl (by kernel_rfl) (by first | rfl | exact wan_y rfl rfl (beq_tt ‹_›) | exact wan_y rfl rfl (beq_ff ‹_›) | exact wan_y rfl rfl (by simp [*])) (fun h0 hS => st_index rfl rfl rfl (by first | assumption | rfl) ⟨rfl, rfl⟩) ⟨_, rfl⟩ ?_
          refine aa_t (i := 6) rfl rfl (by kernel_rfl) (by first | rfl | exact wan_y rfl rfl (beq_tt ‹_›) | exact wan_y rfl rfl (beq_ff ‹_›) | exact wan_y rfl rfl (by simp [*])) (fun h0 hS => st_fieldF rfl ⟨rfl, rfl⟩) ⟨_, rfl⟩ ?_
          first | refine aa_t (i := 7) rfl rfl (by kernel_rfl) (by first | rfl | exact wan_y rfl rfl (beq_tt ‹_›) | exact wan_y rfl rfl (beq_ff ‹_›) | exact wan_y rfl rfl (by simp [*])) (fun h0 hS => st_loadB1 (row := filA a) rfl (by obtain ⟨_, e⟩ := hS; rw [e]; rfl) rfl ⟨rfl, rfl⟩) ⟨_, rfl⟩ ?_ | refine aa_t (i := 7) rfl rfl (by kernel_rfl) (by first | rfl | exact wan_y rfl rfl (beq_tt ‹_›) | exact wan_y rfl rfl (beq_ff ‹_›) | exact wan_y rfl rfl (by simp [*])) (fun h0 hS => st_loadB1 (row := nodA (nodG f a)) rfl (by obtain ⟨_, e⟩ := hS; rw [e]; rfl) rfl ⟨rfl, rfl⟩) ⟨_, rfl⟩ ?_ | refine aa_t (i := 7) rfl rfl (by kernel_rfl) (by first | rfl | exact wan_y rfl rfl (beq_tt ‹_›) | exact wan_y rfl rfl (beq_ff ‹_›) | exact wan_y rfl rfl (by simp [*])) (fun h0 hS => st_loadF1 rfl rfl ⟨rfl, rfl⟩) ⟨_, rfl⟩ ?_
          refine aa_t (i := 8) rfl rfl (by kernel_rfl) (by first | rfl | exact wan_y rfl rfl (beq_tt ‹_›) | exact wan_y rfl rfl (beq_ff ‹_›) | exact wan_y rfl rfl (by simp [*])) (fun h0 hS => st_build (by repeat (first | exact FillA.nil _ | (apply FillA.cons; (focus exact rfl); (focus exact rfl); (focus exact rfl); (focus exact rfl); (focus exact rfl); (focus (repeat constructor))))) ⟨rfl, rfl⟩) ⟨_, rfl⟩ ?_
          refine aa_c0 (i := 9) rfl (by kernel_rfl) (by first | rfl | exact wan_y rfl rfl (beq_tt ‹_›) | exact wan_y rfl rfl (beq_ff ‹_›) | exact wan_y rfl rfl (by simp [*])) (s_store rfl rfl rfl rfl rfl rfl (by repeat constructor) (by repeat constructor) ?_)
          refine ⟨.inr ⟨_, rfl⟩, ?_⟩
          refine aa_t (i := 10) rfl rfl (by kernel_rfl) (by first | rfl | exact wan_y rfl rfl (beq_tt ‹_›) | exact wan_y rfl rfl (beq_ff ‹_›) | exact wan_y rfl rfl (by simp [*])) (fun h0 hS => st_assign rfl ⟨rfl, rfl⟩) ⟨_, rfl⟩ ?_
          refine aa_done (by kernel_rfl) ?_ _
          refine x_then ?_
          refine hK _ ?_
          clear hK K
          refine aw_ret ?_
          refine x_blockR ?_
          refine x_thenR ?_
          clear hK K
          refine x_thenR ?_
          refine x_blockR ?_
          refine x_thenR ?_
          clear hK K
          refine e_ret ?_
          rw [show lookL f a name = ((a.1, x.2), 0) by simp only [lookL, e]; rw [if_pos (by omega), find_at hy (by simpa using hc4) ha]]
          rfl
        · have hc4 := bp hb4
          refine aw_skip ?_
          refine x_blockN ?_
          refine x_then ?_
          refine hK _ ?_
          clear hK K
          refine aw_region ?_
          refine p_mv ?_
          first | refine al_p rfl (st_add64 rfl rfl (by omega) ?_) | refine al_p rfl (st_addS rfl rfl (by omega) ?_) | refine al_p rfl (st_add rfl rfl ?_)
          refine p_as ?_
          refine al_nil ?_
          refine x_then ?_
          refine ⟨_, _, ?_, ⟨j + 1, by omega, rfl, upto_snoc hy ha (by simpa using hc4), rfl⟩, (wk 4 0)⟩
          omega
      · have hc3 := bp hb3
        have e3 := row_no entA hj hc3
        subst e3
        refine aw_exit ?_
        refine x_thenE ?_
        clear hK K
        refine x_thenE ?_
        refine ABlock_out ?_
        refine x_then ?_
        refine hK _ ?_
        clear hK K
        refine p_sr (fun K hK => ?_)
        refine p_bd ?_
        refine p_st ?_
        refine p_as ?_
        refine al_nil (x_then (hK _ ?_))
        clear hK K
        refine aw_ret ?_
        refine e_ret ?_
        rw [show lookL f a name = ((0, 0), 2) by simp only [lookL, e]; rw [if_pos (by omega), find_no ha]]
        rfl

end
end Go.Proofs.Ytgliiknfmlmddaa
namespace Go.Proofs.Ytgliiknfmlmddaa
open Go.RowKit

theorem st_strIdx {P : Program} {ev : Operand → Option AV} {h : AH} {R : AV → AH → Prop} {d : Option Tmp} {ty : TypeId} {pos : String} {af : Array Edge} {gd : Option (Nat × Bool)} {T : TypeId} {x ix : Operand} {s : ByteArray} {n : Nat} {k : IntKind} {i : Int} (hu : P.underlying T = some .string)
    (hx : ev x = some (.v (.string s))) (hi : ev ix = some (.v (.int k i))) (hn : i = (n : Int)) (hlt : n < s.size) (hR : R (.v (.int .u8 (s[n].toNat : Int))) h) : AStep P ⟨d, .index T x ix, ty, pos, af, gd⟩ ev h R := by
  refine st_val (fun _ G w ec _ he => ?_) hR
  have h1 := he x (by simp [Op.operands]) _ hx
  have h2 := he ix (by simp [Op.operands]) _ hi
  simp only [rep] at h1 h2
  subst hn
  refine ⟨.int .u8 (s[n].toNat : Int), ?_, by simp only [rep]⟩
  have e : s[n]? = some s[n] := getElem?_pos s n hlt
  simp [execOp, h1, h2, Instr.index, asIntOf, run_underlying hu, e]
theorem name_eq (s : Str) : nameL s = if s.size < 1 ∨ 12 < s.size then false else if s = ⟨#[46]⟩ then false else if s = ⟨#[46, 46]⟩ then false else s.data.toList.all byteOK := by
  unfold nameL
  have e1 := str_eq s ⟨#[46]⟩
  have e2 := str_eq s ⟨#[46, 46]⟩
  rw [show (⟨#[46]⟩ : ByteArray).toList = [46] by rw [ByteArray.toList_eq]] at e1
  rw [show (⟨#[46, 46]⟩ : ByteArray).toList = [46, 46] by rw [ByteArray.toList_eq]] at e2
  rw [e1, e2]
  simp only [decide_eq_true_eq]
theorem byte_ok {c : UInt8} (h1 : ¬ (c.toNat : Int) = 0) (h2 : ¬ (c.toNat : Int) = 47) : byteOK c = true := by
  unfold byteOK; simp; omega
section
set_option maxRecDepth 10000
set_option maxHeartbeats 1000000
theorem Rname (s : Str) (hs : s.size ≤ 100000) : AFn Try.prog 66 [.v (.string s)] (fun r => r = .v (.bool (nameL s))) := by
  refine enter Try.func66 rfl rfl rfl rfl rfl 0 rfl ?_
  refine p_sr (fun K hK => ?_)
  refine p_as ?_
  refine al_nil (x_then (hK _ ?_))
  clear hK K
  refine aw_seq (fun K hK => ?_)
  refine p_sr (fun K hK => ?_)
  refine p_mv ?_
  first | refine al_p rfl (st_len rfl ?_) | refine al_p rfl (st_lenS (by kernel_rfl) rfl ?_) | refine al_p rfl (st_len0 rfl ?_)
  first | refine al_p rfl (st_lss rfl rfl ?_) | refine al_p rfl (st_lssS rfl rfl ?_)
  refine p_mv ?_
  refine al_gs false rfl rfl (fun hb1 => ?_) (fun hb1 => ?_)
  · have hc1 := bp hb1
    refine g_n ?_
    refine g_n ?_
    refine g_n ?_
    refine al_p rfl (p_t ?_)
    refine p_mv ?_
    refine g_n ?_
    refine g_n ?_
    refine al_p rfl (p_t ?_)
    refine p_mv ?_
    refine g_n ?_
    refine g_n ?_
    refine al_p rfl (p_t ?_)
    refine al_nil (x_then (hK _ ?_))
    clear hK K
    refine aw_cy rfl (by first | rfl | assumption | simp [*]) ?_
    refine p_sr (fun K hK => ?_)
    refine p_as ?_
    refine al_nil (x_then (hK _ ?_))
    clear hK K
    refine aw_ret ?_
    refine x_thenR ?_
    clear hK K
    refine e_ret ?_
    exact vb (by rw [name_eq, if_pos (by omega)])
  · have hc1 := bp hb1
    refine g_y (st_move rfl ?_)
    first | refine g_y (st_len rfl ?_) | refine g_y (st_lenS (by kernel_rfl) rfl ?_) | refine g_y (st_len0 rfl ?_)
    refine g_y (st_gtr rfl rfl ?_)
    refine al_p rfl (p_f ?_)
    refine p_mv ?_
    refine al_gs false rfl rfl (fun hb2 => ?_) (fun hb2 => ?_)
    · have hc2 := bp hb2
      refine g_n ?_
      refine g_n ?_
      refine al_p rfl (p_t ?_)
      refine p_mv ?_
      refine g_n ?_
      refine g_n ?_
      refine al_p rfl (p_t ?_)
      refine al_nil (x_then (hK _ ?_))
      clear hK K
      refine aw_cy rfl (by first | rfl | assumption | simp [*]) ?_
      refine p_sr (fun K hK => ?_)
      refine p_as ?_
      refine al_nil (x_then (hK _ ?_))
      clear hK K
      refine aw_ret ?_
      refine x_thenR ?_
      clear hK K
      refine e_ret ?_
      exact vb (by rw [name_eq, if_pos (by omega)])
    · have hc2 := bp hb2
      refine g_y (st_move rfl ?_)
      first | refine g_y (st_eql rfl rfl ?_) | refine g_y (st_eqlS rfl rfl ?_) | refine g_y (st_eqlB (by kernel_rfl) rfl rfl ?_)
      refine al_p rfl (p_f ?_)
      refine p_mv ?_
      refine al_gs false rfl rfl (fun hb3 => ?_) (fun hb3 => ?_)
      · have hc3 := bp hb3
        refine g_n ?_
        refine g_n ?_
        refine al_p rfl (p_t ?_)
        refine al_nil (x_then (hK _ ?_))
        clear hK K
        refine aw_cy rfl (by first | rfl | assumption | simp [*]) ?_
        refine p_sr (fun K hK => ?_)
        refine p_as ?_
        refine al_nil (x_then (hK _ ?_))
        clear hK K
        refine aw_ret ?_
        refine x_thenR ?_
        clear hK K
        refine e_ret ?_
        exact vb (by rw [name_eq, if_neg (by omega), if_pos hc3])
      · have hc3 := bp hb3
        refine g_y (st_move rfl ?_)
        first | refine g_y (st_eql rfl rfl ?_) | refine g_y (st_eqlS rfl rfl ?_) | refine g_y (st_eqlB (by kernel_rfl) rfl rfl ?_)
        refine al_p rfl (p_f ?_)
        refine al_nil (x_then (hK _ ?_))
        clear hK K
        refine aw_cond rfl (fun hb4 => ?_) (fun hb4 => ?_)
        · have hc4 := bp hb4
          refine p_sr (fun K hK => ?_)
          refine p_as ?_
          refine al_nil (x_then (hK _ ?_))
          clear hK K
          refine aw_ret ?_
          refine x_thenR ?_
          clear hK K
          refine e_ret ?_
          exact vb (by rw [name_eq, if_neg (by omega), if_neg hc3, if_pos hc4])
        · have hc4 := bp hb4
          refine aw_skip ?_
          refine x_then ?_
          refine hK _ ?_
          clear hK K
          refine aw_seq (fun K hK => ?_)
          refine p_sr (fun K hK => ?_)
          refine p_as ?_
          refine al_nil (x_then (hK _ ?_))
          clear hK K
          refine aw_block ?_
          refine aw_loopW (fun m t => ∃ j : Nat, j ≤ s.size ∧ m = s.size - j ∧ (∀ i (hi : i < s.size), i < j → byteOK s[i] = true) ∧ t = ⟨look [(0, .v (.string s)), (3, .v (.int .i64 (j : Int)))], ⟨[], []⟩⟩) (s.size) ((wk 0 0)) (⟨0, by omega, rfl, fun i _ hi => by omega, rfl⟩) ?_
          rintro m t ⟨j, hj, rfl, ha, rfl⟩
          refine aw_seq (fun K hK => ?_)
          refine p_sr (fun K hK => ?_)
          refine p_mv ?_
          refine p_mv ?_
          first | refine al_p rfl (st_len rfl ?_) | refine al_p rfl (st_lenS (by kernel_rfl) rfl ?_) | refine al_p rfl (st_len0 rfl ?_)
          first | refine al_p rfl (st_lss rfl rfl ?_) | refine al_p rfl (st_lssS rfl rfl ?_)
          refine al_nil (x_then (hK _ ?_))
          clear hK K
          refine aw_cond rfl (fun hb5 => ?_) (fun hb5 => ?_)
          · have hc5 := bp hb5
            have hlt : j < s.size := by omega
            refine aw_skip ?_
            refine x_then ?_
            refine hK _ ?_
            clear hK K
            refine aw_seq (fun K hK => ?_)
            refine aw_block ?_
            refine p_sr (fun K hK => ?_)
            refine p_mv ?_
            refine p_mv ?_
            refine al_p rfl (st_strIdx (n := j) Try.underlying9 rfl rfl rfl hlt ?_)
            first | refine al_p rfl (st_eql rfl rfl ?_) | refine al_p rfl (st_eqlS rfl rfl ?_) | refine al_p rfl (st_eqlB (by kernel_rfl) rfl rfl ?_)
            refine p_mv ?_
            refine al_gs false rfl rfl (fun hb6 => ?_) (fun hb6 => ?_)
            · have hc6 := bp hb6
              refine g_n ?_
              refine g_n ?_
              refine g_n ?_
              refine g_n ?_
              refine al_p rfl (p_t ?_)
              refine al_nil (x_then (hK _ ?_))
              clear hK K
              refine aw_cy rfl (by first | rfl | assumption | simp [*]) ?_
              refine p_sr (fun K hK => ?_)
              refine p_as ?_
              refine al_nil (x_then (hK _ ?_))
              clear hK K
              refine aw_ret ?_
              refine x_blockR ?_
              refine x_thenR ?_
              clear hK K
              refine x_thenR ?_
              refine x_blockR ?_
              refine x_thenR ?_
              clear hK K
              refine e_ret ?_
              exact vb (by rw [name_eq, if_neg (by omega), if_neg hc3, if_neg hc4, all_not hlt (by unfold byteOK; simp [hc6])])
            · have hc6 := bp hb6
              refine g_y (st_move rfl ?_)
              refine g_y (st_move rfl ?_)
              refine g_y (st_strIdx (n := j) Try.underlying9 rfl rfl rfl hlt ?_)
              first | refine g_y (st_eql rfl rfl ?_) | refine g_y (st_eqlS rfl rfl ?_) | refine g_y (st_eqlB (by kernel_rfl) rfl rfl ?_)
              refine al_p rfl (p_f ?_)
              refine al_nil (x_then (hK _ ?_))
              clear hK K
              refine aw_cond rfl (fun hb7 => ?_) (fun hb7 => ?_)
              · have hc7 := bp hb7
                refine p_sr (fun K hK => ?_)
                refine p_as ?_
                refine al_nil (x_then (hK _ ?_))
                clear hK K
                refine aw_ret ?_
                refine x_blockR ?_
                refine x_thenR ?_
                clear hK K
                refine x_thenR ?_
                refine x_blockR ?_
                refine x_thenR ?_
                clear hK K
                refine e_ret ?_
                exact vb (by rw [name_eq, if_neg (by omega), if_neg hc3, if_neg hc4, all_not hlt (by unfold byteOK; simp [hc7])])
              · have hc7 := bp hb7
                refine aw_skip ?_
                refine x_blockN ?_
                refine x_then ?_
                refine hK _ ?_
                clear hK K
                refine aw_region ?_
                refine p_mv ?_
                first | refine al_p rfl (st_add64 rfl rfl (by omega) ?_) | refine al_p rfl (st_addS rfl rfl (by omega) ?_) | refine al_p rfl (st_add rfl rfl ?_)
                refine p_as ?_
                refine al_nil ?_
                refine x_then ?_
                refine ⟨_, _, ?_, ⟨j + 1, by omega, rfl, bytes_snoc hlt ha (byte_ok hc6 hc7), rfl⟩, (wk 0 0)⟩
                omega
          · have hc5 := bp hb5
            obtain rfl : j = s.size := by omega
            refine aw_exit ?_
            refine x_thenE ?_
            clear hK K
            refine x_thenE ?_
            refine ABlock_out ?_
            refine x_then ?_
            refine hK _ ?_
            clear hK K
            refine p_sr (fun K hK => ?_)
            refine p_as ?_
            refine al_nil (x_then (hK _ ?_))
            clear hK K
            refine aw_ret ?_
            refine e_ret ?_
            exact vb (by rw [name_eq, if_neg (by omega), if_neg hc3, if_neg hc4, all_upto (fun i hi => ha i hi hi)])

end
end Go.Proofs.Ytgliiknfmlmddaa
namespace Go.Proofs.Ytgliiknfmlmddaa
open Go.RowKit

theorem fullL_eq (f : Fls) (a : Fil) : fullL f a = decide (12 ≤ (nodG f a).entries.length) := by
  unfold fullL nodG
  cases nodeL f a <;> simp [Nod.zero]
theorem emptyL_eq (f : Fls) (a : Fil) : emptyL f a = decide ((nodG f a).entries.length = 0) := by
  unfold emptyL nodG
  cases nodeL f a <;> simp [Nod.zero]
theorem linksF_at {f : Fls} {a : Fil} {k : Nat} {d : Dvc} {n : Nod} (hk : a.1 = (k : Int)) (hd : f[k]? = some d) (hn : nodeL f a = some n) : linksF f a = cntN a.2 d.nodes := by
  unfold linksF
  rw [hn, hk, atI_nat, hd]
section
set_option maxRecDepth 10000
set_option maxHeartbeats 1000000
theorem Rtarget (s : Str) (hs : s.size ≤ 100000) : AFn Try.prog 105 [.v (.string s)] (fun r => r = .v (.bool (targetL s))) := by
  refine enter Try.func105 rfl rfl rfl rfl rfl 0 rfl ?_
  refine p_sr (fun K hK => ?_)
  refine p_as ?_
  refine al_nil (x_then (hK _ ?_))
  clear hK K
  refine aw_seq (fun K hK => ?_)
  refine p_sr (fun K hK => ?_)
  refine p_as ?_
  refine al_nil (x_then (hK _ ?_))
  clear hK K
  refine aw_block ?_
  refine aw_loopW (fun m t => ∃ j : Nat, j ≤ s.size ∧ m = s.size - j ∧ (∀ i (hi : i < s.size), i < j → (!((s[i].toNat : Int) == 0)) = true) ∧ t = ⟨look [(0, .v (.string s)), (3, .v (.int .i64 (j : Int)))], ⟨[], []⟩⟩) (s.size) ((wk 0 0)) (⟨0, by omega, rfl, fun i _ hi => by omega, rfl⟩) ?_
  rintro m t ⟨j, hj, rfl, ha, rfl⟩
  refine aw_seq (fun K hK => ?_)
  refine p_sr (fun K hK => ?_)
  refine p_mv ?_
  refine p_mv ?_
  first | refine al_p rfl (st_len rfl ?_) | refine al_p rfl (st_lenS (by kernel_rfl) rfl ?_) | refine al_p rfl (st_len0 rfl ?_)
  first | refine al_p rfl (st_lss rfl rfl ?_) | refine al_p rfl (st_lssS rfl rfl ?_)
  refine al_nil (x_then (hK _ ?_))
  clear hK K
  refine aw_cond rfl (fun hb1 => ?_) (fun hb1 => ?_)
  · have hc1 := bp hb1
    have hlt : j < s.size := by omega
    refine aw_skip ?_
    refine x_then ?_
    refine hK _ ?_
    clear hK K
    refine aw_seq (fun K hK => ?_)
    refine aw_block ?_
    refine p_sr (fun K hK => ?_)
    refine p_mv ?_
    refine p_mv ?_
    refine al_p rfl (st_strIdx (n := j) Try.underlying9 rfl rfl rfl hlt ?_)
    first | refine al_p rfl (st_eql rfl rfl ?_) | refine al_p rfl (st_eqlS rfl rfl ?_) | refine al_p rfl (st_eqlB (by kernel_rfl) rfl rfl ?_)
    refine al_nil (x_then (hK _ ?_))
    clear hK K
    refine aw_cond rfl (fun hb2 => ?_) (fun hb2 => ?_)
    · have hc2 := bp hb2
      refine p_sr (fun K hK => ?_)
      refine p_as ?_
      refine al_nil (x_then (hK _ ?_))
      clear hK K
      refine aw_ret ?_
      refine x_blockR ?_
      refine x_thenR ?_
      clear hK K
      refine x_thenR ?_
      refine x_blockR ?_
      refine x_thenR ?_
      clear hK K
      refine e_ret ?_
      exact vb (by unfold targetL; rw [all_not hlt (by simp [hc2])]; simp)
    · have hc2 := bp hb2
      refine aw_skip ?_
      refine x_blockN ?_
      refine x_then ?_
      refine hK _ ?_
      clear hK K
      refine aw_region ?_
      refine p_mv ?_
      first | refine al_p rfl (st_add64 rfl rfl (by omega) ?_) | refine al_p rfl (st_addS rfl rfl (by omega) ?_) | refine al_p rfl (st_add rfl rfl ?_)
      refine p_as ?_
      refine al_nil ?_
      refine x_then ?_
      refine ⟨_, _, ?_, ⟨j + 1, by omega, rfl, bytes_snoc (p := fun c => !((c.toNat : Int) == 0)) hlt ha (by simpa using hc2), rfl⟩, (wk 0 0)⟩
      omega
  · have hc1 := bp hb1
    obtain rfl : j = s.size := by omega
    have hal := all_upto (p := fun c => !((c.toNat : Int) == 0)) (fun i hi => ha i hi hi)
    refine aw_exit ?_
    refine x_thenE ?_
    clear hK K
    refine x_thenE ?_
    refine ABlock_out ?_
    refine x_then ?_
    refine hK _ ?_
    clear hK K
    refine p_sr (fun K hK => ?_)
    refine p_mv ?_
    first | refine al_p rfl (st_len rfl ?_) | refine al_p rfl (st_lenS (by kernel_rfl) rfl ?_) | refine al_p rfl (st_len0 rfl ?_)
    first | refine al_p rfl (st_geq rfl rfl ?_) | refine al_p rfl (st_geqS rfl rfl ?_)
    refine p_mv ?_
    refine al_gs true rfl rfl (fun hb3 => ?_) (fun hb3 => ?_)
    · have hc3 := bp hb3
      refine g_y (st_move rfl ?_)
      first | refine g_y (st_len rfl ?_) | refine g_y (st_lenS (by kernel_rfl) rfl ?_) | refine g_y (st_len0 rfl ?_)
      refine g_y (st_leq rfl rfl ?_)
      refine al_p rfl (p_t ?_)
      refine p_as ?_
      refine al_nil (x_then (hK _ ?_))
      clear hK K
      refine aw_ret ?_
      refine e_ret ?_
      exact vb (by unfold targetL; rw [hal, Bool.eq_iff_iff]; simp; omega)
    · have hc3 := bp hb3
      refine g_n ?_
      refine g_n ?_
      refine g_n ?_
      refine al_p rfl (p_f ?_)
      refine p_as ?_
      refine al_nil (x_then (hK _ ?_))
      clear hK K
      refine aw_ret ?_
      refine e_ret ?_
      exact vb (by unfold targetL; rw [hal, Bool.eq_iff_iff]; simp; omega)

theorem Rplace (f : Fls) (a : Fil) (name : Str) (hf : FlsB f) (hs : name.size ≤ 100000) : AFn Try.prog 80 [.agg (flsA f), .agg (filA a), .v (.string name)] (fun r => r = .v (.int .i64 (placeL f a name))) := by
  refine enter Try.func80 rfl rfl rfl rfl rfl 0 rfl ?_
  refine p_sr (fun K hK => ?_)
  first | refine al_p rfl (s_boxA rfl rfl (by repeat constructor) ?_) | refine al_p rfl (s_box rfl rfl (by repeat constructor) ?_)
  first | refine al_p rfl (s_boxA rfl rfl (by repeat constructor) ?_) | refine al_p rfl (s_box rfl rfl (by repeat constructor) ?_)
  refine p_as ?_
  refine al_nil (x_then (hK _ ?_))
  clear hK K
  refine p_sr (fun K hK => ?_)
  refine al_p rfl (st_loadBW rfl rfl rfl ?_)
  refine al_p rfl (st_loadBW rfl rfl rfl ?_)
  refine al_p rfl (q_call (Rnode f a hf) ?_)
  rintro r rfl
  refine p_mv ?_
  refine al_p rfl (st_extract rfl rfl ?_)
  refine al_p rfl (st_extract rfl rfl ?_)
  refine al_p rfl (s_alloc (by repeat constructor) ?_)
  refine p_st ?_
  refine p_as ?_
  refine al_nil (x_then (hK _ ?_))
  clear hK K
  refine aw_seq (fun K hK => ?_)
  refine p_sr (fun K hK => ?_)
  refine p_mv ?_
  refine al_p rfl (st_not rfl ?_)
  refine al_nil (x_then (hK _ ?_))
  clear hK K
  refine aw_cond rfl (fun hb1 => ?_) (fun hb1 => ?_)
  · have hc1 := bp hb1
    have e := has_none hc1
    refine p_sr (fun K hK => ?_)
    refine p_as ?_
    refine al_nil (x_then (hK _ ?_))
    clear hK K
    refine aw_ret ?_
    refine x_thenR ?_
    clear hK K
    refine e_ret ?_
    exact vi (by simp [placeL, e])
  · have hc1 := bp hb1
    have e := has_some hc1
    refine aw_skip ?_
    refine x_then ?_
    refine hK _ ?_
    clear hK K
    refine aw_seq (fun K hK => ?_)
    refine p_sr (fun K hK => ?_)
    refine al_p rfl (st_fieldB rfl ?_)
    refine al_p rfl (st_loadB1 rfl rfl rfl ?_)
    first | refine al_p rfl (st_neq rfl rfl ?_) | refine al_p rfl (st_neqS rfl rfl ?_) | refine al_p rfl (st_neqB (by kernel_rfl) rfl rfl ?_)
    refine al_nil (x_then (hK _ ?_))
    clear hK K
    refine aw_cond rfl (fun hb2 => ?_) (fun hb2 => ?_)
    · have hc2 := bp hb2
      refine p_sr (fun K hK => ?_)
      refine p_as ?_
      refine al_nil (x_then (hK _ ?_))
      clear hK K
      refine aw_ret ?_
      refine x_thenR ?_
      clear hK K
      refine e_ret ?_
      exact vi (by simp [placeL, e, hc2])
    · have hc2 := bp hb2
      refine aw_skip ?_
      refine x_then ?_
      refine hK _ ?_
      clear hK K
      refine aw_seq (fun K hK => ?_)
      refine p_sr (fun K hK => ?_)
      refine p_mv ?_
      refine al_p rfl (q_call (Rname name hs) ?_)
      rintro r rfl
      refine al_p rfl (st_not rfl ?_)
      refine al_nil (x_then (hK _ ?_))
      clear hK K
      refine aw_cond rfl (fun hb3 => ?_) (fun hb3 => ?_)
      · have hc3 := bp hb3
        refine p_sr (fun K hK => ?_)
        refine p_as ?_
        refine al_nil (x_then (hK _ ?_))
        clear hK K
        refine aw_ret ?_
        refine x_thenR ?_
        clear hK K
        refine e_ret ?_
        exact vi (by simp only [placeL, e]; rw [if_pos (by omega), hc3]; rfl)
      · have hc3 := bp hb3
        refine aw_skip ?_
        refine x_then ?_
        refine hK _ ?_
        clear hK K
        refine p_sr (fun K hK => ?_)
        refine p_as ?_
        refine al_nil (x_then (hK _ ?_))
        clear hK K
        refine aw_ret ?_
        refine e_ret ?_
        exact vi (by simp only [placeL, e]; rw [if_pos (by omega), hc3]; rfl)

theorem Rfull (f : Fls) (a : Fil) (hf : FlsB f) : AFn Try.prog 83 [.agg (flsA f), .agg (filA a)] (fun r => r = .v (.bool (fullL f a))) := by
  refine enter Try.func83 rfl rfl rfl rfl rfl 0 rfl ?_
  refine p_sr (fun K hK => ?_)
  first | refine al_p rfl (s_boxA rfl rfl (by repeat constructor) ?_) | refine al_p rfl (s_box rfl rfl (by repeat constructor) ?_)
  first | refine al_p rfl (s_boxA rfl rfl (by repeat constructor) ?_) | refine al_p rfl (s_box rfl rfl (by repeat constructor) ?_)
  refine p_as ?_
  refine al_nil (x_then (hK _ ?_))
  clear hK K
  refine p_sr (fun K hK => ?_)
  refine al_p rfl (st_loadBW rfl rfl rfl ?_)
  refine al_p rfl (st_loadBW rfl rfl rfl ?_)
  refine al_p rfl (q_call (Rnode f a hf) ?_)
  rintro r rfl
  refine p_mv ?_
  refine al_p rfl (st_extract rfl rfl ?_)
  refine al_p rfl (st_extract rfl rfl ?_)
  refine al_p rfl (s_alloc (by repeat constructor) ?_)
  refine p_st ?_
  refine p_as ?_
  refine al_nil (x_then (hK _ ?_))
  clear hK K
  refine p_sr (fun K hK => ?_)
  refine al_p rfl (st_fieldB rfl ?_)
  refine al_p rfl (st_loadB1 rfl rfl rfl ?_)
  first | refine al_p rfl (st_len rfl ?_) | refine al_p rfl (st_lenS (by kernel_rfl) rfl ?_) | refine al_p rfl (st_len0 rfl ?_)
  first | refine al_p rfl (st_geq rfl rfl ?_) | refine al_p rfl (st_geqS rfl rfl ?_)
  refine p_as ?_
  refine al_nil (x_then (hK _ ?_))
  clear hK K
  refine aw_ret ?_
  refine e_ret ?_
  exact vb (by rw [fullL_eq, Bool.eq_iff_iff]; simp; omega)

theorem Rempty (f : Fls) (a : Fil) (hf : FlsB f) : AFn Try.prog 112 [.agg (flsA f), .agg (filA a)] (fun r => r = .v (.bool (emptyL f a))) := by
  refine enter Try.func112 rfl rfl rfl rfl rfl 0 rfl ?_
  refine p_sr (fun K hK => ?_)
  first | refine al_p rfl (s_boxA rfl rfl (by repeat constructor) ?_) | refine al_p rfl (s_box rfl rfl (by repeat constructor) ?_)
  first | refine al_p rfl (s_boxA rfl rfl (by repeat constructor) ?_) | refine al_p rfl (s_box rfl rfl (by repeat constructor) ?_)
  refine p_as ?_
  refine al_nil (x_then (hK _ ?_))
  clear hK K
  refine p_sr (fun K hK => ?_)
  refine al_p rfl (st_loadBW rfl rfl rfl ?_)
  refine al_p rfl (st_loadBW rfl rfl rfl ?_)
  refine al_p rfl (q_call (Rnode f a hf) ?_)
  rintro r rfl
  refine p_mv ?_
  refine al_p rfl (st_extract rfl rfl ?_)
  refine al_p rfl (st_extract rfl rfl ?_)
  refine al_p rfl (s_alloc (by repeat constructor) ?_)
  refine p_st ?_
  refine p_as ?_
  refine al_nil (x_then (hK _ ?_))
  clear hK K
  refine p_sr (fun K hK => ?_)
  refine al_p rfl (st_fieldB rfl ?_)
  refine al_p rfl (st_loadB1 rfl rfl rfl ?_)
  first | refine al_p rfl (st_len rfl ?_) | refine al_p rfl (st_lenS (by kernel_rfl) rfl ?_) | refine al_p rfl (st_len0 rfl ?_)
  first | refine al_p rfl (st_eql rfl rfl ?_) | refine al_p rfl (st_eqlS rfl rfl ?_) | refine al_p rfl (st_eqlB (by kernel_rfl) rfl rfl ?_)
  refine p_as ?_
  refine al_nil (x_then (hK _ ?_))
  clear hK K
  refine aw_ret ?_
  refine e_ret ?_
  exact vb (by rw [emptyL_eq, Bool.eq_iff_iff]; simp)

theorem Rplain (n : Nod) (hs : n.target.size ≤ 100000) : AFn Try.prog 81 [.agg (nodA n)] (fun r => r = .v (.bool (plainL n))) := by
  have ee : n.target.toList.isEmpty = decide (n.target = ⟨#[]⟩) := by
    rw [← str_eq n.target ⟨#[]⟩, show (⟨#[]⟩ : ByteArray).toList = [] by rw [ByteArray.toList_eq]]
    cases n.target.toList <;> rfl
  refine enter Try.func81 rfl rfl rfl rfl rfl 0 rfl ?_
  refine p_sr (fun K hK => ?_)
  first | refine al_p rfl (s_boxA rfl rfl (by repeat constructor) ?_) | refine al_p rfl (s_box rfl rfl (by repeat constructor) ?_)
  refine p_as ?_
  refine al_nil (x_then (hK _ ?_))
  clear hK K
  refine aw_seq (fun K hK => ?_)
  refine aw_mid (⟨look [(1, .bp 0 0), (40, .v (.bool (decide (n.kind < 1 ∨ 3 < n.kind ∨ n.mode < 0 ∨ 511 < n.mode ∨ n.uid < 0 ∨ 4294967295 < n.uid ∨ n.gid < 0 ∨ 4294967295 < n.gid))))], ⟨[nodA n], []⟩⟩) ?_ ?_
  · skip
    refine aw_region ?_
    refine al_p rfl (st_fieldB rfl ?_)
    refine al_p rfl (st_loadB1 rfl rfl rfl ?_)
    first | refine al_p rfl (st_lss rfl rfl ?_) | refine al_p rfl (st_lssS rfl rfl ?_)
    refine p_mv ?_
    refine al_gs false rfl rfl (fun hb1 => ?_) (fun hb1 => ?_)
    · have hc1 := bp hb1
      refine g_n ?_
      refine g_n ?_
      refine g_n ?_
      refine al_p rfl (p_t ?_)
      refine p_mv ?_
      refine g_n ?_
      refine g_n ?_
      refine g_n ?_
      refine al_p rfl (p_t ?_)
      refine p_mv ?_
      refine g_n ?_
      refine g_n ?_
      refine g_n ?_
      refine al_p rfl (p_t ?_)
      refine p_mv ?_
      refine g_n ?_
      refine g_n ?_
      refine g_n ?_
      refine al_p rfl (p_t ?_)
      refine p_mv ?_
      refine g_n ?_
      refine g_n ?_
      refine g_n ?_
      refine al_p rfl (p_t ?_)
      refine p_mv ?_
      refine g_n ?_
      refine g_n ?_
      refine g_n ?_
      refine al_p rfl (p_t ?_)
      refine p_mv ?_
      refine g_n ?_
      refine g_n ?_
      refine g_n ?_
      refine al_p rfl (p_t ?_)
      refine al_nil ?_
      refine x_then ?_
      first | (exfalso; first | contradiction | omega) | exact weak_of 1 0 rfl rfl rfl rfl (by repeat (first | exact Sub.nil | refine Sub.cons _ _ _ rfl rfl ?_ | refine Sub.any _ _ ?_ | refine Sub.sl _ _ _ _ _ rfl ?_ | refine Sub.slnil _ _ _ rfl ?_ | (apply Sub.of; (focus exact rfl); (focus exact LeA.of_eq (vb (by rw [Bool.eq_iff_iff]; simp; try omega))); (focus exact rfl))))
    · have hc1 := bp hb1
      refine g_y (st_fieldB rfl ?_)
      refine g_y (st_loadB1 rfl rfl rfl ?_)
      refine g_y (st_gtr rfl rfl ?_)
      refine al_p rfl (p_f ?_)
      refine p_mv ?_
      refine al_gs false rfl rfl (fun hb2 => ?_) (fun hb2 => ?_)
      · have hc2 := bp hb2
        refine g_n ?_
        refine g_n ?_
        refine g_n ?_
        refine al_p rfl (p_t ?_)
        refine p_mv ?_
        refine g_n ?_
        refine g_n ?_
        refine g_n ?_
        refine al_p rfl (p_t ?_)
        refine p_mv ?_
        refine g_n ?_
        refine g_n ?_
        refine g_n ?_
        refine al_p rfl (p_t ?_)
        refine p_mv ?_
        refine g_n ?_
        refine g_n ?_
        refine g_n ?_
        refine al_p rfl (p_t ?_)
        refine p_mv ?_
        refine g_n ?_
        refine g_n ?_
        refine g_n ?_
        refine al_p rfl (p_t ?_)
        refine p_mv ?_
        refine g_n ?_
        refine g_n ?_
        refine g_n ?_
        refine al_p rfl (p_t ?_)
        refine al_nil ?_
        refine x_then ?_
        first | (exfalso; first | contradiction | omega) | exact weak_of 1 0 rfl rfl rfl rfl (by repeat (first | exact Sub.nil | refine Sub.cons _ _ _ rfl rfl ?_ | refine Sub.any _ _ ?_ | refine Sub.sl _ _ _ _ _ rfl ?_ | refine Sub.slnil _ _ _ rfl ?_ | (apply Sub.of; (focus exact rfl); (focus exact LeA.of_eq (vb (by rw [Bool.eq_iff_iff]; simp; try omega))); (focus exact rfl))))
      · have hc2 := bp hb2
        refine g_y (st_fieldB rfl ?_)
        refine g_y (st_loadB1 rfl rfl rfl ?_)
        first | refine g_y (st_lss rfl rfl ?_) | refine g_y (st_lssS rfl rfl ?_)
        refine al_p rfl (p_f ?_)
        refine p_mv ?_
        refine al_gs false rfl rfl (fun hb3 => ?_) (fun hb3 => ?_)
        · have hc3 := bp hb3
          refine g_n ?_
          refine g_n ?_
          refine g_n ?_
          refine al_p rfl (p_t ?_)
          refine p_mv ?_
          refine g_n ?_
          refine g_n ?_
          refine g_n ?_
          refine al_p rfl (p_t ?_)
          refine p_mv ?_
          refine g_n ?_
          refine g_n ?_
          refine g_n ?_
          refine al_p rfl (p_t ?_)
          refine p_mv ?_
          refine g_n ?_
          refine g_n ?_
          refine g_n ?_
          refine al_p rfl (p_t ?_)
          refine p_mv ?_
          refine g_n ?_
          refine g_n ?_
          refine g_n ?_
          refine al_p rfl (p_t ?_)
          refine al_nil ?_
          refine x_then ?_
          first | (exfalso; first | contradiction | omega) | exact weak_of 1 0 rfl rfl rfl rfl (by repeat (first | exact Sub.nil | refine Sub.cons _ _ _ rfl rfl ?_ | refine Sub.any _ _ ?_ | refine Sub.sl _ _ _ _ _ rfl ?_ | refine Sub.slnil _ _ _ rfl ?_ | (apply Sub.of; (focus exact rfl); (focus exact LeA.of_eq (vb (by rw [Bool.eq_iff_iff]; simp; try omega))); (focus exact rfl))))
        · have hc3 := bp hb3
          refine g_y (st_fieldB rfl ?_)
          refine g_y (st_loadB1 rfl rfl rfl ?_)
          refine g_y (st_gtr rfl rfl ?_)
          refine al_p rfl (p_f ?_)
          refine p_mv ?_
          refine al_gs false rfl rfl (fun hb4 => ?_) (fun hb4 => ?_)
          · have hc4 := bp hb4
            refine g_n ?_
            refine g_n ?_
            refine g_n ?_
            refine al_p rfl (p_t ?_)
            refine p_mv ?_
            refine g_n ?_
            refine g_n ?_
            refine g_n ?_
            refine al_p rfl (p_t ?_)
            refine p_mv ?_
            refine g_n ?_
            refine g_n ?_
            refine g_n ?_
            refine al_p rfl (p_t ?_)
            refine p_mv ?_
            refine g_n ?_
            refine g_n ?_
            refine g_n ?_
            refine al_p rfl (p_t ?_)
            refine al_nil ?_
            refine x_then ?_
            first | (exfalso; first | contradiction | omega) | exact weak_of 1 0 rfl rfl rfl rfl (by repeat (first | exact Sub.nil | refine Sub.cons _ _ _ rfl rfl ?_ | refine Sub.any _ _ ?_ | refine Sub.sl _ _ _ _ _ rfl ?_ | refine Sub.slnil _ _ _ rfl ?_ | (apply Sub.of; (focus exact rfl); (focus exact LeA.of_eq (vb (by rw [Bool.eq_iff_iff]; simp; try omega))); (focus exact rfl))))
          · have hc4 := bp hb4
            refine g_y (st_fieldB rfl ?_)
            refine g_y (st_loadB1 rfl rfl rfl ?_)
            first | refine g_y (st_lss rfl rfl ?_) | refine g_y (st_lssS rfl rfl ?_)
            refine al_p rfl (p_f ?_)
            refine p_mv ?_
            refine al_gs false rfl rfl (fun hb5 => ?_) (fun hb5 => ?_)
            · have hc5 := bp hb5
              refine g_n ?_
              refine g_n ?_
              refine g_n ?_
              refine al_p rfl (p_t ?_)
              refine p_mv ?_
              refine g_n ?_
              refine g_n ?_
              refine g_n ?_
              refine al_p rfl (p_t ?_)
              refine p_mv ?_
              refine g_n ?_
              refine g_n ?_
              refine g_n ?_
              refine al_p rfl (p_t ?_)
              refine al_nil ?_
              refine x_then ?_
              first | (exfalso; first | contradiction | omega) | exact weak_of 1 0 rfl rfl rfl rfl (by repeat (first | exact Sub.nil | refine Sub.cons _ _ _ rfl rfl ?_ | refine Sub.any _ _ ?_ | refine Sub.sl _ _ _ _ _ rfl ?_ | refine Sub.slnil _ _ _ rfl ?_ | (apply Sub.of; (focus exact rfl); (focus exact LeA.of_eq (vb (by rw [Bool.eq_iff_iff]; simp; try omega))); (focus exact rfl))))
            · have hc5 := bp hb5
              refine g_y (st_fieldB rfl ?_)
              refine g_y (st_loadB1 rfl rfl rfl ?_)
              refine g_y (st_gtr rfl rfl ?_)
              refine al_p rfl (p_f ?_)
              refine p_mv ?_
              refine al_gs false rfl rfl (fun hb6 => ?_) (fun hb6 => ?_)
              · have hc6 := bp hb6
                refine g_n ?_
                refine g_n ?_
                refine g_n ?_
                refine al_p rfl (p_t ?_)
                refine p_mv ?_
                refine g_n ?_
                refine g_n ?_
                refine g_n ?_
                refine al_p rfl (p_t ?_)
                refine al_nil ?_
                refine x_then ?_
                first | (exfalso; first | contradiction | omega) | exact weak_of 1 0 rfl rfl rfl rfl (by repeat (first | exact Sub.nil | refine Sub.cons _ _ _ rfl rfl ?_ | refine Sub.any _ _ ?_ | refine Sub.sl _ _ _ _ _ rfl ?_ | refine Sub.slnil _ _ _ rfl ?_ | (apply Sub.of; (focus exact rfl); (focus exact LeA.of_eq (vb (by rw [Bool.eq_iff_iff]; simp; try omega))); (focus exact rfl))))
              · have hc6 := bp hb6
                refine g_y (st_fieldB rfl ?_)
                refine g_y (st_loadB1 rfl rfl rfl ?_)
                first | refine g_y (st_lss rfl rfl ?_) | refine g_y (st_lssS rfl rfl ?_)
                refine al_p rfl (p_f ?_)
                refine p_mv ?_
                refine al_gs false rfl rfl (fun hb7 => ?_) (fun hb7 => ?_)
                · have hc7 := bp hb7
                  refine g_n ?_
                  refine g_n ?_
                  refine g_n ?_
                  refine al_p rfl (p_t ?_)
                  refine al_nil ?_
                  refine x_then ?_
                  first | (exfalso; first | contradiction | omega) | exact weak_of 1 0 rfl rfl rfl rfl (by repeat (first | exact Sub.nil | refine Sub.cons _ _ _ rfl rfl ?_ | refine Sub.any _ _ ?_ | refine Sub.sl _ _ _ _ _ rfl ?_ | refine Sub.slnil _ _ _ rfl ?_ | (apply Sub.of; (focus exact rfl); (focus exact LeA.of_eq (vb (by rw [Bool.eq_iff_iff]; simp; try omega))); (focus exact rfl))))
                · have hc7 := bp hb7
                  refine g_y (st_fieldB rfl ?_)
                  refine g_y (st_loadB1 rfl rfl rfl ?_)
                  refine g_y (st_gtr rfl rfl ?_)
                  refine al_p rfl (p_f ?_)
                  refine al_nil ?_
                  refine x_then ?_
                  first | (exfalso; first | contradiction | omega) | exact weak_of 1 0 rfl rfl rfl rfl (by repeat (first | exact Sub.nil | refine Sub.cons _ _ _ rfl rfl ?_ | refine Sub.any _ _ ?_ | refine Sub.sl _ _ _ _ _ rfl ?_ | refine Sub.slnil _ _ _ rfl ?_ | (apply Sub.of; (focus exact rfl); (focus exact LeA.of_eq (vb (by rw [Bool.eq_iff_iff]; simp; try omega))); (focus exact rfl))))
  · skip
    refine aw_cond rfl (fun hb8 => ?_) (fun hb8 => ?_)
    · have hc8 := bp hb8
      refine p_sr (fun K hK => ?_)
      refine p_as ?_
      refine al_nil (x_then (hK _ ?_))
      clear hK K
      refine aw_ret ?_
      refine x_thenR ?_
      clear hK K
      refine e_ret ?_
      exact vb (by rw [plainL, if_pos hc8])
    · have hc8 := bp hb8
      refine aw_skip ?_
      refine x_then ?_
      refine hK _ ?_
      clear hK K
      refine aw_seq (fun K hK => ?_)
      refine p_sr (fun K hK => ?_)
      refine al_p rfl (st_fieldB rfl ?_)
      refine al_p rfl (st_loadB1 rfl rfl rfl ?_)
      first | refine al_p rfl (st_eql rfl rfl ?_) | refine al_p rfl (st_eqlS rfl rfl ?_) | refine al_p rfl (st_eqlB (by kernel_rfl) rfl rfl ?_)
      refine al_nil (x_then (hK _ ?_))
      clear hK K
      refine aw_cond rfl (fun hb9 => ?_) (fun hb9 => ?_)
      · have hc9 := bp hb9
        refine p_sr (fun K hK => ?_)
        refine al_p rfl (st_fieldB rfl ?_)
        refine al_p rfl (st_loadB1 rfl rfl rfl ?_)
        refine al_p rfl (q_call (Rtarget n.target hs) ?_)
        rintro r rfl
        refine p_as ?_
        refine al_nil (x_then (hK _ ?_))
        clear hK K
        refine aw_ret ?_
        refine x_thenR ?_
        clear hK K
        refine e_ret ?_
        exact vb (by rw [plainL, if_neg hc8, if_pos hc9])
      · have hc9 := bp hb9
        refine aw_skip ?_
        refine x_then ?_
        refine hK _ ?_
        clear hK K
        refine p_sr (fun K hK => ?_)
        refine al_p rfl (st_fieldB rfl ?_)
        refine al_p rfl (st_loadB1 rfl rfl rfl ?_)
        first | refine al_p rfl (st_eql rfl rfl ?_) | refine al_p rfl (st_eqlS rfl rfl ?_) | refine al_p rfl (st_eqlB (by kernel_rfl) rfl rfl ?_)
        refine p_as ?_
        refine al_nil (x_then (hK _ ?_))
        clear hK K
        refine aw_ret ?_
        refine e_ret ?_
        exact vb (by rw [plainL, if_neg hc8, if_neg hc9, ee])

theorem Rlinks (f : Fls) (a : Fil) (hf : FlsB f) : AFn Try.prog 102 [.agg (flsA f), .agg (filA a)] (fun r => r = .v (.int .i64 (linksF f a : Int))) := by
  refine enter Try.func102 rfl rfl rfl rfl rfl 0 rfl ?_
  refine p_sr (fun K hK => ?_)
  first | refine al_p rfl (s_boxA rfl rfl (by repeat constructor) ?_) | refine al_p rfl (s_box rfl rfl (by repeat constructor) ?_)
  first | refine al_p rfl (s_boxA rfl rfl (by repeat constructor) ?_) | refine al_p rfl (s_box rfl rfl (by repeat constructor) ?_)
  refine p_as ?_
  refine al_nil (x_then (hK _ ?_))
  clear hK K
  refine aw_seq (fun K hK => ?_)
  refine p_sr (fun K hK => ?_)
  refine al_p rfl (st_loadBW rfl rfl rfl ?_)
  refine al_p rfl (st_loadBW rfl rfl rfl ?_)
  refine al_p rfl (q_call (Rindex f a hf) ?_)
  rintro r rfl
  first | refine al_p rfl (st_lss rfl rfl ?_) | refine al_p rfl (st_lssS rfl rfl ?_)
  refine al_nil (x_then (hK _ ?_))
  clear hK K
  refine aw_cond rfl (fun hb1 => ?_) (fun hb1 => ?_)
  · have hc1 := bp hb1
    have e : nodeL f a = none := by
      rcases index_node f a with h | ⟨k, i, d, n, -, -, -, -, h, -⟩
      · exact h.2
      · exfalso; omega
    refine p_sr (fun K hK => ?_)
    refine p_as ?_
    refine al_nil (x_then (hK _ ?_))
    clear hK K
    refine aw_ret ?_
    refine x_thenR ?_
    clear hK K
    refine e_ret ?_
    exact vi (by simp [linksF, e])
  · have hc1 := bp hb1
    obtain ⟨k, i, d, n, g1, g2, g3, g4, g5, g6⟩ := (index_node f a).resolve_left (fun h => by omega)
    have hr1 : (f.map dvcA)[k]? = some (dvcA d) := by rw [List.getElem?_map, g2]; rfl
    have hdn := hf.nodes d (List.mem_of_getElem? g2)
    refine aw_skip ?_
    refine x_then ?_
    refine hK _ ?_
    clear hK K
    refine p_sr (fun K hK => ?_)
    refine p_as ?_
    refine al_nil (x_then (hK _ ?_))
    clear hK K
    refine p_sr (fun K hK => ?_)
    refine al_p rfl (st_fieldB rfl ?_)
    refine al_p rfl (st_loadB1 rfl rfl rfl ?_)
    refine al_p rfl (st_fieldB rfl ?_)
    refine al_p rfl (st_loadB1 rfl rfl rfl ?_)
    refine al_p rfl (st_index (n := k) rfl rfl g1 hr1 ?_)
    refine al_p rfl (st_fieldF rfl ?_)
    refine al_p rfl (st_loadF1 rfl rfl ?_)
    refine p_as ?_
    refine al_nil (x_then (hK _ ?_))
    clear hK K
    refine aw_seq (fun K hK => ?_)
    refine p_sr (fun K hK => ?_)
    refine p_as ?_
    refine al_nil (x_then (hK _ ?_))
    clear hK K
    refine aw_block ?_
    refine aw_loopW (fun m s => ∃ j c : Nat, j ≤ d.nodes.length ∧ m = d.nodes.length - j ∧ c = cntN a.2 (d.nodes.take j) ∧ c ≤ 1000 * j ∧ s = ⟨look [(3, .bp 1 0), (5, .v (.int .i64 (c : Int))), (6, .sl 8 (d.nodes.map nodA) none), (7, .v (.int .i64 (j : Int)))], ⟨[flsA f, filA a], []⟩⟩) (d.nodes.length) ((wk 2 0)) (⟨0, 0, by omega, rfl, rfl, by omega, rfl⟩) ?_
    rintro m s ⟨j, c, hj, rfl, hcn, hcb, rfl⟩
    refine aw_seq (fun K hK => ?_)
    refine p_sr (fun K hK => ?_)
    refine p_mv ?_
    refine p_mv ?_
    first | refine al_p rfl (st_len rfl ?_) | refine al_p rfl (st_lenS (by kernel_rfl) rfl ?_) | refine al_p rfl (st_len0 rfl ?_)
    first | refine al_p rfl (st_lss rfl rfl ?_) | refine al_p rfl (st_lssS rfl rfl ?_)
    refine al_nil (x_then (hK _ ?_))
    clear hK K
    refine aw_cond rfl (fun hb2 => ?_) (fun hb2 => ?_)
    · have hc2 := bp hb2
      obtain ⟨hlt, x, hx, hrow, -⟩ := row_at nodA hc2
      have hen := hf.ents d (List.mem_of_getElem? g2) x (List.mem_of_getElem? hx)
      refine aw_skip ?_
      refine x_then ?_
      refine hK _ ?_
      clear hK K
      refine aw_seq (fun K hK => ?_)
      refine aw_block ?_
      refine p_sr (fun K hK => ?_)
      refine p_as ?_
      refine al_nil (x_then (hK _ ?_))
      clear hK K
      refine aw_block ?_
      refine aw_loopW (fun m s => ∃ i c2 : Nat, i ≤ x.entries.length ∧ m = x.entries.length - i ∧ c2 = c + cntE a.2 (x.entries.take i) ∧ c2 ≤ c + i ∧ s = ⟨look [(3, .bp 1 0), (5, .v (.int .i64 (c2 : Int))), (6, .sl 8 (d.nodes.map nodA) none), (7, .v (.int .i64 (j : Int))), (8, .v (.int .i64 (i : Int)))], ⟨[flsA f, filA a], []⟩⟩) (x.entries.length) ((wk 2 0)) (⟨0, c, by omega, rfl, rfl, by omega, rfl⟩) ?_
      rintro m s ⟨i, c2, hi, rfl, hc2n, hc2b, rfl⟩
      refine aw_seq (fun K hK => ?_)
      refine p_sr (fun K hK => ?_)
      refine p_mv ?_
      refine p_mv ?_
      refine p_mv ?_
      refine al_p rfl (st_index rfl rfl rfl (by first | assumption | rfl) ?_)
      refine al_p rfl (st_fieldF rfl ?_)
      refine al_p rfl (st_loadF1 rfl rfl ?_)
      first | refine al_p rfl (st_len rfl ?_) | refine al_p rfl (st_lenS (by kernel_rfl) rfl ?_) | refine al_p rfl (st_len0 rfl ?_)
      first | refine al_p rfl (st_lss rfl rfl ?_) | refine al_p rfl (st_lssS rfl rfl ?_)
      refine al_nil (x_then (hK _ ?_))
      clear hK K
      refine aw_cond rfl (fun hb3 => ?_) (fun hb3 => ?_)
      · have hc3 := bp hb3
        obtain ⟨hlt3, y, hy, hrow3, -⟩ := row_at entA hc3
        refine aw_skip ?_
        refine x_then ?_
        refine hK _ ?_
        clear hK K
        refine aw_seq (fun K hK => ?_)
        refine aw_block ?_
        refine aw_seq (fun K hK => ?_)
        refine aw_drawR 12 (by kernel_rfl) ?_
        refine r_y (i := 0) rfl (st_move rfl ⟨rfl, rfl⟩) ?_
        refine r_y (i := 1) rfl (st_move rfl ⟨rfl, rfl⟩) ?_
        refine r_y (i := 2) rfl (st_index rfl rfl rfl (by first | assumption | rfl) ⟨rfl, rfl⟩) ?_
        refine r_y (i := 3) rfl (st_fieldF rfl ⟨rfl, rfl⟩) ?_
        refine r_y (i := 4) rfl (st_loadF1 rfl rfl ⟨rfl, rfl⟩) ?_
        refine r_y (i := 5) rfl (st_move rfl ⟨rfl, rfl⟩) ?_
        refine r_y (i := 6) rfl (st_index rfl rfl rfl (by first | assumption | rfl) ⟨rfl, rfl⟩) ?_
        refine r_y (i := 7) rfl (st_fieldF rfl ⟨rfl, rfl⟩) ?_
        refine r_y (i := 8) rfl (st_loadF1 rfl rfl ⟨rfl, rfl⟩) ?_
        refine r_y (i := 9) rfl (st_fieldB rfl ⟨rfl, rfl⟩) ?_
        refine r_y (i := 10) rfl (st_loadB1 rfl rfl rfl ⟨rfl, rfl⟩) ?_
        first | refine r_y (i := 11) rfl (st_eql rfl rfl ⟨rfl, rfl⟩) ?_ | refine r_y (i := 11) rfl (st_eqlS rfl rfl ⟨rfl, rfl⟩) ?_ | refine r_y (i := 11) rfl (st_eqlB (by kernel_rfl) rfl rfl ⟨rfl, rfl⟩) ?_
        refine aa_done (by kernel_rfl) ?_ _
        refine x_then ?_
        refine hK _ ?_
        clear hK K
        refine aw_cond rfl (fun hb4 => ?_) (fun hb4 => ?_)
        · have hc4 := bp hb4
          refine aw_region ?_
          refine p_mv ?_
          first | refine al_p rfl (st_add64 rfl rfl (by omega) ?_) | refine al_p rfl (st_addS rfl rfl (by omega) ?_) | refine al_p rfl (st_add rfl rfl ?_)
          refine p_as ?_
          refine al_nil ?_
          refine x_blockN ?_
          refine x_then ?_
          refine hK _ ?_
          clear hK K
          refine aw_region ?_
          refine p_mv ?_
          first | refine al_p rfl (st_add64 rfl rfl (by omega) ?_) | refine al_p rfl (st_addS rfl rfl (by omega) ?_) | refine al_p rfl (st_add rfl rfl ?_)
          refine p_as ?_
          refine al_nil ?_
          refine x_then ?_
          first | (refine ⟨_, _, ?_, ⟨i + 1, c2 + 1, by omega, rfl, ?_, by omega, rfl⟩, (wk 2 0)⟩ <;> first | omega | (rw [cntE_snoc hy]; simp [hc4]; omega)) | (refine ⟨_, _, ?_, ⟨i + 1, c2, by omega, rfl, ?_, by omega, rfl⟩, (wk 2 0)⟩ <;> first | omega | (rw [cntE_snoc hy]; simp [hc4]; omega))
        · have hc4 := bp hb4
          refine aw_skip ?_
          refine x_blockN ?_
          refine x_then ?_
          refine hK _ ?_
          clear hK K
          refine aw_region ?_
          refine p_mv ?_
          first | refine al_p rfl (st_add64 rfl rfl (by omega) ?_) | refine al_p rfl (st_addS rfl rfl (by omega) ?_) | refine al_p rfl (st_add rfl rfl ?_)
          refine p_as ?_
          refine al_nil ?_
          refine x_then ?_
          first | (refine ⟨_, _, ?_, ⟨i + 1, c2 + 1, by omega, rfl, ?_, by omega, rfl⟩, (wk 2 0)⟩ <;> first | omega | (rw [cntE_snoc hy]; simp [hc4]; omega)) | (refine ⟨_, _, ?_, ⟨i + 1, c2, by omega, rfl, ?_, by omega, rfl⟩, (wk 2 0)⟩ <;> first | omega | (rw [cntE_snoc hy]; simp [hc4]; omega))
      · have hc3 := bp hb3
        have e3 := row_no entA hi hc3
        subst e3
        refine aw_exit ?_
        refine x_thenE ?_
        clear hK K
        refine x_thenE ?_
        refine ABlock_out ?_
        refine x_blockN ?_
        refine x_then ?_
        refine hK _ ?_
        clear hK K
        refine aw_region ?_
        refine p_mv ?_
        first | refine al_p rfl (st_add64 rfl rfl (by omega) ?_) | refine al_p rfl (st_addS rfl rfl (by omega) ?_) | refine al_p rfl (st_add rfl rfl ?_)
        refine p_as ?_
        refine al_nil ?_
        refine x_then ?_
        refine ⟨_, _, ?_, ⟨j + 1, c2, by omega, rfl, ?_, ?_, rfl⟩, (wk 2 0)⟩
        · omega
        · rw [hc2n, cntN_snoc hx, List.take_length]; omega
        · have := cntE_le a.2 (x.entries.take x.entries.length); simp at this; omega
    · have hc2 := bp hb2
      have e2 := row_no nodA hj hc2
      subst e2
      refine aw_exit ?_
      refine x_thenE ?_
      clear hK K
      refine x_thenE ?_
      refine ABlock_out ?_
      refine x_then ?_
      refine hK _ ?_
      clear hK K
      refine p_sr (fun K hK => ?_)
      refine p_mv ?_
      refine p_as ?_
      refine al_nil (x_then (hK _ ?_))
      clear hK K
      refine aw_ret ?_
      refine e_ret ?_
      exact vi (by rw [linksF_at g1 g2 g6, hcn, List.take_length])

end
end Go.Proofs.Ytgliiknfmlmddaa
namespace Go.Proofs.Ytgliiknfmlmddaa
open Go.RowKit

def mntA (m : Mnt) : List AV := [.v (.int .i64 m.1), .v (.int .i64 m.2.1), .v (.int .i64 m.2.2)]
def spcA (s : Spc) : List AV := [.sl 2 (s.files.map dvcA) none, .sl 3 (s.mounts.map mntA) none]
structure SpcB (s : Spc) : Prop where
  files : FlsB s.files
  few : s.mounts.length ≤ 1000
def onL (s : Spc) (dev : Int) : Option Fil := (s.mounts.find? fun m : Mnt => decide (m.1 = dev)).map (·.2)
def covL (s : Spc) (a : Fil) : Option Int := (s.mounts.find? fun m : Mnt => decide (m.2 = a)).map (·.1)
def mtdL (s : Spc) (dev : Int) : Bool := (onL s dev).isSome || decide (dev = 0)
section
set_option maxRecDepth 10000
set_option maxHeartbeats 1000000
theorem eqFil (op : BinOp) (a b c d : Int) (w : World) : (op = .eql ∨ op = .neq) → (binOp op 24 (.agg #[.int .i64 a, .int .i64 b]) (.agg #[.int .i64 c, .int .i64 d])).run Try.prog w = .ok (.bool (decide ((a, b) = (c, d)) == decide (op = .eql))) w := by
  have u3 := Try.underlying3
  have a3 := Try.isAgg3
  have z3 := Try.sizeOf3
  have hS : Try.prog.underlying 24 = some (.struct (Try.prog.fieldsOf 24)) := by kernel_rfl
  have hp : Try.prog.stoodInHeld 24 = false := by kernel_rfl
  have e : ∀ w, (Op.equalIn 10000 24 (.agg #[.int .i64 a, .int .i64 b]) (.agg #[.int .i64 c, .int .i64 d])).run Try.prog w = .ok (a == c && b == d) w := by
    intro w
    rw [show (10000 : Nat) = 9999 + 1 from rfl, run_equalIn_agg w 9999 24 _ _ hS hp]
    simp only [Program.fieldsOf, Try.underlying24]
    go_simp
    by_cases h1 : a = c <;> by_cases h2 : b = d <;> simp [h1, h2]
  rintro (rfl | rfl)
  · rw [run_eql_struct, e]
    by_cases h1 : a = c <;> by_cases h2 : b = d <;> simp [h1, h2]
  · rw [run_neq_struct, e]
    by_cases h1 : a = c <;> by_cases h2 : b = d <;> simp [h1, h2]
theorem eqlFil (a b c d : Int) (w : World) : (binOp .eql 24 (.agg #[.int .i64 a, .int .i64 b]) (.agg #[.int .i64 c, .int .i64 d])).run Try.prog w = .ok (.bool (decide ((a, b) = (c, d)))) w := by
  rw [eqFil .eql a b c d w (.inl rfl)]
  by_cases h : (a, b) = (c, d) <;> simp [h]
theorem neqlFil (a b c d : Int) (w : World) : (binOp .neq 24 (.agg #[.int .i64 a, .int .i64 b]) (.agg #[.int .i64 c, .int .i64 d])).run Try.prog w = .ok (.bool (!decide ((a, b) = (c, d)))) w := by
  rw [eqFil .neq a b c d w (.inr rfl)]
  by_cases h : (a, b) = (c, d) <;> simp [h]
theorem Ron (s : Spc) (dev : Int) (hs : SpcB s) : AFn Try.prog 58 [.agg (spcA s), .v (.int .i64 dev)] (fun r => r = .tup [.agg (filA ((onL s dev).getD (0, 0))), .v (.bool (onL s dev).isSome)]) := by
  have hfew := hs.few
  refine enter Try.func58 rfl rfl rfl rfl rfl 0 rfl ?_
  refine p_sr (fun K hK => ?_)
  first | refine al_p rfl (s_boxA rfl rfl (by repeat constructor) ?_) | refine al_p rfl (s_box rfl rfl (by repeat constructor) ?_)
  refine al_p rfl (s_alloc (by repeat constructor) ?_)
  refine p_as ?_
  refine al_nil (x_then (hK _ ?_))
  clear hK K
  refine aw_seq (fun K hK => ?_)
  refine p_sr (fun K hK => ?_)
  refine p_as ?_
  refine al_nil (x_then (hK _ ?_))
  clear hK K
  refine aw_block ?_
  refine aw_loopW (fun m t => ∃ j : Nat, j ≤ s.mounts.length ∧ m = s.mounts.length - j ∧ (∀ i y, i < j → s.mounts[i]? = some y → decide (y.1 = dev) = false) ∧ t = ⟨look [(1, .v (.int .i64 dev)), (2, .bp 0 0), (4, .bp 1 0), (6, .v (.int .i64 (j : Int)))], ⟨[spcA s, [.v (.int .i64 0), .v (.int .i64 0)]], []⟩⟩) (s.mounts.length) ((wk 2 0)) (⟨0, by omega, rfl, fun i y hi => by omega, rfl⟩) ?_
  rintro m t ⟨j, hj, rfl, ha, rfl⟩
  refine aw_seq (fun K hK => ?_)
  refine p_sr (fun K hK => ?_)
  refine p_mv ?_
  refine al_p rfl (st_fieldB rfl ?_)
  refine al_p rfl (st_loadB1 rfl rfl rfl ?_)
  first | refine al_p rfl (st_len rfl ?_) | refine al_p rfl (st_lenS (by kernel_rfl) rfl ?_) | refine al_p rfl (st_len0 rfl ?_)
  first | refine al_p rfl (st_lss rfl rfl ?_) | refine al_p rfl (st_lssS rfl rfl ?_)
  refine al_nil (x_then (hK _ ?_))
  clear hK K
  refine aw_cond rfl (fun hb1 => ?_) (fun hb1 => ?_)
  · have hc1 := bp hb1
    obtain ⟨hlt, x, hy, hrow, -⟩ := row_at mntA hc1
    refine aw_skip ?_
    refine x_then ?_
    refine hK _ ?_
    clear hK K
    refine aw_seq (fun K hK => ?_)
    refine aw_block ?_
    refine p_sr (fun K hK => ?_)
    refine al_p rfl (st_fieldB rfl ?_)
    refine al_p rfl (st_loadB1 rfl rfl rfl ?_)
    refine p_mv ?_
    refine al_p rfl (st_index rfl rfl rfl (by first | assumption | rfl) ?_)
    refine al_p rfl (st_fieldF rfl ?_)
    refine al_p rfl (st_loadF1 rfl rfl ?_)
    refine p_mv ?_
    first | refine al_p rfl (st_eql rfl rfl ?_) | refine al_p rfl (st_eqlS rfl rfl ?_) | refine al_p rfl (st_eqlB (by kernel_rfl) rfl rfl ?_)
    refine al_nil (x_then (hK _ ?_))
    clear hK K
    refine aw_cond rfl (fun hb2 => ?_) (fun hb2 => ?_)
    · have hc2 := bp hb2
      refine p_sr (fun K hK => ?_)
      refine al_p rfl (st_fieldB rfl ?_)
      refine al_p rfl (st_loadB1 rfl rfl rfl ?_)
      refine p_mv ?_
      refine al_p rfl (st_index rfl rfl rfl (by first | assumption | rfl) ?_)
      refine al_p rfl (st_fieldF rfl ?_)
      refine al_p rfl (st_loadFN rfl rfl ?_)
      refine p_st ?_
      refine p_as ?_
      refine al_nil (x_then (hK _ ?_))
      clear hK K
      refine aw_ret ?_
      refine x_blockR ?_
      refine x_thenR ?_
      clear hK K
      refine x_thenR ?_
      refine x_blockR ?_
      refine x_thenR ?_
      clear hK K
      refine e_ret ?_
      rw [show onL s dev = some x.2 by simp only [onL]; rw [find_at hy (by simpa using hc2) ha]; rfl]
      rfl
    · have hc2 := bp hb2
      refine aw_skip ?_
      refine x_blockN ?_
      refine x_then ?_
      refine hK _ ?_
      clear hK K
      refine aw_region ?_
      refine p_mv ?_
      first | refine al_p rfl (st_add64 rfl rfl (by omega) ?_) | refine al_p rfl (st_addS rfl rfl (by omega) ?_) | refine al_p rfl (st_add rfl rfl ?_)
      refine p_as ?_
      refine al_nil ?_
      refine x_then ?_
      refine ⟨_, _, ?_, ⟨j + 1, by omega, rfl, upto_snoc hy ha (by simpa using hc2), rfl⟩, (wk 2 0)⟩
      omega
  · have hc1 := bp hb1
    have e3 := row_no mntA hj hc1
    subst e3
    refine aw_exit ?_
    refine x_thenE ?_
    clear hK K
    refine x_thenE ?_
    refine ABlock_out ?_
    refine x_then ?_
    refine hK _ ?_
    clear hK K
    refine p_sr (fun K hK => ?_)
    refine p_bd ?_
    refine p_st ?_
    refine p_as ?_
    refine al_nil (x_then (hK _ ?_))
    clear hK K
    refine aw_ret ?_
    refine e_ret ?_
    rw [show onL s dev = none by simp only [onL]; rw [find_no ha]; rfl]
    rfl

theorem Rmounted (s : Spc) (dev : Int) (hs : SpcB s) : AFn Try.prog 39 [.agg (spcA s), .v (.int .i64 dev)] (fun r => r = .v (.bool (mtdL s dev))) := by
  refine enter Try.func39 rfl rfl rfl rfl rfl 0 rfl ?_
  refine p_sr (fun K hK => ?_)
  first | refine al_p rfl (s_boxA rfl rfl (by repeat constructor) ?_) | refine al_p rfl (s_box rfl rfl (by repeat constructor) ?_)
  refine p_as ?_
  refine al_nil (x_then (hK _ ?_))
  clear hK K
  refine p_sr (fun K hK => ?_)
  refine al_p rfl (st_loadBW rfl rfl rfl ?_)
  refine p_mv ?_
  refine al_p rfl (q_call (Ron s dev hs) ?_)
  rintro r rfl
  refine p_mv ?_
  refine al_p rfl (st_extract rfl rfl ?_)
  refine al_p rfl (st_extract rfl rfl ?_)
  refine al_p rfl (s_alloc (by repeat constructor) ?_)
  refine p_st ?_
  refine p_as ?_
  refine al_nil (x_then (hK _ ?_))
  clear hK K
  refine p_sr (fun K hK => ?_)
  refine p_mv ?_
  refine p_mv ?_
  refine al_gs false rfl rfl (fun hb1 => ?_) (fun hb1 => ?_)
  · have hc1 := bp hb1
    refine g_n ?_
    refine g_n ?_
    refine al_p rfl (p_t ?_)
    refine p_as ?_
    refine al_nil (x_then (hK _ ?_))
    clear hK K
    refine aw_ret ?_
    refine e_ret ?_
    exact vb (by unfold mtdL; rw [hc1]; simp)
  · have hc1 := bp hb1
    refine g_y (st_move rfl ?_)
    first | refine g_y (st_eql rfl rfl ?_) | refine g_y (st_eqlS rfl rfl ?_) | refine g_y (st_eqlB (by kernel_rfl) rfl rfl ?_)
    refine al_p rfl (p_f ?_)
    refine p_as ?_
    refine al_nil (x_then (hK _ ?_))
    clear hK K
    refine aw_ret ?_
    refine e_ret ?_
    exact vb (by unfold mtdL; rw [hc1]; simp)

theorem Rdevice (s : Spc) (a : Fil) (hs : SpcB s) : AFn Try.prog 62 [.agg (spcA s), .agg (filA a)] (fun r => r = .tup [.v (.int .i64 ((covL s a).getD 0)), .v (.bool (covL s a).isSome)]) := by
  have hfew := hs.few
  refine enter Try.func62 rfl rfl rfl rfl rfl 0 rfl ?_
  refine p_sr (fun K hK => ?_)
  first | refine al_p rfl (s_boxA rfl rfl (by repeat constructor) ?_) | refine al_p rfl (s_box rfl rfl (by repeat constructor) ?_)
  first | refine al_p rfl (s_boxA rfl rfl (by repeat constructor) ?_) | refine al_p rfl (s_box rfl rfl (by repeat constructor) ?_)
  refine p_as ?_
  refine p_as ?_
  refine al_nil (x_then (hK _ ?_))
  clear hK K
  refine aw_seq (fun K hK => ?_)
  refine p_sr (fun K hK => ?_)
  refine p_as ?_
  refine al_nil (x_then (hK _ ?_))
  clear hK K
  refine aw_block ?_
  refine aw_loopW (fun m t => ∃ j : Nat, j ≤ s.mounts.length ∧ m = s.mounts.length - j ∧ (∀ i y, i < j → s.mounts[i]? = some y → decide (y.2 = a) = false) ∧ t = ⟨look [(2, .bp 0 0), (3, .bp 1 0), (6, .v (.int .i64 (j : Int)))], ⟨[spcA s, filA a], []⟩⟩) (s.mounts.length) ((wk 2 0)) (⟨0, by omega, rfl, fun i y hi => by omega, rfl⟩) ?_
  rintro m t ⟨j, hj, rfl, ha, rfl⟩
  refine aw_seq (fun K hK => ?_)
  refine p_sr (fun K hK => ?_)
  refine p_mv ?_
  refine al_p rfl (st_fieldB rfl ?_)
  refine al_p rfl (st_loadB1 rfl rfl rfl ?_)
  first | refine al_p rfl (st_len rfl ?_) | refine al_p rfl (st_lenS (by kernel_rfl) rfl ?_) | refine al_p rfl (st_len0 rfl ?_)
  first | refine al_p rfl (st_lss rfl rfl ?_) | refine al_p rfl (st_lssS rfl rfl ?_)
  refine al_nil (x_then (hK _ ?_))
  clear hK K
  refine aw_cond rfl (fun hb1 => ?_) (fun hb1 => ?_)
  · have hc1 := bp hb1
    obtain ⟨hlt, x, hy, hrow, -⟩ := row_at mntA hc1
    refine aw_skip ?_
    refine x_then ?_
    refine hK _ ?_
    clear hK K
    refine aw_seq (fun K hK => ?_)
    refine aw_block ?_
    refine aw_seq (fun K hK => ?_)
    refine aw_drawR 8 (by kernel_rfl) ?_
    refine r_y (i := 0) rfl (st_fieldB rfl ⟨rfl, rfl⟩) ?_
    refine r_y (i := 1) rfl (st_loadB1 rfl rfl rfl ⟨rfl, rfl⟩) ?_
    refine r_y (i := 2) rfl (st_move rfl ⟨rfl, rfl⟩) ?_
    refine r_y (i := 3) rfl (st_index rfl rfl rfl (by first | assumption | rfl) ⟨rfl, rfl⟩) ?_
    refine r_y (i := 4) rfl (st_fieldF rfl ⟨rfl, rfl⟩) ?_
    refine r_y (i := 5) rfl (st_loadFN rfl rfl ⟨rfl, rfl⟩) ?_
    refine r_y (i := 6) rfl (st_loadBW rfl rfl rfl ⟨rfl, rfl⟩) ?_
    refine r_y (i := 7) rfl (st_binA rfl rfl (by repeat constructor) (by repeat constructor) (fun w => eqlFil _ _ _ _ w) (by kernel_rfl) ⟨rfl, rfl⟩) ?_
    refine aa_done (by kernel_rfl) ?_ _
    refine x_then ?_
    refine hK _ ?_
    clear hK K
    refine aw_cond rfl (fun hb2 => ?_) (fun hb2 => ?_)
    · have hc2 := bp hb2
      refine p_sr (fun K hK => ?_)
      refine al_p rfl (st_fieldB rfl ?_)
      refine al_p rfl (st_loadB1 rfl rfl rfl ?_)
      refine p_mv ?_
      refine al_p rfl (st_index rfl rfl rfl (by first | assumption | rfl) ?_)
      refine al_p rfl (st_fieldF rfl ?_)
      refine al_p rfl (st_loadF1 rfl rfl ?_)
      refine p_as ?_
      refine p_as ?_
      refine al_nil (x_then (hK _ ?_))
      clear hK K
      refine aw_ret ?_
      refine x_blockR ?_
      refine x_thenR ?_
      clear hK K
      refine x_thenR ?_
      refine x_blockR ?_
      refine x_thenR ?_
      clear hK K
      refine e_ret ?_
      rw [show covL s a = some x.1 by simp only [covL]; rw [find_at hy (decide_eq_true hc2) ha]; rfl]
      rfl
    · have hc2 := bp hb2
      refine aw_skip ?_
      refine x_blockN ?_
      refine x_then ?_
      refine hK _ ?_
      clear hK K
      refine aw_region ?_
      refine p_mv ?_
      first | refine al_p rfl (st_add64 rfl rfl (by omega) ?_) | refine al_p rfl (st_addS rfl rfl (by omega) ?_) | refine al_p rfl (st_add rfl rfl ?_)
      refine p_as ?_
      refine al_nil ?_
      refine x_then ?_
      refine ⟨_, _, ?_, ⟨j + 1, by omega, rfl, upto_snoc hy ha (decide_eq_false hc2), rfl⟩, (wk 2 0)⟩
      omega
  · have hc1 := bp hb1
    have e3 := row_no mntA hj hc1
    subst e3
    refine aw_exit ?_
    refine x_thenE ?_
    clear hK K
    refine x_thenE ?_
    refine ABlock_out ?_
    refine x_then ?_
    refine hK _ ?_
    clear hK K
    refine p_sr (fun K hK => ?_)
    refine p_as ?_
    refine p_as ?_
    refine al_nil (x_then (hK _ ?_))
    clear hK K
    refine aw_ret ?_
    refine e_ret ?_
    rw [show covL s a = none by simp only [covL]; rw [find_no ha]; rfl]
    rfl

theorem Rcovered (s : Spc) (a : Fil) (hs : SpcB s) : AFn Try.prog 27 [.agg (spcA s), .agg (filA a)] (fun r => r = .v (.bool (covL s a).isSome)) := by
  refine enter Try.func27 rfl rfl rfl rfl rfl 0 rfl ?_
  refine p_sr (fun K hK => ?_)
  first | refine al_p rfl (s_boxA rfl rfl (by repeat constructor) ?_) | refine al_p rfl (s_box rfl rfl (by repeat constructor) ?_)
  first | refine al_p rfl (s_boxA rfl rfl (by repeat constructor) ?_) | refine al_p rfl (s_box rfl rfl (by repeat constructor) ?_)
  refine p_as ?_
  refine al_nil (x_then (hK _ ?_))
  clear hK K
  refine p_sr (fun K hK => ?_)
  refine al_p rfl (st_loadBW rfl rfl rfl ?_)
  refine al_p rfl (st_loadBW rfl rfl rfl ?_)
  refine al_p rfl (q_call (Rdevice s a hs) ?_)
  rintro r rfl
  refine p_mv ?_
  refine al_p rfl (st_extract rfl rfl ?_)
  refine al_p rfl (st_extract rfl rfl ?_)
  refine p_as ?_
  refine p_as ?_
  refine al_nil (x_then (hK _ ?_))
  clear hK K
  refine p_sr (fun K hK => ?_)
  refine p_mv ?_
  refine p_as ?_
  refine al_nil (x_then (hK _ ?_))
  clear hK K
  refine aw_ret ?_
  refine e_ret ?_
  rfl

theorem Pplace (s : Spc) (dev : Int) (hs : SpcB s) : AFn Try.prog 63 [.agg (spcA s), .v (.int .i64 dev)] (fun r => r = .tup [.agg (filA ((onL s dev).getD (0, 0))), .v (.bool (onL s dev).isSome)]) := by
  have hfew := hs.few
  refine enter Try.func63 rfl rfl rfl rfl rfl 0 rfl ?_
  refine p_sr (fun K hK => ?_)
  first | refine al_p rfl (s_boxA rfl rfl (by repeat constructor) ?_) | refine al_p rfl (s_box rfl rfl (by repeat constructor) ?_)
  refine al_p rfl (s_alloc (by repeat constructor) ?_)
  refine p_as ?_
  refine al_nil (x_then (hK _ ?_))
  clear hK K
  refine aw_seq (fun K hK => ?_)
  refine p_sr (fun K hK => ?_)
  refine al_p rfl (st_fieldB rfl ?_)
  refine al_p rfl (st_loadB1 rfl rfl rfl ?_)
  first | refine al_p rfl (st_len rfl ?_) | refine al_p rfl (st_lenS (by kernel_rfl) rfl ?_) | refine al_p rfl (st_len0 rfl ?_)
  refine p_mv ?_
  refine al_nil (x_then (hK _ ?_))
  clear hK K
  refine aw_block ?_
  refine aw_loopW (fun m t => ∃ j : Nat, j ≤ s.mounts.length ∧ m = s.mounts.length - j ∧ (∀ i y, i < j → s.mounts[i]? = some y → decide (y.1 = dev) = false) ∧ t = ⟨look [(1, .v (.int .i64 dev)), (4, .bp 1 0), (9, .sl 3 (s.mounts.map mntA) none), (10, .v (.int .i64 ((s.mounts.map mntA).length : Int))), (11, .v (.int .i64 (j : Int)))], ⟨[spcA s, [.v (.int .i64 0), .v (.int .i64 0)]], []⟩⟩) (s.mounts.length) ((wk 2 0)) (⟨0, by omega, rfl, fun i y hi => by omega, rfl⟩) ?_
  rintro m t ⟨j, hj, rfl, ha, rfl⟩
  refine p_sr (fun K hK => ?_)
  first | refine al_p rfl (st_lss rfl rfl ?_) | refine al_p rfl (st_lssS rfl rfl ?_)
  refine al_nil (x_then (hK _ ?_))
  clear hK K
  refine aw_seq (fun K hK => ?_)
  refine aw_cond rfl (fun hb1 => ?_) (fun hb1 => ?_)
  · have hc1 := bp hb1
    obtain ⟨hlt, x, hy, hrow, -⟩ := row_at mntA hc1
    refine aw_skip ?_
    refine x_then ?_
    refine hK _ ?_
    clear hK K
    refine aw_seq (fun K hK => ?_)
    refine aw_block ?_
    refine p_sr (fun K hK => ?_)
    refine al_p rfl (st_index rfl rfl rfl (by first | assumption | rfl) ?_)
    refine al_p rfl (st_loadFW rfl rfl ?_)
    refine al_p rfl (s_alloc (by repeat constructor) ?_)
    refine p_st ?_
    refine al_nil (x_then (hK _ ?_))
    clear hK K
    refine p_sr (fun K hK => ?_)
    refine al_p rfl (st_fieldB rfl ?_)
    refine al_p rfl (st_loadB1 rfl rfl rfl ?_)
    refine p_mv ?_
    first | refine al_p rfl (st_eql rfl rfl ?_) | refine al_p rfl (st_eqlS rfl rfl ?_) | refine al_p rfl (st_eqlB (by kernel_rfl) rfl rfl ?_)
    refine al_nil (x_then (hK _ ?_))
    clear hK K
    refine aw_cond rfl (fun hb2 => ?_) (fun hb2 => ?_)
    · have hc2 := bp hb2
      refine p_sr (fun K hK => ?_)
      refine al_p rfl (st_fieldB rfl ?_)
      refine al_p rfl (st_loadBN rfl rfl rfl ?_)
      refine p_st ?_
      refine p_as ?_
      refine al_nil (x_then (hK _ ?_))
      clear hK K
      refine aw_ret ?_
      refine x_blockR ?_
      refine x_thenR ?_
      clear hK K
      refine x_thenR ?_
      refine x_blockR ?_
      refine x_thenR ?_
      clear hK K
      refine e_ret ?_
      rw [show onL s dev = some x.2 by simp only [onL]; rw [find_at hy (by simpa using hc2) ha]; rfl]
      rfl
    · have hc2 := bp hb2
      refine aw_skip ?_
      refine x_blockN ?_
      refine x_then ?_
      refine hK _ ?_
      clear hK K
      refine aw_region ?_
      first | refine al_p rfl (st_add64 rfl rfl (by omega) ?_) | refine al_p rfl (st_addS rfl rfl (by omega) ?_) | refine al_p rfl (st_add rfl rfl ?_)
      refine p_mv ?_
      refine al_nil ?_
      refine x_then ?_
      refine ⟨_, _, ?_, ⟨j + 1, by omega, rfl, upto_snoc hy ha (by simpa using hc2), rfl⟩, (wk 2 0)⟩
      omega
  · have hc1 := bp hb1
    have e3 := row_no mntA hj hc1
    subst e3
    refine aw_exit ?_
    refine x_thenE ?_
    clear hK K
    refine x_thenE ?_
    refine ABlock_out ?_
    refine x_then ?_
    refine hK _ ?_
    clear hK K
    refine p_sr (fun K hK => ?_)
    refine p_bd ?_
    refine p_st ?_
    refine p_as ?_
    refine al_nil (x_then (hK _ ?_))
    clear hK K
    refine aw_ret ?_
    refine e_ret ?_
    rw [show onL s dev = none by simp only [onL]; rw [find_no ha]; rfl]
    rfl

theorem Pmounted (s : Spc) (dev : Int) (hs : SpcB s) : AFn Try.prog 38 [.agg (spcA s), .v (.int .i64 dev)] (fun r => r = .v (.bool (mtdL s dev))) := by
  refine enter Try.func38 rfl rfl rfl rfl rfl 0 rfl ?_
  refine p_sr (fun K hK => ?_)
  first | refine al_p rfl (s_boxA rfl rfl (by repeat constructor) ?_) | refine al_p rfl (s_box rfl rfl (by repeat constructor) ?_)
  refine p_as ?_
  refine al_nil (x_then (hK _ ?_))
  clear hK K
  refine aw_seq (fun K hK => ?_)
  refine p_sr (fun K hK => ?_)
  refine p_mv ?_
  first | refine al_p rfl (st_eql rfl rfl ?_) | refine al_p rfl (st_eqlS rfl rfl ?_) | refine al_p rfl (st_eqlB (by kernel_rfl) rfl rfl ?_)
  refine al_nil (x_then (hK _ ?_))
  clear hK K
  refine aw_cond rfl (fun hb1 => ?_) (fun hb1 => ?_)
  · have hc1 := bp hb1
    refine p_sr (fun K hK => ?_)
    refine p_as ?_
    refine al_nil (x_then (hK _ ?_))
    clear hK K
    refine aw_ret ?_
    refine x_thenR ?_
    clear hK K
    refine e_ret ?_
    exact vb (by unfold mtdL; simp [hc1])
  · have hc1 := bp hb1
    refine aw_skip ?_
    refine x_then ?_
    refine hK _ ?_
    clear hK K
    refine p_sr (fun K hK => ?_)
    refine al_p rfl (st_loadBW rfl rfl rfl ?_)
    refine p_mv ?_
    refine al_p rfl (q_call (Pplace s dev hs) ?_)
    rintro r rfl
    refine p_mv ?_
    refine al_p rfl (st_extract rfl rfl ?_)
    refine al_p rfl (st_extract rfl rfl ?_)
    refine al_p rfl (s_alloc (by repeat constructor) ?_)
    refine p_st ?_
    refine p_as ?_
    refine al_nil (x_then (hK _ ?_))
    clear hK K
    refine p_sr (fun K hK => ?_)
    refine p_mv ?_
    refine p_as ?_
    refine al_nil (x_then (hK _ ?_))
    clear hK K
    refine aw_ret ?_
    refine e_ret ?_
    exact vb (by unfold mtdL; simp [hc1])

theorem Pcover (s : Spc) (a : Fil) (hs : SpcB s) : AFn Try.prog 61 [.agg (spcA s), .agg (filA a)] (fun r => r = .tup [.v (.int .i64 ((covL s a).getD 0)), .v (.bool (covL s a).isSome)]) := by
  have hfew := hs.few
  refine enter Try.func61 rfl rfl rfl rfl rfl 0 rfl ?_
  refine p_sr (fun K hK => ?_)
  first | refine al_p rfl (s_boxA rfl rfl (by repeat constructor) ?_) | refine al_p rfl (s_box rfl rfl (by repeat constructor) ?_)
  first | refine al_p rfl (s_boxA rfl rfl (by repeat constructor) ?_) | refine al_p rfl (s_box rfl rfl (by repeat constructor) ?_)
  refine p_as ?_
  refine p_as ?_
  refine al_nil (x_then (hK _ ?_))
  clear hK K
  refine aw_seq (fun K hK => ?_)
  refine p_sr (fun K hK => ?_)
  refine al_p rfl (st_fieldB rfl ?_)
  refine al_p rfl (st_loadB1 rfl rfl rfl ?_)
  first | refine al_p rfl (st_len rfl ?_) | refine al_p rfl (st_lenS (by kernel_rfl) rfl ?_) | refine al_p rfl (st_len0 rfl ?_)
  refine p_mv ?_
  refine al_nil (x_then (hK _ ?_))
  clear hK K
  refine aw_block ?_
  refine aw_loopW (fun m t => ∃ j : Nat, j ≤ s.mounts.length ∧ m = s.mounts.length - j ∧ (∀ i y, i < j → s.mounts[i]? = some y → decide (y.2 = a) = false) ∧ t = ⟨look [(3, .bp 1 0), (9, .sl 3 (s.mounts.map mntA) none), (10, .v (.int .i64 ((s.mounts.map mntA).length : Int))), (11, .v (.int .i64 (j : Int)))], ⟨[spcA s, filA a], []⟩⟩) (s.mounts.length) ((wk 2 0)) (⟨0, by omega, rfl, fun i y hi => by omega, rfl⟩) ?_
  rintro m t ⟨j, hj, rfl, ha, rfl⟩
  refine p_sr (fun K hK => ?_)
  first | refine al_p rfl (st_lss rfl rfl ?_) | refine al_p rfl (st_lssS rfl rfl ?_)
  refine al_nil (x_then (hK _ ?_))
  clear hK K
  refine aw_seq (fun K hK => ?_)
  refine aw_cond rfl (fun hb1 => ?_) (fun hb1 => ?_)
  · have hc1 := bp hb1
    obtain ⟨hlt, x, hy, hrow, -⟩ := row_at mntA hc1
    refine aw_skip ?_
    refine x_then ?_
    refine hK _ ?_
    clear hK K
    refine aw_seq (fun K hK => ?_)
    refine aw_block ?_
    refine p_sr (fun K hK => ?_)
    refine al_p rfl (st_index rfl rfl rfl (by first | assumption | rfl) ?_)
    refine al_p rfl (st_loadFW rfl rfl ?_)
    refine al_p rfl (s_alloc (by repeat constructor) ?_)
    refine p_st ?_
    refine al_nil (x_then (hK _ ?_))
    clear hK K
    refine p_sr (fun K hK => ?_)
    refine al_p rfl (st_fieldB rfl ?_)
    refine al_p rfl (st_loadBN rfl rfl rfl ?_)
    refine al_p rfl (st_loadBW rfl rfl rfl ?_)
    refine al_p rfl (st_binA rfl rfl (by repeat constructor) (by repeat constructor) (fun w => eqlFil _ _ _ _ w) (by kernel_rfl) ?_)
    refine al_nil (x_then (hK _ ?_))
    clear hK K
    refine aw_cond rfl (fun hb2 => ?_) (fun hb2 => ?_)
    · have hc2 := bp hb2
      refine p_sr (fun K hK => ?_)
      refine al_p rfl (st_fieldB rfl ?_)
      refine al_p rfl (st_loadB1 rfl rfl rfl ?_)
      refine p_as ?_
      refine p_as ?_
      refine al_nil (x_then (hK _ ?_))
      clear hK K
      refine aw_ret ?_
      refine x_blockR ?_
      refine x_thenR ?_
      clear hK K
      refine x_thenR ?_
      refine x_blockR ?_
      refine x_thenR ?_
      clear hK K
      refine e_ret ?_
      rw [show covL s a = some x.1 by simp only [covL]; rw [find_at hy (decide_eq_true hc2) ha]; rfl]
      rfl
    · have hc2 := bp hb2
      refine aw_skip ?_
      refine x_blockN ?_
      refine x_then ?_
      refine hK _ ?_
      clear hK K
      refine aw_region ?_
      first | refine al_p rfl (st_add64 rfl rfl (by omega) ?_) | refine al_p rfl (st_addS rfl rfl (by omega) ?_) | refine al_p rfl (st_add rfl rfl ?_)
      refine p_mv ?_
      refine al_nil ?_
      refine x_then ?_
      refine ⟨_, _, ?_, ⟨j + 1, by omega, rfl, upto_snoc hy ha (decide_eq_false hc2), rfl⟩, (wk 2 0)⟩
      omega
  · have hc1 := bp hb1
    have e3 := row_no mntA hj hc1
    subst e3
    refine aw_exit ?_
    refine x_thenE ?_
    clear hK K
    refine x_thenE ?_
    refine ABlock_out ?_
    refine x_then ?_
    refine hK _ ?_
    clear hK K
    refine p_sr (fun K hK => ?_)
    refine p_as ?_
    refine p_as ?_
    refine al_nil (x_then (hK _ ?_))
    clear hK K
    refine aw_ret ?_
    refine e_ret ?_
    rw [show covL s a = none by simp only [covL]; rw [find_no ha]; rfl]
    rfl

theorem Pcovered (s : Spc) (a : Fil) (hs : SpcB s) : AFn Try.prog 26 [.agg (spcA s), .agg (filA a)] (fun r => r = .v (.bool (covL s a).isSome)) := by
  refine enter Try.func26 rfl rfl rfl rfl rfl 0 rfl ?_
  refine p_sr (fun K hK => ?_)
  first | refine al_p rfl (s_boxA rfl rfl (by repeat constructor) ?_) | refine al_p rfl (s_box rfl rfl (by repeat constructor) ?_)
  first | refine al_p rfl (s_boxA rfl rfl (by repeat constructor) ?_) | refine al_p rfl (s_box rfl rfl (by repeat constructor) ?_)
  refine p_as ?_
  refine al_nil (x_then (hK _ ?_))
  clear hK K
  refine p_sr (fun K hK => ?_)
  refine al_p rfl (st_loadBW rfl rfl rfl ?_)
  refine al_p rfl (st_loadBW rfl rfl rfl ?_)
  refine al_p rfl (q_call (Pcover s a hs) ?_)
  rintro r rfl
  refine p_mv ?_
  refine al_p rfl (st_extract rfl rfl ?_)
  refine al_p rfl (st_extract rfl rfl ?_)
  refine p_as ?_
  refine p_as ?_
  refine al_nil (x_then (hK _ ?_))
  clear hK K
  refine p_sr (fun K hK => ?_)
  refine p_mv ?_
  refine p_as ?_
  refine al_nil (x_then (hK _ ?_))
  clear hK K
  refine aw_ret ?_
  refine e_ret ?_
  rfl

end
end Go.Proofs.Ytgliiknfmlmddaa
namespace Go.Proofs.Ytgliiknfmlmddaa
open Go.RowKit

section
variable {P : Program} {ev : Operand → Option AV} {h : AH} {R : AV → AH → Prop} {d : Option Tmp} {ty : TypeId} {pos : String} {af : Array Edge} {gd : Option (Nat × Bool)}
theorem run_slit1 {T E sz bytes : Nat} (hE : elmOf P T = some (E, sz, bytes)) (hsz : sz ≤ 100) {v : Value} {us : List Value} (hv : v.cells = us.toArray) (hl : us.length = sz) (w : World) :
    (Instr.buildSlice T 1 #[(0, v)]).run P w = .ok (.slice (some ⟨w.heap.size, 0, none⟩) 1 1) (w.alloc (.cells us.toArray E)) := by
  obtain ⟨hu, inf, z, hinf, hz, hzs, hs, hby, hp⟩ := elm_spec hE
  refine run_buildSlice w T E 1 _ us.toArray inf z hu hinf hz (by rw [hs]; omega) (by rw [hs]; omega) ?_
  obtain ⟨r, h1, h2, h3⟩ := Great.fill_dense hp [v] 0 ((Array.range (1 * inf.size)).map (z.cells[· % z.cells.size]!)) (fun x hx => by rw [List.mem_singleton.1 hx, hv]; simpa using hl) (by simp [hs])
  have e : r = us.toArray := by
    apply Array.ext_getElem?
    intro k
    rcases Nat.lt_or_ge k sz with hk | hk
    · rw [h3, if_pos ⟨by omega, by simp; omega⟩, Nat.div_eq_of_lt hk, Nat.mod_eq_of_lt hk]
      simp [hv]
    · rw [Array.getElem?_eq_none (by rw [h2]; simp [hs]; omega), Array.getElem?_eq_none (by simp; omega)]
  rw [hs] at h1 ⊢
  rw [e] at h1
  simpa using h1
theorem st_slit1B {T : TypeId} {x : Operand} {E sz bytes k : Nat} {av : AV} {bx' : List (List AV)} [hE : Elm P T E sz bytes] (hx : ev x = some av) (h1 : onesA (cellsA av) = true) (hl : Nat.beq (cellsA av).length sz = true) (hsz : Nat.ble sz 100 = true) (hs : SnocAt h.bx (cellsA av) k bx') (hR : R (.bs k 0 sz 1 1) ⟨bx', h.tk⟩) :
    AStep P ⟨d, .buildSlice T 1 #[(0, x)], ty, pos, af, gd⟩ ev h R := by
  intro E' G w ec hr he
  obtain ⟨vs, k8, k9⟩ := rep_cells (he x (by simp [Op.operands]) _ hx) h1
  have hvl := repL_length k9
  have hl' := Nat.eq_of_beq_eq_true hl
  have hrun := run_slit1 (P := P) hE.eq (Nat.le_of_ble_eq_true hsz) k8 (by omega) w
  obtain ⟨G', q1, q2, q3⟩ := new_box (T := E) hr k9 (repL_ones k9 h1) hs
  simp only [rep] at q3
  obtain ⟨b, q4, q5⟩ := q3
  injection q5 with q5
  injection q5 with q5
  injection q5 with q5
  subst q5
  have hrun' : (Instr.buildSlice T 1 (#[(0, x)].map fun p => (p.1, ec p.2))).run P w = .ok (.slice (some ⟨w.heap.size, 0, none⟩) 1 1) (w.alloc (.cells vs.toArray E)) := by simpa using hrun
  simp only [execOp, Sem.run_bind, hrun', Result.andThen_ok, Sem.run_pure]
  exact ⟨_, _, G', hR, q1, q2, by simp only [rep]; exact ⟨_, q4, rfl, Nat.le_refl _, by unfold maxLen; omega⟩⟩
end
end Go.Proofs.Ytgliiknfmlmddaa
namespace Go.Proofs.Ytgliiknfmlmddaa
open Go.RowKit

section
variable {P : Program} {N : Dim} {Q : Exit → AS → Prop} {S : AH → Prop} {tl fuel : Nat} {l : List Oper} {listed : Array Bool} {m : List (Nat × AV)} {h : AH}
theorem aa_two {i j di dj : Nat} {op op' : Op} {ty ty' : TypeId} {pos pos' : String} {af af' : Array Edge} {gd gd' : Option (Nat × Bool)} (hr : Region.ready .any l.toArray listed = [i, j])
    (hi : l[i]? = some ⟨some di, op, ty, pos, af, gd⟩) (hdi : Nat.blt di N.n = true) (hwi : wantedA l.toArray (look m) ⟨some di, op, ty, pos, af, gd⟩ = some true)
    (hj : l[j]? = some ⟨some dj, op', ty', pos', af', gd'⟩) (hdj : Nat.blt dj N.n = true) (hwj : wantedA l.toArray (look m) ⟨some dj, op', ty', pos', af', gd'⟩ = some true)
    (H1 : AStep P ⟨some di, op, ty, pos, af, gd⟩ (evs (look m)) h (fun x h' => (i = tl ∨ S h') ∧ AAny P N l.toArray Q S tl fuel (listed.setIfInBounds i true) ⟨look ((di, x) :: m), h'⟩))
    (H2 : AStep P ⟨some dj, op', ty', pos', af', gd'⟩ (evs (look m)) h (fun x h' => (j = tl ∨ S h') ∧ AAny P N l.toArray Q S tl fuel (listed.setIfInBounds j true) ⟨look ((dj, x) :: m), h'⟩)) : AAny P N l.toArray Q S tl (fuel + 1) listed ⟨look m, h⟩ := by
  refine ⟨(fun h0 => by rw [hr] at h0; cases h0), fun k hk => ?_⟩
  rw [hr] at hk
  have hk' : k = i ∨ k = j := by simpa using hk
  rcases hk' with rfl | rfl
  · unfold AOp
    simp only [get_arr hi]
    exact ⟨hdi, true, hwi, fun _ => H1, fun h => by cases h⟩
  · unfold AOp
    simp only [get_arr hj]
    exact ⟨hdj, true, hwj, fun _ => H2, fun h => by cases h⟩
end
end Go.Proofs.Ytgliiknfmlmddaa
namespace Go.Proofs.Ytgliiknfmlmddaa
open Go.RowKit

theorem nodeL_at {f : Fls} {a : Fil} {k : Nat} {d : Dvc} (hk : a.1 = (k : Int)) (hd : f[k]? = some d) : nodeL f a = d.nodes.find? (fun n : Nod => n.ino == a.2) := by
  unfold nodeL; rw [hk, atI_nat, hd]
def FindR (f : Fls) (a : Fil) (r : AV) : Prop := (nodeL f a = none ∧ r = .v (.pointer none)) ∨ ∃ n, nodeL f a = some n ∧ r = .fp (nodA n)
section
set_option maxRecDepth 10000
set_option maxHeartbeats 1000000
theorem Pfind (f : Fls) (a : Fil) (hf : FlsB f) : AFn Try.prog 72 [.agg (flsA f), .agg (filA a)] (FindR f a) := by
  refine enter Try.func72 rfl rfl rfl rfl rfl 0 rfl ?_
  refine p_sr (fun K hK => ?_)
  first | refine al_p rfl (s_boxA rfl rfl (by repeat constructor) ?_) | refine al_p rfl (s_box rfl rfl (by repeat constructor) ?_)
  first | refine al_p rfl (s_boxA rfl rfl (by repeat constructor) ?_) | refine al_p rfl (s_box rfl rfl (by repeat constructor) ?_)
  refine p_as ?_
  refine al_nil (x_then (hK _ ?_))
  clear hK K
  refine aw_seq (fun K hK => ?_)
  refine p_sr (fun K hK => ?_)
  refine al_p rfl (st_fieldB rfl ?_)
  refine al_p rfl (st_loadB1 rfl rfl rfl ?_)
  first | refine al_p rfl (st_lss rfl rfl ?_) | refine al_p rfl (st_lssS rfl rfl ?_)
  refine p_mv ?_
  refine al_gs false rfl rfl (fun hb1 => ?_) (fun hb1 => ?_)
  · have hc1 := bp hb1
    refine g_n ?_
    refine g_n ?_
    refine g_n ?_
    refine g_n ?_
    refine g_n ?_
    refine g_n ?_
    refine al_p rfl (p_t ?_)
    refine al_nil (x_then (hK _ ?_))
    clear hK K
    refine aw_cy rfl (by first | rfl | assumption | simp [*]) ?_
    refine p_sr (fun K hK => ?_)
    refine p_as ?_
    refine al_nil (x_then (hK _ ?_))
    clear hK K
    refine aw_ret ?_
    refine x_thenR ?_
    clear hK K
    refine e_ret ?_
    exact .inl ⟨by unfold nodeL; rw [atI_none (.inl hc1)], rfl⟩
  · have hc1 := bp hb1
    refine g_y (st_fieldB rfl ?_)
    refine g_y (st_loadB1 rfl rfl rfl ?_)
    refine g_y (st_fieldB rfl ?_)
    refine g_y (st_loadB1 rfl rfl rfl ?_)
    first | refine g_y (st_len rfl ?_) | refine g_y (st_lenS (by kernel_rfl) rfl ?_) | refine g_y (st_len0 rfl ?_)
    first | refine g_y (st_geq rfl rfl ?_) | refine g_y (st_geqS rfl rfl ?_)
    refine al_p rfl (p_f ?_)
    refine al_nil (x_then (hK _ ?_))
    clear hK K
    refine aw_cond rfl (fun hb2 => ?_) (fun hb2 => ?_)
    · have hc2 := bp hb2
      refine p_sr (fun K hK => ?_)
      refine p_as ?_
      refine al_nil (x_then (hK _ ?_))
      clear hK K
      refine aw_ret ?_
      refine x_thenR ?_
      clear hK K
      refine e_ret ?_
      exact .inl ⟨by unfold nodeL; rw [atI_none (.inr (by rw [List.length_map] at hc2; exact hc2))], rfl⟩
    · have hc2 := bp hb2
      obtain ⟨k, hk⟩ := Int.eq_ofNat_of_zero_le (show 0 ≤ a.1 by omega)
      rw [hk] at hc2
      obtain ⟨-, d, hd, hrow, -⟩ := row_at dvcA (l := f) (k := k) (by omega)
      have hdn := hf.nodes d (List.mem_of_getElem? hd)
      refine aw_skip ?_
      refine x_then ?_
      refine hK _ ?_
      clear hK K
      refine p_sr (fun K hK => ?_)
      refine al_p rfl (st_fieldB rfl ?_)
      refine al_p rfl (st_loadB1 rfl rfl rfl ?_)
      refine al_p rfl (st_fieldB rfl ?_)
      refine al_p rfl (st_loadB1 rfl rfl rfl ?_)
      refine al_p rfl (st_index (n := k) rfl rfl hk hrow ?_)
      refine al_p rfl (st_fieldF rfl ?_)
      refine al_p rfl (st_loadF1 rfl rfl ?_)
      refine p_as ?_
      refine al_nil (x_then (hK _ ?_))
      clear hK K
      refine aw_seq (fun K hK => ?_)
      refine p_sr (fun K hK => ?_)
      refine p_mv ?_
      first | refine al_p rfl (st_len rfl ?_) | refine al_p rfl (st_lenS (by kernel_rfl) rfl ?_) | refine al_p rfl (st_len0 rfl ?_)
      refine p_mv ?_
      refine al_nil (x_then (hK _ ?_))
      clear hK K
      refine aw_block ?_
      refine aw_loopW (fun m s => ∃ j : Nat, j ≤ d.nodes.length ∧ m = d.nodes.length - j ∧ (∀ i y, i < j → d.nodes[i]? = some y → (y.ino == a.2) = false) ∧ s = ⟨look [(3, .bp 1 0), (5, .sl 8 (d.nodes.map nodA) none), (26, .v (.int .i64 ((d.nodes.map nodA).length : Int))), (27, .v (.int .i64 (j : Int)))], ⟨[flsA f, filA a], []⟩⟩) (d.nodes.length) ((wk 2 0)) (⟨0, by omega, rfl, fun i y hi => by omega, rfl⟩) ?_
      rintro m s ⟨j, hj, rfl, ha, rfl⟩
      refine p_sr (fun K hK => ?_)
      first | refine al_p rfl (st_lss rfl rfl ?_) | refine al_p rfl (st_lssS rfl rfl ?_)
      refine al_nil (x_then (hK _ ?_))
      clear hK K
      refine aw_seq (fun K hK => ?_)
      refine aw_cond rfl (fun hb3 => ?_) (fun hb3 => ?_)
      · have hc3 := bp hb3
        obtain ⟨hlt, n, hy, hrow2, -⟩ := row_at nodA hc3
        refine aw_skip ?_
        refine x_then ?_
        refine hK _ ?_
        clear hK K
        refine aw_seq (fun K hK => ?_)
        refine aw_block ?_
        refine p_sr (fun K hK => ?_)
        refine p_mv ?_
        refine p_as ?_
        refine al_nil (x_then (hK _ ?_))
        clear hK K
        refine aw_seq (fun K hK => ?_)
        refine aw_drawR 8 (by kernel_rfl) ?_
        refine r_y (i := 0) rfl (st_move rfl ⟨rfl, rfl⟩) ?_
        refine r_y (i := 1) rfl (st_move rfl ⟨rfl, rfl⟩) ?_
        refine r_y (i := 2) rfl (st_index rfl rfl rfl (by first | assumption | rfl) ⟨rfl, rfl⟩) ?_
        refine r_y (i := 3) rfl (st_fieldF rfl ⟨rfl, rfl⟩) ?_
        refine r_y (i := 4) rfl (st_loadF1 rfl rfl ⟨rfl, rfl⟩) ?_
        refine r_y (i := 5) rfl (st_fieldB rfl ⟨rfl, rfl⟩) ?_
        refine r_y (i := 6) rfl (st_loadB1 rfl rfl rfl ⟨rfl, rfl⟩) ?_
        first | refine r_y (i := 7) rfl (st_eql rfl rfl ⟨rfl, rfl⟩) ?_ | refine r_y (i := 7) rfl (st_eqlS rfl rfl ⟨rfl, rfl⟩) ?_ | refine r_y (i := 7) rfl (st_eqlB (by kernel_rfl) rfl rfl ⟨rfl, rfl⟩) ?_
        refine aa_done (by kernel_rfl) ?_ _
        refine x_then ?_
        refine hK _ ?_
        clear hK K
        refine aw_cond rfl (fun hb4 => ?_) (fun hb4 => ?_)
        · have hc4 := bp hb4
          refine p_sr (fun K hK => ?_)
          refine p_mv ?_
          refine p_mv ?_
          refine al_p rfl (st_index rfl rfl rfl (by first | assumption | rfl) ?_)
          refine p_as ?_
          refine al_nil (x_then (hK _ ?_))
          clear hK K
          refine aw_ret ?_
          refine x_blockR ?_
          refine x_thenR ?_
          clear hK K
          refine x_thenR ?_
          refine x_blockR ?_
          refine x_thenR ?_
          clear hK K
          refine e_ret ?_
          exact .inr ⟨n, by rw [nodeL_at hk hd]; exact find_at hy (by simpa using hc4) ha, rfl⟩
        · have hc4 := bp hb4
          refine aw_skip ?_
          refine x_blockN ?_
          refine x_then ?_
          refine hK _ ?_
          clear hK K
          refine aw_region ?_
          first | refine al_p rfl (st_add64 rfl rfl (by omega) ?_) | refine al_p rfl (st_addS rfl rfl (by omega) ?_) | refine al_p rfl (st_add rfl rfl ?_)
          refine p_mv ?_
          refine al_nil ?_
          refine x_then ?_
          refine ⟨_, _, ?_, ⟨j + 1, by omega, rfl, upto_snoc hy ha (by simpa using hc4), rfl⟩, (wk 2 0)⟩
          omega
      · have hc3 := bp hb3
        have e := row_no nodA hj hc3
        subst e
        refine aw_exit ?_
        refine x_thenE ?_
        clear hK K
        refine x_thenE ?_
        refine ABlock_out ?_
        refine x_then ?_
        refine hK _ ?_
        clear hK K
        refine p_sr (fun K hK => ?_)
        refine p_as ?_
        refine al_nil (x_then (hK _ ?_))
        clear hK K
        refine aw_ret ?_
        refine e_ret ?_
        exact .inl ⟨by rw [nodeL_at hk hd]; exact find_no (fun i y hi hy => ha i y hi hy), rfl⟩

theorem PcopyEntry (e : Ent) : AFn Try.prog 100 [.agg (entA e)] (fun r => r = .agg (entA e)) := by
  refine enter Try.func100 rfl rfl rfl rfl rfl 0 rfl ?_
  refine p_sr (fun K hK => ?_)
  first | refine al_p rfl (s_boxA rfl rfl (by repeat constructor) ?_) | refine al_p rfl (s_box rfl rfl (by repeat constructor) ?_)
  refine al_p rfl (s_alloc (by repeat constructor) ?_)
  refine al_nil (x_then (hK _ ?_))
  clear hK K
  refine p_sr (fun K hK => ?_)
  refine al_p rfl (st_loadBW rfl rfl rfl ?_)
  refine p_st ?_
  refine al_nil (x_then (hK _ ?_))
  clear hK K
  refine aw_ret ?_
  refine e_ret ?_
  rfl

end
end Go.Proofs.Ytgliiknfmlmddaa
