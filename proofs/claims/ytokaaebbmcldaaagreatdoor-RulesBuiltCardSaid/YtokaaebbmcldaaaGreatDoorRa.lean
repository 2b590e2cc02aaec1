/-
  Tests and contexts as trees; the small functions of fields, of the program and of the reference.
-/
import Derived.Test.YtokaaebbmcldaaaGreatDoorAvQ
import Derived.Test.YtokaaebbmcldaaaGreatDoorTyp
import Derived.Test.YtokaaebbmcldaaaGreatDoorRulP
namespace Go.Proofs.YtokaaebbmcldaaaGreatDoor
open Go.RowKit

theorem row_at {α : Type} (enc : α → List AV) {l : List α} {k : Nat} (h : (k : Int) < ((l.map enc).length : Int)) : k < l.length ∧ ∃ x, l[k]? = some x ∧ (l.map enc)[k]? = some (enc x) ∧ (l.take (k + 1)).map enc = (l.take k).map enc ++ [enc x] := by
  have hk : k < l.length := by simpa using h
  refine ⟨hk, l[k], List.getElem?_eq_getElem hk, by simp [hk], ?_⟩
  rw [List.take_succ_eq_append_getElem hk, List.map_append]
  rfl
theorem row_no {α : Type} (enc : α → List AV) {l : List α} {k : Nat} (hk : k ≤ l.length) (h : ¬ (k : Int) < ((l.map enc).length : Int)) : k = l.length := by
  simp at h
  omega
theorem vb {a b : Bool} (h : a = b) : AV.v (.bool a) = AV.v (.bool b) := by rw [h]
theorem vi {k : IntKind} {a b : Int} (h : a = b) : AV.v (.int k a) = AV.v (.int k b) := by rw [h]
def tstA (t : Tst) : List AV := [.v (.int .i64 t.fld), .v (.int .i64 t.op), .v (.int .i64 t.num), .v (.string t.text), .v (.int .i64 t.other)]
def rulA (r : Rul) : List AV := [.v (.int .i64 r.list), .v (.int .i64 r.action), .v (.int .u64 r.calls), .sl 5 (r.tests.map tstA) none, .v (.int .i64 r.watch), .v (.string r.path), .v (.int .i64 r.perm), .v (.string r.key)]
def itmA (y : Itm) : List AV := [.v (.string y.given), .v (.string y.path), .v (.int .i64 y.dir.1), .v (.int .i64 y.dir.2), .v (.string y.name), .v (.int .i64 y.file.1), .v (.int .i64 y.file.2), .v (.int .i64 y.role), .v (.int .i64 y.kind), .v (.int .i64 y.mode), .v (.int .i64 y.uid), .v (.int .i64 y.gid), .v (.int .i64 y.perm)]
/-- The slices of a context that nobody looks at here. -/
structure Cxs where
  os : List (List AV)
  ps : List (List AV)
  rs : List (List AV)
def ctxA (c : Ctx) (k : Cxs) : List AV := [.v (.int .i64 c.phase), .v (.int .i64 c.pid), .v (.int .i64 c.ppid), .v (.int .i64 c.uid), .v (.int .i64 c.euid), .v (.int .i64 c.gid), .v (.int .i64 c.egid), .v (.int .i64 c.auid), .v (.int .i64 c.ses), .v (.int .i64 c.cwd.1), .v (.int .i64 c.cwd.2), .v (.string c.comm), .v (.string c.exe), .sl 4 k.os none, .v (.bool c.audited),
  .v (.int .i64 c.number), .v (.int .i64 c.a0), .v (.int .i64 c.a1), .v (.int .i64 c.a2), .v (.int .i64 c.a3), .sl 1 k.ps none, .sl 1 k.rs none, .v (.int .i64 c.ext), .sl 13 (c.items.map itmA) none, .v (.int .i64 c.typ)]

section
set_option maxRecDepth 10000
theorem PisText (f : Int) : AFn Tryz.prog 59 [.v (.int .i64 f)] (fun r => r = .v (.bool (textL f))) := by
  refine enter Tryz.func59 rfl rfl rfl rfl rfl 0 rfl ?_
  refine aw_seq (fun K hK => ?_)
  refine aw_region ?_
  refine al_p rfl (st_assign rfl ?_)
  refine al_nil ?_
  refine x_then ?_
  refine hK _ ?_
  clear hK K
  refine aw_seq (fun K hK => ?_)
  refine aw_region ?_
  refine al_p rfl (st_move rfl ?_)
  first | refine al_p rfl (st_eql rfl rfl ?_) | refine al_p rfl (st_eqlS rfl rfl ?_) | refine al_p rfl (st_eqlB (by kernel_rfl) rfl rfl ?_)
  refine al_p rfl (st_move rfl ?_)
  refine al_gs false rfl rfl (fun hb1 => ?_) (fun hb1 => ?_)
  · have hc1 := bp hb1
    refine g_n ?_
    refine g_n ?_
    refine al_p rfl (p_t ?_)
    refine al_p rfl (st_assign rfl ?_)
    refine al_nil ?_
    refine x_then ?_
    refine hK _ ?_
    clear hK K
    refine aw_ret ?_
    refine e_ret ?_
    exact vb (by unfold textL; rw [Bool.eq_iff_iff]; simp; try omega)
  · have hc1 := bp hb1
    refine g_y (st_move rfl ?_)
    first | refine g_y (st_eql rfl rfl ?_) | refine g_y (st_eqlS rfl rfl ?_) | refine g_y (st_eqlB (by kernel_rfl) rfl rfl ?_)
    refine al_p rfl (p_f ?_)
    refine al_p rfl (st_assign rfl ?_)
    refine al_nil ?_
    refine x_then ?_
    refine hK _ ?_
    clear hK K
    refine aw_ret ?_
    refine e_ret ?_
    exact vb (by unfold textL; rw [Bool.eq_iff_iff]; simp; try omega)

theorem Rtext (f : Int) : AFn Tryz.prog 62 [.v (.int .i64 f)] (fun r => r = .v (.bool (textL f))) := by
  refine enter Tryz.func62 rfl rfl rfl rfl rfl 0 rfl ?_
  refine aw_seq (fun K hK => ?_)
  refine aw_region ?_
  refine al_p rfl (st_assign rfl ?_)
  refine al_nil ?_
  refine x_then ?_
  refine hK _ ?_
  clear hK K
  refine aw_seq (fun K hK => ?_)
  refine aw_region ?_
  refine al_p rfl (st_move rfl ?_)
  first | refine al_p rfl (st_eql rfl rfl ?_) | refine al_p rfl (st_eqlS rfl rfl ?_) | refine al_p rfl (st_eqlB (by kernel_rfl) rfl rfl ?_)
  refine al_p rfl (st_move rfl ?_)
  refine al_gs false rfl rfl (fun hb1 => ?_) (fun hb1 => ?_)
  · have hc1 := bp hb1
    refine g_n ?_
    refine g_n ?_
    refine al_p rfl (p_t ?_)
    refine al_p rfl (st_assign rfl ?_)
    refine al_nil ?_
    refine x_then ?_
    refine hK _ ?_
    clear hK K
    refine aw_ret ?_
    refine e_ret ?_
    exact vb (by unfold textL; rw [Bool.eq_iff_iff]; simp; try omega)
  · have hc1 := bp hb1
    refine g_y (st_move rfl ?_)
    first | refine g_y (st_eql rfl rfl ?_) | refine g_y (st_eqlS rfl rfl ?_) | refine g_y (st_eqlB (by kernel_rfl) rfl rfl ?_)
    refine al_p rfl (p_f ?_)
    refine al_p rfl (st_assign rfl ?_)
    refine al_nil ?_
    refine x_then ?_
    refine hK _ ?_
    clear hK K
    refine aw_ret ?_
    refine e_ret ?_
    exact vb (by unfold textL; rw [Bool.eq_iff_iff]; simp; try omega)

theorem PofItem (f : Int) : AFn Tryz.prog 40 [.v (.int .i64 f)] (fun r => r = .v (.bool (itemL f))) := by
  refine enter Tryz.func40 rfl rfl rfl rfl rfl 0 rfl ?_
  refine aw_seq (fun K hK => ?_)
  refine aw_region ?_
  refine al_p rfl (st_assign rfl ?_)
  refine al_nil ?_
  refine x_then ?_
  refine hK _ ?_
  clear hK K
  refine aw_seq (fun K hK => ?_)
  refine aw_region ?_
  refine al_p rfl (st_move rfl ?_)
  first | refine al_p rfl (st_geq rfl rfl ?_) | refine al_p rfl (st_geqS rfl rfl ?_)
  refine al_p rfl (st_move rfl ?_)
  refine al_gs true rfl rfl (fun hb1 => ?_) (fun hb1 => ?_)
  · have hc1 := bp hb1
    refine g_y (st_move rfl ?_)
    refine g_y (st_leq rfl rfl ?_)
    refine al_p rfl (p_t ?_)
    refine al_p rfl (st_assign rfl ?_)
    refine al_nil ?_
    refine x_then ?_
    refine hK _ ?_
    clear hK K
    refine aw_ret ?_
    refine e_ret ?_
    exact vb (by unfold itemL; rw [Bool.eq_iff_iff]; simp; try omega)
  · have hc1 := bp hb1
    refine g_n ?_
    refine g_n ?_
    refine al_p rfl (p_f ?_)
    refine al_p rfl (st_assign rfl ?_)
    refine al_nil ?_
    refine x_then ?_
    refine hK _ ?_
    clear hK K
    refine aw_ret ?_
    refine e_ret ?_
    exact vb (by unfold itemL; rw [Bool.eq_iff_iff]; simp; try omega)

theorem RofItems (f : Int) : AFn Tryz.prog 44 [.v (.int .i64 f)] (fun r => r = .v (.bool (itemL f))) := by
  refine enter Tryz.func44 rfl rfl rfl rfl rfl 0 rfl ?_
  refine aw_seq (fun K hK => ?_)
  refine aw_region ?_
  refine al_p rfl (st_assign rfl ?_)
  refine al_nil ?_
  refine x_then ?_
  refine hK _ ?_
  clear hK K
  refine aw_seq (fun K hK => ?_)
  refine aw_region ?_
  refine al_p rfl (st_move rfl ?_)
  first | refine al_p rfl (st_geq rfl rfl ?_) | refine al_p rfl (st_geqS rfl rfl ?_)
  refine al_p rfl (st_move rfl ?_)
  refine al_gs true rfl rfl (fun hb1 => ?_) (fun hb1 => ?_)
  · have hc1 := bp hb1
    refine g_y (st_move rfl ?_)
    refine g_y (st_leq rfl rfl ?_)
    refine al_p rfl (p_t ?_)
    refine al_p rfl (st_assign rfl ?_)
    refine al_nil ?_
    refine x_then ?_
    refine hK _ ?_
    clear hK K
    refine aw_ret ?_
    refine e_ret ?_
    exact vb (by unfold itemL; rw [Bool.eq_iff_iff]; simp; try omega)
  · have hc1 := bp hb1
    refine g_n ?_
    refine g_n ?_
    refine al_p rfl (p_f ?_)
    refine al_p rfl (st_assign rfl ?_)
    refine al_nil ?_
    refine x_then ?_
    refine hK _ ?_
    clear hK K
    refine aw_ret ?_
    refine e_ret ?_
    exact vb (by unfold itemL; rw [Bool.eq_iff_iff]; simp; try omega)

theorem PisOwner (f : Int) : AFn Tryz.prog 58 [.v (.int .i64 f)] (fun r => r = .v (.bool (ownerL f))) := by
  refine enter Tryz.func58 rfl rfl rfl rfl rfl 0 rfl ?_
  refine aw_seq (fun K hK => ?_)
  refine aw_region ?_
  refine al_p rfl (st_assign rfl ?_)
  refine al_nil ?_
  refine x_then ?_
  refine hK _ ?_
  clear hK K
  refine aw_seq (fun K hK => ?_)
  refine aw_seq (fun K hK => ?_)
  refine aw_region ?_
  refine al_p rfl (st_move rfl ?_)
  refine al_nil ?_
  refine x_then ?_
  refine hK _ ?_
  clear hK K
  refine aw_block ?_
  refine aw_seq (fun K hK => ?_)
  refine aw_seq (fun K hK => ?_)
  refine aw_region ?_
  first | refine al_p rfl (st_eql rfl rfl ?_) | refine al_p rfl (st_eqlS rfl rfl ?_) | refine al_p rfl (st_eqlB (by kernel_rfl) rfl rfl ?_)
  refine al_p rfl (st_assign rfl ?_)
  refine al_nil ?_
  refine x_then ?_
  refine hK _ ?_
  clear hK K
  refine aw_cond rfl (fun hb1 => ?_) (fun hb1 => ?_)
  · have hc1 := bp hb1
    refine aw_skip ?_
    refine x_then ?_
    refine hK _ ?_
    clear hK K
    refine aw_cy rfl (by first | rfl | assumption | simp [*]) ?_
    refine aw_seq (fun K hK => ?_)
    refine aw_region ?_
    refine al_p rfl (st_assign rfl ?_)
    refine al_nil ?_
    refine x_then ?_
    refine hK _ ?_
    clear hK K
    refine aw_ret ?_
    refine x_blockR ?_
    refine x_thenR ?_
    clear hK K
    refine e_ret ?_
    exact vb (by unfold ownerL; rw [Bool.eq_iff_iff]; simp; try omega)
  · have hc1 := bp hb1
    refine aw_seq (fun K hK => ?_)
    refine aw_region ?_
    first | refine al_p rfl (st_eql rfl rfl ?_) | refine al_p rfl (st_eqlS rfl rfl ?_) | refine al_p rfl (st_eqlB (by kernel_rfl) rfl rfl ?_)
    refine al_p rfl (st_assign rfl ?_)
    refine al_nil ?_
    refine x_then ?_
    refine hK _ ?_
    clear hK K
    refine aw_cond rfl (fun hb2 => ?_) (fun hb2 => ?_)
    · have hc2 := bp hb2
      refine aw_skip ?_
      refine x_then ?_
      refine hK _ ?_
      clear hK K
      refine aw_cy rfl (by first | rfl | assumption | simp [*]) ?_
      refine aw_seq (fun K hK => ?_)
      refine aw_region ?_
      refine al_p rfl (st_assign rfl ?_)
      refine al_nil ?_
      refine x_then ?_
      refine hK _ ?_
      clear hK K
      refine aw_ret ?_
      refine x_blockR ?_
      refine x_thenR ?_
      clear hK K
      refine e_ret ?_
      exact vb (by unfold ownerL; rw [Bool.eq_iff_iff]; simp; try omega)
    · have hc2 := bp hb2
      refine aw_seq (fun K hK => ?_)
      refine aw_region ?_
      first | refine al_p rfl (st_eql rfl rfl ?_) | refine al_p rfl (st_eqlS rfl rfl ?_) | refine al_p rfl (st_eqlB (by kernel_rfl) rfl rfl ?_)
      refine al_p rfl (st_assign rfl ?_)
      refine al_nil ?_
      refine x_then ?_
      refine hK _ ?_
      clear hK K
      refine aw_cond rfl (fun hb3 => ?_) (fun hb3 => ?_)
      · have hc3 := bp hb3
        refine aw_skip ?_
        refine x_then ?_
        refine hK _ ?_
        clear hK K
        refine aw_cy rfl (by first | rfl | assumption | simp [*]) ?_
        refine aw_seq (fun K hK => ?_)
        refine aw_region ?_
        refine al_p rfl (st_assign rfl ?_)
        refine al_nil ?_
        refine x_then ?_
        refine hK _ ?_
        clear hK K
        refine aw_ret ?_
        refine x_blockR ?_
        refine x_thenR ?_
        clear hK K
        refine e_ret ?_
        exact vb (by unfold ownerL; rw [Bool.eq_iff_iff]; simp; try omega)
      · have hc3 := bp hb3
        refine aw_seq (fun K hK => ?_)
        refine aw_region ?_
        first | refine al_p rfl (st_eql rfl rfl ?_) | refine al_p rfl (st_eqlS rfl rfl ?_) | refine al_p rfl (st_eqlB (by kernel_rfl) rfl rfl ?_)
        refine al_p rfl (st_assign rfl ?_)
        refine al_nil ?_
        refine x_then ?_
        refine hK _ ?_
        clear hK K
        refine aw_cond rfl (fun hb4 => ?_) (fun hb4 => ?_)
        · have hc4 := bp hb4
          refine aw_skip ?_
          refine x_then ?_
          refine hK _ ?_
          clear hK K
          refine aw_cy rfl (by first | rfl | assumption | simp [*]) ?_
          refine aw_seq (fun K hK => ?_)
          refine aw_region ?_
          refine al_p rfl (st_assign rfl ?_)
          refine al_nil ?_
          refine x_then ?_
          refine hK _ ?_
          clear hK K
          refine aw_ret ?_
          refine x_blockR ?_
          refine x_thenR ?_
          clear hK K
          refine e_ret ?_
          exact vb (by unfold ownerL; rw [Bool.eq_iff_iff]; simp; try omega)
        · have hc4 := bp hb4
          refine aw_seq (fun K hK => ?_)
          refine aw_region ?_
          first | refine al_p rfl (st_eql rfl rfl ?_) | refine al_p rfl (st_eqlS rfl rfl ?_) | refine al_p rfl (st_eqlB (by kernel_rfl) rfl rfl ?_)
          refine al_p rfl (st_assign rfl ?_)
          refine al_nil ?_
          refine x_then ?_
          refine hK _ ?_
          clear hK K
          refine aw_cond rfl (fun hb5 => ?_) (fun hb5 => ?_)
          · have hc5 := bp hb5
            refine aw_skip ?_
            refine x_then ?_
            refine hK _ ?_
            clear hK K
            refine aw_cy rfl (by first | rfl | assumption | simp [*]) ?_
            refine aw_seq (fun K hK => ?_)
            refine aw_region ?_
            refine al_p rfl (st_assign rfl ?_)
            refine al_nil ?_
            refine x_then ?_
            refine hK _ ?_
            clear hK K
            refine aw_ret ?_
            refine x_blockR ?_
            refine x_thenR ?_
            clear hK K
            refine e_ret ?_
            exact vb (by unfold ownerL; rw [Bool.eq_iff_iff]; simp; try omega)
          · have hc5 := bp hb5
            refine aw_seq (fun K hK => ?_)
            refine aw_region ?_
            first | refine al_p rfl (st_eql rfl rfl ?_) | refine al_p rfl (st_eqlS rfl rfl ?_) | refine al_p rfl (st_eqlB (by kernel_rfl) rfl rfl ?_)
            refine al_p rfl (st_assign rfl ?_)
            refine al_nil ?_
            refine x_then ?_
            refine hK _ ?_
            clear hK K
            refine aw_cond rfl (fun hb6 => ?_) (fun hb6 => ?_)
            · have hc6 := bp hb6
              refine aw_skip ?_
              refine x_then ?_
              refine hK _ ?_
              clear hK K
              refine aw_cy rfl (by first | rfl | assumption | simp [*]) ?_
              refine aw_seq (fun K hK => ?_)
              refine aw_region ?_
              refine al_p rfl (st_assign rfl ?_)
              refine al_nil ?_
              refine x_then ?_
              refine hK _ ?_
              clear hK K
              refine aw_ret ?_
              refine x_blockR ?_
              refine x_thenR ?_
              clear hK K
              refine e_ret ?_
              exact vb (by unfold ownerL; rw [Bool.eq_iff_iff]; simp; try omega)
            · have hc6 := bp hb6
              refine aw_region ?_
              first | refine al_p rfl (st_eql rfl rfl ?_) | refine al_p rfl (st_eqlS rfl rfl ?_) | refine al_p rfl (st_eqlB (by kernel_rfl) rfl rfl ?_)
              refine al_p rfl (st_assign rfl ?_)
              refine al_nil ?_
              refine x_then ?_
              refine hK _ ?_
              clear hK K
              refine aw_cond rfl (fun hb7 => ?_) (fun hb7 => ?_)
              · have hc7 := bp hb7
                refine aw_seq (fun K hK => ?_)
                refine aw_region ?_
                refine al_p rfl (st_assign rfl ?_)
                refine al_nil ?_
                refine x_then ?_
                refine hK _ ?_
                clear hK K
                refine aw_ret ?_
                refine x_blockR ?_
                refine x_thenR ?_
                clear hK K
                refine e_ret ?_
                exact vb (by unfold ownerL; rw [Bool.eq_iff_iff]; simp; try omega)
              · have hc7 := bp hb7
                refine aw_skip ?_
                refine x_blockN ?_
                refine x_then ?_
                refine hK _ ?_
                clear hK K
                refine aw_seq (fun K hK => ?_)
                refine aw_region ?_
                refine al_p rfl (st_assign rfl ?_)
                refine al_nil ?_
                refine x_then ?_
                refine hK _ ?_
                clear hK K
                refine aw_ret ?_
                refine e_ret ?_
                exact vb (by unfold ownerL; rw [Bool.eq_iff_iff]; simp; try omega)

theorem Rcompared (f : Int) : AFn Tryz.prog 72 [.v (.int .i64 f)] (fun r => r = .v (.bool (ownerL f))) := by
  refine enter Tryz.func72 rfl rfl rfl rfl rfl 0 rfl ?_
  refine aw_seq (fun K hK => ?_)
  refine aw_region ?_
  refine al_p rfl (st_assign rfl ?_)
  refine al_nil ?_
  refine x_then ?_
  refine hK _ ?_
  clear hK K
  refine aw_seq (fun K hK => ?_)
  refine aw_seq (fun K hK => ?_)
  refine aw_region ?_
  refine al_p rfl (st_move rfl ?_)
  refine al_nil ?_
  refine x_then ?_
  refine hK _ ?_
  clear hK K
  refine aw_block ?_
  refine aw_seq (fun K hK => ?_)
  refine aw_seq (fun K hK => ?_)
  refine aw_region ?_
  first | refine al_p rfl (st_eql rfl rfl ?_) | refine al_p rfl (st_eqlS rfl rfl ?_) | refine al_p rfl (st_eqlB (by kernel_rfl) rfl rfl ?_)
  refine al_p rfl (st_assign rfl ?_)
  refine al_nil ?_
  refine x_then ?_
  refine hK _ ?_
  clear hK K
  refine aw_cond rfl (fun hb1 => ?_) (fun hb1 => ?_)
  · have hc1 := bp hb1
    refine aw_skip ?_
    refine x_then ?_
    refine hK _ ?_
    clear hK K
    refine aw_cy rfl (by first | rfl | assumption | simp [*]) ?_
    refine aw_seq (fun K hK => ?_)
    refine aw_region ?_
    refine al_p rfl (st_assign rfl ?_)
    refine al_nil ?_
    refine x_then ?_
    refine hK _ ?_
    clear hK K
    refine aw_ret ?_
    refine x_blockR ?_
    refine x_thenR ?_
    clear hK K
    refine e_ret ?_
    exact vb (by unfold ownerL; rw [Bool.eq_iff_iff]; simp; try omega)
  · have hc1 := bp hb1
    refine aw_seq (fun K hK => ?_)
    refine aw_region ?_
    first | refine al_p rfl (st_eql rfl rfl ?_) | refine al_p rfl (st_eqlS rfl rfl ?_) | refine al_p rfl (st_eqlB (by kernel_rfl) rfl rfl ?_)
    refine al_p rfl (st_assign rfl ?_)
    refine al_nil ?_
    refine x_then ?_
    refine hK _ ?_
    clear hK K
    refine aw_cond rfl (fun hb2 => ?_) (fun hb2 => ?_)
    · have hc2 := bp hb2
      refine aw_skip ?_
      refine x_then ?_
      refine hK _ ?_
      clear hK K
      refine aw_cy rfl (by first | rfl | assumption | simp [*]) ?_
      refine aw_seq (fun K hK => ?_)
      refine aw_region ?_
      refine al_p rfl (st_assign rfl ?_)
      refine al_nil ?_
      refine x_then ?_
      refine hK _ ?_
      clear hK K
      refine aw_ret ?_
      refine x_blockR ?_
      refine x_thenR ?_
      clear hK K
      refine e_ret ?_
      exact vb (by unfold ownerL; rw [Bool.eq_iff_iff]; simp; try omega)
    · have hc2 := bp hb2
      refine aw_seq (fun K hK => ?_)
      refine aw_region ?_
      first | refine al_p rfl (st_eql rfl rfl ?_) | refine al_p rfl (st_eqlS rfl rfl ?_) | refine al_p rfl (st_eqlB (by kernel_rfl) rfl rfl ?_)
      refine al_p rfl (st_assign rfl ?_)
      refine al_nil ?_
      refine x_then ?_
      refine hK _ ?_
      clear hK K
      refine aw_cond rfl (fun hb3 => ?_) (fun hb3 => ?_)
      · have hc3 := bp hb3
        refine aw_skip ?_
        refine x_then ?_
        refine hK _ ?_
        clear hK K
        refine aw_cy rfl (by first | rfl | assumption | simp [*]) ?_
        refine aw_seq (fun K hK => ?_)
        refine aw_region ?_
        refine al_p rfl (st_assign rfl ?_)
        refine al_nil ?_
        refine x_then ?_
        refine hK _ ?_
        clear hK K
        refine aw_ret ?_
        refine x_blockR ?_
        refine x_thenR ?_
        clear hK K
        refine e_ret ?_
        exact vb (by unfold ownerL; rw [Bool.eq_iff_iff]; simp; try omega)
      · have hc3 := bp hb3
        refine aw_seq (fun K hK => ?_)
        refine aw_region ?_
        first | refine al_p rfl (st_eql rfl rfl ?_) | refine al_p rfl (st_eqlS rfl rfl ?_) | refine al_p rfl (st_eqlB (by kernel_rfl) rfl rfl ?_)
        refine al_p rfl (st_assign rfl ?_)
        refine al_nil ?_
        refine x_then ?_
        refine hK _ ?_
        clear hK K
        refine aw_cond rfl (fun hb4 => ?_) (fun hb4 => ?_)
        · have hc4 := bp hb4
          refine aw_skip ?_
          refine x_then ?_
          refine hK _ ?_
          clear hK K
          refine aw_cy rfl (by first | rfl | assumption | simp [*]) ?_
          refine aw_seq (fun K hK => ?_)
          refine aw_region ?_
          refine al_p rfl (st_assign rfl ?_)
          refine al_nil ?_
          refine x_then ?_
          refine hK _ ?_
          clear hK K
          refine aw_ret ?_
          refine x_blockR ?_
          refine x_thenR ?_
          clear hK K
          refine e_ret ?_
          exact vb (by unfold ownerL; rw [Bool.eq_iff_iff]; simp; try omega)
        · have hc4 := bp hb4
          refine aw_seq (fun K hK => ?_)
          refine aw_region ?_
          first | refine al_p rfl (st_eql rfl rfl ?_) | refine al_p rfl (st_eqlS rfl rfl ?_) | refine al_p rfl (st_eqlB (by kernel_rfl) rfl rfl ?_)
          refine al_p rfl (st_assign rfl ?_)
          refine al_nil ?_
          refine x_then ?_
          refine hK _ ?_
          clear hK K
          refine aw_cond rfl (fun hb5 => ?_) (fun hb5 => ?_)
          · have hc5 := bp hb5
            refine aw_skip ?_
            refine x_then ?_
            refine hK _ ?_
            clear hK K
            refine aw_cy rfl (by first | rfl | assumption | simp [*]) ?_
            refine aw_seq (fun K hK => ?_)
            refine aw_region ?_
            refine al_p rfl (st_assign rfl ?_)
            refine al_nil ?_
            refine x_then ?_
            refine hK _ ?_
            clear hK K
            refine aw_ret ?_
            refine x_blockR ?_
            refine x_thenR ?_
            clear hK K
            refine e_ret ?_
            exact vb (by unfold ownerL; rw [Bool.eq_iff_iff]; simp; try omega)
          · have hc5 := bp hb5
            refine aw_seq (fun K hK => ?_)
            refine aw_region ?_
            first | refine al_p rfl (st_eql rfl rfl ?_) | refine al_p rfl (st_eqlS rfl rfl ?_) | refine al_p rfl (st_eqlB (by kernel_rfl) rfl rfl ?_)
            refine al_p rfl (st_assign rfl ?_)
            refine al_nil ?_
            refine x_then ?_
            refine hK _ ?_
            clear hK K
            refine aw_cond rfl (fun hb6 => ?_) (fun hb6 => ?_)
            · have hc6 := bp hb6
              refine aw_skip ?_
              refine x_then ?_
              refine hK _ ?_
              clear hK K
              refine aw_cy rfl (by first | rfl | assumption | simp [*]) ?_
              refine aw_seq (fun K hK => ?_)
              refine aw_region ?_
              refine al_p rfl (st_assign rfl ?_)
              refine al_nil ?_
              refine x_then ?_
              refine hK _ ?_
              clear hK K
              refine aw_ret ?_
              refine x_blockR ?_
              refine x_thenR ?_
              clear hK K
              refine e_ret ?_
              exact vb (by unfold ownerL; rw [Bool.eq_iff_iff]; simp; try omega)
            · have hc6 := bp hb6
              refine aw_region ?_
              first | refine al_p rfl (st_eql rfl rfl ?_) | refine al_p rfl (st_eqlS rfl rfl ?_) | refine al_p rfl (st_eqlB (by kernel_rfl) rfl rfl ?_)
              refine al_p rfl (st_assign rfl ?_)
              refine al_nil ?_
              refine x_then ?_
              refine hK _ ?_
              clear hK K
              refine aw_cond rfl (fun hb7 => ?_) (fun hb7 => ?_)
              · have hc7 := bp hb7
                refine aw_seq (fun K hK => ?_)
                refine aw_region ?_
                refine al_p rfl (st_assign rfl ?_)
                refine al_nil ?_
                refine x_then ?_
                refine hK _ ?_
                clear hK K
                refine aw_ret ?_
                refine x_blockR ?_
                refine x_thenR ?_
                clear hK K
                refine e_ret ?_
                exact vb (by unfold ownerL; rw [Bool.eq_iff_iff]; simp; try omega)
              · have hc7 := bp hb7
                refine aw_skip ?_
                refine x_blockN ?_
                refine x_then ?_
                refine hK _ ?_
                clear hK K
                refine aw_seq (fun K hK => ?_)
                refine aw_region ?_
                refine al_p rfl (st_assign rfl ?_)
                refine al_nil ?_
                refine x_then ?_
                refine hK _ ?_
                clear hK K
                refine aw_ret ?_
                refine e_ret ?_
                exact vb (by unfold ownerL; rw [Bool.eq_iff_iff]; simp; try omega)

theorem Pallowed (list f : Int) : AFn Tryz.prog 57 [.v (.int .i64 list), .v (.int .i64 f)] (fun r => r = .v (.bool (allowedL list f))) := by
  refine enter Tryz.func57 rfl rfl rfl rfl rfl 0 rfl ?_
  refine aw_seq (fun K hK => ?_)
  refine aw_region ?_
  refine al_p rfl (st_assign rfl ?_)
  refine al_nil ?_
  refine x_then ?_
  refine hK _ ?_
  clear hK K
  refine aw_mid (⟨look [(0, .v (.int .i64 list)), (1, .v (.int .i64 f)), (5, .v (.bool (procL f)))], ⟨[], []⟩⟩) ?_ ?_
  · skip
    refine aw_region ?_
    refine al_p rfl (st_move rfl ?_)
    first | refine al_p rfl (st_geq rfl rfl ?_) | refine al_p rfl (st_geqS rfl rfl ?_)
    refine al_p rfl (st_move rfl ?_)
    refine al_gs true rfl rfl (fun hb1 => ?_) (fun hb1 => ?_)
    · have hc1 := bp hb1
      refine g_y (st_move rfl ?_)
      refine g_y (st_leq rfl rfl ?_)
      refine al_p rfl (p_t ?_)
      refine al_p rfl (st_move rfl ?_)
      refine al_gs false rfl rfl (fun hb2 => ?_) (fun hb2 => ?_)
      · have hc2 := bp hb2
        refine g_n ?_
        refine g_n ?_
        refine al_p rfl (p_t ?_)
        refine al_p rfl (st_move rfl ?_)
        refine g_n ?_
        refine g_n ?_
        refine al_p rfl (p_t ?_)
        refine al_p rfl (st_assign rfl ?_)
        refine al_nil ?_
        refine x_then ?_
        first | (exfalso; first | contradiction | omega) | exact weak_of 0 0 rfl rfl rfl rfl (by repeat (first | exact Sub.nil | refine Sub.cons _ _ _ rfl rfl ?_ | refine Sub.any _ _ ?_ | refine Sub.sl _ _ _ _ _ rfl ?_ | refine Sub.slnil _ _ _ rfl ?_ | (apply Sub.of; (focus exact rfl); (focus exact LeA.of_eq (vb (by unfold procL; rw [Bool.eq_iff_iff]; simp; try omega))); (focus exact rfl))))
      · have hc2 := bp hb2
        refine g_y (st_move rfl ?_)
        first | refine g_y (st_eql rfl rfl ?_) | refine g_y (st_eqlS rfl rfl ?_) | refine g_y (st_eqlB (by kernel_rfl) rfl rfl ?_)
        refine al_p rfl (p_f ?_)
        refine al_p rfl (st_move rfl ?_)
        refine al_gs false rfl rfl (fun hb3 => ?_) (fun hb3 => ?_)
        · have hc3 := bp hb3
          refine g_n ?_
          refine g_n ?_
          refine al_p rfl (p_t ?_)
          refine al_p rfl (st_assign rfl ?_)
          refine al_nil ?_
          refine x_then ?_
          first | (exfalso; first | contradiction | omega) | exact weak_of 0 0 rfl rfl rfl rfl (by repeat (first | exact Sub.nil | refine Sub.cons _ _ _ rfl rfl ?_ | refine Sub.any _ _ ?_ | refine Sub.sl _ _ _ _ _ rfl ?_ | refine Sub.slnil _ _ _ rfl ?_ | (apply Sub.of; (focus exact rfl); (focus exact LeA.of_eq (vb (by unfold procL; rw [Bool.eq_iff_iff]; simp; try omega))); (focus exact rfl))))
        · have hc3 := bp hb3
          refine g_y (st_move rfl ?_)
          first | refine g_y (st_eql rfl rfl ?_) | refine g_y (st_eqlS rfl rfl ?_) | refine g_y (st_eqlB (by kernel_rfl) rfl rfl ?_)
          refine al_p rfl (p_f ?_)
          refine al_p rfl (st_assign rfl ?_)
          refine al_nil ?_
          refine x_then ?_
          first | (exfalso; first | contradiction | omega) | exact weak_of 0 0 rfl rfl rfl rfl (by repeat (first | exact Sub.nil | refine Sub.cons _ _ _ rfl rfl ?_ | refine Sub.any _ _ ?_ | refine Sub.sl _ _ _ _ _ rfl ?_ | refine Sub.slnil _ _ _ rfl ?_ | (apply Sub.of; (focus exact rfl); (focus exact LeA.of_eq (vb (by unfold procL; rw [Bool.eq_iff_iff]; simp; try omega))); (focus exact rfl))))
    · have hc1 := bp hb1
      refine g_n ?_
      refine g_n ?_
      refine al_p rfl (p_f ?_)
      refine al_p rfl (st_move rfl ?_)
      refine g_y (st_move rfl ?_)
      first | refine g_y (st_eql rfl rfl ?_) | refine g_y (st_eqlS rfl rfl ?_) | refine g_y (st_eqlB (by kernel_rfl) rfl rfl ?_)
      refine al_p rfl (p_f ?_)
      refine al_p rfl (st_move rfl ?_)
      refine al_gs false rfl rfl (fun hb4 => ?_) (fun hb4 => ?_)
      · have hc4 := bp hb4
        refine g_n ?_
        refine g_n ?_
        refine al_p rfl (p_t ?_)
        refine al_p rfl (st_assign rfl ?_)
        refine al_nil ?_
        refine x_then ?_
        first | (exfalso; first | contradiction | omega) | exact weak_of 0 0 rfl rfl rfl rfl (by repeat (first | exact Sub.nil | refine Sub.cons _ _ _ rfl rfl ?_ | refine Sub.any _ _ ?_ | refine Sub.sl _ _ _ _ _ rfl ?_ | refine Sub.slnil _ _ _ rfl ?_ | (apply Sub.of; (focus exact rfl); (focus exact LeA.of_eq (vb (by unfold procL; rw [Bool.eq_iff_iff]; simp; try omega))); (focus exact rfl))))
      · have hc4 := bp hb4
        refine g_y (st_move rfl ?_)
        first | refine g_y (st_eql rfl rfl ?_) | refine g_y (st_eqlS rfl rfl ?_) | refine g_y (st_eqlB (by kernel_rfl) rfl rfl ?_)
        refine al_p rfl (p_f ?_)
        refine al_p rfl (st_assign rfl ?_)
        refine al_nil ?_
        refine x_then ?_
        first | (exfalso; first | contradiction | omega) | exact weak_of 0 0 rfl rfl rfl rfl (by repeat (first | exact Sub.nil | refine Sub.cons _ _ _ rfl rfl ?_ | refine Sub.any _ _ ?_ | refine Sub.sl _ _ _ _ _ rfl ?_ | refine Sub.slnil _ _ _ rfl ?_ | (apply Sub.of; (focus exact rfl); (focus exact LeA.of_eq (vb (by unfold procL; rw [Bool.eq_iff_iff]; simp; try omega))); (focus exact rfl))))
  · skip
    refine aw_seq (fun K hK => ?_)
    refine aw_seq (fun K hK => ?_)
    refine aw_region ?_
    refine al_p rfl (st_move rfl ?_)
    refine al_nil ?_
    refine x_then ?_
    refine hK _ ?_
    clear hK K
    refine aw_block ?_
    refine aw_seq (fun K hK => ?_)
    refine aw_seq (fun K hK => ?_)
    refine aw_region ?_
    first | refine al_p rfl (st_eql rfl rfl ?_) | refine al_p rfl (st_eqlS rfl rfl ?_) | refine al_p rfl (st_eqlB (by kernel_rfl) rfl rfl ?_)
    refine al_p rfl (st_assign rfl ?_)
    refine al_nil ?_
    refine x_then ?_
    refine hK _ ?_
    clear hK K
    refine aw_cond rfl (fun hb5 => ?_) (fun hb5 => ?_)
    · have hc5 := bp hb5
      refine aw_skip ?_
      refine x_then ?_
      refine hK _ ?_
      clear hK K
      refine aw_cy rfl (by first | rfl | assumption | simp [*]) ?_
      refine aw_seq (fun K hK => ?_)
      refine aw_region ?_
      refine al_p rfl (st_move rfl ?_)
      refine al_p rfl (st_assign rfl ?_)
      refine al_nil ?_
      refine x_then ?_
      refine hK _ ?_
      clear hK K
      refine aw_ret ?_
      refine x_blockR ?_
      refine x_thenR ?_
      clear hK K
      refine e_ret ?_
      first | (exfalso; first | contradiction | omega) | (exact vb (by unfold allowedL; unfold procL at *; simp only [*]; (try rw [Bool.eq_iff_iff]); simp at *; try omega))
    · have hc5 := bp hb5
      refine aw_region ?_
      first | refine al_p rfl (st_eql rfl rfl ?_) | refine al_p rfl (st_eqlS rfl rfl ?_) | refine al_p rfl (st_eqlB (by kernel_rfl) rfl rfl ?_)
      refine al_p rfl (st_assign rfl ?_)
      refine al_nil ?_
      refine x_then ?_
      refine hK _ ?_
      clear hK K
      refine aw_cond rfl (fun hb6 => ?_) (fun hb6 => ?_)
      · have hc6 := bp hb6
        refine aw_seq (fun K hK => ?_)
        refine aw_region ?_
        refine al_p rfl (st_move rfl ?_)
        refine al_p rfl (st_assign rfl ?_)
        refine al_nil ?_
        refine x_then ?_
        refine hK _ ?_
        clear hK K
        refine aw_ret ?_
        refine x_blockR ?_
        refine x_thenR ?_
        clear hK K
        refine e_ret ?_
        first | (exfalso; first | contradiction | omega) | (exact vb (by unfold allowedL; unfold procL at *; simp only [*]; (try rw [Bool.eq_iff_iff]); simp at *; try omega))
      · have hc6 := bp hb6
        refine aw_seq (fun K hK => ?_)
        refine aw_region ?_
        first | refine al_p rfl (st_eql rfl rfl ?_) | refine al_p rfl (st_eqlS rfl rfl ?_) | refine al_p rfl (st_eqlB (by kernel_rfl) rfl rfl ?_)
        refine al_p rfl (st_assign rfl ?_)
        refine al_nil ?_
        refine x_then ?_
        refine hK _ ?_
        clear hK K
        refine aw_cond rfl (fun hb7 => ?_) (fun hb7 => ?_)
        · have hc7 := bp hb7
          refine aw_seq (fun K hK => ?_)
          refine aw_region ?_
          refine al_p rfl (st_move rfl ?_)
          first | refine al_p rfl (st_geq rfl rfl ?_) | refine al_p rfl (st_geqS rfl rfl ?_)
          refine al_p rfl (st_move rfl ?_)
          refine al_gs true rfl rfl (fun hb8 => ?_) (fun hb8 => ?_)
          · have hc8 := bp hb8
            refine g_y (st_move rfl ?_)
            refine g_y (st_leq rfl rfl ?_)
            refine al_p rfl (p_t ?_)
            refine al_p rfl (st_assign rfl ?_)
            refine al_nil ?_
            refine x_then ?_
            refine hK _ ?_
            clear hK K
            refine aw_ret ?_
            refine x_blockR ?_
            refine x_thenR ?_
            clear hK K
            refine e_ret ?_
            first | (exfalso; first | contradiction | omega) | (exact vb (by unfold allowedL; unfold procL at *; simp only [*]; (try rw [Bool.eq_iff_iff]); simp at *; try omega))
          · have hc8 := bp hb8
            refine g_n ?_
            refine g_n ?_
            refine al_p rfl (p_f ?_)
            refine al_p rfl (st_assign rfl ?_)
            refine al_nil ?_
            refine x_then ?_
            refine hK _ ?_
            clear hK K
            refine aw_ret ?_
            refine x_blockR ?_
            refine x_thenR ?_
            clear hK K
            refine e_ret ?_
            first | (exfalso; first | contradiction | omega) | (exact vb (by unfold allowedL; unfold procL at *; simp only [*]; (try rw [Bool.eq_iff_iff]); simp at *; try omega))
        · have hc7 := bp hb7
          refine aw_seq (fun K hK => ?_)
          refine aw_region ?_
          first | refine al_p rfl (st_eql rfl rfl ?_) | refine al_p rfl (st_eqlS rfl rfl ?_) | refine al_p rfl (st_eqlB (by kernel_rfl) rfl rfl ?_)
          refine al_p rfl (st_assign rfl ?_)
          refine al_nil ?_
          refine x_then ?_
          refine hK _ ?_
          clear hK K
          refine aw_cond rfl (fun hb9 => ?_) (fun hb9 => ?_)
          · have hc9 := bp hb9
            refine aw_seq (fun K hK => ?_)
            refine aw_region ?_
            refine al_p rfl (st_move rfl ?_)
            first | refine al_p rfl (st_geq rfl rfl ?_) | refine al_p rfl (st_geqS rfl rfl ?_)
            refine al_p rfl (st_move rfl ?_)
            refine al_gs true rfl rfl (fun hb10 => ?_) (fun hb10 => ?_)
            · have hc10 := bp hb10
              refine g_y (st_move rfl ?_)
              refine g_y (st_leq rfl rfl ?_)
              refine al_p rfl (p_t ?_)
              refine al_p rfl (st_assign rfl ?_)
              refine al_nil ?_
              refine x_then ?_
              refine hK _ ?_
              clear hK K
              refine aw_ret ?_
              refine x_blockR ?_
              refine x_thenR ?_
              clear hK K
              refine e_ret ?_
              first | (exfalso; first | contradiction | omega) | (exact vb (by unfold allowedL; unfold procL at *; simp only [*]; (try rw [Bool.eq_iff_iff]); simp at *; try omega))
            · have hc10 := bp hb10
              refine g_n ?_
              refine g_n ?_
              refine al_p rfl (p_f ?_)
              refine al_p rfl (st_assign rfl ?_)
              refine al_nil ?_
              refine x_then ?_
              refine hK _ ?_
              clear hK K
              refine aw_ret ?_
              refine x_blockR ?_
              refine x_thenR ?_
              clear hK K
              refine e_ret ?_
              first | (exfalso; first | contradiction | omega) | (exact vb (by unfold allowedL; unfold procL at *; simp only [*]; (try rw [Bool.eq_iff_iff]); simp at *; try omega))
          · have hc9 := bp hb9
            refine aw_seq (fun K hK => ?_)
            refine aw_region ?_
            first | refine al_p rfl (st_eql rfl rfl ?_) | refine al_p rfl (st_eqlS rfl rfl ?_) | refine al_p rfl (st_eqlB (by kernel_rfl) rfl rfl ?_)
            refine al_p rfl (st_assign rfl ?_)
            refine al_nil ?_
            refine x_then ?_
            refine hK _ ?_
            clear hK K
            refine aw_cond rfl (fun hb11 => ?_) (fun hb11 => ?_)
            · have hc11 := bp hb11
              refine aw_seq (fun K hK => ?_)
              refine aw_region ?_
              refine al_p rfl (st_move rfl ?_)
              refine al_p rfl (st_move rfl ?_)
              refine al_gs false rfl rfl (fun hb12 => ?_) (fun hb12 => ?_)
              · have hc12 := bp hb12
                refine g_n ?_
                refine g_n ?_
                refine al_p rfl (p_t ?_)
                refine al_p rfl (st_assign rfl ?_)
                refine al_nil ?_
                refine x_then ?_
                refine hK _ ?_
                clear hK K
                refine aw_ret ?_
                refine x_blockR ?_
                refine x_thenR ?_
                clear hK K
                refine e_ret ?_
                first | (exfalso; first | contradiction | omega) | (exact vb (by unfold allowedL; unfold procL at *; simp only [*]; (try rw [Bool.eq_iff_iff]); simp at *; try omega))
              · have hc12 := bp hb12
                refine g_y (st_move rfl ?_)
                first | refine g_y (st_eql rfl rfl ?_) | refine g_y (st_eqlS rfl rfl ?_) | refine g_y (st_eqlB (by kernel_rfl) rfl rfl ?_)
                refine al_p rfl (p_f ?_)
                refine al_p rfl (st_assign rfl ?_)
                refine al_nil ?_
                refine x_then ?_
                refine hK _ ?_
                clear hK K
                refine aw_ret ?_
                refine x_blockR ?_
                refine x_thenR ?_
                clear hK K
                refine e_ret ?_
                first | (exfalso; first | contradiction | omega) | (exact vb (by unfold allowedL; unfold procL at *; simp only [*]; (try rw [Bool.eq_iff_iff]); simp at *; try omega))
            · have hc11 := bp hb11
              refine aw_skip ?_
              refine x_blockN ?_
              refine x_then ?_
              refine hK _ ?_
              clear hK K
              refine aw_seq (fun K hK => ?_)
              refine aw_region ?_
              refine al_p rfl (st_assign rfl ?_)
              refine al_nil ?_
              refine x_then ?_
              refine hK _ ?_
              clear hK K
              refine aw_ret ?_
              refine e_ret ?_
              first | (exfalso; first | contradiction | omega) | (exact vb (by unfold allowedL; unfold procL at *; simp only [*]; (try rw [Bool.eq_iff_iff]); simp at *; try omega))

theorem Rallowed (list f : Int) : AFn Tryz.prog 71 [.v (.int .i64 list), .v (.int .i64 f)] (fun r => r = .v (.bool (allowedL list f))) := by
  refine enter Tryz.func71 rfl rfl rfl rfl rfl 0 rfl ?_
  refine aw_seq (fun K hK => ?_)
  refine aw_region ?_
  refine al_p rfl (st_assign rfl ?_)
  refine al_nil ?_
  refine x_then ?_
  refine hK _ ?_
  clear hK K
  refine aw_seq (fun K hK => ?_)
  refine aw_seq (fun K hK => ?_)
  refine aw_region ?_
  refine al_p rfl (st_move rfl ?_)
  first | refine al_p rfl (st_lss rfl rfl ?_) | refine al_p rfl (st_lssS rfl rfl ?_)
  refine al_p rfl (st_move rfl ?_)
  refine al_gs false rfl rfl (fun hb1 => ?_) (fun hb1 => ?_)
  · have hc1 := bp hb1
    refine g_n ?_
    refine g_n ?_
    refine al_p rfl (p_t ?_)
    refine al_nil ?_
    refine x_then ?_
    refine hK _ ?_
    clear hK K
    refine aw_cy rfl (by first | rfl | assumption | simp [*]) ?_
    refine aw_seq (fun K hK => ?_)
    refine aw_region ?_
    refine al_p rfl (st_assign rfl ?_)
    refine al_nil ?_
    refine x_then ?_
    refine hK _ ?_
    clear hK K
    refine aw_ret ?_
    refine x_thenR ?_
    clear hK K
    refine e_ret ?_
    first | (exfalso; first | contradiction | omega) | (exact vb (by unfold allowedL procL; (repeat' split) <;> (try rw [Bool.eq_iff_iff]) <;> (try simp) <;> (first | omega | (unfold procL at *; simp only [decide_eq_true_eq, decide_eq_false_iff_not] at *; omega) | skip)))
  · have hc1 := bp hb1
    refine g_y (st_move rfl ?_)
    refine g_y (st_gtr rfl rfl ?_)
    refine al_p rfl (p_f ?_)
    refine al_nil ?_
    refine x_then ?_
    refine hK _ ?_
    clear hK K
    refine aw_cond rfl (fun hb2 => ?_) (fun hb2 => ?_)
    · have hc2 := bp hb2
      refine aw_seq (fun K hK => ?_)
      refine aw_region ?_
      refine al_p rfl (st_assign rfl ?_)
      refine al_nil ?_
      refine x_then ?_
      refine hK _ ?_
      clear hK K
      refine aw_ret ?_
      refine x_thenR ?_
      clear hK K
      refine e_ret ?_
      first | (exfalso; first | contradiction | omega) | (exact vb (by unfold allowedL procL; (repeat' split) <;> (try rw [Bool.eq_iff_iff]) <;> (try simp) <;> (first | omega | (unfold procL at *; simp only [decide_eq_true_eq, decide_eq_false_iff_not] at *; omega) | skip)))
    · have hc2 := bp hb2
      refine aw_skip ?_
      refine x_then ?_
      refine hK _ ?_
      clear hK K
      refine aw_mid (⟨look [(0, .v (.int .i64 list)), (1, .v (.int .i64 f)), (5, .v (.bool (procL f)))], ⟨[], []⟩⟩) ?_ ?_
      · skip
        refine aw_region ?_
        refine al_p rfl (st_move rfl ?_)
        refine al_p rfl (st_leq rfl rfl ?_)
        refine al_p rfl (st_move rfl ?_)
        refine al_gs false rfl rfl (fun hb3 => ?_) (fun hb3 => ?_)
        · have hc3 := bp hb3
          refine g_n ?_
          refine g_n ?_
          refine al_p rfl (p_t ?_)
          refine al_p rfl (st_move rfl ?_)
          refine g_n ?_
          refine g_n ?_
          refine al_p rfl (p_t ?_)
          refine al_p rfl (st_assign rfl ?_)
          refine al_nil ?_
          refine x_then ?_
          first | (exfalso; first | contradiction | omega) | exact weak_of 0 0 rfl rfl rfl rfl (by repeat (first | exact Sub.nil | refine Sub.cons _ _ _ rfl rfl ?_ | refine Sub.any _ _ ?_ | refine Sub.sl _ _ _ _ _ rfl ?_ | refine Sub.slnil _ _ _ rfl ?_ | (apply Sub.of; (focus exact rfl); (focus exact LeA.of_eq (vb (by unfold procL; rw [Bool.eq_iff_iff]; simp; try omega))); (focus exact rfl))))
        · have hc3 := bp hb3
          refine g_y (st_move rfl ?_)
          first | refine g_y (st_eql rfl rfl ?_) | refine g_y (st_eqlS rfl rfl ?_) | refine g_y (st_eqlB (by kernel_rfl) rfl rfl ?_)
          refine al_p rfl (p_f ?_)
          refine al_p rfl (st_move rfl ?_)
          refine al_gs false rfl rfl (fun hb4 => ?_) (fun hb4 => ?_)
          · have hc4 := bp hb4
            refine g_n ?_
            refine g_n ?_
            refine al_p rfl (p_t ?_)
            refine al_p rfl (st_assign rfl ?_)
            refine al_nil ?_
            refine x_then ?_
            first | (exfalso; first | contradiction | omega) | exact weak_of 0 0 rfl rfl rfl rfl (by repeat (first | exact Sub.nil | refine Sub.cons _ _ _ rfl rfl ?_ | refine Sub.any _ _ ?_ | refine Sub.sl _ _ _ _ _ rfl ?_ | refine Sub.slnil _ _ _ rfl ?_ | (apply Sub.of; (focus exact rfl); (focus exact LeA.of_eq (vb (by unfold procL; rw [Bool.eq_iff_iff]; simp; try omega))); (focus exact rfl))))
          · have hc4 := bp hb4
            refine g_y (st_move rfl ?_)
            first | refine g_y (st_eql rfl rfl ?_) | refine g_y (st_eqlS rfl rfl ?_) | refine g_y (st_eqlB (by kernel_rfl) rfl rfl ?_)
            refine al_p rfl (p_f ?_)
            refine al_p rfl (st_assign rfl ?_)
            refine al_nil ?_
            refine x_then ?_
            first | (exfalso; first | contradiction | omega) | exact weak_of 0 0 rfl rfl rfl rfl (by repeat (first | exact Sub.nil | refine Sub.cons _ _ _ rfl rfl ?_ | refine Sub.any _ _ ?_ | refine Sub.sl _ _ _ _ _ rfl ?_ | refine Sub.slnil _ _ _ rfl ?_ | (apply Sub.of; (focus exact rfl); (focus exact LeA.of_eq (vb (by unfold procL; rw [Bool.eq_iff_iff]; simp; try omega))); (focus exact rfl))))
      · skip
        refine aw_seq (fun K hK => ?_)
        refine aw_seq (fun K hK => ?_)
        refine aw_region ?_
        refine al_p rfl (st_move rfl ?_)
        refine al_nil ?_
        refine x_then ?_
        refine hK _ ?_
        clear hK K
        refine aw_block ?_
        refine aw_seq (fun K hK => ?_)
        refine aw_seq (fun K hK => ?_)
        refine aw_region ?_
        first | refine al_p rfl (st_eql rfl rfl ?_) | refine al_p rfl (st_eqlS rfl rfl ?_) | refine al_p rfl (st_eqlB (by kernel_rfl) rfl rfl ?_)
        refine al_p rfl (st_assign rfl ?_)
        refine al_nil ?_
        refine x_then ?_
        refine hK _ ?_
        clear hK K
        refine aw_cond rfl (fun hb5 => ?_) (fun hb5 => ?_)
        · have hc5 := bp hb5
          refine aw_skip ?_
          refine x_then ?_
          refine hK _ ?_
          clear hK K
          refine aw_cy rfl (by first | rfl | assumption | simp [*]) ?_
          refine aw_seq (fun K hK => ?_)
          refine aw_region ?_
          refine al_p rfl (st_move rfl ?_)
          refine al_p rfl (st_assign rfl ?_)
          refine al_nil ?_
          refine x_then ?_
          refine hK _ ?_
          clear hK K
          refine aw_ret ?_
          refine x_blockR ?_
          refine x_thenR ?_
          clear hK K
          refine e_ret ?_
          first | (exfalso; first | contradiction | omega) | (exact vb (by unfold allowedL procL; (repeat' split) <;> (try rw [Bool.eq_iff_iff]) <;> (try simp) <;> (first | omega | (unfold procL at *; simp only [decide_eq_true_eq, decide_eq_false_iff_not] at *; omega) | skip)))
        · have hc5 := bp hb5
          refine aw_region ?_
          first | refine al_p rfl (st_eql rfl rfl ?_) | refine al_p rfl (st_eqlS rfl rfl ?_) | refine al_p rfl (st_eqlB (by kernel_rfl) rfl rfl ?_)
          refine al_p rfl (st_assign rfl ?_)
          refine al_nil ?_
          refine x_then ?_
          refine hK _ ?_
          clear hK K
          refine aw_cond rfl (fun hb6 => ?_) (fun hb6 => ?_)
          · have hc6 := bp hb6
            refine aw_seq (fun K hK => ?_)
            refine aw_region ?_
            refine al_p rfl (st_move rfl ?_)
            refine al_p rfl (st_assign rfl ?_)
            refine al_nil ?_
            refine x_then ?_
            refine hK _ ?_
            clear hK K
            refine aw_ret ?_
            refine x_blockR ?_
            refine x_thenR ?_
            clear hK K
            refine e_ret ?_
            first | (exfalso; first | contradiction | omega) | (exact vb (by unfold allowedL procL; (repeat' split) <;> (try rw [Bool.eq_iff_iff]) <;> (try simp) <;> (first | omega | (unfold procL at *; simp only [decide_eq_true_eq, decide_eq_false_iff_not] at *; omega) | skip)))
          · have hc6 := bp hb6
            refine aw_seq (fun K hK => ?_)
            refine aw_region ?_
            first | refine al_p rfl (st_eql rfl rfl ?_) | refine al_p rfl (st_eqlS rfl rfl ?_) | refine al_p rfl (st_eqlB (by kernel_rfl) rfl rfl ?_)
            refine al_p rfl (st_assign rfl ?_)
            refine al_nil ?_
            refine x_then ?_
            refine hK _ ?_
            clear hK K
            refine aw_cond rfl (fun hb7 => ?_) (fun hb7 => ?_)
            · have hc7 := bp hb7
              refine aw_seq (fun K hK => ?_)
              refine aw_region ?_
              refine al_p rfl (st_move rfl ?_)
              refine al_p rfl (st_leq rfl rfl ?_)
              refine al_p rfl (st_assign rfl ?_)
              refine al_nil ?_
              refine x_then ?_
              refine hK _ ?_
              clear hK K
              refine aw_ret ?_
              refine x_blockR ?_
              refine x_thenR ?_
              clear hK K
              refine e_ret ?_
              first | (exfalso; first | contradiction | omega) | (exact vb (by unfold allowedL procL; (repeat' split) <;> (try rw [Bool.eq_iff_iff]) <;> (try simp) <;> (first | omega | (unfold procL at *; simp only [decide_eq_true_eq, decide_eq_false_iff_not] at *; omega) | skip)))
            · have hc7 := bp hb7
              refine aw_seq (fun K hK => ?_)
              refine aw_region ?_
              first | refine al_p rfl (st_eql rfl rfl ?_) | refine al_p rfl (st_eqlS rfl rfl ?_) | refine al_p rfl (st_eqlB (by kernel_rfl) rfl rfl ?_)
              refine al_p rfl (st_assign rfl ?_)
              refine al_nil ?_
              refine x_then ?_
              refine hK _ ?_
              clear hK K
              refine aw_cond rfl (fun hb8 => ?_) (fun hb8 => ?_)
              · have hc8 := bp hb8
                refine aw_seq (fun K hK => ?_)
                refine aw_region ?_
                refine al_p rfl (st_move rfl ?_)
                first | refine al_p rfl (st_lss rfl rfl ?_) | refine al_p rfl (st_lssS rfl rfl ?_)
                refine al_p rfl (st_assign rfl ?_)
                refine al_nil ?_
                refine x_then ?_
                refine hK _ ?_
                clear hK K
                refine aw_ret ?_
                refine x_blockR ?_
                refine x_thenR ?_
                clear hK K
                refine e_ret ?_
                first | (exfalso; first | contradiction | omega) | (exact vb (by unfold allowedL procL; (repeat' split) <;> (try rw [Bool.eq_iff_iff]) <;> (try simp) <;> (first | omega | (unfold procL at *; simp only [decide_eq_true_eq, decide_eq_false_iff_not] at *; omega) | skip)))
              · have hc8 := bp hb8
                refine aw_seq (fun K hK => ?_)
                refine aw_region ?_
                first | refine al_p rfl (st_eql rfl rfl ?_) | refine al_p rfl (st_eqlS rfl rfl ?_) | refine al_p rfl (st_eqlB (by kernel_rfl) rfl rfl ?_)
                refine al_p rfl (st_assign rfl ?_)
                refine al_nil ?_
                refine x_then ?_
                refine hK _ ?_
                clear hK K
                refine aw_cond rfl (fun hb9 => ?_) (fun hb9 => ?_)
                · have hc9 := bp hb9
                  refine aw_seq (fun K hK => ?_)
                  refine aw_region ?_
                  refine al_p rfl (st_move rfl ?_)
                  refine al_p rfl (st_move rfl ?_)
                  refine al_gs false rfl rfl (fun hb10 => ?_) (fun hb10 => ?_)
                  · have hc10 := bp hb10
                    refine g_n ?_
                    refine g_n ?_
                    refine al_p rfl (p_t ?_)
                    refine al_p rfl (st_assign rfl ?_)
                    refine al_nil ?_
                    refine x_then ?_
                    refine hK _ ?_
                    clear hK K
                    refine aw_ret ?_
                    refine x_blockR ?_
                    refine x_thenR ?_
                    clear hK K
                    refine e_ret ?_
                    first | (exfalso; first | contradiction | omega) | (exact vb (by unfold allowedL procL; (repeat' split) <;> (try rw [Bool.eq_iff_iff]) <;> (try simp) <;> (first | omega | (unfold procL at *; simp only [decide_eq_true_eq, decide_eq_false_iff_not] at *; omega) | skip)))
                  · have hc10 := bp hb10
                    refine g_y (st_move rfl ?_)
                    first | refine g_y (st_eql rfl rfl ?_) | refine g_y (st_eqlS rfl rfl ?_) | refine g_y (st_eqlB (by kernel_rfl) rfl rfl ?_)
                    refine al_p rfl (p_f ?_)
                    refine al_p rfl (st_assign rfl ?_)
                    refine al_nil ?_
                    refine x_then ?_
                    refine hK _ ?_
                    clear hK K
                    refine aw_ret ?_
                    refine x_blockR ?_
                    refine x_thenR ?_
                    clear hK K
                    refine e_ret ?_
                    first | (exfalso; first | contradiction | omega) | (exact vb (by unfold allowedL procL; (repeat' split) <;> (try rw [Bool.eq_iff_iff]) <;> (try simp) <;> (first | omega | (unfold procL at *; simp only [decide_eq_true_eq, decide_eq_false_iff_not] at *; omega) | skip)))
                · have hc9 := bp hb9
                  refine aw_skip ?_
                  refine x_blockN ?_
                  refine x_then ?_
                  refine hK _ ?_
                  clear hK K
                  refine aw_seq (fun K hK => ?_)
                  refine aw_region ?_
                  refine al_p rfl (st_assign rfl ?_)
                  refine al_nil ?_
                  refine x_then ?_
                  refine hK _ ?_
                  clear hK K
                  refine aw_ret ?_
                  refine e_ret ?_
                  first | (exfalso; first | contradiction | omega) | (exact vb (by unfold allowedL procL; (repeat' split) <;> (try rw [Bool.eq_iff_iff]) <;> (try simp) <;> (first | omega | (unfold procL at *; simp only [decide_eq_true_eq, decide_eq_false_iff_not] at *; omega) | skip)))

end
end Go.Proofs.YtokaaebbmcldaaaGreatDoor
