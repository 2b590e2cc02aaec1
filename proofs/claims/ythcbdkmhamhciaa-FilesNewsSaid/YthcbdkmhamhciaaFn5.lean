/-
  Part 5 of the proof of FilesNewsP: what the statement's proof uses of the texts in wip/tpl.
-/
import Derived.Laws.Pointers
import Derived.Test.YthcbdkmhamhciaaProg
import Derived.WalkKit
import Derived.WalkSpells
import Derived.WalkLawsBesides
import Derived.Deep.QuietTactic
import Derived.BigQuiet
import Derived.Lib.Hide
import Derived.Outline
import Derived.Test.YthcbdkmhamhciaaFn4
namespace Go.Proofs.Ythcbdkmhamhciaa
open Go.RowKit

section
set_option maxRecDepth 10000
set_option maxHeartbeats 1000000
theorem PcopiedE (es : List Ent) (hes : es.length ≤ 1000) : AFn Try.prog 96 [.sl 2 (es.map entA) none, .fn 97 []] (fun r => r = .sl 2 (es.map entA) none) := by
  have hml : (es.map entA).length = es.length := by simp
  refine enter Try.func96 rfl rfl rfl rfl rfl 0 rfl ?_
  refine w_ (a_ (h:=e_ (q_ (w_ (m_ (h:=n_ (h:=eq_ (h:=e_ (?_)))))))))
  refine aw_cond rfl (fun hb1 => ?_) (fun hb1 => ?_)
  · have hc1 := bp hb1
    refine w_ (a_ (h:=e_ (aw_ret (x_thenR (?_)))))
    refine rt_ (r := .sl 2 (es.map entA) none) none (h5 := ?_) (h6 := ⟨rfl, rfl, rfl⟩)
    rw [show es = [] from List.eq_nil_of_length_eq_zero (by omega)]
    exact LeA.nil _
  · have hc1 := bp hb1
    refine kt_ (w_ (m_ (h:=n_ (h:=ms_ (h:=a_ (h:=e_ (q_ (w_ (m_ (h:=n_ (h:=m_ (h:=e_ (aw_block (?_))))))))))))))
    refine aw_loopW (fun m s => ∃ j : Nat, j ≤ es.length ∧ m = es.length - j ∧ s = ⟨look [(1, .fn 97 []), (5, .sl 2 ((es.take j).map entA) (some 0)), (14, .sl 2 (es.map entA) none), (15, .v (.int .i64 ((es.map entA).length : Int))), (16, .v (.int .i64 (j : Int)))], ⟨[], [(101, 2, (es.take j).map entA)]⟩⟩) (es.length) ((wk 0 1)) (⟨0, by omega, rfl, rfl⟩) ?_
    rintro m s ⟨j, hj, rfl, rfl⟩
    refine w_ (lt_ (h:=e_ (q_ (?_))))
    refine aw_cond rfl (fun hb2 => ?_) (fun hb2 => ?_)
    · have hc2 := bp hb2
      obtain ⟨hlt, x, hy, hrow, e⟩ := row_at entA hc2
      refine kt_ (q_ (aw_block (w_ (i_ (h:=l_ (h:=al_ (h:=s_ (h:=e_ (aw_region (m_ (h:=m_ (h:=l_ (h:=?_)))))))))))))
      refine al_p rfl (st_callC (cy := []) (ys := [.agg (entA x)]) rfl (by repeat (first | exact Args.nil | refine Args.cons _ _ _ _ _ rfl (argOk_clean rfl) ?_ | refine Args.cons _ _ _ _ _ rfl (argOk_nil _) ?_ | refine Args.cons _ _ _ _ _ rfl (argOk_era _) ?_ | refine Args.cons _ _ _ _ _ rfl (argOk_le rfl (by repeat (first | exact LeA.refl _ | exact LeA.nil _ | exact LeL.refl _ | refine LeA.agg ?_ | refine LeA.tup ?_ | exact LeL.nil | refine LeL.cons ?_ ?_ | exact LeA.any _))) ?_)) rfl rfl (PcopyEntry x) ?_)
      rintro r rfl
      refine bs_ (h:=?_)
      first | refine al_p rfl (s_append rfl rfl rfl (by simp; omega) (by repeat constructor) ?_) | refine al_p rfl (s_append0 rfl rfl (by simp; omega) (by repeat constructor) ?_)
      refine a_ (h:=al_nil (x_blockN (t_ (aw_region (ad_ (h:=m_ (h:=al_nil (?_))))))))
      refine x_then ?_
      refine ⟨_, _, ?_, ⟨j + 1, by omega, rfl, rfl⟩, (by rw [e]; exact (wk 0 1))⟩
      omega
    · have hc2 := bp hb2
      have e := row_no entA hj hc2
      subst e
      rw [List.take_length]
      refine aw_exit (x_thenE (x_thenE (ABlock_out (t_ (w_ (m_ (h:=a_ (h:=e_ (aw_ret (?_))))))))))
      refine e_ret ?_
      rfl

theorem PcopyNode (n : Nod) (hn : n.entries.length ≤ 1000) : AFn Try.prog 75 [.agg (nodA n)] (fun r => r = .agg (nodA n)) := by
  refine enter Try.func75 rfl rfl rfl rfl rfl 0 rfl ?_
  refine w_ (b_ (h:=al_ (h:=e_ (w_ (f_ (h:=l_ (h:=?_)))))))
  refine al_p rfl (q_call (PcopiedE n.entries hn) ?_)
  rintro r rfl
  refine f_ (h:=s_ (h:=e_ (w_ (l_ (h:=s_ (h:=e_ (aw_ret (?_))))))))
  refine e_ret ?_
  rfl

end
end Go.Proofs.Ythcbdkmhamhciaa
namespace Go.Proofs.Ythcbdkmhamhciaa
open Go.RowKit

section
variable {P : Program} {ev : Operand → Option AV} {h : AH} {R : AV → AH → Prop} {d : Option Tmp} {ty : TypeId} {pos : String} {af : Array Edge} {gd : Option (Nat × Bool)}
theorem st_eqPnil {T yT : TypeId} {x y : Operand} (hp : P.underlying T = some (.pointer (P.pointee T))) (hx : ev x = some (.v (.pointer none))) (hy : ev y = some (.v (.pointer none))) (hR : R (.v (.bool true)) h) : AStep P ⟨d, .binOp .eql T x y yT, ty, pos, af, gd⟩ ev h R :=
  st_bin hx hy (fun w => by simp [eqGuard, run_eql_pointer_nil (P := P) (w := w) T none hp]) hR
theorem st_eqPfp {T yT : TypeId} {x y : Operand} {row : List AV} (hp : P.underlying T = some (.pointer (P.pointee T))) (hx : ev x = some (.fp row)) (hy : ev y = some (.v (.pointer none))) (hR : R (.v (.bool false)) h) : AStep P ⟨d, .binOp .eql T x y yT, ty, pos, af, gd⟩ ev h R := by
  refine st_val (fun _ G w ec _ he => ?_) hR
  have h1 := he x (by simp [Op.operands]) _ hx
  have h2 := he y (by simp [Op.operands]) _ hy
  simp only [rep] at h1 h2
  obtain ⟨b, off, h3, _⟩ := h1
  refine ⟨.bool false, ?_, by simp only [rep]⟩
  simp [execOp, h2, h3, eqGuard, run_eql_pointer_nil (P := P) (w := w) T (some ⟨b, off, none⟩) hp]
end
end Go.Proofs.Ythcbdkmhamhciaa
namespace Go.Proofs.Ythcbdkmhamhciaa
open Go.RowKit

def chgA (c : Chg) : List AV := [.v (.int .i64 c.1.1), .v (.int .i64 c.1.2), .v (.string c.2.1), .v (.int .i64 c.2.2.1.1), .v (.int .i64 c.2.2.1.2), .v (.int .i64 c.2.2.2.1), .v (.int .i64 c.2.2.2.2)]
section
set_option maxRecDepth 10000
set_option maxHeartbeats 1000000
theorem newL_bad {n : Int} (h : n < 1 ∨ 3 < n) : newL n = ([], 50) := by unfold newL; rw [if_pos h]
theorem newL_ok {k : Nat} (h1 : ¬ (k : Int) < 1) (h2 : ¬ 3 < (k : Int)) : newL (k : Int) = (List.replicate k rootDvc, 0) := by unfold newL; rw [if_neg (by omega)]; simp
theorem Rnew (n : Int) : AFn Try.prog 16 [.v (.int .i64 n)] (fun r => r = .tup [.agg (flsA (newL n).1), .v (.int .i64 (newL n).2)]) := by
  refine enter Try.func16 rfl rfl rfl rfl rfl 0 rfl ?_
  refine w_ (al_ (h:=a_ (h:=e_ (q_ (w_ (m_ (h:=lt_ (h:=m_ (h:=?_)))))))))
  refine al_gs false rfl rfl (fun hb1 => ?_) (fun hb1 => ?_)
  · have hc1 := bp hb1
    refine g0_ (h:=g0_ (h:=pt_ (h:=e_ (cy_ (h:=w_ (bd_ (h:=s_ (h:=a_ (h:=e_ (aw_ret (x_thenR (?_))))))))))))
    refine rt_ (r := .tup [.agg (flsA (newL n).1), .v (.int .i64 (newL n).2)]) none (h5 := ?_) (h6 := ⟨rfl, rfl, rfl⟩)
    rw [newL_bad (by omega)]
    exact (by repeat (first | exact LeA.refl _ | exact LeA.nil _ | exact LeL.refl _ | refine LeA.agg ?_ | refine LeA.tup ?_ | exact LeL.nil | refine LeL.cons ?_ ?_ | exact LeA.any _))
  · have hc1 := bp hb1
    refine m_ (h:=gt_ (h:=pf_ (h:=e_ (?_))))
    refine aw_cond rfl (fun hb2 => ?_) (fun hb2 => ?_)
    · have hc2 := bp hb2
      refine w_ (bd_ (h:=s_ (h:=a_ (h:=e_ (aw_ret (x_thenR (?_)))))))
      refine rt_ (r := .tup [.agg (flsA (newL n).1), .v (.int .i64 (newL n).2)]) none (h5 := ?_) (h6 := ⟨rfl, rfl, rfl⟩)
      rw [newL_bad (by omega)]
      exact (by repeat (first | exact LeA.refl _ | exact LeA.nil _ | exact LeL.refl _ | refine LeA.agg ?_ | refine LeA.tup ?_ | exact LeL.nil | refine LeL.cons ?_ ?_ | exact LeA.any _))
    · have hc2 := bp hb2
      obtain ⟨k, rfl⟩ := Int.eq_ofNat_of_zero_le (show 0 ≤ n by omega)
      refine kt_ (w_ (al_ (h:=e_ (q_ (w_ (a_ (h:=e_ (aw_block (?_)))))))))
      refine aw_nilTokB 1 0 79 2 rfl rfl (by repeat constructor) (by repeat constructor) (by repeat constructor) ?_
      refine aw_loopW (fun m s => ∃ j : Nat, j ≤ k ∧ m = k - j ∧ s = ⟨look [(0, .v (.int .i64 (k : Int))), (2, .bp 0 0), (4, .bp 1 0), (5, .v (.int .i64 (j : Int)))], ⟨[[.v (.slice none 0 0)], [.sl 2 ((List.replicate j rootDvc).map dvcA) (some 0)]], [(79, 2, (List.replicate j rootDvc).map dvcA)]⟩⟩) (k) ((wk 2 1)) (⟨0, by omega, rfl, rfl⟩) ?_
      rintro m s ⟨j, hj, rfl, rfl⟩
      refine q_ (w_ (m_ (h:=m_ (h:=lt_ (h:=e_ (?_))))))
      refine aw_cond rfl (fun hb3 => ?_) (fun hb3 => ?_)
      · have hc3 := bp hb3
        refine kt_ (q_ (aw_block (aw_region (f_ (h:=l_ (h:=?_))))))
        refine al_p rfl (st_le (y := .agg (nodA rootNod)) (st_build (by repeat (first | exact FillA.nil _ | (apply FillA.cons; (focus exact rfl); (focus exact rfl); (focus exact rfl); (focus exact rfl); (focus exact rfl); (focus (repeat constructor))))) ⟨rfl, rfl⟩) (by repeat (first | exact LeA.refl _ | exact LeA.nil _ | exact LeL.refl _ | refine LeA.agg ?_ | refine LeA.tup ?_ | exact LeL.nil | refine LeL.cons ?_ ?_ | exact LeA.any _)) ?_)
        refine bs_ (h:=bd_ (h:=bs_ (h:=?_)))
        first | refine al_p rfl (s_append rfl rfl rfl (by simp; omega) (by repeat constructor) ?_) | refine al_p rfl (s_append0 rfl rfl (by simp; omega) (by repeat constructor) ?_)
        refine f_ (h:=s_ (h:=al_nil (x_blockN (t_ (aw_region (m_ (h:=ad_ (h:=a_ (h:=al_nil (?_))))))))))
        refine x_then ?_
        refine ⟨_, _, ?_, ⟨j + 1, by omega, rfl, rfl⟩, (by rw [List.replicate_succ', List.map_append]; exact (wk 2 1))⟩
        omega
      · have hc3 := bp hb3
        obtain rfl : j = k := by omega
        refine aw_exit (x_thenE (x_thenE (ABlock_out (t_ (w_ (l_ (h:=s_ (h:=a_ (h:=e_ (aw_ret (?_)))))))))))
        refine e_ret ?_
        rw [newL_ok hc1 hc2]
        rfl

end
end Go.Proofs.Ythcbdkmhamhciaa
namespace Go.Proofs.Ythcbdkmhamhciaa
open Go.RowKit

def devR (d : Dvc) (j cap1 : Nat) : List AV := [.v (.int .i64 d.next), .bs j 0 8 d.nodes.length cap1]
theorem dvcs_two (l : List Dvc) : ∀ r ∈ l.map dvcA, r.length = 2 := by
  intro r hr
  obtain ⟨d, _, rfl⟩ := List.mem_map.1 hr
  rfl
end Go.Proofs.Ythcbdkmhamhciaa
namespace Go.Proofs.Ythcbdkmhamhciaa.Old
open Go.RowKit

def few : Nat := 65536

theorem below_drewN {B : Nat} {a w : World} (h : Below B a w) (n : Nat) : Below B a (w.drewN n) := ⟨h.os, h.tape, h.output, h.size, h.block⟩


theorem ret_bool {a b : Bool} (h : a = b) : Ending.returned (.bool a) = .returned (.bool b) := by rw [h]
theorem below_a1 (w : World) (o1 : Obj) : Below w.heap.size w (w.alloc o1) := by
  exact (Below.refl _ w).alloc (Nat.le_refl _) _
theorem below_a2 (w : World) (o1 o2 : Obj) : Below w.heap.size w ((w.alloc o1).alloc o2) := by
  exact (below_a1 w o1).alloc (by simp <;> omega) _

end Go.Proofs.Ythcbdkmhamhciaa.Old
namespace Go.Proofs.Ythcbdkmhamhciaa
open Go.RowKit


def devB (f : Fls) (K : Nat) (d : Dvc) (j cap1 : Nat) : List (List AV) := (f.map dvcA).set K (devR d j cap1)
theorem devB_two (f : Fls) (K : Nat) (d : Dvc) (j cap1 : Nat) : ∀ r ∈ devB f K d j cap1, r.length = 2 := by
  intro r hr
  rcases List.mem_or_eq_of_mem_set hr with h | h
  · exact dvcs_two _ r h
  · rw [h]; rfl
theorem devB_len (f : Fls) (K : Nat) (d : Dvc) (j cap1 : Nat) : (devB f K d j cap1).length = f.length := by simp [devB]
end Go.Proofs.Ythcbdkmhamhciaa
namespace Go.Proofs.Ythcbdkmhamhciaa
open Go.RowKit

theorem renL_map (f : Nat → Option Nat) : ∀ xs : List AV, renL f xs = xs.map (ren f)
  | [] => rfl
  | x :: xs => by simp [renL, renL_map f xs]
theorem renKL_map (f : Nat → Option Nat) : ∀ xs : List AV, renKL f xs = xs.map (renK f)
  | [] => rfl
  | x :: xs => by simp [renKL, renKL_map f xs]
theorem lowGL_map (g : Nat → Option (List AV)) : ∀ xs : List AV, lowGL g xs = xs.map (lowG g)
  | [] => rfl
  | x :: xs => by simp [lowGL, lowGL_map g xs]
theorem rowsB_map (F : AV → AV) (h : F .any = .any) (sz cap : Nat) (rows : List (List AV)) : (rowsB sz cap rows).map F = rowsB sz cap (rows.map (·.map F)) := by
  simp [rowsB, h, List.map_flatten]
theorem bpLtL_all {n m : Nat} {xs : List AV} : bpLtL n m xs = true ↔ ∀ x ∈ xs, bpLt n m x = true := by
  induction xs with
  | nil => simp [bpLtL]
  | cons x xs ih => simp [bpLtL, ih]
theorem bpLt_rowsB {n m sz cap : Nat} {rows : List (List AV)} (h : ∀ r ∈ rows, bpLtL n m r = true) : bpLtL n m (rowsB sz cap rows) = true := by
  rw [bpLtL_all]
  intro x hx
  unfold rowsB at hx
  rcases List.mem_append.1 hx with hx | hx
  · obtain ⟨r, hr, hx⟩ := List.mem_flatten.1 hx
    exact bpLtL_all.1 (h r hr) x hx
  · rw [(List.mem_replicate.1 hx).2]; rfl

def DB (f : Fls) (K : Nat) (d : Dvc) (j cap cap1 : Nat) : List AV := rowsB 2 cap (devB f K d j cap1)
theorem bp_DB {n m : Nat} {f : Fls} {K : Nat} {d : Dvc} {j cap cap1 : Nat} (hj : j < n) : bpLtL n m (DB f K d j cap cap1) = true := by
  refine bpLt_rowsB fun r hr => ?_
  rcases List.mem_or_eq_of_mem_set hr with h | h
  · obtain ⟨d', _, rfl⟩ := List.mem_map.1 h
    rfl
  · rw [h]; simp [devR, bpLtL, bpLt, hj]
section
variable {F : AV → AV} (hany : F .any = .any) (hv : ∀ x, F (.v x) = .v x) (hs : ∀ sz rows, F (.sl sz rows none) = .sl sz rows none)
include hany hv hs
theorem map_dvcs (f : Fls) : (f.map dvcA).map (·.map F) = f.map dvcA := by
  have _ := hany
  rw [List.map_map]
  apply List.map_congr_left
  intro n _
  simp [dvcA, hv, hs]
theorem map_DB (f : Fls) (K : Nat) (d : Dvc) {j j' : Nat} (cap cap1 : Nat) (hb : F (.bs j 0 8 d.nodes.length cap1) = .bs j' 0 8 d.nodes.length cap1) : (DB f K d j cap cap1).map F = DB f K d j' cap cap1 := by
  unfold DB devB
  rw [rowsB_map F hany, List.map_set, map_dvcs hany hv hs]
  simp [devR, hv, hb]
end
theorem ren_DB {g : Nat → Option Nat} {j j' : Nat} (h : g j = some j') (f : Fls) (K : Nat) (d : Dvc) (cap cap1 : Nat) : renL g (DB f K d j cap cap1) = DB f K d j' cap cap1 := by
  rw [renL_map]
  exact map_DB rfl (fun _ => rfl) (fun _ _ => rfl) f K d cap cap1 (by simp [ren, h])
theorem renK_DB {g : Nat → Option Nat} {j j' : Nat} (h : g j = some j') (f : Fls) (K : Nat) (d : Dvc) (cap cap1 : Nat) : renKL g (DB f K d j cap cap1) = DB f K d j' cap cap1 := by
  rw [renKL_map]
  exact map_DB rfl (fun _ => rfl) (fun _ _ => rfl) f K d cap cap1 (by simp [renK, h])
theorem lowG_rows {g : Nat → Option (List AV)} {j sz n cap0 cap : Nat} {rows : List (List AV)} (hg : g j = some (rowsB sz cap rows)) (hr : ∀ r ∈ rows, r.length = sz) (hn : n = rows.length) (hc : rows.length ≤ cap) : lowG g (.bs j 0 sz n cap0) = .sl sz rows none := by
  subst hn
  have hl := rowsB_len hr hc
  have hb : Nat.ble (0 + rows.length * sz) (rowsB sz cap rows).length = true := by
    rw [hl, Nat.ble_eq]
    have := Nat.mul_le_mul_right sz hc
    omega
  simp only [lowG, hg, hb, List.drop_zero]
  unfold rowsB
  rw [chunk_flat hr]
theorem rowsB_get {sz cap : Nat} {rows : List (List AV)} {q k : Nat} {r : List AV} {x : AV} (hr : ∀ r ∈ rows, r.length = sz) (hq : rows[q]? = some r) (hx : r[k]? = some x) : (rowsB sz cap rows)[0 + q * sz + k]? = some x := by
  have hk : k < sz := by rw [← hr r (List.mem_of_getElem? hq)]; exact (List.getElem?_eq_some_iff.1 hx).1
  have e := flat_getT hr hk (q := q)
  rw [hq] at e
  simp only [Option.bind_some] at e
  rw [hx] at e
  unfold rowsB
  rw [Nat.zero_add, List.getElem?_append_left (List.getElem?_eq_some_iff.1 e).1]
  exact e
theorem rowsB_set {sz cap : Nat} {rows : List (List AV)} {q k : Nat} {r r' cs : List AV} (hr : ∀ r ∈ rows, r.length = sz) (hq : rows[q]? = some r) (hs : SetAt r k cs r') (hne : cs ≠ []) : SetAt (rowsB sz cap rows) (0 + q * sz + k) cs (rowsB sz cap (rows.set q r')) := by
  unfold rowsB
  rw [Nat.zero_add, List.length_set]
  exact (flat_set hr hq hs hne).left _
theorem devB_get {f : Fls} {K : Nat} {d : Dvc} {j cap1 : Nat} (hK : K < f.length) : (devB f K d j cap1)[K]? = some (devR d j cap1) := by
  unfold devB
  rw [List.getElem?_set_self (by simpa using hK)]
theorem DB_nodes {f : Fls} {K : Nat} {d : Dvc} {j cap cap1 : Nat} (hK : K < f.length) : (DB f K d j cap cap1)[0 + K * 2 + 1]? = some (.bs j 0 8 d.nodes.length cap1) := rowsB_get (devB_two _ _ _ _ _) (devB_get hK) rfl
theorem DB_next {f : Fls} {K : Nat} {d : Dvc} {j cap cap1 : Nat} (hK : K < f.length) : (DB f K d j cap cap1)[0 + K * 2 + 0]? = some (.v (.int .i64 d.next)) := rowsB_get (devB_two _ _ _ _ _) (devB_get hK) rfl
theorem DB_set {f : Fls} {K : Nat} {d d' : Dvc} {j j' cap cap1 cap1' k : Nat} {cs : List AV} (hK : K < f.length) (hs : SetAt (devR d j cap1) k cs (devR d' j' cap1')) (hne : cs ≠ []) : SetAt (DB f K d j cap cap1) (0 + K * 2 + k) cs (DB f K d' j' cap cap1') := by
  have key := rowsB_set (cap := cap) (devB_two f K d j cap1) (devB_get hK) hs hne
  unfold devB at key
  rw [List.set_set] at key
  exact key
end Go.Proofs.Ythcbdkmhamhciaa
namespace Go.Proofs.Ythcbdkmhamhciaa
open Go.RowKit

theorem src1 {h : AH} {sz : Nat} {r : List AV} {tok : Option Nat} : SrcA h sz (.sl sz [r] tok) 1 r := by
  have := SrcA.sl (h := h) (sz := sz) [r] tok
  simpa using this
end Go.Proofs.Ythcbdkmhamhciaa
namespace Go.Proofs.Ythcbdkmhamhciaa

theorem bl_irr : ∀ x : List UInt8, Op.bytesLess x x = false
  | [] => rfl
  | a :: x => by simp [Op.bytesLess, bl_irr x]
theorem bl_trans : ∀ x y z : List UInt8, Op.bytesLess x y = true → Op.bytesLess y z = true → Op.bytesLess x z = true
  | _, [], _, h, _ => by cases ‹List UInt8› <;> simp [Op.bytesLess] at h
  | _, _ :: _, [], _, h => by simp [Op.bytesLess] at h
  | [], _ :: _, _ :: _, _, _ => rfl
  | a :: x, b :: y, c :: z, h, k => by
    simp only [Op.bytesLess, Bool.or_eq_true, Bool.and_eq_true, decide_eq_true_iff, beq_iff_eq] at h k ⊢
    rcases h with h | ⟨rfl, h⟩
    · rcases k with k | ⟨rfl, k⟩
      · exact .inl (UInt8.lt_trans h k)
      · exact .inl h
    · rcases k with k | ⟨rfl, k⟩
      · exact .inl k
      · exact .inr ⟨rfl, bl_trans x y z h k⟩
theorem bl_tri : ∀ x y : List UInt8, Op.bytesLess x y = false → x ≠ y → Op.bytesLess y x = true
  | [], [], _, h => absurd rfl h
  | [], _ :: _, h, _ => by simp [Op.bytesLess] at h
  | _ :: _, [], _, _ => rfl
  | a :: x, b :: y, h, k => by
    simp only [Op.bytesLess, Bool.or_eq_false_iff, decide_eq_false_iff_not, Bool.and_eq_false_iff, beq_eq_false_iff_ne] at h
    simp only [Op.bytesLess, Bool.or_eq_true, Bool.and_eq_true, decide_eq_true_iff, beq_iff_eq]
    by_cases e : a = b
    · subst e
      right
      refine ⟨rfl, bl_tri x y ?_ (fun e => k (by rw [e]))⟩
      rcases h.2 with h | h
      · exact absurd rfl h
      · exact h
    · left
      have h1 : ¬ a.toNat < b.toNat := h.1
      have h2 : a.toNat ≠ b.toNat := fun e' => e (UInt8.toNat_inj.1 e')
      show b.toNat < a.toNat
      omega
theorem lt_irr (a : Str) : strLt a a = false := bl_irr _
theorem lt_trans' {a b c : Str} (h : strLt a b = true) (k : strLt b c = true) : strLt a c = true := bl_trans _ _ _ h k
theorem lt_tri {a b : Str} (h : strLt a b = false) (k : a ≠ b) : strLt b a = true := by
  refine bl_tri _ _ h fun e => k ?_
  have := str_eq a b
  rw [e] at this
  simpa using this
theorem lt_ne {a b : Str} (h : strLt a b = true) : a ≠ b := by rintro rfl; rw [lt_irr] at h; cases h

def Sorted (es : List Ent) : Prop := es.Pairwise fun a b => strLt a.1 b.1 = true
def without (name : Str) (es : List Ent) : List Ent := es.filter fun e => decide (e.1 ≠ name)
theorem entGo_done (name : Str) (ino : Int) : ∀ es : List Ent, entGo name ino true es = without name es
  | [] => rfl
  | e :: r => by
    unfold entGo
    simp only [Bool.not_true, Bool.false_and, Bool.true_or]
    rw [entGo_done name ino r]
    unfold without
    rw [List.filter_cons]
    by_cases h : e.1 = name <;> simp [h]
theorem entL_zero (es : List Ent) (name : Str) : entL es name 0 = without name es := entGo_done name 0 es
theorem entGo_perm (name : Str) (ino : Int) : ∀ es : List Ent, (entGo name ino false es).Perm ((name, ino) :: without name es)
  | [] => by simp [entGo, without]
  | e :: r => by
    unfold entGo
    simp only [Bool.not_false, Bool.true_and, Bool.false_or]
    cases hlt : strLt e.1 name with
    | false =>
      simp only [Bool.not_false, if_true]
      rw [entGo_done name ino r]
      unfold without
      rw [List.filter_cons]
      by_cases h : e.1 = name <;> simp [h]
    | true =>
      have hne := lt_ne hlt
      have ih := entGo_perm name ino r
      unfold without at ih ⊢
      rw [List.filter_cons]
      simp only [Bool.not_true, Bool.false_eq_true, if_false, List.nil_append, hne, ne_eq, not_false_eq_true, decide_true, if_true]
      exact (List.Perm.cons e ih).trans (List.Perm.swap _ _ _)
theorem entL_perm (es : List Ent) (name : Str) {ino : Int} (h : ino ≠ 0) : (entL es name ino).Perm ((name, ino) :: without name es) := by
  unfold entL
  rw [show (ino == 0) = false by simpa using h]
  exact entGo_perm name ino es
theorem sorted_without {es : List Ent} (h : Sorted es) (name : Str) : Sorted (without name es) := List.Pairwise.filter _ h
theorem entGo_sorted (name : Str) (ino : Int) : ∀ es : List Ent, Sorted es → Sorted (entGo name ino false es)
  | [], _ => by simp [entGo, Sorted]
  | e :: r, h => by
    obtain ⟨h1, h2⟩ := List.pairwise_cons.1 h
    unfold entGo
    simp only [Bool.not_false, Bool.true_and, Bool.false_or]
    cases hlt : strLt e.1 name with
    | false =>
      simp only [Bool.not_false, if_true]
      rw [entGo_done name ino r]
      have hr : ∀ x ∈ without name r, strLt name x.1 = true := fun x hx => by
        obtain ⟨hx1, _⟩ := List.mem_filter.1 hx
        have h3 := h1 x hx1
        by_cases he : e.1 = name
        · rw [← he]; exact h3
        · exact lt_trans' (lt_tri hlt he) h3
      by_cases he : e.1 = name
      · simp only [he, if_true, List.nil_append, List.cons_append]
        exact List.pairwise_cons.2 ⟨hr, sorted_without h2 name⟩
      · simp only [he, if_false, List.cons_append, List.nil_append]
        refine List.pairwise_cons.2 ⟨?_, List.pairwise_cons.2 ⟨fun x hx => h1 x (List.mem_filter.1 hx).1, sorted_without h2 name⟩⟩
        intro x hx
        rcases List.mem_cons.1 hx with rfl | hx
        · exact lt_tri hlt he
        · exact hr x hx
    | true =>
      have hne := lt_ne hlt
      simp only [Bool.not_true, Bool.false_eq_true, if_false, List.nil_append, hne, List.cons_append]
      refine List.pairwise_cons.2 ⟨fun x hx => ?_, entGo_sorted name ino r h2⟩
      have hx' := (entGo_perm name ino r).mem_iff.1 hx
      rcases List.mem_cons.1 hx' with rfl | hx'
      · exact hlt
      · exact h1 x (List.mem_filter.1 hx').1
theorem entL_sorted {es : List Ent} (h : Sorted es) (name : Str) (ino : Int) : Sorted (entL es name ino) := by
  unfold entL
  cases (ino == 0) with
  | true => rw [entGo_done]; exact sorted_without h name
  | false => exact entGo_sorted name ino es h
def entF (es : List Ent) (name : Str) : Option Ent := es.find? fun e : Ent => decide (e.1 = name)
theorem entF_none {es : List Ent} {name : Str} (h : entF es name = none) : ∀ e ∈ es, e.1 ≠ name := fun e he => by
  have := List.find?_eq_none.1 h e he
  simpa using this
theorem without_none {es : List Ent} {name : Str} (h : entF es name = none) : without name es = es := by
  unfold without
  rw [List.filter_eq_self]
  intro e he
  simpa using entF_none h e he
theorem cntE_perm {i : Int} {a b : List Ent} (h : a.Perm b) : cntE i a = cntE i b := h.countP_eq _
theorem cntE_cons (i : Int) (e : Ent) (es : List Ent) : cntE i (e :: es) = cntE i es + (if e.2 = i then 1 else 0) := by
  unfold cntE
  rw [List.countP_cons]
  by_cases h : e.2 = i <;> simp [h]
theorem cntE_pos {i : Int} {es : List Ent} : 0 < cntE i es ↔ ∃ e ∈ es, e.2 = i := by
  unfold cntE
  rw [List.countP_pos_iff]
  simp
theorem cntN_pos {i : Int} {ns : List Nod} : 0 < cntN i ns ↔ ∃ n ∈ ns, ∃ e ∈ n.entries, e.2 = i := by
  unfold cntN
  rw [cntE_pos]
  constructor
  · rintro ⟨e, he, h⟩
    obtain ⟨n, hn, he⟩ := List.mem_flatMap.1 he
    exact ⟨n, hn, e, he, h⟩
  · rintro ⟨n, hn, e, he, h⟩
    exact ⟨e, List.mem_flatMap.2 ⟨n, hn, he⟩, h⟩
theorem cntN_append (i : Int) (a b : List Nod) : cntN i (a ++ b) = cntN i a + cntN i b := by
  unfold cntN cntE
  rw [List.flatMap_append, List.countP_append]
theorem cntN_cons (i : Int) (n : Nod) (b : List Nod) : cntN i (n :: b) = cntE i n.entries + cntN i b := by
  unfold cntN cntE
  rw [List.flatMap_cons, List.countP_append]

def updI (ns : List Nod) (ino : Int) (g : Nod → Nod) : List Nod := ns.map fun n => if n.ino = ino then g n else n
def Asc (ns : List Nod) : Prop := ns.Pairwise fun a b => a.ino < b.ino
theorem asc_eq {ns : List Nod} (h : Asc ns) {a b : Nod} (ha : a ∈ ns) (hb : b ∈ ns) (e : a.ino = b.ino) : a = b := by
  induction ns with
  | nil => cases ha
  | cons x r ih =>
    obtain ⟨h1, h2⟩ := List.pairwise_cons.1 h
    rcases List.mem_cons.1 ha with rfl | ha
    · rcases List.mem_cons.1 hb with rfl | hb
      · rfl
      · have := h1 b hb; omega
    · rcases List.mem_cons.1 hb with hb | hb
      · subst hb; have := h1 a (by assumption); omega
      · exact ih h2 (by assumption) hb
theorem asc_split {ns : List Nod} (h : Asc ns) {n : Nod} (hn : n ∈ ns) : ∃ A B, ns = A ++ n :: B ∧ (∀ m ∈ A, m.ino ≠ n.ino) ∧ ∀ m ∈ B, m.ino ≠ n.ino := by
  obtain ⟨A, B, rfl⟩ := List.append_of_mem hn
  obtain ⟨h1, h2, h3⟩ := List.pairwise_append.1 h
  obtain ⟨h4, _⟩ := List.pairwise_cons.1 h2
  exact ⟨A, B, rfl, fun m hm => by have := h3 m hm n (by simp); omega, fun m hm => by have := h4 m hm; omega⟩
theorem updI_split {A B : List Nod} {n : Nod} (hA : ∀ m ∈ A, m.ino ≠ n.ino) (hB : ∀ m ∈ B, m.ino ≠ n.ino) (g : Nod → Nod) : updI (A ++ n :: B) n.ino g = A ++ g n :: B := by
  unfold updI
  rw [List.map_append, List.map_cons, if_pos rfl]
  congr 1
  · rw [List.map_congr_left (g := id) fun m hm => by simp [hA m hm]]; simp
  · congr 1
    rw [List.map_congr_left (g := id) fun m hm => by simp [hB m hm]]; simp
theorem mem_updI {ns : List Nod} {ino : Int} {g : Nod → Nod} {m : Nod} : m ∈ updI ns ino g ↔ ∃ n ∈ ns, m = if n.ino = ino then g n else n := by
  unfold updI
  rw [List.mem_map]
  constructor
  · rintro ⟨n, hn, rfl⟩; exact ⟨n, hn, rfl⟩
  · rintro ⟨n, hn, rfl⟩; exact ⟨n, hn, rfl⟩
theorem updI_inos {ns : List Nod} {ino : Int} {g : Nod → Nod} (hg : ∀ n, (g n).ino = n.ino) : (updI ns ino g).map (·.ino) = ns.map (·.ino) := by
  unfold updI
  rw [List.map_map]
  apply List.map_congr_left
  intro n _
  simp only [Function.comp]
  split
  · exact hg n
  · rfl
theorem asc_inos {ns : List Nod} : Asc ns ↔ (ns.map (·.ino)).Pairwise (· < ·) := by
  unfold Asc
  rw [List.pairwise_map]
theorem asc_updI {ns : List Nod} (h : Asc ns) (ino : Int) {g : Nod → Nod} (hg : ∀ n, (g n).ino = n.ino) : Asc (updI ns ino g) := by
  rw [asc_inos] at h ⊢
  rw [updI_inos hg]
  exact h
theorem cntN_updI {ns : List Nod} (h : Asc ns) {n : Nod} (hn : n ∈ ns) (g : Nod → Nod) (i : Int) : cntN i (updI ns n.ino g) + cntE i n.entries = cntN i ns + cntE i (g n).entries := by
  obtain ⟨A, B, rfl, hA, hB⟩ := asc_split h hn
  rw [updI_split hA hB]
  simp only [cntN_append, cntN_cons]
  omega
end Go.Proofs.Ythcbdkmhamhciaa
namespace Go.Proofs.Ythcbdkmhamhciaa

structure VD (d : Dvc) : Prop where
  len : d.nodes.length ≤ 16
  next2 : 2 ≤ d.next
  nextM : d.next ≤ 1073741824
  root : ∃ r rest, d.nodes = r :: rest ∧ r.ino = 1 ∧ r.kind = 2 ∧ r.parent = 1
  asc : Asc d.nodes
  lt : ∀ n ∈ d.nodes, n.ino < d.next
  plain : ∀ n ∈ d.nodes, plainL n = true
  leaf : ∀ n ∈ d.nodes, n.kind ≠ 2 → n.parent = 0 ∧ n.entries = []
  many : ∀ n ∈ d.nodes, n.entries.length ≤ 12
  sorted : ∀ n ∈ d.nodes, Sorted n.entries
  ent : ∀ n ∈ d.nodes, ∀ e ∈ n.entries, nameL e.1 = true ∧ e.2 ≠ 1 ∧ ∃ m ∈ d.nodes, m.ino = e.2
  link : ∀ n ∈ d.nodes, n.ino ≠ 1 → 0 < cntN n.ino d.nodes
  one : ∀ n ∈ d.nodes, n.ino ≠ 1 → n.kind = 2 → cntN n.ino d.nodes = 1
  par : ∀ n ∈ d.nodes, n.ino ≠ 1 → n.kind = 2 → ∃ p ∈ d.nodes, p.ino = n.parent ∧ ∃ e ∈ p.entries, e.2 = n.ino
  rank : ∃ rk : Int → Nat, ∀ n ∈ d.nodes, n.ino ≠ 1 → n.kind = 2 → rk n.parent < rk n.ino

theorem VD.pos {d : Dvc} (h : VD d) {n : Nod} (hn : n ∈ d.nodes) : 1 ≤ n.ino := by
  obtain ⟨r, rest, hr, h1, _⟩ := h.root
  have ha := h.asc
  rw [hr] at hn ha
  rcases List.mem_cons.1 hn with rfl | hn
  · omega
  · have := (List.pairwise_cons.1 ha).1 n hn
    omega
theorem VD.rootMem {d : Dvc} (h : VD d) : ∃ r ∈ d.nodes, r.ino = 1 ∧ r.kind = 2 ∧ r.parent = 1 := by
  obtain ⟨r, rest, hr, h1, h2, h3⟩ := h.root
  exact ⟨r, by rw [hr]; simp, h1, h2, h3⟩
theorem VD.isRoot {d : Dvc} (h : VD d) {n : Nod} (hn : n ∈ d.nodes) (h1 : n.ino = 1) : n.kind = 2 ∧ n.parent = 1 := by
  obtain ⟨r, hr, h2, h3, h4⟩ := h.rootMem
  obtain rfl := asc_eq h.asc hn hr (by omega)
  exact ⟨h3, h4⟩
def putE (name : Str) (ino : Int) (n : Nod) : Nod := { n with entries := entL n.entries name ino }
def entD (ns : List Nod) (p : Int) (name : Str) (ino : Int) : List Nod := updI ns p (putE name ino)
structure AsWas (p : Int) (name : Str) (to_ : Int) (n m : Nod) : Prop where
  ino : m.ino = n.ino
  kind : m.kind = n.kind
  parent : m.parent = n.parent
  plain : plainL m = plainL n
  ents : m.entries = if n.ino = p then entL n.entries name to_ else n.entries
theorem asWas (p : Int) (name : Str) (ino : Int) (n : Nod) : AsWas p name ino n (if n.ino = p then putE name ino n else n) := by
  by_cases h : n.ino = p
  · simp only [h, if_true]
    exact ⟨h ▸ rfl, rfl, rfl, rfl, by simp [h, putE]⟩
  · simp only [h, if_false]
    exact ⟨rfl, rfl, rfl, rfl, by simp [h]⟩
theorem mem_entD {ns : List Nod} {p : Int} {name : Str} {ino : Int} {m : Nod} (h : m ∈ entD ns p name ino) : ∃ n ∈ ns, AsWas p name ino n m := by
  obtain ⟨n, hn, rfl⟩ := mem_updI.1 h
  exact ⟨n, hn, asWas p name ino n⟩
theorem to_entD {ns : List Nod} (p : Int) (name : Str) (ino : Int) {n : Nod} (h : n ∈ ns) : ∃ m ∈ entD ns p name ino, AsWas p name ino n m := ⟨_, mem_updI.2 ⟨n, h, rfl⟩, asWas p name ino n⟩
theorem entD_asc {ns : List Nod} (h : Asc ns) (p : Int) (name : Str) (ino : Int) : Asc (entD ns p name ino) := asc_updI h p fun _ => rfl
theorem entD_len (ns : List Nod) (p : Int) (name : Str) (ino : Int) : (entD ns p name ino).length = ns.length := by simp [entD, updI]
theorem entD_cnt {ns : List Nod} (h : Asc ns) {n0 : Nod} (hn : n0 ∈ ns) (name : Str) (ino i : Int) : cntN i (entD ns n0.ino name ino) + cntE i n0.entries = cntN i ns + cntE i (entL n0.entries name ino) := cntN_updI h hn (putE name ino) i
theorem entD_root {ns : List Nod} (p : Int) (name : Str) (ino : Int) (h : ∃ r rest, ns = r :: rest ∧ r.ino = 1 ∧ r.kind = 2 ∧ r.parent = 1) : ∃ r rest, entD ns p name ino = r :: rest ∧ r.ino = 1 ∧ r.kind = 2 ∧ r.parent = 1 := by
  obtain ⟨r, rest, rfl, h1, h2, h3⟩ := h
  have := asWas p name ino r
  exact ⟨_, _, rfl, this.ino.trans h1, this.kind.trans h2, this.parent.trans h3⟩
def b1 (p : Prop) [Decidable p] : Nat := if p then 1 else 0
theorem cnt_putN {es : List Ent} {name : Str} (h : entF es name = none) {ino : Int} (h0 : ino ≠ 0) (i : Int) : cntE i (entL es name ino) = cntE i es + b1 (ino = i) := by
  rw [cntE_perm (entL_perm es name h0), cntE_cons, without_none h]; rfl
theorem mem_entL {es : List Ent} {name : Str} {ino : Int} {e : Ent} (h : e ∈ entL es name ino) : e ∈ es ∨ (e = (name, ino) ∧ ino ≠ 0) := by
  by_cases h0 : ino = 0
  · subst h0
    rw [entL_zero] at h
    exact .inl (List.mem_filter.1 h).1
  · rcases List.mem_cons.1 ((entL_perm es name h0).mem_iff.1 h) with h | h
    · exact .inr ⟨h, h0⟩
    · exact .inl (List.mem_filter.1 h).1
theorem mem_entL_old {es : List Ent} {name : Str} {ino : Int} {e : Ent} (h : e ∈ es) (hn : e.1 ≠ name) : e ∈ entL es name ino := by
  have hw : e ∈ without name es := List.mem_filter.2 ⟨h, by simpa using hn⟩
  by_cases h0 : ino = 0
  · subst h0
    rw [entL_zero]
    exact hw
  · exact (entL_perm es name h0).mem_iff.2 (List.mem_cons_of_mem _ hw)
theorem mem_entL_new {es : List Ent} {name : Str} {ino : Int} (h0 : ino ≠ 0) : (name, ino) ∈ entL es name ino := (entL_perm es name h0).mem_iff.2 (by simp)
theorem b1_t {p : Prop} [Decidable p] (h : p) : b1 p = 1 := if_pos h
theorem b1_f {p : Prop} [Decidable p] (h : ¬ p) : b1 p = 0 := if_neg h

theorem VD.cnt_next {d : Dvc} (h : VD d) {i : Int} (hi : d.next ≤ i) : cntN i d.nodes = 0 := by
  apply Classical.byContradiction
  intro hc
  obtain ⟨n, hn, e, he, rfl⟩ := cntN_pos.1 (Nat.pos_of_ne_zero hc)
  obtain ⟨m, hm, e2⟩ := (h.ent n hn e he).2.2
  have := h.lt m hm
  omega

theorem VD.make {d : Dvc} (h : VD d) {n0 : Nod} (hn0 : n0 ∈ d.nodes) (hk : n0.kind = 2) {name : Str} (hname : nameL name = true) (hnew : entF n0.entries name = none) {n : Nod} (hp : plainL n = true) (hlen : d.nodes.length < 16) (hnx : d.next < 1073741824) (hfull : n0.entries.length < 12) :
    VD ⟨d.next + 1, entD d.nodes n0.ino name d.next ++ [mkNod n d.next n0.ino]⟩ := by
  have hnext0 : d.next ≠ 0 := by have := h.next2; omega
  have hcnt : ∀ i, cntN i (entD d.nodes n0.ino name d.next ++ [mkNod n d.next n0.ino]) = cntN i d.nodes + b1 (d.next = i) := by
    intro i
    have h1 := entD_cnt h.asc hn0 name d.next i
    rw [cnt_putN hnew hnext0] at h1
    rw [cntN_append, cntN_cons]
    have h2 : cntE i (mkNod n d.next n0.ino).entries = 0 := rfl
    have h3 : cntN i [] = 0 := rfl
    omega
  have hmem : ∀ m, m ∈ entD d.nodes n0.ino name d.next ++ [mkNod n d.next n0.ino] → (∃ n' ∈ d.nodes, AsWas n0.ino name d.next n' m) ∨ m = mkNod n d.next n0.ino := by
    intro m hm
    rcases List.mem_append.1 hm with hm | hm
    · exact .inl (mem_entD hm)
    · exact .inr (by simpa using hm)
  have hto : ∀ n' ∈ d.nodes, ∃ m ∈ entD d.nodes n0.ino name d.next ++ [mkNod n d.next n0.ino], AsWas n0.ino name d.next n' m := fun n' hn' => by
    obtain ⟨m, hm, hw⟩ := to_entD n0.ino name d.next hn'
    exact ⟨m, List.mem_append_left _ hm, hw⟩
  have hold : ∀ {n' m : Nod} {e : Ent}, AsWas n0.ino name d.next n' m → n' ∈ d.nodes → e ∈ n'.entries → e ∈ m.entries := by
    intro n' m e hw hn' he
    rw [hw.ents]
    split
    · rename_i heq
      obtain rfl := asc_eq h.asc hn' hn0 heq
      exact mem_entL_old he (entF_none hnew e he)
    · exact he
  refine ⟨?_, ?_, ?_, ?_, ?_, ?_, ?_, ?_, ?_, ?_, ?_, ?_, ?_, ?_, ?_⟩
  · show (entD d.nodes n0.ino name d.next ++ [mkNod n d.next n0.ino]).length ≤ 16
    rw [List.length_append, entD_len]
    simp
    omega
  · show 2 ≤ d.next + 1
    have := h.next2; omega
  · show d.next + 1 ≤ 1073741824
    omega
  · obtain ⟨r, rest, hr, h1⟩ := entD_root n0.ino name d.next h.root
    exact ⟨r, rest ++ [mkNod n d.next n0.ino], by show _ ++ _ = _; rw [hr]; rfl, h1⟩
  · refine List.pairwise_append.2 ⟨entD_asc h.asc _ _ _, by simp, fun a ha b hb => ?_⟩
    obtain ⟨n', hn', hw⟩ := mem_entD ha
    simp at hb
    subst hb
    have := h.lt n' hn'
    rw [hw.ino]
    exact this
  · intro m hm
    show m.ino < d.next + 1
    rcases hmem m hm with ⟨n', hn', hw⟩ | rfl
    · have := h.lt n' hn'; rw [hw.ino]; omega
    · show d.next < d.next + 1; omega
  · intro m hm
    rcases hmem m hm with ⟨n', hn', hw⟩ | rfl
    · rw [hw.plain]; exact h.plain n' hn'
    · exact hp
  · intro m hm hk'
    rcases hmem m hm with ⟨n', hn', hw⟩ | rfl
    · rw [hw.kind] at hk'
      obtain ⟨h1, h2⟩ := h.leaf n' hn' hk'
      refine ⟨hw.parent.trans h1, ?_⟩
      rw [hw.ents, if_neg, h2]
      intro e
      obtain rfl := asc_eq h.asc hn' hn0 e
      exact hk' hk
    · exact ⟨if_neg hk', rfl⟩
  · intro m hm
    rcases hmem m hm with ⟨n', hn', hw⟩ | rfl
    · rw [hw.ents]
      split
      · rename_i heq
        obtain rfl := asc_eq h.asc hn' hn0 heq
        rw [(entL_perm _ name hnext0).length_eq, List.length_cons, without_none hnew]
        omega
      · exact h.many n' hn'
    · exact Nat.zero_le _
  · intro m hm
    rcases hmem m hm with ⟨n', hn', hw⟩ | rfl
    · rw [hw.ents]
      split
      · exact entL_sorted (h.sorted n' hn') _ _
      · exact h.sorted n' hn'
    · exact List.Pairwise.nil
  · intro m hm e he
    rcases hmem m hm with ⟨n', hn', hw⟩ | rfl
    · have key : (e ∈ n'.entries) ∨ e = (name, d.next) := by
        rw [hw.ents] at he
        split at he
        · rcases mem_entL he with h1 | h1
          · exact .inl h1
          · exact .inr h1.1
        · exact .inl he
      rcases key with h1 | rfl
      · obtain ⟨k1, k2, q, hq, k3⟩ := h.ent n' hn' e h1
        obtain ⟨m', hm', hw'⟩ := hto q hq
        exact ⟨k1, k2, m', hm', hw'.ino.trans k3⟩
      · exact ⟨hname, by show d.next ≠ 1; have := h.next2; omega, mkNod n d.next n0.ino, by simp, rfl⟩
    · cases he
  · intro m hm h1
    rw [hcnt]
    rcases hmem m hm with ⟨n', hn', hw⟩ | rfl
    · have := h.link n' hn' (by rw [← hw.ino]; exact h1)
      rw [hw.ino]
      omega
    · have : b1 (d.next = (mkNod n d.next n0.ino).ino) = 1 := b1_t rfl
      omega
  · intro m hm h1 h2
    rw [hcnt]
    rcases hmem m hm with ⟨n', hn', hw⟩ | rfl
    · have := h.one n' hn' (by rw [← hw.ino]; exact h1) (by rw [← hw.kind]; exact h2)
      rw [hw.ino, this, b1_f (by have := h.lt n' hn'; omega)]
    · have e1 : b1 (d.next = (mkNod n d.next n0.ino).ino) = 1 := b1_t rfl
      have e2 : cntN (mkNod n d.next n0.ino).ino d.nodes = 0 := h.cnt_next (Int.le_refl _)
      omega
  · intro m hm h1 h2
    rcases hmem m hm with ⟨n', hn', hw⟩ | rfl
    · obtain ⟨p, hp', k1, e, he, k2⟩ := h.par n' hn' (by rw [← hw.ino]; exact h1) (by rw [← hw.kind]; exact h2)
      obtain ⟨q, hq, hwq⟩ := hto p hp'
      exact ⟨q, hq, by rw [hwq.ino, hw.parent]; exact k1, e, hold hwq hp' he, by rw [hw.ino]; exact k2⟩
    · obtain ⟨q, hq, hwq⟩ := hto n0 hn0
      refine ⟨q, hq, ?_, (name, d.next), ?_, rfl⟩
      · rw [hwq.ino]
        exact (if_pos h2).symm
      · rw [hwq.ents, if_pos rfl]
        exact mem_entL_new hnext0
  · obtain ⟨rk, hrk⟩ := h.rank
    refine ⟨fun i => if i = d.next then rk n0.ino + 1 else rk i, ?_⟩
    intro m hm h1 h2
    rcases hmem m hm with ⟨n', hn', hw⟩ | rfl
    · have hlt := h.lt n' hn'
      have h1' : n'.ino ≠ 1 := by rw [← hw.ino]; exact h1
      have h2' : n'.kind = 2 := by rw [← hw.kind]; exact h2
      obtain ⟨p, hp', k1, _⟩ := h.par n' hn' h1' h2'
      have hlp := h.lt p hp'
      simp only
      rw [hw.ino, hw.parent, if_neg (by omega), if_neg (by omega)]
      exact hrk n' hn' h1' h2'
    · have e1 : (mkNod n d.next n0.ino).parent = n0.ino := if_pos h2
      have e2 : (mkNod n d.next n0.ino).ino = d.next := rfl
      have hl := h.lt n0 hn0
      simp only
      rw [e1, e2, if_pos rfl, if_neg (by omega)]
      omega

theorem VD.linked {d : Dvc} (h : VD d) {n0 a : Nod} (hn0 : n0 ∈ d.nodes) (hk : n0.kind = 2) (ha : a ∈ d.nodes) (hka : a.kind ≠ 2) {name : Str} (hname : nameL name = true) (hnew : entF n0.entries name = none) (hfull : n0.entries.length < 12) :
    VD ⟨d.next, entD d.nodes n0.ino name a.ino⟩ := by
  have ha0 : a.ino ≠ 0 := by have := h.pos ha; omega
  have ha1 : a.ino ≠ 1 := fun e => hka (h.isRoot ha e).1
  have hcnt : ∀ i, cntN i (entD d.nodes n0.ino name a.ino) = cntN i d.nodes + b1 (a.ino = i) := by
    intro i
    have h1 := entD_cnt h.asc hn0 name a.ino i
    rw [cnt_putN hnew ha0] at h1
    omega
  have hto := fun n' (hn' : n' ∈ d.nodes) => to_entD n0.ino name a.ino hn'
  have hold : ∀ {n' m : Nod} {e : Ent}, AsWas n0.ino name a.ino n' m → n' ∈ d.nodes → e ∈ n'.entries → e ∈ m.entries := by
    intro n' m e hw hn' he
    rw [hw.ents]
    split
    · rename_i heq
      obtain rfl := asc_eq h.asc hn' hn0 heq
      exact mem_entL_old he (entF_none hnew e he)
    · exact he
  refine ⟨by rw [entD_len]; exact h.len, h.next2, h.nextM, entD_root _ _ _ h.root, entD_asc h.asc _ _ _, ?_, ?_, ?_, ?_, ?_, ?_, ?_, ?_, ?_, ?_⟩
  · intro m hm
    obtain ⟨n', hn', hw⟩ := mem_entD hm
    rw [hw.ino]; exact h.lt n' hn'
  · intro m hm
    obtain ⟨n', hn', hw⟩ := mem_entD hm
    rw [hw.plain]; exact h.plain n' hn'
  · intro m hm hk'
    obtain ⟨n', hn', hw⟩ := mem_entD hm
    rw [hw.kind] at hk'
    obtain ⟨h1, h2⟩ := h.leaf n' hn' hk'
    refine ⟨hw.parent.trans h1, ?_⟩
    rw [hw.ents, if_neg, h2]
    intro e
    obtain rfl := asc_eq h.asc hn' hn0 e
    exact hk' hk
  · intro m hm
    obtain ⟨n', hn', hw⟩ := mem_entD hm
    rw [hw.ents]
    split
    · rename_i heq
      obtain rfl := asc_eq h.asc hn' hn0 heq
      rw [(entL_perm _ name ha0).length_eq, List.length_cons, without_none hnew]
      omega
    · exact h.many n' hn'
  · intro m hm
    obtain ⟨n', hn', hw⟩ := mem_entD hm
    rw [hw.ents]
    split
    · exact entL_sorted (h.sorted n' hn') _ _
    · exact h.sorted n' hn'
  · intro m hm e he
    obtain ⟨n', hn', hw⟩ := mem_entD hm
    have key : (e ∈ n'.entries) ∨ e = (name, a.ino) := by
      rw [hw.ents] at he
      split at he
      · rcases mem_entL he with h1 | h1
        · exact .inl h1
        · exact .inr h1.1
      · exact .inl he
    rcases key with h1 | rfl
    · obtain ⟨k1, k2, q, hq, k3⟩ := h.ent n' hn' e h1
      obtain ⟨m', hm', hw'⟩ := hto q hq
      exact ⟨k1, k2, m', hm', hw'.ino.trans k3⟩
    · obtain ⟨m', hm', hw'⟩ := hto a ha
      exact ⟨hname, ha1, m', hm', hw'.ino⟩
  · intro m hm h1
    obtain ⟨n', hn', hw⟩ := mem_entD hm
    rw [hcnt, hw.ino]
    have := h.link n' hn' (by rw [← hw.ino]; exact h1)
    omega
  · intro m hm h1 h2
    obtain ⟨n', hn', hw⟩ := mem_entD hm
    rw [hcnt, hw.ino, h.one n' hn' (by rw [← hw.ino]; exact h1) (by rw [← hw.kind]; exact h2), b1_f]
    intro e
    obtain rfl := asc_eq h.asc hn' ha e.symm
    exact hka (by rw [← hw.kind]; exact h2)
  · intro m hm h1 h2
    obtain ⟨n', hn', hw⟩ := mem_entD hm
    obtain ⟨p, hp', k1, e, he, k2⟩ := h.par n' hn' (by rw [← hw.ino]; exact h1) (by rw [← hw.kind]; exact h2)
    obtain ⟨q, hq, hwq⟩ := hto p hp'
    exact ⟨q, hq, by rw [hwq.ino, hw.parent]; exact k1, e, hold hwq hp' he, by rw [hw.ino]; exact k2⟩
  · obtain ⟨rk, hrk⟩ := h.rank
    refine ⟨rk, fun m hm h1 h2 => ?_⟩
    obtain ⟨n', hn', hw⟩ := mem_entD hm
    rw [hw.ino, hw.parent]
    exact hrk n' hn' (by rw [← hw.ino]; exact h1) (by rw [← hw.kind]; exact h2)

end Go.Proofs.Ythcbdkmhamhciaa
namespace Go.Proofs.Ythcbdkmhamhciaa

def dropI (ns : List Nod) (i : Int) : List Nod := ns.filter fun m => decide (m.ino ≠ i ∨ 0 < cntN i ns)
end Go.Proofs.Ythcbdkmhamhciaa
namespace Go.Proofs.Ythcbdkmhamhciaa
open Go.RowKit

structure FlsV (f : Fls) : Prop where
  few : f.length ≤ 3
  vd : ∀ d ∈ f, VD d
theorem FlsV.b {f : Fls} (h : FlsV f) : FlsB f := ⟨by have := h.few; omega, fun d hd => by have := (h.vd d hd).len; omega, fun d hd n hn => by have := (h.vd d hd).many n hn; omega⟩
theorem set_updI {ns : List Nod} (h : Asc ns) {i : Nat} {n : Nod} (hi : ns[i]? = some n) (g : Nod → Nod) : ns.set i (g n) = updI ns n.ino g := by
  apply List.ext_getElem?
  intro k
  unfold updI
  rw [List.getElem?_map, List.getElem?_set]
  have hil := (List.getElem?_eq_some_iff.1 hi).1
  split
  · rename_i e
    subst e
    rw [hi]
    simp [hil]
  · rename_i e
    cases hk : ns[k]? with
    | none => rfl
    | some m =>
      have : m.ino ≠ n.ino := by
        intro em
        obtain ⟨l1, e1⟩ := List.getElem?_eq_some_iff.1 hi
        obtain ⟨l2, e2⟩ := List.getElem?_eq_some_iff.1 hk
        have hp := List.pairwise_iff_getElem.1 h
        rcases Nat.lt_or_gt_of_ne e with hlt | hlt
        · have := hp i k l1 l2 hlt; rw [e1, e2] at this; omega
        · have := hp k i l2 l1 hlt; rw [e1, e2] at this; omega
      simp [this]
def onD (f : Fls) (q : Nat) (g : List Nod → List Nod) : Fls := f.modify q fun d => { d with nodes := g d.nodes }
theorem onD_set {f : Fls} {q : Nat} {d : Dvc} (h : f[q]? = some d) (g : List Nod → List Nod) : onD f q g = f.set q { d with nodes := g d.nodes } := by
  apply List.ext_getElem?
  intro k
  unfold onD
  rw [List.getElem?_modify, List.getElem?_set]
  split
  · rename_i e
    subst e
    rw [h]
    simp [(List.getElem?_eq_some_iff.1 h).1]
  · simp
theorem place_ok {f : Fls} {dir : Fil} {name : Str} (h : placeL f dir name = 0) : ∃ (q i : Nat) (d : Dvc) (n0 : Nod), dir.1 = (q : Int) ∧ f[q]? = some d ∧ d.nodes[i]? = some n0 ∧ n0.ino = dir.2 ∧ indexL f dir = (i : Int) ∧ nodeL f dir = some n0 ∧ n0.kind = 2 ∧ nameL name = true := by
  rcases index_node f dir with ⟨_, h2⟩ | ⟨q, i, d, n, h1, h2, h3, h4, h5, h6⟩
  · simp [placeL, h2] at h
  · refine ⟨q, i, d, n, h1, h2, h3, h4, h5, h6, ?_⟩
    simp only [placeL, h6] at h
    split at h
    · rename_i hk
      split at h
      · rename_i hn; exact ⟨hk, hn⟩
      · omega
    · omega
def chgR (R : ChgRes) : AV := .tup [.agg (flsA R.1), .sl 7 (R.2.1.map chgA) none, .v (.int .i64 R.2.2)]
theorem err_le (e : Int) : LeA (.tup [.agg [.v (.slice none 0 0)], .v (.slice none 0 0), .v (.int .i64 e)]) (chgR ([], [], e)) := (by repeat (first | exact LeA.refl _ | exact LeA.nil _ | exact LeL.refl _ | refine LeA.agg ?_ | refine LeA.tup ?_ | exact LeL.nil | refine LeL.cons ?_ ?_ | exact LeA.any _))
def linkL (f : Fls) (dir : Fil) (name : Str) (a : Fil) : ChgRes :=
  if placeL f dir name ≠ 0 then ([], [], placeL f dir name) else if hasG f a = false then ([], [], 2) else if a.1 ≠ dir.1 then ([], [], 18) else if (nodG f a).kind = 2 then ([], [], 1) else
  if (lookL f dir name).2 = 0 then ([], [], 17) else if fullL f dir = true then ([], [], 28) else (onD f dir.1.toNat fun ns => entD ns dir.2 name a.2, [(dir, name, (0, 0), a)], 0)
end Go.Proofs.Ythcbdkmhamhciaa
namespace Go.Proofs.Ythcbdkmhamhciaa
open Go.RowKit

def entS (ns : List Nod) (i : Nat) (n0 : Nod) (name : Str) (ino : Int) : List Nod := ns.set i { n0 with entries := entL n0.entries name ino }
theorem entL_len (es : List Ent) (name : Str) (ino : Int) : (entL es name ino).length ≤ es.length + 1 := by
  by_cases h : ino = 0
  · subst h
    rw [entL_zero]
    have : (without name es).length ≤ es.length := List.length_filter_le _ _
    omega
  · rw [(entL_perm es name h).length_eq, List.length_cons]
    have : (without name es).length ≤ es.length := List.length_filter_le _ _
    omega
theorem entS_D {d : Dvc} (hd : VD d) {i : Nat} {n0 : Nod} (hn : d.nodes[i]? = some n0) (name : Str) (ino : Int) : entS d.nodes i n0 name ino = entD d.nodes n0.ino name ino := by
  unfold entS entD
  rw [← set_updI hd.asc hn]
  rfl
end Go.Proofs.Ythcbdkmhamhciaa
namespace Go.Proofs.Ythcbdkmhamhciaa
open Go.RowKit

section
variable {P : Program} {N : Dim} {ops : Array Oper} {Q : Exit → AS → Prop} {S : AH → Prop} {tl : Nat}
def Clo (ops : Array Oper) (listed : Array Bool) : Prop := ∀ (k : Nat) (o : Oper), ops[k]? = some o → listed.getD k false = true → ∀ e ∈ o.after, Region.binds .any e = true → listed.getD e.on false = true
def cloB (ops : Array Oper) (listed : Array Bool) : Bool :=
  (List.range ops.size).all fun k => !listed.getD k false || match ops[k]? with
    | none => true
    | some o => o.after.all fun e => !Region.binds .any e || listed.getD e.on false
theorem cloB_spec {listed : Array Bool} (h : cloB ops listed = true) : Clo ops listed := by
  intro k o hk hl e he hb
  have h1 := List.all_eq_true.1 h k (List.mem_range.2 (Array.getElem?_eq_some_iff.1 hk).1)
  simp only [hl, Bool.not_true, Bool.false_or, hk] at h1
  have h2 := Array.all_eq_true'.1 h1 e he
  simpa [hb] using h2
theorem Clo.step {listed : Array Bool} (h : Clo ops listed) {j : Nat} {oj : Oper} (hj : ops[j]? = some oj) (hall : ∀ e ∈ oj.after, Region.binds .any e = true → listed.getD e.on false = true) : Clo ops (listed.setIfInBounds j true) := by
  intro k o hk hl e he hb
  refine getD_set_true ?_
  by_cases hjk : j = k
  · subst hjk
    rw [hj] at hk
    injection hk with hk
    subst hk
    exact hall e he hb
  · rw [getD_set_ne false hjk] at hl
    exact h k o hk hl e he hb
def tail2 (ops : Array Oper) (tl : Nat) : Bool :=
  match ops[tl]? with
  | none => true
  | some o => (List.range ops.size).all fun j => j == tl || (o.after.any fun e => Region.binds .any e && e.on == j) || (o.after.any fun e => Region.binds .any e && match ops[e.on]? with
    | none => false
    | some o2 => o2.after.any fun e2 => Region.binds .any e2 && e2.on == j)
theorem AAny.first2 {i : Nat} {oi : Oper} {x : AV} (hi : ops[i]? = some oi) (hd : dstIn oi.dst N = true) (htl : tail2 ops tl = true) (hit : i ≠ tl) :
    ∀ (fuel : Nat) (listed : Array Bool) (s : AS), Clo ops listed →
      (∀ j oj, ops[j]? = some oj → j ≠ i → listed.getD j true = false → (∀ e ∈ oj.after, Region.binds .any e = true → e.on ≠ i) → oi.apart ops oj = true) →
      i ∈ Region.ready .any ops listed → Steady P ops S oi x s.sl → S s.h →
      AAny P N ops Q S tl fuel (listed.setIfInBounds i true) ⟨put oi.dst x s.sl, s.h⟩ → AAny P N ops Q S tl (fuel + 1) listed s := by
  intro fuel
  induction fuel with
  | zero =>
    intro listed s _ _ hr hy hS H
    refine ⟨fun h => (by rw [h] at hr; cases hr), fun j hj => ?_⟩
    by_cases hji : j = i
    · subst hji; exact hy.op hi hd hS ⟨.inr hS, H⟩
    · have := ready_mono hj hji
      rw [H.1] at this
      cases this
  | succ fuel ih =>
    intro listed s hcl hfree hr hy hS H
    refine ⟨fun h => (by rw [h] at hr; cases hr), fun j hj => ?_⟩
    by_cases hji : j = i
    · subst hji; exact hy.op hi hd hS ⟨.inr hS, H⟩
    · have h1 := H.2 j (ready_mono hj hji)
      obtain ⟨hjun, oj, hoj, hall⟩ := mem_ready.1 hj
      have hun : ∀ k, k = i → listed.getD k false = true → False := fun k hk h1 => by
        have h0 := (mem_ready.1 hr).1
        rw [hk] at h1
        rcases Nat.lt_or_ge i listed.size with h' | h'
        · simp [h'] at h0 h1; rw [h0] at h1; cases h1
        · simp [Array.getElem?_eq_none h'] at h1
      have hnot : ∀ e ∈ oj.after, Region.binds .any e = true → e.on ≠ i := fun e he hb heq => hun _ heq (hall e he hb)
      obtain ⟨a1, a2, a3⟩ := Oper.apart_spec (hfree j oj hoj hji hjun hnot)
      have hfree' : ∀ k ok, ops[k]? = some ok → k ≠ i → (listed.setIfInBounds j true).getD k true = false →
          (∀ e ∈ ok.after, Region.binds .any e = true → e.on ≠ i) → oi.apart ops ok = true := fun k ok hk hki hun hno => by
        refine hfree k ok hk hki ?_ hno
        by_cases hjk : j = k
        · subst hjk; exact hjun
        · rw [getD_set_ne true hjk] at hun; exact hun
      have hjt : j ≠ tl := by
        intro e
        subst e
        unfold tail2 at htl
        simp only [hoj] at htl
        have h1 := List.all_eq_true.1 htl i (List.mem_range.2 (Array.getElem?_eq_some_iff.1 hi).1)
        simp only [Bool.or_eq_true, beq_iff_eq, Ne.symm hji, false_or] at h1
        rcases h1 with h1 | h1
        · obtain ⟨e, he, hb⟩ := Array.any_eq_true'.1 h1
          simp only [Bool.and_eq_true, beq_iff_eq] at hb
          exact hnot e he hb.1 hb.2
        · obtain ⟨e, he, hb⟩ := Array.any_eq_true'.1 h1
          simp only [Bool.and_eq_true] at hb
          obtain ⟨hb1, hb2⟩ := hb
          cases ho2 : ops[e.on]? with
          | none => rw [ho2] at hb2; cases hb2
          | some o2 =>
            rw [ho2] at hb2
            obtain ⟨e2, he2, hb3⟩ := Array.any_eq_true'.1 hb2
            simp only [Bool.and_eq_true, beq_iff_eq] at hb3
            exact hun _ hb3.2 (hcl _ o2 ho2 (hall e he hb1) e2 he2 hb3.1)
      have hgo : ∀ (y : AV) (h' : AH), S h' → AAny P N ops Q S tl fuel ((listed.setIfInBounds i true).setIfInBounds j true) ⟨put oj.dst y (put oi.dst x s.sl), h'⟩ →
          AAny P N ops Q S tl (fuel + 1) (listed.setIfInBounds j true) ⟨put oj.dst y s.sl, h'⟩ := fun y h' hS' hA => by
        refine ih (listed.setIfInBounds j true) ⟨put oj.dst y s.sl, h'⟩ (hcl.step hoj hall) hfree' (ready_mono hr (Ne.symm hji)) (hy.put y a3) hS' ?_
        rw [Array.setIfInBounds_comm _ _ hji, ← put_comm s.sl x y a2]
        exact hA
      unfold AOp at h1 ⊢
      simp only [hoj] at h1 ⊢
      obtain ⟨k1, t, k2, k3, k4⟩ := h1
      rw [wantedA_put s.sl x a1] at k2
      refine ⟨k1, t, k2, fun ht => ?_, fun ht => ?_⟩
      · refine ((k3 ht).congr fun z hz => (evs_put s.sl x fun u e he => a1 u e (mem_looks (he ▸ hz))).symm).mono ?_
        rintro y h' ⟨q1, q2⟩
        have q1' := q1.resolve_left hjt
        exact ⟨.inr q1', hgo y h' q1' q2⟩
      · obtain ⟨q1, q2⟩ := k4 ht
        have q1' := q1.resolve_left hjt
        exact ⟨.inr q1', hgo (.v undef) s.h q1' q2⟩
end
section
variable {P : Program} {N : Dim} {Q : Exit → AS → Prop} {l : List Oper} {S : AH → Prop} {tl : Nat} {fuel : Nat} {listed : Array Bool} {m : List (Nat × AV)} {h : AH} {op : Op} {ty : TypeId} {pos : String} {af : Array Edge} {gd : Option (Nat × Bool)}
theorem aa_t2 {i d : Nat} {x : AV} (hi : l[i]? = some ⟨some d, op, ty, pos, af, gd⟩) (hd : Nat.blt d N.n = true) (htl : (tail2 l.toArray tl && cloB l.toArray listed && !Nat.beq i tl && Region.free .any l.toArray listed i && (Region.ready .any l.toArray listed).contains i) = true)
    (hw : wantedA l.toArray (look m) ⟨some d, op, ty, pos, af, gd⟩ = some true) (hst : ∀ h, S h → AStep P ⟨some d, op, ty, pos, af, gd⟩ (evs (look m)) h (fun x' h' => x' = x ∧ h' = h)) (hS : S h)
    (H : AAny P N l.toArray Q S tl fuel (listed.setIfInBounds i true) ⟨look ((d, x) :: m), h⟩) : AAny P N l.toArray Q S tl (fuel + 1) listed ⟨look m, h⟩ := by
  simp only [Bool.and_eq_true, Bool.not_eq_true'] at htl
  obtain ⟨⟨⟨⟨t1, t0⟩, t2⟩, t3⟩, t4⟩ := htl
  exact AAny.first2 (oi := ⟨some d, op, ty, pos, af, gd⟩) (get_arr hi) hd t1 (fun e => by subst e; simp at t2) fuel listed ⟨look m, h⟩ (cloB_spec t0) (Region.free_spec (get_arr hi) t3) (List.contains_iff_mem.1 t4) (.inl ⟨hw, hst⟩) hS H
end
end Go.Proofs.Ythcbdkmhamhciaa
namespace Go.Proofs.Ythcbdkmhamhciaa
open Go.RowKit

def mkL (f : Fls) (dir : Fil) (name : Str) (n : Nod) : ChgRes :=
  if placeL f dir name ≠ 0 then ([], [], placeL f dir name) else if plainL n = false then ([], [], 22) else if (lookL f dir name).2 = 0 then ([], [], 17) else
  match atI f dir.1 with
  | none => ([], [], 2)
  | some d => if 16 ≤ d.nodes.length ∨ d.next = 1073741824 ∨ fullL f dir = true then ([], [], 28) else (f.set dir.1.toNat ⟨d.next + 1, entD d.nodes dir.2 name d.next ++ [mkNod n d.next dir.2]⟩, [(dir, name, (0, 0), (dir.1, d.next))], 0)
theorem DB_push {f : Fls} {q : Nat} {d : Dvc} {j j' cap cap1 c : Nat} (m : Nod) (hq : q < f.length) : SetAt (DB f q d j cap cap1) (0 + q * 2 + 1) [.bs j' 0 8 (d.nodes.length + 1) c] (DB f q { d with nodes := d.nodes ++ [m] } j' cap c) := by
  have h := DB_set (d := d) (d' := { d with nodes := d.nodes ++ [m] }) (j := j) (j' := j') (cap := cap) (cap1 := cap1) (cap1' := c) (k := 1) (cs := [.bs j' 0 8 (d.nodes ++ [m]).length c]) hq (by repeat constructor) (by simp)
  rwa [List.length_append] at h
end Go.Proofs.Ythcbdkmhamhciaa
namespace Go.Proofs.Ythcbdkmhamhciaa
open Go.RowKit

theorem frz_plain {n : Nat} {bx : List (List AV)} {k j sz cap : Nat} {rows : List (List AV)} (hn : n ≤ j) (hj : bx[j]? = some (rowsB sz cap rows)) (hp : ∀ r ∈ rows, ∀ x ∈ r, ∃ v, x = .v v) : frzG n bx (k + 1) j = some (rowsB sz cap rows) := by
  have : Nat.blt j n = false := by rw [← Bool.not_eq_true, Nat.blt_eq]; omega
  simp only [frzG, this, hj, Option.map_some, lowGL_map]
  rw [rowsB_map _ rfl]
  congr 2
  conv => rhs; rw [← List.map_id rows]
  apply List.map_congr_left
  intro r hr
  conv => rhs; rw [id, ← List.map_id r]
  apply List.map_congr_left
  intro x hx
  obtain ⟨v, rfl⟩ := hp r hr x hx
  rfl
end Go.Proofs.Ythcbdkmhamhciaa
namespace Go.Proofs.Ythcbdkmhamhciaa

theorem FlsV.set_ {f : Fls} (h : FlsV f) {q : Nat} {d' : Dvc} (hd : VD d') : FlsV (f.set q d') := by
  refine ⟨by simpa using h.few, fun d hm => ?_⟩
  rcases List.mem_or_eq_of_mem_set hm with h1 | h1
  · exact h.vd d h1
  · rw [h1]; exact hd
theorem at_ok {f : Fls} {a : Fil} (h : hasG f a = true) : ∃ (q i : Nat) (d : Dvc) (m : Nod), a.1 = (q : Int) ∧ f[q]? = some d ∧ d.nodes[i]? = some m ∧ m.ino = a.2 ∧ nodeL f a = some m ∧ nodG f a = m := by
  rcases index_node f a with ⟨_, h2⟩ | ⟨q, i, d, n, h1, h2, h3, h4, h5, h6⟩
  · simp [hasG, h2] at h
  · exact ⟨q, i, d, n, h1, h2, h3, h4, h6, by simp [nodG, h6]⟩
theorem look_no {f : Fls} {dir : Fil} {name : Str} {n0 : Nod} (hn : nodeL f dir = some n0) (hk : n0.kind = 2) (h : (lookL f dir name).2 ≠ 0) : entF n0.entries name = none ∧ (lookL f dir name).1 = (0, 0) := by
  unfold lookL at h ⊢
  rw [hn] at h ⊢
  simp only [hk, if_true] at h ⊢
  unfold entF
  split at h
  · rename_i he
    exact ⟨he, rfl⟩
  · exact absurd rfl h
theorem full_no {f : Fls} {dir : Fil} {n0 : Nod} (hn : nodeL f dir = some n0) (h : ¬ fullL f dir = true) : n0.entries.length < 12 := by
  unfold fullL at h
  rw [hn] at h
  simp at h
  omega
theorem onD_len (f : Fls) (q : Nat) (g : List Nod → List Nod) : (onD f q g).length = f.length := by simp [onD]
def Okay (f : Fls) (R : ChgRes) : Prop := R.2.2 = 0 → FlsV R.1 ∧ R.1.length = f.length
theorem okay_err {f : Fls} {e : Int} (h : e ≠ 0) : Okay f ([], [], e) := fun h0 => absurd h0 h
theorem link_okay {f : Fls} (hv : FlsV f) (dir : Fil) (name : Str) (a : Fil) : Okay f (linkL f dir name a) := by
  unfold linkL
  split
  · rename_i h; exact okay_err h
  · rename_i hp
    split
    · exact okay_err (by decide)
    · rename_i hh
      split
      · exact okay_err (by decide)
      · rename_i hdev
        split
        · exact okay_err (by decide)
        · rename_i hk
          split
          · exact okay_err (by decide)
          · rename_i hl
            split
            · exact okay_err (by decide)
            · rename_i hfl
              intro _
              obtain ⟨q, i, d, n0, hdq, hq, hn0, hino, hidx, hnode, hk0, hnm⟩ := place_ok (name := name) (dir := dir) (f := f) (by omega)
              obtain ⟨q', i', d', m, haq, hq', hm, hmi, hnm2, hng⟩ := at_ok (f := f) (a := a) (by simpa using hh)
              obtain rfl : q = q' := by omega
              obtain rfl : d = d' := Option.some.inj (hq.symm.trans hq')
              have hvd := hv.vd d (List.mem_of_getElem? hq)
              have key := hvd.linked (List.mem_of_getElem? hn0) hk0 (List.mem_of_getElem? hm) (by rw [← hng]; exact hk) hnm (look_no hnode hk0 hl).1 (full_no hnode hfl)
              rw [hino, hmi] at key
              refine ⟨?_, by dsimp only; exact onD_len _ _ _⟩
              dsimp only
              rw [hdq, Int.toNat_natCast, onD_set hq]
              exact hv.set_ key
theorem make_okay {f : Fls} (hv : FlsV f) (dir : Fil) (name : Str) (n : Nod) : Okay f (mkL f dir name n) := by
  unfold mkL
  split
  · rename_i h; exact okay_err h
  · rename_i hp
    split
    · exact okay_err (by decide)
    · rename_i hpl
      split
      · exact okay_err (by decide)
      · rename_i hl
        obtain ⟨q, i, d, n0, hdq, hq, hn0, hino, hidx, hnode, hk0, hnm⟩ := place_ok (name := name) (dir := dir) (f := f) (by omega)
        have hat : atI f dir.1 = some d := by rw [hdq, atI_nat, hq]
        rw [hat]
        simp only
        split
        · exact okay_err (by decide)
        · rename_i hc
          intro _
          have hvd := hv.vd d (List.mem_of_getElem? hq)
          have hnm2 := hvd.nextM
          have key := hvd.make (List.mem_of_getElem? hn0) hk0 hnm (look_no hnode hk0 hl).1 (n := n) (by simpa using hpl) (by omega) (by omega) (full_no hnode (fun h => hc (.inr (.inr h))))
          refine ⟨?_, by simp⟩
          dsimp only
          rw [hdq, Int.toNat_natCast, ← hino]
          exact hv.set_ key
end Go.Proofs.Ythcbdkmhamhciaa
namespace Go.Proofs.Ythcbdkmhamhciaa
open Go.RowKit

theorem root_vd : VD rootDvc := by
  refine ⟨by decide, by decide, by decide, ⟨rootNod, [], rfl, rfl, rfl, rfl⟩, List.pairwise_singleton _ _, ?_, ?_, ?_, ?_, ?_, ?_, ?_, ?_, ?_, ⟨fun _ => 0, ?_⟩⟩ <;>
    (intro n hn; obtain rfl : n = rootNod := by simpa [rootDvc] using hn)
  · decide
  · decide +kernel
  · intro h; exact absurd rfl h
  · decide
  · exact List.Pairwise.nil
  · intro e he; cases he
  · intro h; exact absurd rfl h
  · intro h; exact absurd rfl h
  · intro h; exact absurd rfl h
  · intro h; exact absurd rfl h
theorem new_valid {k : Int} (h1 : 1 ≤ k) (h2 : k ≤ 3) : FlsV (newL k).1 ∧ 0 < (newL k).1.length := by
  unfold newL
  rw [if_neg (by omega)]
  refine ⟨⟨?_, fun d hd => ?_⟩, ?_⟩
  · show (List.replicate _ _).length ≤ 3
    rw [List.length_replicate]; omega
  · rw [(List.mem_replicate.1 hd).2]; exact root_vd
  · show 0 < (List.replicate _ _).length
    rw [List.length_replicate]; omega
end Go.Proofs.Ythcbdkmhamhciaa
namespace Go.Proofs.Ythcbdkmhamhciaa
open Go.RowKit

theorem bp_plain {n m sz cap : Nat} {rows : List (List AV)} (h : ∀ r ∈ rows, ∀ x ∈ r, ∃ v, x = .v v) : bpLtL n m (rowsB sz cap rows) = true :=
  bpLt_rowsB fun r hr => bpLtL_all.2 fun x hx => by obtain ⟨v, rfl⟩ := h r hr x hx; rfl
theorem map_plain {F : AV → AV} (hany : F .any = .any) (hv : ∀ x, F (.v x) = .v x) {sz cap : Nat} {rows : List (List AV)} (h : ∀ r ∈ rows, ∀ x ∈ r, ∃ v, x = .v v) : (rowsB sz cap rows).map F = rowsB sz cap rows := by
  rw [rowsB_map F hany]
  congr 1
  conv => rhs; rw [← List.map_id rows]
  apply List.map_congr_left
  intro r hr
  conv => rhs; rw [id, ← List.map_id r]
  apply List.map_congr_left
  intro x hx
  obtain ⟨v, rfl⟩ := h r hr x hx
  exact hv v
theorem ren_rows {g : Nat → Option Nat} {sz cap : Nat} {rows : List (List AV)} (h : ∀ r ∈ rows, ∀ x ∈ r, ∃ v, x = .v v) : renL g (rowsB sz cap rows) = rowsB sz cap rows := by
  rw [renL_map]
  exact map_plain rfl (fun _ => rfl) h
end Go.Proofs.Ythcbdkmhamhciaa
namespace Go.Proofs.Ythcbdkmhamhciaa
open Go.RowKit

def entX (es : List Ent) : AV := if es = [] then .v (.slice none 0 0) else .sl 2 (es.map entA) none
def nodX (n : Nod) (e : AV) : List AV := [.v (.int .i64 n.ino), .v (.int .i64 n.kind), .v (.int .i64 n.mode), .v (.int .i64 n.uid), .v (.int .i64 n.gid), .v (.int .i64 n.parent), .v (.string n.target), e]
def nodF (n : Nod) : List AV := nodX n (entX n.entries)
def nodB (n : Nod) (j cap : Nat) : List AV := nodX n (.bs j 0 2 n.entries.length cap)
theorem ent_plain (l : List Ent) : ∀ r ∈ l.map entA, ∀ x ∈ r, ∃ v, x = .v v := by
  intro r hr x hx
  obtain ⟨c, _, rfl⟩ := List.mem_map.1 hr
  simp only [entA, List.mem_cons, List.not_mem_nil, or_false] at hx
  rcases hx with rfl | rfl <;> exact ⟨_, rfl⟩
theorem ent_two (l : List Ent) : ∀ r ∈ l.map entA, r.length = 2 := by
  intro r hr
  obtain ⟨d, _, rfl⟩ := List.mem_map.1 hr
  rfl
def EB (es : List Ent) (cap : Nat) : List AV := rowsB 2 cap (es.map entA)
theorem bp_EB {n m : Nat} (es : List Ent) (cap : Nat) : bpLtL n m (EB es cap) = true := bp_plain (ent_plain es)
theorem ren_EB (g : Nat → Option Nat) (es : List Ent) (cap : Nat) : renL g (EB es cap) = EB es cap := ren_rows (ent_plain es)
theorem entX_or (es : List Ent) : entX es = .v (.slice none 0 0) ∨ entX es = .sl 2 (es.map entA) none := by
  unfold entX
  split
  · exact .inl rfl
  · exact .inr rfl
section
set_option maxRecDepth 10000
set_option maxHeartbeats 1000000
theorem PcopiedX (es : List Ent) (hes : es.length ≤ 1000) : AFn Try.prog 96 [.sl 2 (es.map entA) none, .fn 97 []] (fun r => r = entX es) := by
  have hml : (es.map entA).length = es.length := by simp
  refine enter Try.func96 rfl rfl rfl rfl rfl 0 rfl ?_
  refine w_ (a_ (h:=e_ (q_ (w_ (m_ (h:=n_ (h:=eq_ (h:=e_ (?_)))))))))
  refine aw_cond rfl (fun hb1 => ?_) (fun hb1 => ?_)
  · have hc1 := bp hb1
    refine w_ (a_ (h:=e_ (aw_ret (x_thenR (?_)))))
    refine e_ret ?_
    rw [show entX es = .v (.slice none 0 0) from if_pos (List.eq_nil_of_length_eq_zero (by omega))]
    rfl
  · have hc1 := bp hb1
    refine kt_ (w_ (m_ (h:=n_ (h:=ms_ (h:=a_ (h:=e_ (q_ (w_ (m_ (h:=n_ (h:=m_ (h:=e_ (aw_block (?_))))))))))))))
    refine aw_loopW (fun m s => ∃ j : Nat, j ≤ es.length ∧ m = es.length - j ∧ s = ⟨look [(1, .fn 97 []), (5, .sl 2 ((es.take j).map entA) (some 0)), (14, .sl 2 (es.map entA) none), (15, .v (.int .i64 ((es.map entA).length : Int))), (16, .v (.int .i64 (j : Int)))], ⟨[], [(101, 2, (es.take j).map entA)]⟩⟩) (es.length) ((wk 0 1)) (⟨0, by omega, rfl, rfl⟩) ?_
    rintro m s ⟨j, hj, rfl, rfl⟩
    refine w_ (lt_ (h:=e_ (q_ (?_))))
    refine aw_cond rfl (fun hb2 => ?_) (fun hb2 => ?_)
    · have hc2 := bp hb2
      obtain ⟨hlt, x, hy, hrow, e⟩ := row_at entA hc2
      refine kt_ (q_ (aw_block (w_ (i_ (h:=l_ (h:=al_ (h:=s_ (h:=e_ (aw_region (m_ (h:=m_ (h:=l_ (h:=?_)))))))))))))
      refine al_p rfl (st_callC (cy := []) (ys := [.agg (entA x)]) rfl (by repeat (first | exact Args.nil | refine Args.cons _ _ _ _ _ rfl (argOk_clean rfl) ?_ | refine Args.cons _ _ _ _ _ rfl (argOk_nil _) ?_ | refine Args.cons _ _ _ _ _ rfl (argOk_era _) ?_ | refine Args.cons _ _ _ _ _ rfl (argOk_le rfl (by repeat (first | exact LeA.refl _ | exact LeA.nil _ | exact LeL.refl _ | refine LeA.agg ?_ | refine LeA.tup ?_ | exact LeL.nil | refine LeL.cons ?_ ?_ | exact LeA.any _))) ?_)) rfl rfl (PcopyEntry x) ?_)
      rintro r rfl
      refine bs_ (h:=?_)
      first | refine al_p rfl (s_append rfl rfl rfl (by simp; omega) (by repeat constructor) ?_) | refine al_p rfl (s_append0 rfl rfl (by simp; omega) (by repeat constructor) ?_)
      refine a_ (h:=al_nil (x_blockN (t_ (aw_region (ad_ (h:=m_ (h:=al_nil (?_))))))))
      refine x_then ?_
      refine ⟨_, _, ?_, ⟨j + 1, by omega, rfl, rfl⟩, (by rw [e]; exact (wk 0 1))⟩
      omega
    · have hc2 := bp hb2
      have e := row_no entA hj hc2
      subst e
      rw [List.take_length]
      refine aw_exit (x_thenE (x_thenE (ABlock_out (t_ (w_ (m_ (h:=a_ (h:=e_ (aw_ret (?_))))))))))
      refine e_ret ?_
      rw [show entX es = .sl 2 (es.map entA) none from if_neg (fun e => by rw [e] at hc1; exact hc1 rfl)]
      rfl

theorem PcopyNodeX (n : Nod) (hn : n.entries.length ≤ 1000) : AFn Try.prog 75 [.agg (nodA n)] (fun r => r = .agg (nodF n)) := by
  refine enter Try.func75 rfl rfl rfl rfl rfl 0 rfl ?_
  refine w_ (b_ (h:=al_ (h:=e_ (w_ (f_ (h:=l_ (h:=?_)))))))
  refine al_p rfl (q_call (PcopiedX n.entries hn) ?_)
  intro r hr
  rcases entX_or n.entries with he | he
  · obtain rfl := hr.trans he
    refine f_ (h:=s_ (h:=e_ (w_ (l_ (h:=s_ (h:=e_ (aw_ret (?_))))))))
    refine e_ret ?_
    unfold nodF
    rw [he]
    rfl
  · obtain rfl := hr.trans he
    refine f_ (h:=s_ (h:=e_ (w_ (l_ (h:=s_ (h:=e_ (aw_ret (?_))))))))
    refine e_ret ?_
    unfold nodF
    rw [he]
    rfl

theorem PcopiedEB (es : List Ent) (h0 : 0 < es.length) (hes : es.length ≤ 1000) : ACall Try.prog 96 [.sl 2 (es.map entA) none, .fn 97 []] [] (fun r b t => t = [] ∧ r = .bs 0 0 2 es.length es.length ∧ b = [EB es es.length]) := by
  have hml : (es.map entA).length = es.length := by simp
  refine enter Try.func96 rfl rfl rfl rfl rfl 1 rfl ?_
  refine w_ (a_ (h:=e_ (q_ (w_ (m_ (h:=n_ (h:=eq_ (h:=e_ (?_)))))))))
  refine aw_cond rfl (fun hb1 => ?_) (fun hb1 => ?_)
  · have hc1 := bp hb1
    exfalso; first | contradiction | omega
  · have hc1 := bp hb1
    refine kt_ (w_ (m_ (h:=n_ (h:=?_))))
    refine al_p rfl (st_makeB (l := 0) (m := es.length) (k := 0) rfl rfl rfl (by simp) (Nat.zero_le _) h0 (by omega) (by repeat constructor) ?_)
    refine a_ (h:=e_ (q_ (w_ (m_ (h:=n_ (h:=m_ (h:=e_ (aw_block (?_)))))))))
    refine aw_loopW (fun m s => ∃ j : Nat, j ≤ es.length ∧ m = es.length - j ∧ s = ⟨look [(1, .fn 97 []), (5, .bs 0 0 2 j es.length), (14, .sl 2 (es.map entA) none), (15, .v (.int .i64 ((es.map entA).length : Int))), (16, .v (.int .i64 (j : Int)))], ⟨[EB (es.take j) es.length], []⟩⟩) (es.length) (weak_of 1 0 rfl rfl rfl (by show (bpLtL 1 0 (EB [] es.length) && true) = true; rw [bp_EB]; rfl) (by repeat (first | exact Sub.nil | refine Sub.cons _ _ _ rfl rfl ?_ | refine Sub.any _ _ ?_ | refine Sub.sl _ _ _ _ _ rfl ?_ | refine Sub.slnil _ _ _ rfl ?_))) (⟨0, by omega, rfl, rfl⟩) ?_
    rintro m s ⟨j, hj, rfl, rfl⟩
    refine w_ (lt_ (h:=e_ (q_ (?_))))
    refine aw_cond rfl (fun hb2 => ?_) (fun hb2 => ?_)
    · have hc2 := bp hb2
      obtain ⟨hlt, x, hy, hrow, e⟩ := row_at entA hc2
      have hlj : ((es.take j).map entA).length = j := by simp; omega
      refine kt_ (q_ (aw_block (w_ (i_ (h:=l_ (h:=al_ (h:=s_ (h:=e_ (aw_region (m_ (h:=m_ (h:=l_ (h:=?_)))))))))))))
      refine al_p rfl (st_callC (cy := []) (ys := [.agg (entA x)]) rfl (by repeat (first | exact Args.nil | refine Args.cons _ _ _ _ _ rfl (argOk_clean rfl) ?_ | refine Args.cons _ _ _ _ _ rfl (argOk_nil _) ?_ | refine Args.cons _ _ _ _ _ rfl (argOk_era _) ?_ | refine Args.cons _ _ _ _ _ rfl (argOk_le rfl (by repeat (first | exact LeA.refl _ | exact LeA.nil _ | exact LeL.refl _ | refine LeA.agg ?_ | refine LeA.tup ?_ | exact LeL.nil | refine LeL.cons ?_ ?_ | exact LeA.any _))) ?_)) rfl rfl (PcopyEntry x) ?_)
      rintro r rfl
      refine bs_ (h:=?_)
      refine al_p rfl (st_appendB rfl rfl rfl (by rw [EB, rowsB_len (ent_two _) (by simp; omega)]; omega) (SrcA.sl _ _) (by simp) (by simp; omega) ?_ (fun h => absurd h (by simp; omega)))
      intro _ row2 bx2 hs1 hs2
      obtain rfl : row2 = EB (es.take (j + 1)) es.length := by
        unfold EB
        rw [e]
        exact rowsB_push (ent_two _) rfl (by decide) (by rw [hlj]; omega) (by rw [hlj]; exact hs1)
      obtain rfl := (SetAt.one hs2).2
      refine a_ (h:=al_nil (x_blockN (t_ (aw_region (ad_ (h:=m_ (h:=al_nil (?_))))))))
      refine x_then ?_
      refine ⟨_, _, ?_, ⟨j + 1, by omega, rfl, rfl⟩, weak_of 1 0 rfl rfl rfl (by simp [bpLtB, bp_EB]) (by repeat (first | exact Sub.nil | refine Sub.cons _ _ _ rfl rfl ?_ | refine Sub.any _ _ ?_ | refine Sub.sl _ _ _ _ _ rfl ?_ | refine Sub.slnil _ _ _ rfl ?_))⟩
      omega
    · have hc2 := bp hb2
      have e := row_no entA hj hc2
      subst e
      rw [List.take_length]
      refine aw_exit (x_thenE (x_thenE (ABlock_out (t_ (w_ (m_ (h:=a_ (h:=e_ (aw_ret (?_))))))))))
      refine abody_ret (r := .bs 0 0 2 es.length es.length) none (by repeat (first | exact ResA.nil | (apply ResA.tmp; (focus exact rfl)) | (apply ResA.cellN; (focus exact inferInstance); (focus exact rfl); (focus exact rfl); (focus exact rfl)) | (apply ResA.cell1; (focus exact inferInstance); (focus exact rfl); (focus exact rfl); (focus exact rfl)))) rfl rfl (by simp [bpLtB, bp_EB]) (LeA.refl _) ⟨rfl, rfl, rfl⟩

end
end Go.Proofs.Ythcbdkmhamhciaa
namespace Go.Proofs.Ythcbdkmhamhciaa
open Go.RowKit

theorem back_new1 {bx : List (List AV)} (r : List AV) (h : renL (backS [] bx.length) r = r) : Back bx [] [r] (bx ++ [r]) := by
  have := back_F (bx := bx) (is := []) (bc := [r]) List.nodup_nil (by simp) (by simp)
  simpa [backF, h] using this
theorem nodF_eight (l : List Nod) : ∀ r ∈ l.map nodF, r.length = 8 := by
  intro r hr
  obtain ⟨d, _, rfl⟩ := List.mem_map.1 hr
  rfl
def NF (ns : List Nod) (cap : Nat) : List AV := rowsB 8 cap (ns.map nodF)
theorem bp_nodF {n m : Nat} (x : Nod) : bpLtL n m (nodF x) = true := by
  unfold nodF
  rcases entX_or x.entries with h | h <;> rw [h] <;> rfl
theorem bp_NF {n m : Nat} (ns : List Nod) (cap : Nat) : bpLtL n m (NF ns cap) = true := by
  refine bpLt_rowsB fun r hr => ?_
  obtain ⟨d, _, rfl⟩ := List.mem_map.1 hr
  exact bp_nodF d
def rowsG (ns : List Nod) (i : Nat) (nI : Nod) (j cap : Nat) : List (List AV) := (ns.map nodF).set i (nodB nI j cap)
def NG (ns : List Nod) (i : Nat) (nI : Nod) (j cap cap1 : Nat) : List AV := rowsB 8 cap1 (rowsG ns i nI j cap)
theorem rowsG_eight (ns : List Nod) (i : Nat) (nI : Nod) (j cap : Nat) : ∀ r ∈ rowsG ns i nI j cap, r.length = 8 := by
  intro r hr
  rcases List.mem_or_eq_of_mem_set hr with h | h
  · exact nodF_eight _ r h
  · rw [h]; rfl
theorem rowsG_len (ns : List Nod) (i : Nat) (nI : Nod) (j cap : Nat) : (rowsG ns i nI j cap).length = ns.length := by simp [rowsG]
theorem bp_NG {n m : Nat} {ns : List Nod} {i : Nat} {nI : Nod} {j cap cap1 : Nat} (hj : j < n) : bpLtL n m (NG ns i nI j cap cap1) = true := by
  refine bpLt_rowsB fun r hr => ?_
  rcases List.mem_or_eq_of_mem_set hr with h | h
  · obtain ⟨d, _, rfl⟩ := List.mem_map.1 h
    exact bp_nodF d
  · rw [h]; simp [nodB, nodX, bpLtL, bpLt, hj]
theorem rowsG_succ {ns : List Nod} {i q : Nat} {nI x : Nod} {j cap : Nat} (hx : ns[q]? = some x) (hi : i < q) : rowsG (ns.take (q + 1)) i nI j cap = rowsG (ns.take q) i nI j cap ++ [nodF x] := by
  obtain ⟨hlt, e⟩ := List.getElem?_eq_some_iff.1 hx
  unfold rowsG
  rw [List.take_succ_eq_append_getElem hlt, e, List.map_append, List.set_append_left _ _ (by simp; omega)]
  rfl
theorem rowsG_here {ns : List Nod} {i : Nat} {nI : Nod} {j cap : Nat} (hx : ns[i]? = some nI) : rowsG (ns.take (i + 1)) i nI j cap = (ns.take i).map nodF ++ [nodB nI j cap] := by
  obtain ⟨hlt, e⟩ := List.getElem?_eq_some_iff.1 hx
  unfold rowsG
  have hl : ((ns.take i).map nodF).length = i := by simp; omega
  rw [List.take_succ_eq_append_getElem hlt, e, List.map_append, List.set_append_right _ _ (by omega), hl, Nat.sub_self]
  rfl
section
set_option maxRecDepth 10000
set_option maxHeartbeats 1000000
theorem PcopyNodeB (n : Nod) (h0 : 0 < n.entries.length) (hn : n.entries.length ≤ 1000) : ACall Try.prog 75 [.agg (nodA n)] [] (fun r b t => t = [] ∧ r = .agg (nodB n 2 n.entries.length) ∧ b = [nodB n 2 n.entries.length, nodB n 2 n.entries.length, EB n.entries n.entries.length]) := by
  refine enter Try.func75 rfl rfl rfl rfl rfl 3 rfl ?_
  refine w_ (b_ (h:=al_ (h:=e_ (w_ (f_ (h:=l_ (h:=?_)))))))
  refine al_p rfl (s_callM [] rfl (.cons _ _ _ _ _ rfl (LeA.refl _) (.cons _ _ _ _ _ rfl (LeA.refl _) .nil)) (by decide) .nil (PcopiedEB n.entries h0 hn) ?_)
  rintro r bc tc ⟨rfl, rfl, rfl⟩
  refine ⟨rfl, _, (back_new1 _ (ren_EB _ _ _) : Back _ [] _ [_, _, _]), ?_⟩
  refine f_ (h:=s_ (h:=e_ (w_ (l_ (h:=s_ (h:=e_ (aw_ret (?_))))))))
  refine abody_ret none (by repeat (first | exact ResA.nil | (apply ResA.tmp; (focus exact rfl)) | (apply ResA.cellN; (focus exact inferInstance); (focus exact rfl); (focus exact rfl); (focus exact rfl)) | (apply ResA.cell1; (focus exact inferInstance); (focus exact rfl); (focus exact rfl); (focus exact rfl)))) rfl rfl (by simp [bpLtB, bpLtL, bpLt, nodA, nodX, bp_EB, ren, backS]) (LeA.refl _) ⟨rfl, rfl, rfl⟩

theorem PcopiedN0 (ns : List Nod) (h0 : 0 < ns.length) (hns : ns.length ≤ 1000) (hen : ∀ n ∈ ns, n.entries.length ≤ 1000) : ACall Try.prog 108 [.sl 8 (ns.map nodA) none, .fn 75 []] [] (fun r b t => t = [] ∧ r = .bs 0 0 8 ns.length ns.length ∧ b = [NF ns ns.length]) := by
  have hml : (ns.map nodA).length = ns.length := by simp
  refine enter Try.func108 rfl rfl rfl rfl rfl 1 rfl ?_
  refine w_ (a_ (h:=e_ (q_ (w_ (m_ (h:=n_ (h:=eq_ (h:=e_ (?_)))))))))
  refine aw_cond rfl (fun hb1 => ?_) (fun hb1 => ?_)
  · have hc1 := bp hb1
    exfalso; first | contradiction | omega
  · have hc1 := bp hb1
    refine kt_ (w_ (m_ (h:=n_ (h:=?_))))
    refine al_p rfl (st_makeB (l := 0) (m := ns.length) (k := 0) rfl rfl rfl (by simp) (Nat.zero_le _) h0 (by omega) (by repeat constructor) ?_)
    refine a_ (h:=e_ (q_ (w_ (m_ (h:=n_ (h:=m_ (h:=e_ (aw_block (?_)))))))))
    refine aw_loopW (fun m s => ∃ j : Nat, j ≤ ns.length ∧ m = ns.length - j ∧ s = ⟨look [(1, .fn 75 []), (5, .bs 0 0 8 j ns.length), (14, .sl 8 (ns.map nodA) none), (15, .v (.int .i64 ((ns.map nodA).length : Int))), (16, .v (.int .i64 (j : Int)))], ⟨[NF (ns.take j) ns.length], []⟩⟩) (ns.length) (weak_of 1 0 rfl rfl rfl (by show (bpLtL 1 0 (NF [] ns.length) && true) = true; rw [bp_NF]; rfl) (by repeat (first | exact Sub.nil | refine Sub.cons _ _ _ rfl rfl ?_ | refine Sub.any _ _ ?_ | refine Sub.sl _ _ _ _ _ rfl ?_ | refine Sub.slnil _ _ _ rfl ?_))) (⟨0, by omega, rfl, rfl⟩) ?_
    rintro m s ⟨j, hj, rfl, rfl⟩
    refine w_ (lt_ (h:=e_ (q_ (?_))))
    refine aw_cond rfl (fun hb2 => ?_) (fun hb2 => ?_)
    · have hc2 := bp hb2
      obtain ⟨hlt, x, hy, hrow, -⟩ := row_at nodA hc2
      have hxe := hen x (List.mem_of_getElem? hy)
      have e : (ns.take (j + 1)).map nodF = (ns.take j).map nodF ++ [nodF x] := by
        obtain ⟨hl, e0⟩ := List.getElem?_eq_some_iff.1 hy
        rw [List.take_succ_eq_append_getElem hl, e0, List.map_append]; rfl
      have hlj : ((ns.take j).map nodF).length = j := by simp; omega
      refine kt_ (q_ (aw_block (w_ (i_ (h:=l_ (h:=al_ (h:=s_ (h:=e_ (aw_region (m_ (h:=m_ (h:=l_ (h:=?_)))))))))))))
      refine al_p rfl (st_callC (cy := []) (ys := [.agg (nodA x)]) rfl (by repeat (first | exact Args.nil | refine Args.cons _ _ _ _ _ rfl (argOk_clean rfl) ?_ | refine Args.cons _ _ _ _ _ rfl (argOk_nil _) ?_ | refine Args.cons _ _ _ _ _ rfl (argOk_era _) ?_ | refine Args.cons _ _ _ _ _ rfl (argOk_le rfl (by repeat (first | exact LeA.refl _ | exact LeA.nil _ | exact LeL.refl _ | refine LeA.agg ?_ | refine LeA.tup ?_ | exact LeL.nil | refine LeL.cons ?_ ?_ | exact LeA.any _))) ?_)) rfl rfl (PcopyNodeX x hxe) ?_)
      intro r hr
      rcases entX_or x.entries with he | he
      · have e9 : nodF x = nodX x (.v (.slice none 0 0)) := by unfold nodF; rw [he]
        rw [e9] at hr
        subst hr
        refine bs_ (h:=?_)
        refine al_p rfl (st_appendB rfl rfl rfl (by rw [NF, rowsB_len (nodF_eight _) (by simp; omega)]; omega) (SrcA.sl _ _) (by simp) (by simp; omega) ?_ (fun h => absurd h (by simp; omega)))
        intro _ row2 bx2 hs1 hs2
        obtain rfl : row2 = NF (ns.take (j + 1)) ns.length := by
          unfold NF
          rw [e, e9]
          exact rowsB_push (nodF_eight _) rfl (by decide) (by rw [hlj]; omega) (by rw [hlj]; exact hs1)
        obtain rfl := (SetAt.one hs2).2
        refine a_ (h:=al_nil (x_blockN (t_ (aw_region (ad_ (h:=m_ (h:=al_nil (?_))))))))
        refine x_then ?_
        refine ⟨_, _, ?_, ⟨j + 1, by omega, rfl, rfl⟩, weak_of 1 0 rfl rfl rfl (by simp [bpLtB, bp_NF]) (by repeat (first | exact Sub.nil | refine Sub.cons _ _ _ rfl rfl ?_ | refine Sub.any _ _ ?_ | refine Sub.sl _ _ _ _ _ rfl ?_ | refine Sub.slnil _ _ _ rfl ?_))⟩
        omega
      · have e9 : nodF x = nodX x (.sl 2 (x.entries.map entA) none) := by unfold nodF; rw [he]
        rw [e9] at hr
        subst hr
        refine bs_ (h:=?_)
        refine al_p rfl (st_appendB rfl rfl rfl (by rw [NF, rowsB_len (nodF_eight _) (by simp; omega)]; omega) (SrcA.sl _ _) (by simp) (by simp; omega) ?_ (fun h => absurd h (by simp; omega)))
        intro _ row2 bx2 hs1 hs2
        obtain rfl : row2 = NF (ns.take (j + 1)) ns.length := by
          unfold NF
          rw [e, e9]
          exact rowsB_push (nodF_eight _) rfl (by decide) (by rw [hlj]; omega) (by rw [hlj]; exact hs1)
        obtain rfl := (SetAt.one hs2).2
        refine a_ (h:=al_nil (x_blockN (t_ (aw_region (ad_ (h:=m_ (h:=al_nil (?_))))))))
        refine x_then ?_
        refine ⟨_, _, ?_, ⟨j + 1, by omega, rfl, rfl⟩, weak_of 1 0 rfl rfl rfl (by simp [bpLtB, bp_NF]) (by repeat (first | exact Sub.nil | refine Sub.cons _ _ _ rfl rfl ?_ | refine Sub.any _ _ ?_ | refine Sub.sl _ _ _ _ _ rfl ?_ | refine Sub.slnil _ _ _ rfl ?_))⟩
        omega
    · have hc2 := bp hb2
      have e := row_no nodA hj hc2
      subst e
      rw [List.take_length]
      refine aw_exit (x_thenE (x_thenE (ABlock_out (t_ (w_ (m_ (h:=a_ (h:=e_ (aw_ret (?_))))))))))
      refine abody_ret (r := .bs 0 0 8 ns.length ns.length) none (by repeat (first | exact ResA.nil | (apply ResA.tmp; (focus exact rfl)) | (apply ResA.cellN; (focus exact inferInstance); (focus exact rfl); (focus exact rfl); (focus exact rfl)) | (apply ResA.cell1; (focus exact inferInstance); (focus exact rfl); (focus exact rfl); (focus exact rfl)))) rfl rfl (by simp [bpLtB, bp_NF]) (LeA.refl _) ⟨rfl, rfl, rfl⟩

end
end Go.Proofs.Ythcbdkmhamhciaa
namespace Go.Proofs.Ythcbdkmhamhciaa
open Go.RowKit

section
variable {F : AV → AV} (hany : F .any = .any) (hv : ∀ x, F (.v x) = .v x) (hs : ∀ sz rows, F (.sl sz rows none) = .sl sz rows none)
include hv hs
theorem map_nodF (x : Nod) : (nodF x).map F = nodF x := by
  unfold nodF
  rcases entX_or x.entries with h | h <;> rw [h] <;> simp [nodX, hv, hs]
include hany
theorem map_NF (ns : List Nod) (cap : Nat) : (NF ns cap).map F = NF ns cap := by
  unfold NF
  rw [rowsB_map F hany, List.map_map]
  congr 1
  apply List.map_congr_left
  intro n _
  exact map_nodF hv hs n
theorem map_NG (ns : List Nod) (i : Nat) (nI : Nod) {j j' : Nat} (cap cap1 : Nat) (hb : F (.bs j 0 2 nI.entries.length cap) = .bs j' 0 2 nI.entries.length cap) : (NG ns i nI j cap cap1).map F = NG ns i nI j' cap cap1 := by
  unfold NG rowsG
  rw [rowsB_map F hany, List.map_set]
  congr 1
  have e1 : ((ns.map nodF).map fun r => r.map F) = ns.map nodF := by
    rw [List.map_map]
    apply List.map_congr_left
    intro n _
    exact map_nodF hv hs n
  rw [e1]
  congr 1
  simp [nodB, nodX, hv, hb]
end
theorem renK_NF (g : Nat → Option Nat) (ns : List Nod) (cap : Nat) : renKL g (NF ns cap) = NF ns cap := by
  rw [renKL_map]
  exact map_NF rfl (fun _ => rfl) (fun _ _ => rfl) ns cap
theorem ren_NF (g : Nat → Option Nat) (ns : List Nod) (cap : Nat) : renL g (NF ns cap) = NF ns cap := by
  rw [renL_map]
  exact map_NF rfl (fun _ => rfl) (fun _ _ => rfl) ns cap
theorem renK_NG {g : Nat → Option Nat} {j j' : Nat} (h : g j = some j') (ns : List Nod) (i : Nat) (nI : Nod) (cap cap1 : Nat) : renKL g (NG ns i nI j cap cap1) = NG ns i nI j' cap cap1 := by
  rw [renKL_map]
  exact map_NG rfl (fun _ => rfl) (fun _ _ => rfl) ns i nI cap cap1 (by simp [renK, h])
theorem ren_NG {g : Nat → Option Nat} {j j' : Nat} (h : g j = some j') (ns : List Nod) (i : Nat) (nI : Nod) (cap cap1 : Nat) : renL g (NG ns i nI j cap cap1) = NG ns i nI j' cap cap1 := by
  rw [renL_map]
  exact map_NG rfl (fun _ => rfl) (fun _ _ => rfl) ns i nI cap cap1 (by simp [ren, h])
theorem renK_EB (g : Nat → Option Nat) (es : List Ent) (cap : Nat) : renKL g (EB es cap) = EB es cap := by
  rw [renKL_map]
  exact map_plain rfl (fun _ => rfl) (ent_plain es)
theorem back_nodB {bx : List (List AV)} {n : Nat} (hn : bx.length = n) (x : Nod) (l : Nat) : Back bx [] [nodB x 2 l, nodB x 2 l, EB x.entries l] (bx ++ [nodB x (n + 2) l, nodB x (n + 2) l, EB x.entries l]) := by
  subst hn
  have := back_F (bx := bx) (is := []) (bc := [nodB x 2 l, nodB x 2 l, EB x.entries l]) List.nodup_nil (by simp) (by simp)
  have e1 : renL (backS [] bx.length) (nodB x 2 l) = nodB x (bx.length + 2) l := by simp [nodB, nodX, renL, ren, backS]
  simpa [backF, ren_EB, e1] using this
section
set_option maxRecDepth 10000
set_option maxHeartbeats 1000000
theorem PcopiedNG (ns : List Nod) (i : Nat) (nI : Nod) (hi : ns[i]? = some nI) (hE : 0 < nI.entries.length) (hns : ns.length ≤ 1000) (hen : ∀ n ∈ ns, n.entries.length ≤ 1000) : ACall Try.prog 108 [.sl 8 (ns.map nodA) none, .fn 75 []] [] (fun r b t => t = [] ∧ r = .bs 0 0 8 ns.length ns.length ∧ b = [NG ns i nI 1 nI.entries.length ns.length, EB nI.entries nI.entries.length]) := by
  have hml : (ns.map nodA).length = ns.length := by simp
  have hil := (List.getElem?_eq_some_iff.1 hi).1
  have hEn := hen nI (List.mem_of_getElem? hi)
  refine enter Try.func108 rfl rfl rfl rfl rfl 2 rfl ?_
  refine w_ (a_ (h:=e_ (q_ (w_ (m_ (h:=n_ (h:=eq_ (h:=e_ (?_)))))))))
  refine aw_cond rfl (fun hb1 => ?_) (fun hb1 => ?_)
  · have hc1 := bp hb1
    exfalso; first | contradiction | omega
  · have hc1 := bp hb1
    refine kt_ (w_ (m_ (h:=n_ (h:=?_))))
    refine al_p rfl (st_makeB (l := 0) (m := ns.length) (k := 0) rfl rfl rfl (by simp) (Nat.zero_le _) (by omega) (by omega) (by repeat constructor) ?_)
    refine a_ (h:=e_ (q_ (w_ (m_ (h:=n_ (h:=m_ (h:=e_ (aw_block (?_)))))))))
    refine aw_loopW (fun m s => ∃ j : Nat, j ≤ ns.length ∧ m = ns.length - j ∧ ((j ≤ i ∧ s = ⟨look [(1, .fn 75 []), (5, .bs 0 0 8 j ns.length), (14, .sl 8 (ns.map nodA) none), (15, .v (.int .i64 ((ns.map nodA).length : Int))), (16, .v (.int .i64 (j : Int)))], ⟨[NF (ns.take j) ns.length], []⟩⟩) ∨ (i < j ∧ s = ⟨look [(1, .fn 75 []), (5, .bs 0 0 8 j ns.length), (14, .sl 8 (ns.map nodA) none), (15, .v (.int .i64 ((ns.map nodA).length : Int))), (16, .v (.int .i64 (j : Int)))], ⟨[NG (ns.take j) i nI 1 nI.entries.length ns.length, EB nI.entries nI.entries.length], []⟩⟩))) (ns.length) (weak_of 1 0 rfl rfl rfl (by show (bpLtL 1 0 (NF [] ns.length) && true) = true; rw [bp_NF]; rfl) (by repeat (first | exact Sub.nil | refine Sub.cons _ _ _ rfl rfl ?_ | refine Sub.any _ _ ?_ | refine Sub.sl _ _ _ _ _ rfl ?_ | refine Sub.slnil _ _ _ rfl ?_))) (⟨0, by omega, rfl, .inl ⟨by omega, rfl⟩⟩) ?_
    rintro m s ⟨j, hj, rfl, ⟨hji, rfl⟩ | ⟨hji, rfl⟩⟩
    rcases Nat.lt_or_eq_of_le hji with hji | rfl
    · skip
      refine w_ (lt_ (h:=e_ (q_ (?_))))
      refine aw_cond rfl (fun hb2 => ?_) (fun hb2 => ?_)
      · have hc2 := bp hb2
        obtain ⟨hlt, x, hy, hrow, -⟩ := row_at nodA hc2
        have hxe := hen x (List.mem_of_getElem? hy)
        have e : (ns.take (j + 1)).map nodF = (ns.take j).map nodF ++ [nodF x] := by
          obtain ⟨hl, e0⟩ := List.getElem?_eq_some_iff.1 hy
          rw [List.take_succ_eq_append_getElem hl, e0, List.map_append]; rfl
        have hlj : ((ns.take j).map nodF).length = j := by simp; omega
        refine kt_ (q_ (aw_block (w_ (i_ (h:=l_ (h:=al_ (h:=s_ (h:=e_ (aw_region (m_ (h:=m_ (h:=l_ (h:=?_)))))))))))))
        refine al_p rfl (st_callC (cy := []) (ys := [.agg (nodA x)]) rfl (by repeat (first | exact Args.nil | refine Args.cons _ _ _ _ _ rfl (argOk_clean rfl) ?_ | refine Args.cons _ _ _ _ _ rfl (argOk_nil _) ?_ | refine Args.cons _ _ _ _ _ rfl (argOk_era _) ?_ | refine Args.cons _ _ _ _ _ rfl (argOk_le rfl (by repeat (first | exact LeA.refl _ | exact LeA.nil _ | exact LeL.refl _ | refine LeA.agg ?_ | refine LeA.tup ?_ | exact LeL.nil | refine LeL.cons ?_ ?_ | exact LeA.any _))) ?_)) rfl rfl (PcopyNodeX x hxe) ?_)
        intro r hr
        rcases entX_or x.entries with he | he
        · have e9 : nodF x = nodX x (.v (.slice none 0 0)) := by unfold nodF; rw [he]
          rw [e9] at hr
          subst hr
          refine bs_ (h:=?_)
          refine al_p rfl (st_appendB rfl rfl rfl (by rw [NF, rowsB_len (nodF_eight _) (by simp; omega)]; omega) (SrcA.sl _ _) (by simp) (by simp; omega) ?_ (fun h => absurd h (by simp; omega)))
          intro _ row2 bx2 hs1 hs2
          obtain rfl : row2 = NF (ns.take (j + 1)) ns.length := by
            unfold NF
            rw [e, e9]
            exact rowsB_push (nodF_eight _) rfl (by decide) (by rw [hlj]; omega) (by rw [hlj]; exact hs1)
          obtain rfl := (SetAt.one hs2).2
          refine a_ (h:=al_nil (x_blockN (t_ (aw_region (ad_ (h:=m_ (h:=al_nil (?_))))))))
          refine x_then ?_
          refine ⟨_, _, ?_, ⟨j + 1, by omega, rfl, .inl ⟨by omega, rfl⟩⟩, weak_of 1 0 rfl rfl rfl (by simp [bpLtB, bp_NF]) (by repeat (first | exact Sub.nil | refine Sub.cons _ _ _ rfl rfl ?_ | refine Sub.any _ _ ?_ | refine Sub.sl _ _ _ _ _ rfl ?_ | refine Sub.slnil _ _ _ rfl ?_))⟩
          omega
        · have e9 : nodF x = nodX x (.sl 2 (x.entries.map entA) none) := by unfold nodF; rw [he]
          rw [e9] at hr
          subst hr
          refine bs_ (h:=?_)
          refine al_p rfl (st_appendB rfl rfl rfl (by rw [NF, rowsB_len (nodF_eight _) (by simp; omega)]; omega) (SrcA.sl _ _) (by simp) (by simp; omega) ?_ (fun h => absurd h (by simp; omega)))
          intro _ row2 bx2 hs1 hs2
          obtain rfl : row2 = NF (ns.take (j + 1)) ns.length := by
            unfold NF
            rw [e, e9]
            exact rowsB_push (nodF_eight _) rfl (by decide) (by rw [hlj]; omega) (by rw [hlj]; exact hs1)
          obtain rfl := (SetAt.one hs2).2
          refine a_ (h:=al_nil (x_blockN (t_ (aw_region (ad_ (h:=m_ (h:=al_nil (?_))))))))
          refine x_then ?_
          refine ⟨_, _, ?_, ⟨j + 1, by omega, rfl, .inl ⟨by omega, rfl⟩⟩, weak_of 1 0 rfl rfl rfl (by simp [bpLtB, bp_NF]) (by repeat (first | exact Sub.nil | refine Sub.cons _ _ _ rfl rfl ?_ | refine Sub.any _ _ ?_ | refine Sub.sl _ _ _ _ _ rfl ?_ | refine Sub.slnil _ _ _ rfl ?_))⟩
          omega
      · have hc2 := bp hb2
        exfalso; first | contradiction | omega
    · have hrow : (ns.map nodA)[j]? = some (nodA nI) := by rw [List.getElem?_map, hi]; rfl
      refine w_ (lt_ (h:=e_ (q_ (?_))))
      refine aw_cond rfl (fun hb3 => ?_) (fun hb3 => ?_)
      · have hc3 := bp hb3
        have hlj : ((ns.take j).map nodF).length = j := by simp; omega
        refine kt_ (q_ (aw_block (w_ (?_))))
        refine al_p rfl (st_index rfl rfl rfl hrow ?_)
        refine l_ (h:=al_ (h:=s_ (h:=e_ (aw_region (m_ (h:=m_ (h:=l_ (h:=?_))))))))
        refine al_p rfl (s_callMC [] rfl (.cons _ _ _ _ _ rfl (LeA.refl _) .nil) (by decide) .nil (PcopyNodeB nI hE hEn) ?_)
        rintro r bc tc ⟨rfl, rfl, rfl⟩
        refine ⟨rfl, _, (back_nodB (n := 2) rfl nI nI.entries.length : Back _ [] _ [_, _, _, _, _]), ?_⟩
        refine al_p rfl (st_slit1B rfl rfl rfl rfl (by repeat constructor) ?_)
        refine al_p rfl (st_appendB rfl rfl rfl (by rw [NF, rowsB_len (nodF_eight _) (by simp; omega)]; omega) (SrcA.bs 5 0 1 1 _ rfl (Nat.le_of_ble_eq_true rfl)) (by decide) (by omega) ?_ (fun h => absurd h (by omega)))
        intro _ row2 bx2 hs1 hs2
        obtain rfl : row2 = NG (ns.take (j + 1)) j nI 4 nI.entries.length ns.length := by
          unfold NG
          rw [rowsG_here hi]
          exact rowsB_push (nodF_eight _) rfl (by decide) (by rw [hlj]; omega) (by rw [hlj]; exact hs1)
        obtain rfl := (SetAt.one hs2).2
        refine a_ (h:=al_nil (x_blockN (t_ (aw_region (ad_ (h:=m_ (h:=al_nil (?_))))))))
        refine x_then ?_
        refine ⟨_, _, ?_, ⟨j + 1, by omega, rfl, .inr ⟨by omega, rfl⟩⟩, weak_ren [0, 4] (fun i hi => absurd hi (Nat.not_lt_zero i)) (by decide) (.cons _ _ _ _ _ rfl (renK_NG (by rfl) _ _ _ _ _) (.cons _ _ _ _ _ rfl (renK_EB _ _ _) .nil)) (by repeat (first | exact SubK.nil | refine SubK.cons _ _ _ _ rfl (LeA.refl _) ?_))⟩
        omega
      · have hc3 := bp hb3
        exfalso; first | contradiction | omega
    · skip
      refine w_ (lt_ (h:=e_ (q_ (?_))))
      refine aw_cond rfl (fun hb4 => ?_) (fun hb4 => ?_)
      · have hc4 := bp hb4
        obtain ⟨hlt, x, hy, hrow, -⟩ := row_at nodA hc4
        have hxe := hen x (List.mem_of_getElem? hy)
        have e := rowsG_succ (nI := nI) (j := 1) (cap := nI.entries.length) hy hji
        have hlj : (rowsG (ns.take j) i nI 1 nI.entries.length).length = j := by rw [rowsG_len]; simp; omega
        refine kt_ (q_ (aw_block (w_ (i_ (h:=l_ (h:=al_ (h:=s_ (h:=e_ (aw_region (m_ (h:=m_ (h:=l_ (h:=?_)))))))))))))
        refine al_p rfl (st_callC (cy := []) (ys := [.agg (nodA x)]) rfl (by repeat (first | exact Args.nil | refine Args.cons _ _ _ _ _ rfl (argOk_clean rfl) ?_ | refine Args.cons _ _ _ _ _ rfl (argOk_nil _) ?_ | refine Args.cons _ _ _ _ _ rfl (argOk_era _) ?_ | refine Args.cons _ _ _ _ _ rfl (argOk_le rfl (by repeat (first | exact LeA.refl _ | exact LeA.nil _ | exact LeL.refl _ | refine LeA.agg ?_ | refine LeA.tup ?_ | exact LeL.nil | refine LeL.cons ?_ ?_ | exact LeA.any _))) ?_)) rfl rfl (PcopyNodeX x hxe) ?_)
        intro r hr
        rcases entX_or x.entries with he | he
        · have e9 : nodF x = nodX x (.v (.slice none 0 0)) := by unfold nodF; rw [he]
          rw [e9] at hr
          subst hr
          refine bs_ (h:=?_)
          refine al_p rfl (st_appendB rfl rfl rfl (by rw [NG, rowsB_len (rowsG_eight _ _ _ _ _) (by rw [hlj]; omega)]; omega) (SrcA.sl _ _) (by simp) (by simp; omega) ?_ (fun h => absurd h (by simp; omega)))
          intro _ row2 bx2 hs1 hs2
          obtain rfl : row2 = NG (ns.take (j + 1)) i nI 1 nI.entries.length ns.length := by
            unfold NG
            rw [e, e9]
            exact rowsB_push (rowsG_eight _ _ _ _ _) rfl (by decide) (by rw [hlj]; omega) (by rw [hlj]; exact hs1)
          obtain rfl := (SetAt.one hs2).2
          refine a_ (h:=al_nil (x_blockN (t_ (aw_region (ad_ (h:=m_ (h:=al_nil (?_))))))))
          refine x_then ?_
          refine ⟨_, _, ?_, ⟨j + 1, by omega, rfl, .inr ⟨by omega, rfl⟩⟩, weak_of 2 0 rfl rfl rfl (by simp [bpLtB, bp_NG, bp_EB]) (by repeat (first | exact Sub.nil | refine Sub.cons _ _ _ rfl rfl ?_ | refine Sub.any _ _ ?_ | refine Sub.sl _ _ _ _ _ rfl ?_ | refine Sub.slnil _ _ _ rfl ?_))⟩
          omega
        · have e9 : nodF x = nodX x (.sl 2 (x.entries.map entA) none) := by unfold nodF; rw [he]
          rw [e9] at hr
          subst hr
          refine bs_ (h:=?_)
          refine al_p rfl (st_appendB rfl rfl rfl (by rw [NG, rowsB_len (rowsG_eight _ _ _ _ _) (by rw [hlj]; omega)]; omega) (SrcA.sl _ _) (by simp) (by simp; omega) ?_ (fun h => absurd h (by simp; omega)))
          intro _ row2 bx2 hs1 hs2
          obtain rfl : row2 = NG (ns.take (j + 1)) i nI 1 nI.entries.length ns.length := by
            unfold NG
            rw [e, e9]
            exact rowsB_push (rowsG_eight _ _ _ _ _) rfl (by decide) (by rw [hlj]; omega) (by rw [hlj]; exact hs1)
          obtain rfl := (SetAt.one hs2).2
          refine a_ (h:=al_nil (x_blockN (t_ (aw_region (ad_ (h:=m_ (h:=al_nil (?_))))))))
          refine x_then ?_
          refine ⟨_, _, ?_, ⟨j + 1, by omega, rfl, .inr ⟨by omega, rfl⟩⟩, weak_of 2 0 rfl rfl rfl (by simp [bpLtB, bp_NG, bp_EB]) (by repeat (first | exact Sub.nil | refine Sub.cons _ _ _ rfl rfl ?_ | refine Sub.any _ _ ?_ | refine Sub.sl _ _ _ _ _ rfl ?_ | refine Sub.slnil _ _ _ rfl ?_))⟩
          omega
      · have hc4 := bp hb4
        have e := row_no nodA hj hc4
        subst e
        rw [List.take_length]
        refine aw_exit (x_thenE (x_thenE (ABlock_out (t_ (w_ (m_ (h:=a_ (h:=e_ (aw_ret (?_))))))))))
        refine abody_ret (r := .bs 0 0 8 ns.length ns.length) none (by repeat (first | exact ResA.nil | (apply ResA.tmp; (focus exact rfl)) | (apply ResA.cellN; (focus exact inferInstance); (focus exact rfl); (focus exact rfl); (focus exact rfl)) | (apply ResA.cell1; (focus exact inferInstance); (focus exact rfl); (focus exact rfl); (focus exact rfl)))) rfl rfl (by simp [bpLtB, bp_NG, bp_EB]) (LeA.refl _) ⟨rfl, rfl, rfl⟩

end
end Go.Proofs.Ythcbdkmhamhciaa
