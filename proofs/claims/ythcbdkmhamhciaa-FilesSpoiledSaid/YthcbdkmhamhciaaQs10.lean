/-
  Part 10 of the proof of FilesSpoiledP: what the statement's proof uses of the texts in wip/tpl.
-/
import Derived.Test.YthcbdkmhamhciaaProg
import Derived.WalkKit
import Derived.WalkSpells
import Derived.WalkLawsBesides
import Derived.Deep.QuietTactic
import Derived.BigQuiet
import Derived.Lib.Hide
import Derived.Outline
import Derived.Lib.Strings
import Derived.Lib.IndexLaws
import Derived.Lib.LastIndexByte
import Derived.Lib.IndexAny
import Derived.Test.YthcbdkmhamhciaaShelf
import Derived.Laws.RangeAny
import Derived.Deep.LoopGhost
import Derived.Test.YthcbdkmhamhciaaQs9
namespace Go.Proofs.Ythcbdkmhamhciaa
open Go.RowKit
def entX (es : List Ent) : AV := if es = [] then .v (.slice none 0 0) else .sl 2 (es.map entA) none
def nodX (n : Nod) (e : AV) : List AV := [.v (.int .i64 n.ino), .v (.int .i64 n.kind), .v (.int .i64 n.mode), .v (.int .i64 n.uid), .v (.int .i64 n.gid), .v (.int .i64 n.parent), .v (.string n.target), e]
def nodF (n : Nod) : List AV := nodX n (entX n.entries)
def nodB (n : Nod) (j cap : Nat) : List AV := nodX n (.bs j 0 2 n.entries.length cap)
theorem ent_plain (l : List Ent) : ∀ r ∈ l.map entA, ∀ x ∈ r, ∃ v, x = .v v := by
 intro r hr x hx
 obtain ⟨c, _, rfl⟩ := List.mem_map.1 hr
 simp only [entA, List.mem_cons, List.not_mem_nil, or_false] at hx
 rcases hx with rfl | rfl <;> exact ⟨_, rfl⟩
theorem ent_two (l : List Ent) : ∀ r ∈ l.map entA, r.length = 2 := by
 intro r hr
 obtain ⟨d, _, rfl⟩ := List.mem_map.1 hr
 rfl
def EB (es : List Ent) (cap : Nat) : List AV := rowsB 2 cap (es.map entA)
theorem bp_EB {n m : Nat} (es : List Ent) (cap : Nat) : bpLtL n m (EB es cap) = true := bp_plain (ent_plain es)
theorem ren_EB (g : Nat → Option Nat) (es : List Ent) (cap : Nat) : renL g (EB es cap) = EB es cap := ren_rows (ent_plain es)
theorem entX_or (es : List Ent) : entX es = .v (.slice none 0 0) ∨ entX es = .sl 2 (es.map entA) none := by
 unfold entX
 split
 ·exact .inl rfl
 exact .inr rfl
section
set_option maxRecDepth 10000
set_option maxHeartbeats 1000000
theorem PcopiedX (es : List Ent) (hes : es.length ≤ 1000) : AFn Try.prog 96 [.sl 2 (es.map entA) none, .fn 97 []] (fun r => r = entX es) := by
 have hml : (es.map entA).length = es.length := by simp
 refine enter Try.func96 rfl rfl rfl rfl rfl 0 rfl ?_
 refine w_ (a_ (h:=e_ (q_ (w_ (m_ (h:=n_ (h:=eq_ (h:=e_ (?_)))))))))
 refine aw_cond rfl (fun hb1 => ?_) (fun hb1 => ?_)
 ·have hc1 := bp hb1
  refine w_ (a_ (h:=e_ (aw_ret (x_thenR (?_)))))
  refine e_ret ?_
  rw [show entX es = .v (.slice none 0 0) from if_pos (List.eq_nil_of_length_eq_zero (by omega))]
  rfl
 have hc1 := bp hb1
 refine kt_ (w_ (m_ (h:=n_ (h:=ms_ (h:=a_ (h:=e_ (q_ (w_ (m_ (h:=n_ (h:=m_ (h:=e_ (aw_block (?_))))))))))))))
 refine aw_loopW (fun m s => ∃ j : Nat, j ≤ es.length ∧ m = es.length - j ∧ s = ⟨look [(1, .fn 97 []), (5, .sl 2 ((es.take j).map entA) (some 0)), (14, .sl 2 (es.map entA) none), (15, .v (.int .i64 ((es.map entA).length : Int))), (16, .v (.int .i64 (j : Int)))], ⟨[], [(101, 2, (es.take j).map entA)]⟩⟩) (es.length) ((wk 0 1)) (⟨0, by omega, rfl, rfl⟩) ?_
 rintro m s ⟨j, hj, rfl, rfl⟩
 refine w_ (lt_ (h:=e_ (q_ (?_))))
 refine aw_cond rfl (fun hb2 => ?_) (fun hb2 => ?_)
 ·have hc2 := bp hb2
  obtain ⟨hlt, x, hy, hrow, e⟩ := row_at entA hc2
  refine kt_ (q_ (aw_block (w_ (i_ (h:=l_ (h:=al_ (h:=s_ (h:=e_ (aw_region (m_ (h:=m_ (h:=l_ (h:=?_)))))))))))))
  refine al_p rfl (st_callC (cy := []) (ys := [.agg (entA x)]) rfl (by repeat (first | exact Args.nil | refine Args.cons _ _ _ _ _ rfl (argOk_clean rfl) ?_ | refine Args.cons _ _ _ _ _ rfl (argOk_nil _) ?_ | refine Args.cons _ _ _ _ _ rfl (argOk_era _) ?_ | refine Args.cons _ _ _ _ _ rfl (argOk_le rfl (by repeat (first | exact LeA.refl _ | exact LeA.nil _ | exact LeL.refl _ | refine LeA.agg ?_ | refine LeA.tup ?_ | exact LeL.nil | refine LeL.cons ?_ ?_ | exact LeA.any _))) ?_)) rfl rfl (PcopyEntry x) ?_)
  rintro r rfl
  refine bs_ (h:=?_)
  first | refine al_p rfl (s_append rfl rfl rfl (by simp; omega) (by repeat constructor) ?_) | refine al_p rfl (s_append0 rfl rfl (by simp; omega) (by repeat constructor) ?_)
  refine a_ (h:=al_nil (x_blockN (t_ (aw_region (ad_ (h:=m_ (h:=al_nil (?_))))))))
  refine x_then ?_
  refine ⟨_, _, ?_, ⟨j + 1, by omega, rfl, rfl⟩, (by rw [e]; exact (wk 0 1))⟩
  omega
 have hc2 := bp hb2
 have e := row_no entA hj hc2
 subst e
 rw [List.take_length]
 refine aw_exit (x_thenE (x_thenE (ABlock_out (t_ (w_ (m_ (h:=a_ (h:=e_ (aw_ret (?_))))))))))
 refine e_ret ?_
 rw [show entX es = .sl 2 (es.map entA) none from if_neg (fun e => by rw [e] at hc1; exact hc1 rfl)]
 rfl
theorem PcopyNodeX (n : Nod) (hn : n.entries.length ≤ 1000) : AFn Try.prog 75 [.agg (nodA n)] (fun r => r = .agg (nodF n)) := by
 refine enter Try.func75 rfl rfl rfl rfl rfl 0 rfl ?_
 refine w_ (b_ (h:=al_ (h:=e_ (w_ (f_ (h:=l_ (h:=?_)))))))
 refine al_p rfl (q_call (PcopiedX n.entries hn) ?_)
 intro r hr
 rcases entX_or n.entries with he | he
 ·obtain rfl := hr.trans he
  refine f_ (h:=s_ (h:=e_ (w_ (l_ (h:=s_ (h:=e_ (aw_ret (?_))))))))
  refine e_ret ?_
  unfold nodF
  rw [he]
  rfl
 obtain rfl := hr.trans he
 refine f_ (h:=s_ (h:=e_ (w_ (l_ (h:=s_ (h:=e_ (aw_ret (?_))))))))
 refine e_ret ?_
 unfold nodF
 rw [he]
 rfl
theorem PcopiedEB (es : List Ent) (h0 : 0 < es.length) (hes : es.length ≤ 1000) : ACall Try.prog 96 [.sl 2 (es.map entA) none, .fn 97 []] [] (fun r b t => t = [] ∧ r = .bs 0 0 2 es.length es.length ∧ b = [EB es es.length]) := by
 have hml : (es.map entA).length = es.length := by simp
 refine enter Try.func96 rfl rfl rfl rfl rfl 1 rfl ?_
 refine w_ (a_ (h:=e_ (q_ (w_ (m_ (h:=n_ (h:=eq_ (h:=e_ (?_)))))))))
 refine aw_cond rfl (fun hb1 => ?_) (fun hb1 => ?_)
 ·have hc1 := bp hb1
  exfalso; first | contradiction | omega
 have hc1 := bp hb1
 refine kt_ (w_ (m_ (h:=n_ (h:=?_))))
 refine al_p rfl (st_makeB (l := 0) (m := es.length) (k := 0) rfl rfl rfl (by simp) (Nat.zero_le _) h0 (by omega) (by repeat constructor) ?_)
 refine a_ (h:=e_ (q_ (w_ (m_ (h:=n_ (h:=m_ (h:=e_ (aw_block (?_)))))))))
 refine aw_loopW (fun m s => ∃ j : Nat, j ≤ es.length ∧ m = es.length - j ∧ s = ⟨look [(1, .fn 97 []), (5, .bs 0 0 2 j es.length), (14, .sl 2 (es.map entA) none), (15, .v (.int .i64 ((es.map entA).length : Int))), (16, .v (.int .i64 (j : Int)))], ⟨[EB (es.take j) es.length], []⟩⟩) (es.length) (wb_ 1 0 (by show (bpLtL 1 0 (EB [] es.length) && true) = true; rw [bp_EB]; rfl)) (⟨0, by omega, rfl, rfl⟩) ?_
 rintro m s ⟨j, hj, rfl, rfl⟩
 refine w_ (lt_ (h:=e_ (q_ (?_))))
 refine aw_cond rfl (fun hb2 => ?_) (fun hb2 => ?_)
 ·have hc2 := bp hb2
  obtain ⟨hlt, x, hy, hrow, e⟩ := row_at entA hc2
  have hlj : ((es.take j).map entA).length = j := by simp; omega
  refine kt_ (q_ (aw_block (w_ (i_ (h:=l_ (h:=al_ (h:=s_ (h:=e_ (aw_region (m_ (h:=m_ (h:=l_ (h:=?_)))))))))))))
  refine al_p rfl (st_callC (cy := []) (ys := [.agg (entA x)]) rfl (by repeat (first | exact Args.nil | refine Args.cons _ _ _ _ _ rfl (argOk_clean rfl) ?_ | refine Args.cons _ _ _ _ _ rfl (argOk_nil _) ?_ | refine Args.cons _ _ _ _ _ rfl (argOk_era _) ?_ | refine Args.cons _ _ _ _ _ rfl (argOk_le rfl (by repeat (first | exact LeA.refl _ | exact LeA.nil _ | exact LeL.refl _ | refine LeA.agg ?_ | refine LeA.tup ?_ | exact LeL.nil | refine LeL.cons ?_ ?_ | exact LeA.any _))) ?_)) rfl rfl (PcopyEntry x) ?_)
  rintro r rfl
  refine bs_ (h:=?_)
  refine al_p rfl (st_appendB rfl rfl rfl (by rw [EB, rowsB_len (ent_two _) (by simp; omega)]; omega) (SrcA.sl _ _) (by simp) (by simp; omega) ?_ (fun h => absurd h (by simp; omega)))
  intro _ row2 bx2 hs1 hs2
  obtain rfl : row2 = EB (es.take (j + 1)) es.length := by
   unfold EB
   rw [e]
   exact rowsB_push (ent_two _) rfl (by decide) (by rw [hlj]; omega) (by rw [hlj]; exact hs1)
  obtain rfl := (SetAt.one hs2).2
  refine a_ (h:=al_nil (x_blockN (t_ (aw_region (ad_ (h:=m_ (h:=al_nil (?_))))))))
  refine x_then ?_
  refine ⟨_, _, ?_, ⟨j + 1, by omega, rfl, rfl⟩, wb_ 1 0 (by simp [bpLtB, bp_EB])⟩
  omega
 have hc2 := bp hb2
 have e := row_no entA hj hc2
 subst e
 rw [List.take_length]
 refine aw_exit (x_thenE (x_thenE (ABlock_out (t_ (w_ (m_ (h:=a_ (h:=e_ (aw_ret (?_))))))))))
 refine abody_ret (r := .bs 0 0 2 es.length es.length) none (by repeat (first | exact ResA.nil | (apply ResA.tmp; (focus exact rfl)) | (apply ResA.cellN; (focus exact inferInstance); (focus exact rfl); (focus exact rfl); (focus exact rfl)) | (apply ResA.cell1; (focus exact inferInstance); (focus exact rfl); (focus exact rfl); (focus exact rfl)))) rfl rfl (by simp [bpLtB, bp_EB]) (LeA.refl _) ⟨rfl, rfl, rfl⟩
end
theorem back_new1 {bx : List (List AV)} (r : List AV) (h : renL (backS [] bx.length) r = r) : Back bx [] [r] (bx ++ [r]) := by
 have := back_F (bx := bx) (is := []) (bc := [r]) List.nodup_nil (by simp) (by simp)
 simpa [backF, h] using this
theorem nodF_eight (l : List Nod) : ∀ r ∈ l.map nodF, r.length = 8 := by
 intro r hr
 obtain ⟨d, _, rfl⟩ := List.mem_map.1 hr
 rfl
def NF (ns : List Nod) (cap : Nat) : List AV := rowsB 8 cap (ns.map nodF)
theorem bp_nodF {n m : Nat} (x : Nod) : bpLtL n m (nodF x) = true := by
 unfold nodF
 rcases entX_or x.entries with h | h <;> rw [h] <;> rfl
theorem bp_NF {n m : Nat} (ns : List Nod) (cap : Nat) : bpLtL n m (NF ns cap) = true := by
 refine bpLt_rowsB fun r hr => ?_
 obtain ⟨d, _, rfl⟩ := List.mem_map.1 hr
 exact bp_nodF d
def rowsG (ns : List Nod) (i : Nat) (nI : Nod) (j cap : Nat) : List (List AV) := (ns.map nodF).set i (nodB nI j cap)
def NG (ns : List Nod) (i : Nat) (nI : Nod) (j cap cap1 : Nat) : List AV := rowsB 8 cap1 (rowsG ns i nI j cap)
theorem rowsG_eight (ns : List Nod) (i : Nat) (nI : Nod) (j cap : Nat) : ∀ r ∈ rowsG ns i nI j cap, r.length = 8 := by
 intro r hr
 rcases List.mem_or_eq_of_mem_set hr with h | h
 ·exact nodF_eight _ r h
 rw [h]; rfl
theorem rowsG_len (ns : List Nod) (i : Nat) (nI : Nod) (j cap : Nat) : (rowsG ns i nI j cap).length = ns.length := by simp [rowsG]
theorem bp_NG {n m : Nat} {ns : List Nod} {i : Nat} {nI : Nod} {j cap cap1 : Nat} (hj : j < n) : bpLtL n m (NG ns i nI j cap cap1) = true := by
 refine bpLt_rowsB fun r hr => ?_
 rcases List.mem_or_eq_of_mem_set hr with h | h
 ·obtain ⟨d, _, rfl⟩ := List.mem_map.1 h
  exact bp_nodF d
 rw [h]; simp [nodB, nodX, bpLtL, bpLt, hj]
theorem rowsG_succ {ns : List Nod} {i q : Nat} {nI x : Nod} {j cap : Nat} (hx : ns[q]? = some x) (hi : i < q) : rowsG (ns.take (q + 1)) i nI j cap = rowsG (ns.take q) i nI j cap ++ [nodF x] := by
 obtain ⟨hlt, e⟩ := List.getElem?_eq_some_iff.1 hx
 unfold rowsG
 rw [List.take_succ_eq_append_getElem hlt, e, List.map_append, List.set_append_left _ _ (by simp; omega)]
 rfl
theorem rowsG_here {ns : List Nod} {i : Nat} {nI : Nod} {j cap : Nat} (hx : ns[i]? = some nI) : rowsG (ns.take (i + 1)) i nI j cap = (ns.take i).map nodF ++ [nodB nI j cap] := by
 obtain ⟨hlt, e⟩ := List.getElem?_eq_some_iff.1 hx
 unfold rowsG
 have hl : ((ns.take i).map nodF).length = i := by simp; omega
 rw [List.take_succ_eq_append_getElem hlt, e, List.map_append, List.set_append_right _ _ (by omega), hl, Nat.sub_self]
 rfl
section
set_option maxRecDepth 10000
set_option maxHeartbeats 1000000
theorem PcopyNodeB (n : Nod) (h0 : 0 < n.entries.length) (hn : n.entries.length ≤ 1000) : ACall Try.prog 75 [.agg (nodA n)] [] (fun r b t => t = [] ∧ r = .agg (nodB n 2 n.entries.length) ∧ b = [nodB n 2 n.entries.length, nodB n 2 n.entries.length, EB n.entries n.entries.length]) := by
 refine enter Try.func75 rfl rfl rfl rfl rfl 3 rfl ?_
 refine w_ (b_ (h:=al_ (h:=e_ (w_ (f_ (h:=l_ (h:=?_)))))))
 refine al_p rfl (s_callM [] rfl (.cons _ _ _ _ _ rfl (LeA.refl _) (.cons _ _ _ _ _ rfl (LeA.refl _) .nil)) (by decide) .nil (PcopiedEB n.entries h0 hn) ?_)
 rintro r bc tc ⟨rfl, rfl, rfl⟩
 refine ⟨rfl, _, (back_new1 _ (ren_EB _ _ _) : Back _ [] _ [_, _, _]), ?_⟩
 refine f_ (h:=s_ (h:=e_ (w_ (l_ (h:=s_ (h:=e_ (aw_ret (?_))))))))
 refine abody_ret none (by repeat (first | exact ResA.nil | (apply ResA.tmp; (focus exact rfl)) | (apply ResA.cellN; (focus exact inferInstance); (focus exact rfl); (focus exact rfl); (focus exact rfl)) | (apply ResA.cell1; (focus exact inferInstance); (focus exact rfl); (focus exact rfl); (focus exact rfl)))) rfl rfl (by simp [bpLtB, bpLtL, bpLt, nodA, nodX, bp_EB, ren, backS]) (LeA.refl _) ⟨rfl, rfl, rfl⟩
theorem PcopiedN0 (ns : List Nod) (h0 : 0 < ns.length) (hns : ns.length ≤ 1000) (hen : ∀ n ∈ ns, n.entries.length ≤ 1000) : ACall Try.prog 108 [.sl 8 (ns.map nodA) none, .fn 75 []] [] (fun r b t => t = [] ∧ r = .bs 0 0 8 ns.length ns.length ∧ b = [NF ns ns.length]) := by
 have hml : (ns.map nodA).length = ns.length := by simp
 refine enter Try.func108 rfl rfl rfl rfl rfl 1 rfl ?_
 refine w_ (a_ (h:=e_ (q_ (w_ (m_ (h:=n_ (h:=eq_ (h:=e_ (?_)))))))))
 refine aw_cond rfl (fun hb1 => ?_) (fun hb1 => ?_)
 ·have hc1 := bp hb1
  exfalso; first | contradiction | omega
 have hc1 := bp hb1
 refine kt_ (w_ (m_ (h:=n_ (h:=?_))))
 refine al_p rfl (st_makeB (l := 0) (m := ns.length) (k := 0) rfl rfl rfl (by simp) (Nat.zero_le _) h0 (by omega) (by repeat constructor) ?_)
 refine a_ (h:=e_ (q_ (w_ (m_ (h:=n_ (h:=m_ (h:=e_ (aw_block (?_)))))))))
 refine aw_loopW (fun m s => ∃ j : Nat, j ≤ ns.length ∧ m = ns.length - j ∧ s = ⟨look [(1, .fn 75 []), (5, .bs 0 0 8 j ns.length), (14, .sl 8 (ns.map nodA) none), (15, .v (.int .i64 ((ns.map nodA).length : Int))), (16, .v (.int .i64 (j : Int)))], ⟨[NF (ns.take j) ns.length], []⟩⟩) (ns.length) (wb_ 1 0 (by show (bpLtL 1 0 (NF [] ns.length) && true) = true; rw [bp_NF]; rfl)) (⟨0, by omega, rfl, rfl⟩) ?_
 rintro m s ⟨j, hj, rfl, rfl⟩
 refine w_ (lt_ (h:=e_ (q_ (?_))))
 refine aw_cond rfl (fun hb2 => ?_) (fun hb2 => ?_)
 ·have hc2 := bp hb2
  obtain ⟨hlt, x, hy, hrow, -⟩ := row_at nodA hc2
  have hxe := hen x (List.mem_of_getElem? hy)
  have e : (ns.take (j + 1)).map nodF = (ns.take j).map nodF ++ [nodF x] := by
   obtain ⟨hl, e0⟩ := List.getElem?_eq_some_iff.1 hy
   rw [List.take_succ_eq_append_getElem hl, e0, List.map_append]; rfl
  have hlj : ((ns.take j).map nodF).length = j := by simp; omega
  refine kt_ (q_ (aw_block (w_ (i_ (h:=l_ (h:=al_ (h:=s_ (h:=e_ (aw_region (m_ (h:=m_ (h:=l_ (h:=?_)))))))))))))
  refine al_p rfl (st_callC (cy := []) (ys := [.agg (nodA x)]) rfl (by repeat (first | exact Args.nil | refine Args.cons _ _ _ _ _ rfl (argOk_clean rfl) ?_ | refine Args.cons _ _ _ _ _ rfl (argOk_nil _) ?_ | refine Args.cons _ _ _ _ _ rfl (argOk_era _) ?_ | refine Args.cons _ _ _ _ _ rfl (argOk_le rfl (by repeat (first | exact LeA.refl _ | exact LeA.nil _ | exact LeL.refl _ | refine LeA.agg ?_ | refine LeA.tup ?_ | exact LeL.nil | refine LeL.cons ?_ ?_ | exact LeA.any _))) ?_)) rfl rfl (PcopyNodeX x hxe) ?_)
  intro r hr
  rcases entX_or x.entries with he | he
  ·have e9 : nodF x = nodX x (.v (.slice none 0 0)) := by unfold nodF; rw [he]
   rw [e9] at hr
   subst hr
   refine bs_ (h:=?_)
   refine al_p rfl (st_appendB rfl rfl rfl (by rw [NF, rowsB_len (nodF_eight _) (by simp; omega)]; omega) (SrcA.sl _ _) (by simp) (by simp; omega) ?_ (fun h => absurd h (by simp; omega)))
   intro _ row2 bx2 hs1 hs2
   obtain rfl : row2 = NF (ns.take (j + 1)) ns.length := by
    unfold NF
    rw [e, e9]
    exact rowsB_push (nodF_eight _) rfl (by decide) (by rw [hlj]; omega) (by rw [hlj]; exact hs1)
   obtain rfl := (SetAt.one hs2).2
   refine a_ (h:=al_nil (x_blockN (t_ (aw_region (ad_ (h:=m_ (h:=al_nil (?_))))))))
   refine x_then ?_
   refine ⟨_, _, ?_, ⟨j + 1, by omega, rfl, rfl⟩, wb_ 1 0 (by simp [bpLtB, bp_NF])⟩
   omega
  have e9 : nodF x = nodX x (.sl 2 (x.entries.map entA) none) := by unfold nodF; rw [he]
  rw [e9] at hr
  subst hr
  refine bs_ (h:=?_)
  refine al_p rfl (st_appendB rfl rfl rfl (by rw [NF, rowsB_len (nodF_eight _) (by simp; omega)]; omega) (SrcA.sl _ _) (by simp) (by simp; omega) ?_ (fun h => absurd h (by simp; omega)))
  intro _ row2 bx2 hs1 hs2
  obtain rfl : row2 = NF (ns.take (j + 1)) ns.length := by
   unfold NF
   rw [e, e9]
   exact rowsB_push (nodF_eight _) rfl (by decide) (by rw [hlj]; omega) (by rw [hlj]; exact hs1)
  obtain rfl := (SetAt.one hs2).2
  refine a_ (h:=al_nil (x_blockN (t_ (aw_region (ad_ (h:=m_ (h:=al_nil (?_))))))))
  refine x_then ?_
  refine ⟨_, _, ?_, ⟨j + 1, by omega, rfl, rfl⟩, wb_ 1 0 (by simp [bpLtB, bp_NF])⟩
  omega
 have hc2 := bp hb2
 have e := row_no nodA hj hc2
 subst e
 rw [List.take_length]
 refine aw_exit (x_thenE (x_thenE (ABlock_out (t_ (w_ (m_ (h:=a_ (h:=e_ (aw_ret (?_))))))))))
 refine abody_ret (r := .bs 0 0 8 ns.length ns.length) none (by repeat (first | exact ResA.nil | (apply ResA.tmp; (focus exact rfl)) | (apply ResA.cellN; (focus exact inferInstance); (focus exact rfl); (focus exact rfl); (focus exact rfl)) | (apply ResA.cell1; (focus exact inferInstance); (focus exact rfl); (focus exact rfl); (focus exact rfl)))) rfl rfl (by simp [bpLtB, bp_NF]) (LeA.refl _) ⟨rfl, rfl, rfl⟩
end
section
variable {F : AV → AV} (hany : F .any = .any) (hv : ∀ x, F (.v x) = .v x) (hs : ∀ sz rows, F (.sl sz rows none) = .sl sz rows none)
include hv hs
theorem map_nodF (x : Nod) : (nodF x).map F = nodF x := by
 unfold nodF
 rcases entX_or x.entries with h | h <;> rw [h] <;> simp [nodX, hv, hs]
include hany
theorem map_NF (ns : List Nod) (cap : Nat) : (NF ns cap).map F = NF ns cap := by
 unfold NF
 rw [rowsB_map F hany, List.map_map]
 congr 1
 apply List.map_congr_left
 intro n _
 exact map_nodF hv hs n
theorem map_NG (ns : List Nod) (i : Nat) (nI : Nod) {j j' : Nat} (cap cap1 : Nat) (hb : F (.bs j 0 2 nI.entries.length cap) = .bs j' 0 2 nI.entries.length cap) : (NG ns i nI j cap cap1).map F = NG ns i nI j' cap cap1 := by
 unfold NG rowsG
 rw [rowsB_map F hany, List.map_set]
 congr 1
 have e1 : ((ns.map nodF).map fun r => r.map F) = ns.map nodF := by
  rw [List.map_map]
  apply List.map_congr_left
  intro n _
  exact map_nodF hv hs n
 rw [e1]
 congr 1
 simp [nodB, nodX, hv, hb]
end
theorem renK_NF (g : Nat → Option Nat) (ns : List Nod) (cap : Nat) : renKL g (NF ns cap) = NF ns cap := by
 rw [renKL_map]
 exact map_NF rfl (fun _ => rfl) (fun _ _ => rfl) ns cap
theorem ren_NF (g : Nat → Option Nat) (ns : List Nod) (cap : Nat) : renL g (NF ns cap) = NF ns cap := by
 rw [renL_map]
 exact map_NF rfl (fun _ => rfl) (fun _ _ => rfl) ns cap
theorem renK_NG {g : Nat → Option Nat} {j j' : Nat} (h : g j = some j') (ns : List Nod) (i : Nat) (nI : Nod) (cap cap1 : Nat) : renKL g (NG ns i nI j cap cap1) = NG ns i nI j' cap cap1 := by
 rw [renKL_map]
 exact map_NG rfl (fun _ => rfl) (fun _ _ => rfl) ns i nI cap cap1 (by simp [renK, h])
theorem ren_NG {g : Nat → Option Nat} {j j' : Nat} (h : g j = some j') (ns : List Nod) (i : Nat) (nI : Nod) (cap cap1 : Nat) : renL g (NG ns i nI j cap cap1) = NG ns i nI j' cap cap1 := by
 rw [renL_map]
 exact map_NG rfl (fun _ => rfl) (fun _ _ => rfl) ns i nI cap cap1 (by simp [ren, h])
theorem renK_EB (g : Nat → Option Nat) (es : List Ent) (cap : Nat) : renKL g (EB es cap) = EB es cap := by
 rw [renKL_map]
 exact map_plain rfl (fun _ => rfl) (ent_plain es)
theorem back_nodB {bx : List (List AV)} {n : Nat} (hn : bx.length = n) (x : Nod) (l : Nat) : Back bx [] [nodB x 2 l, nodB x 2 l, EB x.entries l] (bx ++ [nodB x (n + 2) l, nodB x (n + 2) l, EB x.entries l]) := by
 subst hn
 have := back_F (bx := bx) (is := []) (bc := [nodB x 2 l, nodB x 2 l, EB x.entries l]) List.nodup_nil (by simp) (by simp)
 have e1 : renL (backS [] bx.length) (nodB x 2 l) = nodB x (bx.length + 2) l := by simp [nodB, nodX, renL, ren, backS]
 simpa [backF, ren_EB, e1] using this
section
set_option maxRecDepth 10000
set_option maxHeartbeats 1000000
theorem PcopiedNG (ns : List Nod) (i : Nat) (nI : Nod) (hi : ns[i]? = some nI) (hE : 0 < nI.entries.length) (hns : ns.length ≤ 1000) (hen : ∀ n ∈ ns, n.entries.length ≤ 1000) : ACall Try.prog 108 [.sl 8 (ns.map nodA) none, .fn 75 []] [] (fun r b t => t = [] ∧ r = .bs 0 0 8 ns.length ns.length ∧ b = [NG ns i nI 1 nI.entries.length ns.length, EB nI.entries nI.entries.length]) := by
 have hml : (ns.map nodA).length = ns.length := by simp
 have hil := (List.getElem?_eq_some_iff.1 hi).1
 have hEn := hen nI (List.mem_of_getElem? hi)
 refine enter Try.func108 rfl rfl rfl rfl rfl 2 rfl ?_
 refine w_ (a_ (h:=e_ (q_ (w_ (m_ (h:=n_ (h:=eq_ (h:=e_ (?_)))))))))
 refine aw_cond rfl (fun hb1 => ?_) (fun hb1 => ?_)
 ·have hc1 := bp hb1
  exfalso; first | contradiction | omega
 have hc1 := bp hb1
 refine kt_ (w_ (m_ (h:=n_ (h:=?_))))
 refine al_p rfl (st_makeB (l := 0) (m := ns.length) (k := 0) rfl rfl rfl (by simp) (Nat.zero_le _) (by omega) (by omega) (by repeat constructor) ?_)
 refine a_ (h:=e_ (q_ (w_ (m_ (h:=n_ (h:=m_ (h:=e_ (aw_block (?_)))))))))
 refine aw_loopW (fun m s => ∃ j : Nat, j ≤ ns.length ∧ m = ns.length - j ∧ ((j ≤ i ∧ s = ⟨look [(1, .fn 75 []), (5, .bs 0 0 8 j ns.length), (14, .sl 8 (ns.map nodA) none), (15, .v (.int .i64 ((ns.map nodA).length : Int))), (16, .v (.int .i64 (j : Int)))], ⟨[NF (ns.take j) ns.length], []⟩⟩) ∨ (i < j ∧ s = ⟨look [(1, .fn 75 []), (5, .bs 0 0 8 j ns.length), (14, .sl 8 (ns.map nodA) none), (15, .v (.int .i64 ((ns.map nodA).length : Int))), (16, .v (.int .i64 (j : Int)))], ⟨[NG (ns.take j) i nI 1 nI.entries.length ns.length, EB nI.entries nI.entries.length], []⟩⟩))) (ns.length) (wb_ 1 0 (by show (bpLtL 1 0 (NF [] ns.length) && true) = true; rw [bp_NF]; rfl)) (⟨0, by omega, rfl, .inl ⟨by omega, rfl⟩⟩) ?_
 rintro m s ⟨j, hj, rfl, ⟨hji, rfl⟩ | ⟨hji, rfl⟩⟩
 rcases Nat.lt_or_eq_of_le hji with hji | rfl
 ·skip
  refine w_ (lt_ (h:=e_ (q_ (?_))))
  refine aw_cond rfl (fun hb2 => ?_) (fun hb2 => ?_)
  ·have hc2 := bp hb2
   obtain ⟨hlt, x, hy, hrow, -⟩ := row_at nodA hc2
   have hxe := hen x (List.mem_of_getElem? hy)
   have e : (ns.take (j + 1)).map nodF = (ns.take j).map nodF ++ [nodF x] := by
    obtain ⟨hl, e0⟩ := List.getElem?_eq_some_iff.1 hy
    rw [List.take_succ_eq_append_getElem hl, e0, List.map_append]; rfl
   have hlj : ((ns.take j).map nodF).length = j := by simp; omega
   refine kt_ (q_ (aw_block (w_ (i_ (h:=l_ (h:=al_ (h:=s_ (h:=e_ (aw_region (m_ (h:=m_ (h:=l_ (h:=?_)))))))))))))
   refine al_p rfl (st_callC (cy := []) (ys := [.agg (nodA x)]) rfl (by repeat (first | exact Args.nil | refine Args.cons _ _ _ _ _ rfl (argOk_clean rfl) ?_ | refine Args.cons _ _ _ _ _ rfl (argOk_nil _) ?_ | refine Args.cons _ _ _ _ _ rfl (argOk_era _) ?_ | refine Args.cons _ _ _ _ _ rfl (argOk_le rfl (by repeat (first | exact LeA.refl _ | exact LeA.nil _ | exact LeL.refl _ | refine LeA.agg ?_ | refine LeA.tup ?_ | exact LeL.nil | refine LeL.cons ?_ ?_ | exact LeA.any _))) ?_)) rfl rfl (PcopyNodeX x hxe) ?_)
   intro r hr
   rcases entX_or x.entries with he | he
   ·have e9 : nodF x = nodX x (.v (.slice none 0 0)) := by unfold nodF; rw [he]
    rw [e9] at hr
    subst hr
    refine bs_ (h:=?_)
    refine al_p rfl (st_appendB rfl rfl rfl (by rw [NF, rowsB_len (nodF_eight _) (by simp; omega)]; omega) (SrcA.sl _ _) (by simp) (by simp; omega) ?_ (fun h => absurd h (by simp; omega)))
    intro _ row2 bx2 hs1 hs2
    obtain rfl : row2 = NF (ns.take (j + 1)) ns.length := by
     unfold NF
     rw [e, e9]
     exact rowsB_push (nodF_eight _) rfl (by decide) (by rw [hlj]; omega) (by rw [hlj]; exact hs1)
    obtain rfl := (SetAt.one hs2).2
    refine a_ (h:=al_nil (x_blockN (t_ (aw_region (ad_ (h:=m_ (h:=al_nil (?_))))))))
    refine x_then ?_
    refine ⟨_, _, ?_, ⟨j + 1, by omega, rfl, .inl ⟨by omega, rfl⟩⟩, wb_ 1 0 (by simp [bpLtB, bp_NF])⟩
    omega
   have e9 : nodF x = nodX x (.sl 2 (x.entries.map entA) none) := by unfold nodF; rw [he]
   rw [e9] at hr
   subst hr
   refine bs_ (h:=?_)
   refine al_p rfl (st_appendB rfl rfl rfl (by rw [NF, rowsB_len (nodF_eight _) (by simp; omega)]; omega) (SrcA.sl _ _) (by simp) (by simp; omega) ?_ (fun h => absurd h (by simp; omega)))
   intro _ row2 bx2 hs1 hs2
   obtain rfl : row2 = NF (ns.take (j + 1)) ns.length := by
    unfold NF
    rw [e, e9]
    exact rowsB_push (nodF_eight _) rfl (by decide) (by rw [hlj]; omega) (by rw [hlj]; exact hs1)
   obtain rfl := (SetAt.one hs2).2
   refine a_ (h:=al_nil (x_blockN (t_ (aw_region (ad_ (h:=m_ (h:=al_nil (?_))))))))
   refine x_then ?_
   refine ⟨_, _, ?_, ⟨j + 1, by omega, rfl, .inl ⟨by omega, rfl⟩⟩, wb_ 1 0 (by simp [bpLtB, bp_NF])⟩
   omega
  have hc2 := bp hb2
  exfalso; first | contradiction | omega
 ·have hrow : (ns.map nodA)[j]? = some (nodA nI) := by rw [List.getElem?_map, hi]; rfl
  refine w_ (lt_ (h:=e_ (q_ (?_))))
  refine aw_cond rfl (fun hb3 => ?_) (fun hb3 => ?_)
  ·have hc3 := bp hb3
   have hlj : ((ns.take j).map nodF).length = j := by simp; omega
   refine kt_ (q_ (aw_block (w_ (?_))))
   refine al_p rfl (st_index rfl rfl rfl hrow ?_)
   refine l_ (h:=al_ (h:=s_ (h:=e_ (aw_region (m_ (h:=m_ (h:=l_ (h:=?_))))))))
   refine al_p rfl (s_callMC [] rfl (.cons _ _ _ _ _ rfl (LeA.refl _) .nil) (by decide) .nil (PcopyNodeB nI hE hEn) ?_)
   rintro r bc tc ⟨rfl, rfl, rfl⟩
   refine ⟨rfl, _, (back_nodB (n := 2) rfl nI nI.entries.length : Back _ [] _ [_, _, _, _, _]), ?_⟩
   refine al_p rfl (st_slit1B rfl rfl rfl rfl (by repeat constructor) ?_)
   refine al_p rfl (st_appendB rfl rfl rfl (by rw [NF, rowsB_len (nodF_eight _) (by simp; omega)]; omega) (SrcA.bs 5 0 1 1 _ rfl (Nat.le_of_ble_eq_true rfl)) (by decide) (by omega) ?_ (fun h => absurd h (by omega)))
   intro _ row2 bx2 hs1 hs2
   obtain rfl : row2 = NG (ns.take (j + 1)) j nI 4 nI.entries.length ns.length := by
    unfold NG
    rw [rowsG_here hi]
    exact rowsB_push (nodF_eight _) rfl (by decide) (by rw [hlj]; omega) (by rw [hlj]; exact hs1)
   obtain rfl := (SetAt.one hs2).2
   refine a_ (h:=al_nil (x_blockN (t_ (aw_region (ad_ (h:=m_ (h:=al_nil (?_))))))))
   refine x_then ?_
   refine ⟨_, _, ?_, ⟨j + 1, by omega, rfl, .inr ⟨by omega, rfl⟩⟩, weak_ren [0, 4] (fun i hi => absurd hi (Nat.not_lt_zero i)) (by decide) (.cons _ _ _ _ _ rfl (renK_NG (by rfl) _ _ _ _ _) (.cons _ _ _ _ _ rfl (renK_EB _ _ _) .nil)) (by repeat (first | exact SubK.nil | refine SubK.cons _ _ _ _ rfl (LeA.refl _) ?_))⟩
   omega
  have hc3 := bp hb3
  exfalso; first | contradiction | omega
 skip
 refine w_ (lt_ (h:=e_ (q_ (?_))))
 refine aw_cond rfl (fun hb4 => ?_) (fun hb4 => ?_)
 ·have hc4 := bp hb4
  obtain ⟨hlt, x, hy, hrow, -⟩ := row_at nodA hc4
  have hxe := hen x (List.mem_of_getElem? hy)
  have e := rowsG_succ (nI := nI) (j := 1) (cap := nI.entries.length) hy hji
  have hlj : (rowsG (ns.take j) i nI 1 nI.entries.length).length = j := by rw [rowsG_len]; simp; omega
  refine kt_ (q_ (aw_block (w_ (i_ (h:=l_ (h:=al_ (h:=s_ (h:=e_ (aw_region (m_ (h:=m_ (h:=l_ (h:=?_)))))))))))))
  refine al_p rfl (st_callC (cy := []) (ys := [.agg (nodA x)]) rfl (by repeat (first | exact Args.nil | refine Args.cons _ _ _ _ _ rfl (argOk_clean rfl) ?_ | refine Args.cons _ _ _ _ _ rfl (argOk_nil _) ?_ | refine Args.cons _ _ _ _ _ rfl (argOk_era _) ?_ | refine Args.cons _ _ _ _ _ rfl (argOk_le rfl (by repeat (first | exact LeA.refl _ | exact LeA.nil _ | exact LeL.refl _ | refine LeA.agg ?_ | refine LeA.tup ?_ | exact LeL.nil | refine LeL.cons ?_ ?_ | exact LeA.any _))) ?_)) rfl rfl (PcopyNodeX x hxe) ?_)
  intro r hr
  rcases entX_or x.entries with he | he
  ·have e9 : nodF x = nodX x (.v (.slice none 0 0)) := by unfold nodF; rw [he]
   rw [e9] at hr
   subst hr
   refine bs_ (h:=?_)
   refine al_p rfl (st_appendB rfl rfl rfl (by rw [NG, rowsB_len (rowsG_eight _ _ _ _ _) (by rw [hlj]; omega)]; omega) (SrcA.sl _ _) (by simp) (by simp; omega) ?_ (fun h => absurd h (by simp; omega)))
   intro _ row2 bx2 hs1 hs2
   obtain rfl : row2 = NG (ns.take (j + 1)) i nI 1 nI.entries.length ns.length := by
    unfold NG
    rw [e, e9]
    exact rowsB_push (rowsG_eight _ _ _ _ _) rfl (by decide) (by rw [hlj]; omega) (by rw [hlj]; exact hs1)
   obtain rfl := (SetAt.one hs2).2
   refine a_ (h:=al_nil (x_blockN (t_ (aw_region (ad_ (h:=m_ (h:=al_nil (?_))))))))
   refine x_then ?_
   refine ⟨_, _, ?_, ⟨j + 1, by omega, rfl, .inr ⟨by omega, rfl⟩⟩, wb_ 2 0 (by simp [bpLtB, bp_NG, bp_EB])⟩
   omega
  have e9 : nodF x = nodX x (.sl 2 (x.entries.map entA) none) := by unfold nodF; rw [he]
  rw [e9] at hr
  subst hr
  refine bs_ (h:=?_)
  refine al_p rfl (st_appendB rfl rfl rfl (by rw [NG, rowsB_len (rowsG_eight _ _ _ _ _) (by rw [hlj]; omega)]; omega) (SrcA.sl _ _) (by simp) (by simp; omega) ?_ (fun h => absurd h (by simp; omega)))
  intro _ row2 bx2 hs1 hs2
  obtain rfl : row2 = NG (ns.take (j + 1)) i nI 1 nI.entries.length ns.length := by
   unfold NG
   rw [e, e9]
   exact rowsB_push (rowsG_eight _ _ _ _ _) rfl (by decide) (by rw [hlj]; omega) (by rw [hlj]; exact hs1)
  obtain rfl := (SetAt.one hs2).2
  refine a_ (h:=al_nil (x_blockN (t_ (aw_region (ad_ (h:=m_ (h:=al_nil (?_))))))))
  refine x_then ?_
  refine ⟨_, _, ?_, ⟨j + 1, by omega, rfl, .inr ⟨by omega, rfl⟩⟩, wb_ 2 0 (by simp [bpLtB, bp_NG, bp_EB])⟩
  omega
 have hc4 := bp hb4
 have e := row_no nodA hj hc4
 subst e
 rw [List.take_length]
 refine aw_exit (x_thenE (x_thenE (ABlock_out (t_ (w_ (m_ (h:=a_ (h:=e_ (aw_ret (?_))))))))))
 refine abody_ret (r := .bs 0 0 8 ns.length ns.length) none (by repeat (first | exact ResA.nil | (apply ResA.tmp; (focus exact rfl)) | (apply ResA.cellN; (focus exact inferInstance); (focus exact rfl); (focus exact rfl); (focus exact rfl)) | (apply ResA.cell1; (focus exact inferInstance); (focus exact rfl); (focus exact rfl); (focus exact rfl)))) rfl rfl (by simp [bpLtB, bp_NG, bp_EB]) (LeA.refl _) ⟨rfl, rfl, rfl⟩
end
def FB (f : Fls) (cap : Nat) : List AV := rowsB 2 cap (f.map dvcA)
theorem bp_FB {n m : Nat} (f : Fls) (cap : Nat) : bpLtL n m (FB f cap) = true := by
 refine bpLt_rowsB fun r hr => ?_
 obtain ⟨d, _, rfl⟩ := List.mem_map.1 hr
 rfl
theorem devB_succ {f : Fls} {K q : Nat} {dK x : Dvc} {j cap : Nat} (hx : f[q]? = some x) (hK : K < q) : devB (f.take (q + 1)) K dK j cap = devB (f.take q) K dK j cap ++ [dvcA x] := by
 obtain ⟨hlt, e⟩ := List.getElem?_eq_some_iff.1 hx
 unfold devB
 rw [List.take_succ_eq_append_getElem hlt, e, List.map_append, List.set_append_left _ _ (by simp; omega)]
 rfl
theorem devB_here {f : Fls} {K : Nat} {dK : Dvc} {j cap : Nat} (hx : f[K]? = some dK) : devB (f.take (K + 1)) K dK j cap = (f.take K).map dvcA ++ [devR dK j cap] := by
 obtain ⟨hlt, e⟩ := List.getElem?_eq_some_iff.1 hx
 unfold devB
 have hl : ((f.take K).map dvcA).length = K := by simp; omega
 rw [List.take_succ_eq_append_getElem hlt, e, List.map_append, List.set_append_right _ _ (by omega), hl, Nat.sub_self]
 rfl
theorem back_dev0 {bx : List (List AV)} {n : Nat} (hn : bx.length = n) (d : Dvc) (m : Nat) (ns : List Nod) (cap : Nat) : Back bx [] [devR d 2 m, devR d 2 m, NF ns cap] (bx ++ [devR d (n + 2) m, devR d (n + 2) m, NF ns cap]) := by
 subst hn
 have := back_F (bx := bx) (is := []) (bc := [devR d 2 m, devR d 2 m, NF ns cap]) List.nodup_nil (by simp) (by simp)
 have e1 : renL (backS [] bx.length) (devR d 2 m) = devR d (bx.length + 2) m := by simp [devR, renL, ren, backS]
 simpa [backF, ren_NF, e1] using this
theorem back_devG {bx : List (List AV)} {n : Nat} (hn : bx.length = n) (d : Dvc) (m : Nat) (ns : List Nod) (i : Nat) (nI : Nod) (l cap : Nat) (es : List Ent) (cap2 : Nat) : Back bx [] [devR d 2 m, devR d 2 m, NG ns i nI 3 l cap, EB es cap2] (bx ++ [devR d (n + 2) m, devR d (n + 2) m, NG ns i nI (n + 3) l cap, EB es cap2]) := by
 subst hn
 have := back_F (bx := bx) (is := []) (bc := [devR d 2 m, devR d 2 m, NG ns i nI 3 l cap, EB es cap2]) List.nodup_nil (by simp) (by simp)
 have e1 : renL (backS [] bx.length) (devR d 2 m) = devR d (bx.length + 2) m := by simp [devR, renL, ren, backS]
 have e2 : renL (backS [] bx.length) (NG ns i nI 3 l cap) = NG ns i nI (bx.length + 3) l cap := ren_NG (by simp [backS]) _ _ _ _ _
 simpa [backF, ren_EB, e1, e2] using this
theorem back_devs0 {bx : List (List AV)} {n : Nat} (hn : bx.length = n) (f : Fls) (K : Nat) (d : Dvc) (cap cap1 : Nat) (ns : List Nod) (cap2 : Nat) : Back bx [] [DB f K d 1 cap cap1, NF ns cap2] (bx ++ [DB f K d (n + 1) cap cap1, NF ns cap2]) := by
 subst hn
 have := back_F (bx := bx) (is := []) (bc := [DB f K d 1 cap cap1, NF ns cap2]) List.nodup_nil (by simp) (by simp)
 have e1 : renL (backS [] bx.length) (DB f K d 1 cap cap1) = DB f K d (bx.length + 1) cap cap1 := ren_DB (by simp [backS]) _ _ _ _ _
 simpa [backF, ren_NF, e1] using this
theorem back_devsG {bx : List (List AV)} {n : Nat} (hn : bx.length = n) (f : Fls) (K : Nat) (d : Dvc) (cap cap1 : Nat) (ns : List Nod) (i : Nat) (nI : Nod) (l cap2 : Nat) (es : List Ent) (cap3 : Nat) : Back bx [] [DB f K d 1 cap cap1, NG ns i nI 2 l cap2, EB es cap3] (bx ++ [DB f K d (n + 1) cap cap1, NG ns i nI (n + 2) l cap2, EB es cap3]) := by
 subst hn
 have := back_F (bx := bx) (is := []) (bc := [DB f K d 1 cap cap1, NG ns i nI 2 l cap2, EB es cap3]) List.nodup_nil (by simp) (by simp)
 have e1 : renL (backS [] bx.length) (DB f K d 1 cap cap1) = DB f K d (bx.length + 1) cap cap1 := ren_DB (by simp [backS]) _ _ _ _ _
 have e2 : renL (backS [] bx.length) (NG ns i nI 2 l cap2) = NG ns i nI (bx.length + 2) l cap2 := ren_NG (by simp [backS]) _ _ _ _ _
 simpa [backF, ren_EB, e1, e2] using this
section
set_option maxRecDepth 10000
set_option maxHeartbeats 1000000
theorem PcopiedNA (ns : List Nod) (hns : ns.length ≤ 1000) (hen : ∀ n ∈ ns, n.entries.length ≤ 1000) : AFn Try.prog 108 [.sl 8 (ns.map nodA) none, .fn 75 []] (fun r => r = .sl 8 (ns.map nodA) none) := by
 have hml : (ns.map nodA).length = ns.length := by simp
 refine enter Try.func108 rfl rfl rfl rfl rfl 0 rfl ?_
 refine w_ (a_ (h:=e_ (q_ (w_ (m_ (h:=n_ (h:=eq_ (h:=e_ (?_)))))))))
 refine aw_cond rfl (fun hb1 => ?_) (fun hb1 => ?_)
 ·have hc1 := bp hb1
  refine w_ (a_ (h:=e_ (aw_ret (x_thenR (?_)))))
  refine rt_ (r := .sl 8 (ns.map nodA) none) none (h5 := ?_) (h6 := ⟨rfl, rfl, rfl⟩)
  rw [show ns = [] from List.eq_nil_of_length_eq_zero (by omega)]
  exact LeA.nil _
 have hc1 := bp hb1
 refine kt_ (w_ (m_ (h:=n_ (h:=ms_ (h:=a_ (h:=e_ (q_ (w_ (m_ (h:=n_ (h:=m_ (h:=e_ (aw_block (?_))))))))))))))
 refine aw_loopW (fun m s => ∃ j : Nat, j ≤ ns.length ∧ m = ns.length - j ∧ s = ⟨look [(1, .fn 75 []), (5, .sl 8 ((ns.take j).map nodA) (some 0)), (14, .sl 8 (ns.map nodA) none), (15, .v (.int .i64 ((ns.map nodA).length : Int))), (16, .v (.int .i64 (j : Int)))], ⟨[], [(34, 8, (ns.take j).map nodA)]⟩⟩) (ns.length) ((wk 0 1)) (⟨0, by omega, rfl, rfl⟩) ?_
 rintro m s ⟨j, hj, rfl, rfl⟩
 refine w_ (lt_ (h:=e_ (q_ (?_))))
 refine aw_cond rfl (fun hb2 => ?_) (fun hb2 => ?_)
 ·have hc2 := bp hb2
  obtain ⟨hlt, x, hy, hrow, e⟩ := row_at nodA hc2
  have hxe := hen x (List.mem_of_getElem? hy)
  refine kt_ (q_ (aw_block (w_ (i_ (h:=l_ (h:=al_ (h:=s_ (h:=e_ (aw_region (m_ (h:=m_ (h:=l_ (h:=?_)))))))))))))
  refine al_p rfl (st_callC (cy := []) (ys := [.agg (nodA x)]) rfl (by repeat (first | exact Args.nil | refine Args.cons _ _ _ _ _ rfl (argOk_clean rfl) ?_ | refine Args.cons _ _ _ _ _ rfl (argOk_nil _) ?_ | refine Args.cons _ _ _ _ _ rfl (argOk_era _) ?_ | refine Args.cons _ _ _ _ _ rfl (argOk_le rfl (by repeat (first | exact LeA.refl _ | exact LeA.nil _ | exact LeL.refl _ | refine LeA.agg ?_ | refine LeA.tup ?_ | exact LeL.nil | refine LeL.cons ?_ ?_ | exact LeA.any _))) ?_)) rfl rfl (PcopyNode x hxe) ?_)
  rintro r rfl
  refine bs_ (h:=?_)
  first | refine al_p rfl (s_append rfl rfl rfl (by simp; omega) (by repeat constructor) ?_) | refine al_p rfl (s_append0 rfl rfl (by simp; omega) (by repeat constructor) ?_)
  refine a_ (h:=al_nil (x_blockN (t_ (aw_region (ad_ (h:=m_ (h:=al_nil (?_))))))))
  refine x_then ?_
  refine ⟨_, _, ?_, ⟨j + 1, by omega, rfl, rfl⟩, (by rw [e]; exact (wk 0 1))⟩
  omega
 have hc2 := bp hb2
 have e := row_no nodA hj hc2
 subst e
 rw [List.take_length]
 refine aw_exit (x_thenE (x_thenE (ABlock_out (t_ (w_ (m_ (h:=a_ (h:=e_ (aw_ret (?_))))))))))
 refine e_ret ?_
 rfl
theorem PcopyDevA (d : Dvc) (hns : d.nodes.length ≤ 1000) (hen : ∀ n ∈ d.nodes, n.entries.length ≤ 1000) : AFn Try.prog 92 [.agg (dvcA d)] (fun r => r = .agg (dvcA d)) := by
 refine enter Try.func92 rfl rfl rfl rfl rfl 0 rfl ?_
 refine w_ (b_ (h:=al_ (h:=e_ (w_ (f_ (h:=l_ (h:=?_)))))))
 refine al_p rfl (q_call (PcopiedNA d.nodes hns hen) ?_)
 rintro r rfl
 refine f_ (h:=s_ (h:=e_ (w_ (l_ (h:=s_ (h:=e_ (aw_ret (?_))))))))
 refine e_ret ?_
 rfl
theorem PcopyDev0 (d : Dvc) (h0 : 0 < d.nodes.length) (hns : d.nodes.length ≤ 1000) (hen : ∀ n ∈ d.nodes, n.entries.length ≤ 1000) : ACall Try.prog 92 [.agg (dvcA d)] [] (fun r b t => t = [] ∧ r = .agg (devR d 2 d.nodes.length) ∧ b = [devR d 2 d.nodes.length, devR d 2 d.nodes.length, NF d.nodes d.nodes.length]) := by
 refine enter Try.func92 rfl rfl rfl rfl rfl 3 rfl ?_
 refine w_ (b_ (h:=al_ (h:=e_ (w_ (f_ (h:=l_ (h:=?_)))))))
 refine al_p rfl (s_callM [] rfl (.cons _ _ _ _ _ rfl (LeA.refl _) (.cons _ _ _ _ _ rfl (LeA.refl _) .nil)) (by decide) .nil (PcopiedN0 d.nodes h0 hns hen) ?_)
 rintro r bc tc ⟨rfl, rfl, rfl⟩
 refine ⟨rfl, _, (back_new1 _ (ren_NF _ _ _) : Back _ [] _ [_, _, _]), ?_⟩
 refine f_ (h:=s_ (h:=e_ (w_ (l_ (h:=s_ (h:=e_ (aw_ret (?_))))))))
 refine abody_ret none (by repeat (first | exact ResA.nil | (apply ResA.tmp; (focus exact rfl)) | (apply ResA.cellN; (focus exact inferInstance); (focus exact rfl); (focus exact rfl); (focus exact rfl)) | (apply ResA.cell1; (focus exact inferInstance); (focus exact rfl); (focus exact rfl); (focus exact rfl)))) rfl rfl (by simp [bpLtB, bpLtL, bpLt, dvcA, devR, bp_NF, ren, backS]) (LeA.refl _) ⟨rfl, rfl, rfl⟩
theorem PcopyDevG (d : Dvc) (i : Nat) (nI : Nod) (hi : d.nodes[i]? = some nI) (hE : 0 < nI.entries.length) (hns : d.nodes.length ≤ 1000) (hen : ∀ n ∈ d.nodes, n.entries.length ≤ 1000) : ACall Try.prog 92 [.agg (dvcA d)] [] (fun r b t => t = [] ∧ r = .agg (devR d 2 d.nodes.length) ∧ b = [devR d 2 d.nodes.length, devR d 2 d.nodes.length, NG d.nodes i nI 3 nI.entries.length d.nodes.length, EB nI.entries nI.entries.length]) := by
 have hbk : ∀ bx : List (List AV), Back bx [] [NG d.nodes i nI 1 nI.entries.length d.nodes.length, EB nI.entries nI.entries.length] (bx ++ [NG d.nodes i nI (bx.length + 1) nI.entries.length d.nodes.length, EB nI.entries nI.entries.length]) := fun bx => by
  have := back_F (bx := bx) (is := []) (bc := [NG d.nodes i nI 1 nI.entries.length d.nodes.length, EB nI.entries nI.entries.length]) List.nodup_nil (by simp) (by simp)
  have e2 : renL (backS [] bx.length) (NG d.nodes i nI 1 nI.entries.length d.nodes.length) = NG d.nodes i nI (bx.length + 1) nI.entries.length d.nodes.length := ren_NG (by simp [backS]) _ _ _ _ _
  simpa [backF, ren_EB, e2] using this
 refine enter Try.func92 rfl rfl rfl rfl rfl 4 rfl ?_
 refine w_ (b_ (h:=al_ (h:=e_ (w_ (f_ (h:=l_ (h:=?_)))))))
 refine al_p rfl (s_callM [] rfl (.cons _ _ _ _ _ rfl (LeA.refl _) (.cons _ _ _ _ _ rfl (LeA.refl _) .nil)) (by decide) .nil (PcopiedNG d.nodes i nI hi hE hns hen) ?_)
 rintro r bc tc ⟨rfl, rfl, rfl⟩
 refine ⟨rfl, _, (hbk _ : Back _ [] _ [_, _, _, _]), ?_⟩
 refine f_ (h:=s_ (h:=e_ (w_ (l_ (h:=s_ (h:=e_ (aw_ret (?_))))))))
 refine abody_ret none (by repeat (first | exact ResA.nil | (apply ResA.tmp; (focus exact rfl)) | (apply ResA.cellN; (focus exact inferInstance); (focus exact rfl); (focus exact rfl); (focus exact rfl)) | (apply ResA.cell1; (focus exact inferInstance); (focus exact rfl); (focus exact rfl); (focus exact rfl)))) rfl rfl (by simp [bpLtB, bpLtL, bpLt, dvcA, devR, bp_NG, bp_EB, ren, backS]) (LeA.refl _) ⟨rfl, rfl, rfl⟩
end
def QB (ns : List Nod) (P : Nat) (n : Nod) (e : AV) (cap : Nat) : List AV := rowsB 8 cap (nodsB ns P n e)
theorem map_QB {F : AV → AV} (hany : F .any = .any) (hv : ∀ x, F (.v x) = .v x) (hs : ∀ sz rows, F (.sl sz rows none) = .sl sz rows none) (ns : List Nod) (P : Nat) (n : Nod) (e : AV) (cap : Nat) : (QB ns P n e cap).map F = QB ns P n (F e) cap := by
 unfold QB nodsB
 rw [rowsB_map F hany, List.map_set]
 congr 1
 have e1 : ((ns.map nodA).map fun r => r.map F) = ns.map nodA := by
  rw [List.map_map]
  apply List.map_congr_left
  intro n _
  simp [nodA, hv, hs]
 rw [e1]
 congr 1
 simp [nodR, hv]
theorem ren_QB (g : Nat → Option Nat) (ns : List Nod) (P : Nat) (n : Nod) (e : AV) (cap : Nat) : renL g (QB ns P n e cap) = QB ns P n (ren g e) cap := by
 rw [renL_map]
 exact map_QB rfl (fun _ => rfl) (fun _ _ => rfl) ns P n e cap
theorem low_QB (g : Nat → Option (List AV)) (ns : List Nod) (P : Nat) (n : Nod) (e : AV) (cap : Nat) : lowGL g (QB ns P n e cap) = QB ns P n (lowG g e) cap := by
 rw [lowGL_map]
 exact map_QB rfl (fun _ => rfl) (fun _ _ => rfl) ns P n e cap
theorem bp_QB {n m : Nat} {ns : List Nod} {P : Nat} {nP : Nod} {e : AV} {cap : Nat} (he : bpLt n m e = true) : bpLtL n m (QB ns P nP e cap) = true := by
 refine bpLt_rowsB fun r hr => ?_
 rcases List.mem_or_eq_of_mem_set hr with h | h
 ·obtain ⟨d', _, rfl⟩ := List.mem_map.1 h
  rfl
 rw [h]; simp [nodR, bpLtL, bpLt, he]
theorem QB_len {ns : List Nod} {P : Nat} {n : Nod} {e : AV} {cap : Nat} (h : ns.length ≤ cap) : (QB ns P n e cap).length = cap * 8 := rowsB_len (nodsB_eight _ _ _ _) (by rw [nodsB_len]; exact h)
theorem QB_get {ns : List Nod} {P : Nat} {n : Nod} {e x : AV} {cap k : Nat} (hP : P < ns.length) (hx : (nodR n e)[k]? = some x) : (QB ns P n e cap)[0 + P * 8 + k]? = some x := rowsB_get (nodsB_eight _ _ _ _) (by unfold nodsB; rw [List.getElem?_set_self (by simpa using hP)]) hx
theorem nodsB_set (ns : List Nod) (P : Nat) (n n' : Nod) (e e' : AV) : (nodsB ns P n e).set P (nodR n' e') = nodsB ns P n' e' := by unfold nodsB; rw [List.set_set]
theorem QB_set {ns : List Nod} {P : Nat} {n n' : Nod} {e e' : AV} {cap k : Nat} {cs : List AV} (hP : P < ns.length) (hs : SetAt (nodR n e) k cs (nodR n' e')) (hne : cs ≠ []) : SetAt (QB ns P n e cap) (0 + P * 8 + k) cs (QB ns P n' e' cap) := by
 have := rowsB_set (cap := cap) (q := P) (k := k) (nodsB_eight ns P n e) (by unfold nodsB; rw [List.getElem?_set_self (by simpa using hP)]) hs hne
 rwa [nodsB_set] at this
theorem nodsB_sl (ns : List Nod) (P : Nat) (n : Nod) (hP : P < ns.length) : nodsB ns P n (.sl 2 (n.entries.map entA) none) = (ns.set P n).map nodA := by
 unfold nodsB
 rw [List.map_set]
 rfl
theorem back_QB {bx : List (List AV)} {k : Nat} (hn : bx.length = k) (f : Fls) (K : Nat) (d : Dvc) (cap cap1 : Nat) (P : Nat) (n : Nod) (es : List Ent) (l cap2 cap3 : Nat) : Back bx [] [DB f K d 1 cap cap1, QB d.nodes P n (.bs 2 0 2 l cap2) cap1, EB es cap3] (bx ++ [DB f K d (k + 1) cap cap1, QB d.nodes P n (.bs (k + 2) 0 2 l cap2) cap1, EB es cap3]) := by
 subst hn
 have := back_F (bx := bx) (is := []) (bc := [DB f K d 1 cap cap1, QB d.nodes P n (.bs 2 0 2 l cap2) cap1, EB es cap3]) List.nodup_nil (by simp) (by simp)
 have e1 : renL (backS [] bx.length) (DB f K d 1 cap cap1) = DB f K d (bx.length + 1) cap cap1 := ren_DB (by simp [backS]) _ _ _ _ _
 have e2 : renL (backS [] bx.length) (QB d.nodes P n (.bs 2 0 2 l cap2) cap1) = QB d.nodes P n (.bs (bx.length + 2) 0 2 l cap2) cap1 := by rw [ren_QB]; simp [ren, backS]
 simpa [backF, ren_EB, e1, e2] using this
theorem back_QB0 {bx : List (List AV)} {k : Nat} (hn : bx.length = k) (f : Fls) (K : Nat) (d : Dvc) (cap cap1 : Nat) (P : Nat) (n : Nod) : Back bx [] [DB f K d 1 cap cap1, QB d.nodes P n (.v (.slice none 0 0)) cap1] (bx ++ [DB f K d (k + 1) cap cap1, QB d.nodes P n (.v (.slice none 0 0)) cap1]) := by
 subst hn
 have := back_F (bx := bx) (is := []) (bc := [DB f K d 1 cap cap1, QB d.nodes P n (.v (.slice none 0 0)) cap1]) List.nodup_nil (by simp) (by simp)
 have e1 : renL (backS [] bx.length) (DB f K d 1 cap cap1) = DB f K d (bx.length + 1) cap cap1 := ren_DB (by simp [backS]) _ _ _ _ _
 have e2 : renL (backS [] bx.length) (QB d.nodes P n (.v (.slice none 0 0)) cap1) = QB d.nodes P n (.v (.slice none 0 0)) cap1 := by rw [ren_QB]; rfl
 simpa [backF, e1, e2] using this
theorem low_QB3 {n : Nat} {bx : List (List AV)} {i0 i1 : Nat} {f : Fls} {q : Nat} {d : Dvc} {ns : List Nod} {P : Nat} {nP : Nod} {e : AV} {es : List Ent} {cap cap0 cap1 : Nat} (hq : q < f.length) (hc : f.length ≤ cap) (hdn : d.nodes = ns.set P { nP with entries := es }) (hP : P < ns.length) (hc1 : ns.length ≤ cap1) (hn0 : n ≤ i0) (hn1 : n ≤ i1)
    (h0 : bx[i0]? = some (DB f q d i1 cap cap1)) (h1 : bx[i1]? = some (QB ns P nP e cap1)) (he : lowG (frzG n bx 1) e = .sl 2 (es.map entA) none) : lowG (frzG n bx 3) (.agg [.bs i0 0 2 f.length cap0]) = .agg (flsA (f.set q d)) := by
 have hdl : d.nodes.length = ns.length := by rw [hdn, List.length_set]
 have b1 : Nat.blt i1 n = false := by rw [← Bool.not_eq_true, Nat.blt_eq]; omega
 have b0 : Nat.blt i0 n = false := by rw [← Bool.not_eq_true, Nat.blt_eq]; omega
 have f1 : frzG n bx 2 i1 = some (NB d.nodes cap1) := by
  rw [show (2 : Nat) = 1 + 1 from rfl, frzG]
  simp only [b1, h1, Option.map_some, low_QB, he]
  have : nodsB ns P nP (.sl 2 (es.map entA) none) = (ns.set P { nP with entries := es }).map nodA := nodsB_sl ns P { nP with entries := es } hP
  unfold QB NB
  rw [this, hdn]
 have hq' : (f.set q d)[q]? = some d := by simp [hq]
 have f0 : frzG n bx 3 i0 = some (rowsB 2 cap ((f.set q d).map dvcA)) := by
  rw [show (3 : Nat) = 2 + 1 from rfl, frzG]
  simp only [b0, h0, Option.map_some, lowGL_map]
  rw [← DB_any f q d d, map_DBlow rfl (fun _ => rfl) (fun _ _ => rfl) hq']
  exact lowG_rows f1 (nods_eight _) (by simp) (by rw [List.length_map, hdl]; exact hc1)
 show AV.agg [lowG _ _] = _
 unfold flsA
 rw [lowG_rows f0 (dvcs_two _) (by simp) (by simpa using hc)]
theorem range_no {p : Nat → Bool} {n j : Nat} (hj : j < n) (h : p j = false) : (List.range n).all p = false := List.all_eq_false.2 ⟨j, List.mem_range.2 hj, by rw [h]; simp⟩
theorem range_yes {p : Nat → Bool} {n : Nat} (h : ∀ i, i < n → p i = true) : (List.range n).all p = true := List.all_eq_true.2 fun i hi => h i (List.mem_range.1 hi)
theorem upto_next {p : Nat → Bool} {j : Nat} (h : ∀ i, i < j → p i = true) (hj : p j = true) : ∀ i, i < j + 1 → p i = true := fun i hi => by
 by_cases e : i = j
 ·rw [e]; exact hj
 exact h i (by omega)
structure FlsT (f : Fls) : Prop where
 b : FlsB f
 nm : ∀ d ∈ f, ∀ n ∈ d.nodes, ∀ e ∈ n.entries, e.1.size ≤ 100000
 tg : ∀ d ∈ f, ∀ n ∈ d.nodes, n.target.size ≤ 100000
def preE (es : List Ent) (i : Nat) (x : Ent) : Bool := match es[i - 1]? with
 | some y => !strLt y.1 x.1
 | none => false
def entAt (f : Fls) (dev : Int) (es : List Ent) (i : Nat) : Bool := match es[i]? with
 | none => true
 | some x => if nameL x.1 = false then false else if 0 < i ∧ preE es i x = true then false else if x.2 = 1 then false else if indexL f (dev, x.2) < 0 then false else true
def entsR (f : Fls) (dev : Int) (es : List Ent) : Bool := if 12 < es.length then false else (List.range es.length).all (entAt f dev es)
theorem ents_no {f : Fls} {dev : Int} {es : List Ent} {j : Nat} (hl : ¬ 12 < es.length) (hj : j < es.length) (h : entAt f dev es j = false) : entsR f dev es = false := by
 unfold entsR
 rw [if_neg hl]
 exact range_no hj h
theorem ents_yes {f : Fls} {dev : Int} {es : List Ent} (hl : ¬ 12 < es.length) (h : ∀ i, i < es.length → entAt f dev es i = true) : entsR f dev es = true := by
 unfold entsR
 rw [if_neg hl]
 exact range_yes h
theorem pre_at {es : List Ent} {i : Nat} {x y : Ent} (h : es[i - 1]? = some y) : preE es i x = !strLt y.1 x.1 := by unfold preE; rw [h]
def itP (d : Dvc) : Nat → Int → Int
 | 0, x => x
 | k + 1, x => itP d k (parentL d x)
def rchAt (d : Dvc) (i : Nat) : Bool := match d.nodes[i]? with
 | none => true
 | some n => if n.kind = 2 then decide (itP d d.nodes.length n.ino = 1) else true
def rchR (d : Dvc) : Bool := (List.range d.nodes.length).all (rchAt d)
section
set_option maxRecDepth 10000
set_option maxHeartbeats 1000000
theorem Rents (f : Fls) (dev : Int) (n : Nod) (hf : FlsB f) (hn : n.entries.length ≤ 1000) (hnm : ∀ e ∈ n.entries, e.1.size ≤ 100000) : AFn Try.prog 100 [.agg (flsA f), .v (.int .i64 dev), .agg (nodA n)] (fun r => r = .v (.bool (entsR f dev n.entries))) := by
 have hel : (n.entries.map entA).length = n.entries.length := by simp
 refine enter Try.func100 rfl rfl rfl rfl rfl 0 rfl ?_
 refine w_ (b_ (h:=b_ (h:=a_ (h:=e_ (q_ (w_ (f_ (h:=l_ (h:=n_ (h:=gt_ (h:=e_ (?_))))))))))))
 refine aw_cond rfl (fun hb1 => ?_) (fun hb1 => ?_)
 ·have hc1 := bp hb1
  refine w_ (a_ (h:=e_ (aw_ret (x_thenR (?_)))))
  refine e_ret ?_
  exact vb (by unfold entsR; rw [if_pos (by omega)])
 have hc1 := bp hb1
 refine kt_ (q_ (w_ (a_ (h:=e_ (aw_block (?_))))))
 refine aw_loopW (fun m t => ∃ j : Nat, j ≤ n.entries.length ∧ m = n.entries.length - j ∧ (∀ i, i < j → entAt f dev n.entries i = true) ∧ t = ⟨look [(1, .v (.int .i64 dev)), (3, .bp 0 0), (5, .bp 1 0), (7, .v (.int .i64 (j : Int)))], ⟨[flsA f, nodA n], []⟩⟩) (n.entries.length) ((wk 2 0)) (⟨0, by omega, rfl, fun i hi => by omega, rfl⟩) ?_
 rintro m t ⟨j, hj, rfl, ha, rfl⟩
 refine q_ (w_ (m_ (h:=f_ (h:=l_ (h:=n_ (h:=lt_ (h:=e_ (?_))))))))
 refine aw_cond rfl (fun hb2 => ?_) (fun hb2 => ?_)
 ·have hc2 := bp hb2
  obtain ⟨hlt, x, hy, hrow, -⟩ := row_at entA hc2
  refine kt_ (q_ (aw_block (w_ (f_ (h:=l_ (h:=m_ (h:=i_ (h:=l_ (h:=al_ (h:=s_ (h:=e_ (q_ (yr_ 34 (h:=df_ 0 (h:=dl_ 1 (h:=?_))))))))))))))))
  refine c_ 2 rfl (q_call (Rname x.1 (hnm x (List.mem_of_getElem? hy))) ?_)
  rintro r rfl
  refine o_ (h:=dnt_ 3 (h:=dm_ 4 (h:=?_)))
  refine aa_both (j := 4) rfl (fun hb3 => ?_) (fun hb3 => ?_)
  ·have hc3 := bp hb3
   refine d0_ 5 (h:=d0_ 6 (h:=d0_ 7 (h:=d0_ 8 (h:=d0_ 9 (h:=d0_ 10 (h:=d0_ 11 (h:=d0_ 12 (h:=d0_ 13 (h:=d0_ 14 (h:=d0_ 15 (h:=d0_ 16 (h:=d0_ 17 (h:=d0_ 18 (h:=dpt_ 19 (h:=dm_ 20 (h:=d0_ 21 (h:=d0_ 22 (h:=d0_ 23 (h:=dpt_ 24 (h:=dm_ 25 (h:=d0_ 26 (h:=d0_ 27 (h:=d0_ 28 (h:=?_))))))))))))))))))))))))
   refine d0_ 29 (h:=d0_ 30 (h:=d0_ 31 (h:=d0_ 32 (h:=dpt_ 33 (h:=z_ (h:=t_ (cy_ (h:=w_ (a_ (h:=e_ (aw_ret (x_blockR (x_thenR (x_thenR (x_blockR (x_thenR (?_)))))))))))))))))
   refine e_ret ?_
   exact vb (ents_no (by omega) hlt (by unfold entAt; simp only [hy]; simp_all [strLt])).symm
  have hc3 := bp hb3
  refine dm_ 5 (h:=dgt_ 6 (h:=dm_ 7 (h:=?_)))
  refine aa_both (j := 7) rfl (fun hb4 => ?_) (fun hb4 => ?_)
  ·have hc4 := bp hb4
   obtain ⟨hlt1, y, hy1, hrow1, -⟩ := row_at (l := n.entries) (k := j - 1) entA (by omega)
   have hpre := pre_at (x := x) hy1
   refine df_ 8 (h:=dl_ 9 (h:=dm_ 10 (h:=dsb_ 11 (h:=?_))))
   refine r_y (i := 12) rfl (st_index (n := j - 1) rfl rfl (by omega) hrow1 ⟨rfl, rfl⟩) ?_
   refine df_ 13 (h:=dl_ 14 (h:=df_ 15 (h:=dl_ 16 (h:=dge_ 17 (h:=dpt_ 18 (h:=dpf_ 19 (h:=dm_ 20 (h:=?_))))))))
   refine aa_both (j := 20) rfl (fun hb5 => ?_) (fun hb5 => ?_)
   ·have hc5 := bp hb5
    refine d0_ 21 (h:=d0_ 22 (h:=d0_ 23 (h:=dpt_ 24 (h:=dm_ 25 (h:=d0_ 26 (h:=d0_ 27 (h:=d0_ 28 (h:=d0_ 29 (h:=d0_ 30 (h:=d0_ 31 (h:=d0_ 32 (h:=dpt_ 33 (h:=z_ (h:=t_ (cy_ (h:=w_ (a_ (h:=e_ (aw_ret (x_blockR (x_thenR (x_thenR (x_blockR (?_))))))))))))))))))))))))
    refine x_thenR (?_)
    refine e_ret ?_
    exact vb (ents_no (by omega) hlt (by unfold entAt; simp only [hy]; simp_all [strLt])).symm
   have hc5 := bp hb5
   refine df_ 21 (h:=dl_ 22 (h:=deq_ 23 (h:=dpf_ 24 (h:=dm_ 25 (h:=?_)))))
   refine aa_both (j := 25) rfl (fun hb6 => ?_) (fun hb6 => ?_)
   ·have hc6 := bp hb6
    refine d0_ 26 (h:=d0_ 27 (h:=d0_ 28 (h:=d0_ 29 (h:=d0_ 30 (h:=d0_ 31 (h:=d0_ 32 (h:=dpt_ 33 (h:=z_ (h:=t_ (cy_ (h:=w_ (a_ (h:=e_ (aw_ret (x_blockR (x_thenR (x_thenR (x_blockR (x_thenR (?_))))))))))))))))))))
    refine e_ret ?_
    exact vb (ents_no (by omega) hlt (by unfold entAt; simp only [hy]; simp_all [strLt])).symm
   have hc6 := bp hb6
   refine dl_ 26 (h:=dm_ 27 (h:=df_ 28 (h:=dl_ 29 (h:=dbd_ 30 (h:=?_)))))
   refine c_ 31 rfl (q_call (Rindex f (dev, x.2) hf) ?_)
   rintro r rfl
   refine o_ (h:=dlt_ 32 (h:=dpf_ 33 (h:=z_ (h:=t_ (?_)))))
   refine aw_cond rfl (fun hb7 => ?_) (fun hb7 => ?_)
   ·have hc7 := bp hb7
    refine w_ (a_ (h:=e_ (aw_ret (x_blockR (x_thenR (x_thenR (x_blockR (x_thenR (?_)))))))))
    refine e_ret ?_
    exact vb (ents_no (by omega) hlt (by unfold entAt; simp only [hy]; simp_all [strLt])).symm
   have hc7 := bp hb7
   refine aw_skip (x_blockN (t_ (aw_region (m_ (h:=ad_ (h:=a_ (h:=al_nil (?_))))))))
   refine x_then ?_
   refine ⟨_, _, ?_, ⟨j + 1, by omega, rfl, upto_next ha (by unfold entAt; simp only [hy]; simp_all [strLt]), rfl⟩, (wk 2 0)⟩
   omega
  have hc4 := bp hb4
  refine d0_ 8 (h:=d0_ 9 (h:=d0_ 10 (h:=d0_ 11 (h:=d0_ 12 (h:=d0_ 13 (h:=d0_ 14 (h:=d0_ 15 (h:=d0_ 16 (h:=d0_ 17 (h:=dpf_ 18 (h:=dpf_ 19 (h:=dm_ 20 (h:=df_ 21 (h:=dl_ 22 (h:=deq_ 23 (h:=dpf_ 24 (h:=dm_ 25 (h:=?_))))))))))))))))))
  refine aa_both (j := 25) rfl (fun hb8 => ?_) (fun hb8 => ?_)
  ·have hc8 := bp hb8
   refine d0_ 26 (h:=d0_ 27 (h:=d0_ 28 (h:=d0_ 29 (h:=d0_ 30 (h:=d0_ 31 (h:=d0_ 32 (h:=dpt_ 33 (h:=z_ (h:=t_ (cy_ (h:=w_ (a_ (h:=e_ (aw_ret (x_blockR (x_thenR (x_thenR (x_blockR (x_thenR (?_))))))))))))))))))))
   refine e_ret ?_
   exact vb (ents_no (by omega) hlt (by unfold entAt; simp only [hy]; simp_all [strLt])).symm
  have hc8 := bp hb8
  refine dl_ 26 (h:=dm_ 27 (h:=df_ 28 (h:=dl_ 29 (h:=dbd_ 30 (h:=?_)))))
  refine c_ 31 rfl (q_call (Rindex f (dev, x.2) hf) ?_)
  rintro r rfl
  refine o_ (h:=dlt_ 32 (h:=dpf_ 33 (h:=z_ (h:=t_ (?_)))))
  refine aw_cond rfl (fun hb9 => ?_) (fun hb9 => ?_)
  ·have hc9 := bp hb9
   refine w_ (a_ (h:=e_ (aw_ret (x_blockR (x_thenR (x_thenR (x_blockR (x_thenR (?_)))))))))
   refine e_ret ?_
   exact vb (ents_no (by omega) hlt (by unfold entAt; simp only [hy]; simp_all [strLt])).symm
  have hc9 := bp hb9
  refine aw_skip (x_blockN (t_ (aw_region (m_ (h:=ad_ (h:=a_ (h:=al_nil (?_))))))))
  refine x_then ?_
  refine ⟨_, _, ?_, ⟨j + 1, by omega, rfl, upto_next ha (by unfold entAt; simp only [hy]; simp_all [strLt]), rfl⟩, (wk 2 0)⟩
  omega
 have hc2 := bp hb2
 refine aw_exit (x_thenE (x_thenE (ABlock_out (t_ (w_ (a_ (h:=e_ (aw_ret (?_)))))))))
 refine e_ret ?_
 exact vb (ents_yes (by omega) (fun i hi => ha i (by omega))).symm
theorem Rreached (d : Dvc) (hd : d.nodes.length ≤ 1000) : AFn Try.prog 102 [.agg (dvcA d)] (fun r => r = .v (.bool (rchR d))) := by
 have hel : (d.nodes.map nodA).length = d.nodes.length := by simp
 refine enter Try.func102 rfl rfl rfl rfl rfl 0 rfl ?_
 refine w_ (b_ (h:=a_ (h:=e_ (q_ (w_ (a_ (h:=e_ (aw_block (?_)))))))))
 refine aw_loopW (fun m t => ∃ j : Nat, j ≤ d.nodes.length ∧ m = d.nodes.length - j ∧ (∀ i, i < j → rchAt d i = true) ∧ t = ⟨look [(1, .bp 0 0), (3, .v (.int .i64 (j : Int)))], ⟨[dvcA d], []⟩⟩) (d.nodes.length) ((wk 1 0)) (⟨0, by omega, rfl, fun i hi => by omega, rfl⟩) ?_
 rintro m t ⟨j, hj, rfl, ha, rfl⟩
 refine q_ (w_ (m_ (h:=f_ (h:=l_ (h:=n_ (h:=lt_ (h:=e_ (?_))))))))
 refine aw_cond rfl (fun hb1 => ?_) (fun hb1 => ?_)
 ·have hc1 := bp hb1
  obtain ⟨hlt, n, hy, hrow, -⟩ := row_at nodA hc1
  refine kt_ (q_ (aw_block (q_ (w_ (f_ (h:=l_ (h:=m_ (h:=?_))))))))
  refine al_p rfl (st_index (n := j) rfl rfl rfl hrow ?_)
  refine f_ (h:=l_ (h:=nq_ (h:=e_ (?_))))
  refine aw_cond rfl (fun hb2 => ?_) (fun hb2 => ?_)
  ·have hc2 := bp hb2
   refine aw_exit (x_thenE (ABlock_out (t_ (aw_region (m_ (h:=ad_ (h:=a_ (h:=al_nil (?_)))))))))
   refine x_then ?_
   refine ⟨_, _, ?_, ⟨j + 1, by omega, rfl, upto_next ha (by unfold rchAt; simp only [hy]; simp_all [itP]), rfl⟩, (wk 1 0)⟩
   omega
  have hc2 := bp hb2
  refine kt_ (w_ (f_ (h:=l_ (h:=m_ (h:=?_)))))
  refine al_p rfl (st_index (n := j) rfl rfl rfl hrow ?_)
  refine f_ (h:=l_ (h:=a_ (h:=e_ (q_ (w_ (a_ (h:=e_ (aw_block (?_)))))))))
  refine aw_loopW (fun m t => ∃ (k : Nat) (x : Int), k ≤ d.nodes.length ∧ m = d.nodes.length - k ∧ itP d (d.nodes.length - k) x = itP d d.nodes.length n.ino ∧ t = ⟨look [(1, .bp 0 0), (3, .v (.int .i64 (j : Int))), (4, .v (.int .i64 x)), (5, .v (.int .i64 (k : Int)))], ⟨[dvcA d], []⟩⟩) (d.nodes.length) ((wk 1 0)) (⟨0, n.ino, by omega, rfl, rfl, rfl⟩) ?_
  rintro m t ⟨k, x, hk, rfl, hx, rfl⟩
  refine q_ (w_ (m_ (h:=f_ (h:=l_ (h:=n_ (h:=lt_ (h:=e_ (?_))))))))
  refine aw_cond rfl (fun hb3 => ?_) (fun hb3 => ?_)
  ·have hc3 := bp hb3
   refine kt_ (q_ (aw_block (aw_region (l_ (h:=m_ (h:=?_))))))
   refine al_p rfl (q_call (Rparent d x hd) ?_)
   rintro r rfl
   refine a_ (h:=al_nil (x_blockN (t_ (aw_region (m_ (h:=ad_ (h:=a_ (h:=al_nil (?_)))))))))
   refine x_then ?_
   refine ⟨_, _, ?_, ⟨k + 1, parentL d x, by omega, rfl, (by rw [← hx, show d.nodes.length - k = (d.nodes.length - (k + 1)) + 1 by omega]; rfl), rfl⟩, (wk 1 0)⟩
   omega
  have hc3 := bp hb3
  have ek : k = d.nodes.length := by omega
  subst ek
  rw [Nat.sub_self] at hx
  refine aw_exit (x_thenE (x_thenE (ABlock_out (t_ (w_ (m_ (h:=nq_ (h:=e_ (?_)))))))))
  refine aw_cond rfl (fun hb4 => ?_) (fun hb4 => ?_)
  ·have hc4 := bp hb4
   refine w_ (a_ (h:=e_ (aw_ret (x_blockR (x_thenR (x_thenR (x_blockR (x_thenR (?_)))))))))
   refine e_ret ?_
   exact vb (range_no hlt (by unfold rchAt; simp only [hy]; simp_all [itP])).symm
  have hc4 := bp hb4
  refine aw_skip (x_blockN (t_ (aw_region (m_ (h:=ad_ (h:=a_ (h:=al_nil (?_))))))))
  refine x_then ?_
  refine ⟨_, _, ?_, ⟨j + 1, by omega, rfl, upto_next ha (by unfold rchAt; simp only [hy]; simp_all [itP]), rfl⟩, (wk 1 0)⟩
  omega
 have hc1 := bp hb1
 refine aw_exit (x_thenE (x_thenE (ABlock_out (t_ (w_ (a_ (h:=e_ (aw_ret (?_)))))))))
 refine e_ret ?_
 exact vb (range_yes (fun i hi => ha i (by omega))).symm
end
def preN (ns : List Nod) (i : Nat) (n : Nod) : Bool := match ns[i - 1]? with
 | some y => decide (n.ino ≤ y.ino)
 | none => false
theorem preN_at {ns : List Nod} {i : Nat} {n y : Nod} (h : ns[i - 1]? = some y) : preN ns i n = decide (n.ino ≤ y.ino) := by unfold preN; rw [h]
def devAt (f : Fls) (dev : Int) (d : Dvc) (i : Nat) : Bool := match d.nodes[i]? with
 | none => true
 | some n =>
   if d.next ≤ n.ino then false else if 0 < i ∧ preN d.nodes i n = true then false else if plainL n = false then false
   else if n.kind ≠ 2 ∧ (n.parent ≠ 0 ∨ 0 < n.entries.length) then false else if entsR f dev n.entries = false then false
   else if i = 0 then true
   else if n.kind = 2 then (if (linksF f (dev, n.ino) : Int) ≠ 1 then false else if hasG f (dev, n.parent) = false then false else holdsL (nodG f (dev, n.parent)) n.ino)
   else if (linksF f (dev, n.ino) : Int) < 1 then false else true
def headR (d : Dvc) : Bool :=
 if d.nodes.length < 1 then false else if 16 < d.nodes.length then false else if d.next < 2 then false else if 1073741824 < d.next then false else match d.nodes[0]? with
 | none => false
 | some r => if r.ino ≠ 1 then false else if r.kind ≠ 2 then false else if r.parent ≠ 1 then false else true
def devR5 (f : Fls) (dev : Int) (d : Dvc) : Bool := headR d && ((List.range d.nodes.length).all (devAt f dev d) && rchR d)
theorem dev_no0 {f : Fls} {dev : Int} {d : Dvc} (h : headR d = false) : devR5 f dev d = false := by unfold devR5; rw [h]; rfl
theorem dev_no {f : Fls} {dev : Int} {d : Dvc} {j : Nat} (hj : j < d.nodes.length) (h : devAt f dev d j = false) : devR5 f dev d = false := by
 unfold devR5
 rw [range_no hj h, Bool.false_and, Bool.and_false]
theorem dev_yes {f : Fls} {dev : Int} {d : Dvc} (h0 : headR d = true) (h : ∀ i, i < d.nodes.length → devAt f dev d i = true) : devR5 f dev d = rchR d := by
 unfold devR5
 rw [h0, range_yes h]
 rfl
def vldAt (f : Fls) (i : Nat) : Bool := match f[i]? with
 | none => true
 | some d => devR5 f i d
def vldR (f : Fls) : Bool := if f.length < 1 then false else if 3 < f.length then false else (List.range f.length).all (vldAt f)
section
set_option maxRecDepth 20000
set_option maxHeartbeats 4000000
theorem Rdev (f : Fls) (q : Nat) (d : Dvc) (hf : FlsT f) (hq : f[q]? = some d) : AFn Try.prog 78 [.agg (flsA f), .v (.int .i64 (q : Int))] (fun r => r = .v (.bool (devR5 f (q : Int) d))) := by
 have hdm := List.mem_of_getElem? hq
 have hdn := hf.b.nodes d hdm
 have hel : (d.nodes.map nodA).length = d.nodes.length := by simp
 have hrq : (f.map dvcA)[q]? = some (dvcA d) := by rw [List.getElem?_map, hq]; rfl
 have hent : ∀ (i : Nat) (n : Nod), d.nodes[i]? = some n → n.entries.length ≤ 1000 := fun i n hn => hf.b.ents d hdm n (List.mem_of_getElem? hn)
 have hnm : ∀ (i : Nat) (n : Nod), d.nodes[i]? = some n → ∀ e ∈ n.entries, e.1.size ≤ 100000 := fun i n hn => hf.nm d hdm n (List.mem_of_getElem? hn)
 have htg : ∀ (i : Nat) (n : Nod), d.nodes[i]? = some n → n.target.size ≤ 100000 := fun i n hn => hf.tg d hdm n (List.mem_of_getElem? hn)
 have hpe : ∀ a, (nodG f a).entries.length ≤ 1000 := nodG_ents hf.b
 refine enter Try.func78 rfl rfl rfl rfl rfl 0 rfl ?_
 refine w_ (b_ (h:=a_ (h:=e_ (w_ (f_ (h:=l_ (h:=m_ (h:=?_))))))))
 refine al_p rfl (st_index (n := q) rfl rfl rfl hrq ?_)
 refine l_ (h:=al_ (h:=s_ (h:=e_ (q_ (w_ (f_ (h:=l_ (h:=n_ (h:=lt_ (h:=m_ (h:=?_)))))))))))
 refine al_gs false rfl rfl (fun hb1 => ?_) (fun hb1 => ?_)
 ·have hc1 := bp hb1
  refine g0_ (h:=g0_ (h:=g0_ (h:=g0_ (h:=pt_ (h:=m_ (h:=g0_ (h:=g0_ (h:=g0_ (h:=pt_ (h:=m_ (h:=g0_ (h:=g0_ (h:=g0_ (h:=pt_ (h:=m_ (h:=g0_ (h:=g0_ (h:=g0_ (h:=g0_ (h:=g0_ (h:=g0_ (h:=pt_ (h:=m_ (h:=?_))))))))))))))))))))))))
  refine g0_ (h:=g0_ (h:=g0_ (h:=g0_ (h:=g0_ (h:=g0_ (h:=pt_ (h:=m_ (h:=g0_ (h:=g0_ (h:=g0_ (h:=g0_ (h:=g0_ (h:=g0_ (h:=pt_ (h:=e_ (cy_ (h:=w_ (a_ (h:=e_ (aw_ret (x_thenR (?_))))))))))))))))))))))
  refine e_ret ?_
  first | exact vb (dev_no hlt (by unfold devAt; simp only [hy]; simp_all)).symm | exact vb (dev_yes hhd (fun i hi => ha i (by omega))).symm | exact vb (dev_no0 (by unfold headR; rw [if_pos (by omega)])).symm
 have hc1 := bp hb1
 obtain ⟨hlt0, r0, hy0, hrow0, -⟩ := row_at (l := d.nodes) (k := 0) nodA (by omega)
 refine f_ (h:=l_ (h:=n_ (h:=gt_ (h:=pf_ (h:=m_ (h:=?_))))))
 refine al_gs false rfl rfl (fun hb2 => ?_) (fun hb2 => ?_)
 ·have hc2 := bp hb2
  refine g0_ (h:=g0_ (h:=g0_ (h:=pt_ (h:=m_ (h:=g0_ (h:=g0_ (h:=g0_ (h:=pt_ (h:=m_ (h:=g0_ (h:=g0_ (h:=g0_ (h:=g0_ (h:=g0_ (h:=g0_ (h:=pt_ (h:=m_ (h:=g0_ (h:=g0_ (h:=g0_ (h:=g0_ (h:=g0_ (h:=g0_ (h:=?_))))))))))))))))))))))))
  refine pt_ (h:=m_ (h:=g0_ (h:=g0_ (h:=g0_ (h:=g0_ (h:=g0_ (h:=g0_ (h:=pt_ (h:=e_ (cy_ (h:=w_ (a_ (h:=e_ (aw_ret (x_thenR (?_))))))))))))))))
  refine e_ret ?_
  first | exact vb (dev_no hlt (by unfold devAt; simp only [hy]; simp_all)).symm | exact vb (dev_yes hhd (fun i hi => ha i (by omega))).symm | exact vb (dev_no0 (by unfold headR; rw [if_pos (by omega)])).symm | exact vb (dev_no0 (by unfold headR; rw [if_neg (by omega), if_pos (by omega)])).symm
 have hc2 := bp hb2
 refine f_ (h:=l_ (h:=lt_ (h:=pf_ (h:=m_ (h:=?_)))))
 refine al_gs false rfl rfl (fun hb3 => ?_) (fun hb3 => ?_)
 ·have hc3 := bp hb3
  refine g0_ (h:=g0_ (h:=g0_ (h:=pt_ (h:=m_ (h:=g0_ (h:=g0_ (h:=g0_ (h:=g0_ (h:=g0_ (h:=g0_ (h:=pt_ (h:=m_ (h:=g0_ (h:=g0_ (h:=g0_ (h:=g0_ (h:=g0_ (h:=g0_ (h:=pt_ (h:=m_ (h:=g0_ (h:=g0_ (h:=g0_ (h:=?_))))))))))))))))))))))))
  refine g0_ (h:=g0_ (h:=g0_ (h:=pt_ (h:=e_ (cy_ (h:=w_ (a_ (h:=e_ (aw_ret (x_thenR (?_)))))))))))
  refine e_ret ?_
  first | exact vb (dev_no hlt (by unfold devAt; simp only [hy]; simp_all)).symm | exact vb (dev_yes hhd (fun i hi => ha i (by omega))).symm | exact vb (dev_no0 (by unfold headR; rw [if_pos (by omega)])).symm | exact vb (dev_no0 (by unfold headR; rw [if_neg (by omega), if_pos (by omega)])).symm | exact vb (dev_no0 (by unfold headR; rw [if_neg (by omega), if_neg (by omega)]; simp only [hy0]; simp_all)).symm
 have hc3 := bp hb3
 refine f_ (h:=l_ (h:=gt_ (h:=pf_ (h:=m_ (h:=?_)))))
 refine al_gs false rfl rfl (fun hb4 => ?_) (fun hb4 => ?_)
 ·have hc4 := bp hb4
  refine g0_ (h:=g0_ (h:=g0_ (h:=g0_ (h:=g0_ (h:=g0_ (h:=pt_ (h:=m_ (h:=g0_ (h:=g0_ (h:=g0_ (h:=g0_ (h:=g0_ (h:=g0_ (h:=pt_ (h:=m_ (h:=g0_ (h:=g0_ (h:=g0_ (h:=g0_ (h:=g0_ (h:=g0_ (h:=pt_ (h:=e_ (?_))))))))))))))))))))))))
  refine cy_ (h:=w_ (a_ (h:=e_ (aw_ret (x_thenR (?_))))))
  refine e_ret ?_
  first | exact vb (dev_no hlt (by unfold devAt; simp only [hy]; simp_all)).symm | exact vb (dev_yes hhd (fun i hi => ha i (by omega))).symm | exact vb (dev_no0 (by unfold headR; rw [if_pos (by omega)])).symm | exact vb (dev_no0 (by unfold headR; rw [if_neg (by omega), if_pos (by omega)])).symm | exact vb (dev_no0 (by unfold headR; rw [if_neg (by omega), if_neg (by omega)]; simp only [hy0]; simp_all)).symm
 have hc4 := bp hb4
 refine f_ (h:=l_ (h:=?_))
 refine g_y (st_index (n := 0) rfl rfl rfl hrow0 ?_)
 refine f_ (h:=l_ (h:=nq_ (h:=pf_ (h:=m_ (h:=?_)))))
 refine al_gs false rfl rfl (fun hb5 => ?_) (fun hb5 => ?_)
 ·have hc5 := bp hb5
  refine g0_ (h:=g0_ (h:=g0_ (h:=g0_ (h:=g0_ (h:=g0_ (h:=pt_ (h:=m_ (h:=g0_ (h:=g0_ (h:=g0_ (h:=g0_ (h:=g0_ (h:=g0_ (h:=pt_ (h:=e_ (cy_ (h:=w_ (a_ (h:=e_ (aw_ret (x_thenR (?_))))))))))))))))))))))
  refine e_ret ?_
  first | exact vb (dev_no hlt (by unfold devAt; simp only [hy]; simp_all)).symm | exact vb (dev_yes hhd (fun i hi => ha i (by omega))).symm | exact vb (dev_no0 (by unfold headR; rw [if_pos (by omega)])).symm | exact vb (dev_no0 (by unfold headR; rw [if_neg (by omega), if_pos (by omega)])).symm | exact vb (dev_no0 (by unfold headR; rw [if_neg (by omega), if_neg (by omega)]; simp only [hy0]; simp_all)).symm
 have hc5 := bp hb5
 refine f_ (h:=l_ (h:=?_))
 refine g_y (st_index (n := 0) rfl rfl rfl hrow0 ?_)
 refine f_ (h:=l_ (h:=nq_ (h:=pf_ (h:=m_ (h:=?_)))))
 refine al_gs false rfl rfl (fun hb6 => ?_) (fun hb6 => ?_)
 ·have hc6 := bp hb6
  refine g0_ (h:=g0_ (h:=g0_ (h:=g0_ (h:=g0_ (h:=g0_ (h:=pt_ (h:=e_ (cy_ (h:=w_ (a_ (h:=e_ (aw_ret (x_thenR (?_))))))))))))))
  refine e_ret ?_
  first | exact vb (dev_no hlt (by unfold devAt; simp only [hy]; simp_all)).symm | exact vb (dev_yes hhd (fun i hi => ha i (by omega))).symm | exact vb (dev_no0 (by unfold headR; rw [if_pos (by omega)])).symm | exact vb (dev_no0 (by unfold headR; rw [if_neg (by omega), if_pos (by omega)])).symm | exact vb (dev_no0 (by unfold headR; rw [if_neg (by omega), if_neg (by omega)]; simp only [hy0]; simp_all)).symm
 have hc6 := bp hb6
 refine f_ (h:=l_ (h:=?_))
 refine g_y (st_index (n := 0) rfl rfl rfl hrow0 ?_)
 refine f_ (h:=l_ (h:=nq_ (h:=pf_ (h:=e_ (?_)))))
 refine aw_cond rfl (fun hb7 => ?_) (fun hb7 => ?_)
 ·have hc7 := bp hb7
  refine w_ (a_ (h:=e_ (aw_ret (x_thenR (?_)))))
  refine e_ret ?_
  first | exact vb (dev_no hlt (by unfold devAt; simp only [hy]; simp_all)).symm | exact vb (dev_yes hhd (fun i hi => ha i (by omega))).symm | exact vb (dev_no0 (by unfold headR; rw [if_pos (by omega)])).symm | exact vb (dev_no0 (by unfold headR; rw [if_neg (by omega), if_pos (by omega)])).symm | exact vb (dev_no0 (by unfold headR; rw [if_neg (by omega), if_neg (by omega)]; simp only [hy0]; simp_all)).symm
 have hc7 := bp hb7
 have hhd : headR d = true := by unfold headR; rw [if_neg (by omega), if_neg (by omega)]; simp only [hy0]; simp_all
 refine kt_ (q_ (w_ (a_ (h:=e_ (aw_block (?_))))))
 refine aw_loopW (fun m t => ∃ j : Nat, j ≤ d.nodes.length ∧ m = d.nodes.length - j ∧ (∀ i, i < j → devAt f (q : Int) d i = true) ∧ t = ⟨look [(1, .v (.int .i64 (q : Int))), (2, .bp 0 0), (5, .bp 1 0), (6, .v (.int .i64 (j : Int)))], ⟨[flsA f, dvcA d], []⟩⟩) (d.nodes.length) ((wk 2 0)) (⟨0, by omega, rfl, fun i hi => by omega, rfl⟩) ?_
 rintro m t ⟨j, hj, rfl, ha, rfl⟩
 refine q_ (w_ (m_ (h:=f_ (h:=l_ (h:=n_ (h:=lt_ (h:=e_ (?_))))))))
 refine aw_cond rfl (fun hb8 => ?_) (fun hb8 => ?_)
 ·have hc8 := bp hb8
  obtain ⟨hlt, n, hy, hrow, -⟩ := row_at nodA hc8
  refine kt_ (q_ (aw_block (w_ (f_ (h:=l_ (h:=m_ (h:=?_)))))))
  refine al_p rfl (st_index (n := j) rfl rfl rfl hrow ?_)
  refine l_ (h:=al_ (h:=s_ (h:=e_ (q_ (q_ (yr_ 49 (h:=df_ 0 (h:=dl_ 1 (h:=df_ 2 (h:=dl_ 3 (h:=dge_ 4 (h:=dm_ 5 (h:=?_)))))))))))))
  refine aa_both (j := 5) rfl (fun hb9 => ?_) (fun hb9 => ?_)
  ·have hc9 := bp hb9
   refine d0_ 6 (h:=d0_ 7 (h:=d0_ 8 (h:=d0_ 9 (h:=d0_ 10 (h:=d0_ 11 (h:=d0_ 12 (h:=d0_ 13 (h:=d0_ 14 (h:=d0_ 15 (h:=d0_ 16 (h:=d0_ 17 (h:=d0_ 18 (h:=d0_ 19 (h:=dpt_ 20 (h:=dm_ 21 (h:=d0_ 22 (h:=d0_ 23 (h:=d0_ 24 (h:=dpt_ 25 (h:=dm_ 26 (h:=d0_ 27 (h:=d0_ 28 (h:=d0_ 29 (h:=?_))))))))))))))))))))))))
   refine d0_ 30 (h:=d0_ 31 (h:=d0_ 32 (h:=d0_ 33 (h:=d0_ 34 (h:=d0_ 35 (h:=d0_ 36 (h:=d0_ 37 (h:=d0_ 38 (h:=d0_ 39 (h:=d0_ 40 (h:=dpt_ 41 (h:=dm_ 42 (h:=d0_ 43 (h:=d0_ 44 (h:=d0_ 45 (h:=d0_ 46 (h:=d0_ 47 (h:=dpt_ 48 (h:=z_ (h:=t_ (cy_ (h:=w_ (a_ (h:=?_))))))))))))))))))))))))
   refine e_ (aw_ret (x_thenR (x_blockR (x_thenR (x_thenR (x_blockR (x_thenR (?_))))))))
   refine e_ret ?_
   exact vb (dev_no hlt (by unfold devAt; simp only [hy]; simp_all)).symm
  have hc9 := bp hb9
  refine dm_ 6 (h:=dgt_ 7 (h:=dm_ 8 (h:=?_)))
  refine aa_both (j := 8) rfl (fun hb10 => ?_) (fun hb10 => ?_)
  ·have hc10 := bp hb10
   obtain ⟨hlt1, y, hy1, hrow1, -⟩ := row_at (l := d.nodes) (k := j - 1) nodA (by omega)
   have hpre := preN_at (n := n) hy1
   refine df_ 9 (h:=dl_ 10 (h:=dm_ 11 (h:=dsb_ 12 (h:=?_))))
   refine r_y (i := 13) rfl (st_index (n := j - 1) rfl rfl (by omega) hrow1 ⟨rfl, rfl⟩) ?_
   refine df_ 14 (h:=dl_ 15 (h:=df_ 16 (h:=dl_ 17 (h:=dge_ 18 (h:=dpt_ 19 (h:=dpf_ 20 (h:=dm_ 21 (h:=?_))))))))
   refine aa_both (j := 21) rfl (fun hb11 => ?_) (fun hb11 => ?_)
   ·have hc11 := bp hb11
    refine d0_ 22 (h:=d0_ 23 (h:=d0_ 24 (h:=dpt_ 25 (h:=dm_ 26 (h:=d0_ 27 (h:=d0_ 28 (h:=d0_ 29 (h:=d0_ 30 (h:=d0_ 31 (h:=d0_ 32 (h:=d0_ 33 (h:=d0_ 34 (h:=d0_ 35 (h:=d0_ 36 (h:=d0_ 37 (h:=d0_ 38 (h:=d0_ 39 (h:=d0_ 40 (h:=dpt_ 41 (h:=dm_ 42 (h:=d0_ 43 (h:=d0_ 44 (h:=d0_ 45 (h:=?_))))))))))))))))))))))))
    refine d0_ 46 (h:=d0_ 47 (h:=dpt_ 48 (h:=z_ (h:=t_ (cy_ (h:=w_ (a_ (h:=e_ (aw_ret (x_thenR (x_blockR (x_thenR (x_thenR (x_blockR (x_thenR (?_))))))))))))))))
    refine e_ret ?_
    exact vb (dev_no hlt (by unfold devAt; simp only [hy]; simp_all)).symm
   have hc11 := bp hb11
   refine dl_ 22 (h:=?_)
   refine c_ 23 rfl (q_call (Rplain n (htg j n hy)) ?_)
   rintro r rfl
   refine o_ (h:=dnt_ 24 (h:=dpf_ 25 (h:=dm_ 26 (h:=?_))))
   refine aa_both (j := 26) rfl (fun hb12 => ?_) (fun hb12 => ?_)
   ·have hc12 := bp hb12
    refine d0_ 27 (h:=d0_ 28 (h:=d0_ 29 (h:=d0_ 30 (h:=d0_ 31 (h:=d0_ 32 (h:=d0_ 33 (h:=d0_ 34 (h:=d0_ 35 (h:=d0_ 36 (h:=d0_ 37 (h:=d0_ 38 (h:=d0_ 39 (h:=d0_ 40 (h:=dpt_ 41 (h:=dm_ 42 (h:=d0_ 43 (h:=d0_ 44 (h:=d0_ 45 (h:=d0_ 46 (h:=d0_ 47 (h:=dpt_ 48 (h:=z_ (h:=t_ (?_))))))))))))))))))))))))
    refine cy_ (h:=w_ (a_ (h:=e_ (aw_ret (x_thenR (x_blockR (x_thenR (x_thenR (x_blockR (x_thenR (?_)))))))))))
    refine e_ret ?_
    exact vb (dev_no hlt (by unfold devAt; simp only [hy]; simp_all)).symm
   have hc12 := bp hb12
   refine df_ 27 (h:=dl_ 28 (h:=dnq_ 29 (h:=dm_ 30 (h:=?_))))
   refine aa_both (j := 30) rfl (fun hb13 => ?_) (fun hb13 => ?_)
   ·have hc13 := bp hb13
    refine df_ 31 (h:=dl_ 32 (h:=dnq_ 33 (h:=dm_ 34 (h:=?_))))
    refine aa_both (j := 34) rfl (fun hb14 => ?_) (fun hb14 => ?_)
    ·have hc14 := bp hb14
     refine d0_ 35 (h:=d0_ 36 (h:=d0_ 37 (h:=d0_ 38 (h:=dpt_ 39 (h:=dpt_ 40 (h:=dpf_ 41 (h:=dm_ 42 (h:=d0_ 43 (h:=d0_ 44 (h:=d0_ 45 (h:=d0_ 46 (h:=d0_ 47 (h:=dpt_ 48 (h:=z_ (h:=t_ (cy_ (h:=w_ (a_ (h:=e_ (aw_ret (x_thenR (x_blockR (x_thenR (?_))))))))))))))))))))))))
     refine x_thenR (x_blockR (x_thenR (?_)))
     refine e_ret ?_
     exact vb (dev_no hlt (by unfold devAt; simp only [hy]; simp_all)).symm
    have hc14 := bp hb14
    refine df_ 35 (h:=dl_ 36 (h:=dn_ 37 (h:=dgt_ 38 (h:=dpf_ 39 (h:=dpt_ 40 (h:=dpf_ 41 (h:=dm_ 42 (h:=?_))))))))
    refine aa_both (j := 42) rfl (fun hb15 => ?_) (fun hb15 => ?_)
    ·have hc15 := bp hb15
     refine d0_ 43 (h:=d0_ 44 (h:=d0_ 45 (h:=d0_ 46 (h:=d0_ 47 (h:=dpt_ 48 (h:=z_ (h:=t_ (cy_ (h:=w_ (a_ (h:=e_ (aw_ret (x_thenR (x_blockR (x_thenR (x_thenR (x_blockR (x_thenR (?_)))))))))))))))))))
     refine e_ret ?_
     exact vb (dev_no hlt (by unfold devAt; simp only [hy]; simp_all)).symm
    have hc15 := bp hb15
    refine dl_ 43 (h:=dm_ 44 (h:=dl_ 45 (h:=?_)))
    refine c_ 46 rfl (q_call (Rents f (q : Int) n hf.b (hent j n hy) (hnm j n hy)) ?_)
    rintro r rfl
    refine o_ (h:=dnt_ 47 (h:=dpf_ 48 (h:=z_ (h:=t_ (?_)))))
    refine aw_cond rfl (fun hb16 => ?_) (fun hb16 => ?_)
    ·have hc16 := bp hb16
     refine w_ (a_ (h:=e_ (aw_ret (x_thenR (x_blockR (x_thenR (x_thenR (x_blockR (x_thenR (?_))))))))))
     refine e_ret ?_
     exact vb (dev_no hlt (by unfold devAt; simp only [hy]; simp_all)).symm
    have hc16 := bp hb16
    refine kt_ (w_ (m_ (h:=f_ (h:=l_ (h:=bd_ (h:=al_ (h:=s_ (h:=e_ (q_ (w_ (m_ (h:=eq_ (h:=e_ (?_))))))))))))))
    refine aw_cond rfl (fun hb17 => ?_) (fun hb17 => ?_)
    ·have hc17 := bp hb17
     refine aw_exit (x_thenE (ABlock_out (t_ (aw_region (m_ (h:=ad_ (h:=a_ (h:=al_nil (?_)))))))))
     refine x_then ?_
     refine ⟨_, _, ?_, ⟨j + 1, by omega, rfl, upto_next ha (by unfold devAt; simp only [hy]; simp_all), rfl⟩, (wk 2 0)⟩
     omega
    have hc17 := bp hb17
    refine kt_ (w_ (l_ (h:=l_ (h:=?_))))
    refine al_p rfl (q_call (Rlinks f ((q : Int), n.ino) hf.b) ?_)
    rintro r rfl
    refine a_ (h:=e_ (q_ (w_ (f_ (h:=l_ (h:=nq_ (h:=m_ (h:=m_ (h:=lt_ (h:=pt_ (h:=e_ (?_))))))))))))
    refine aw_cond rfl (fun hb18 => ?_) (fun hb18 => ?_)
    ·have hc18 := bp hb18
     refine w_ (a_ (h:=e_ (aw_ret (x_thenR (x_blockR (x_thenR (x_thenR (x_blockR (x_thenR (?_))))))))))
     refine e_ret ?_
     exact vb (dev_no hlt (by unfold devAt; simp only [hy]; simp_all)).symm
    have hc18 := bp hb18
    refine kt_ (w_ (f_ (h:=l_ (h:=eq_ (h:=e_ (cn_ (h:=aw_skip (x_blockN (t_ (aw_region (m_ (h:=ad_ (h:=a_ (h:=al_nil (?_)))))))))))))))
    refine x_then ?_
    refine ⟨_, _, ?_, ⟨j + 1, by omega, rfl, upto_next ha (by unfold devAt; simp only [hy]; simp_all), rfl⟩, (wk 2 0)⟩
    omega
   have hc13 := bp hb13
   refine d0_ 31 (h:=d0_ 32 (h:=d0_ 33 (h:=d0_ 34 (h:=d0_ 35 (h:=d0_ 36 (h:=d0_ 37 (h:=d0_ 38 (h:=d0_ 39 (h:=dpf_ 40 (h:=dpf_ 41 (h:=dm_ 42 (h:=dl_ 43 (h:=dm_ 44 (h:=dl_ 45 (h:=?_)))))))))))))))
   refine c_ 46 rfl (q_call (Rents f (q : Int) n hf.b (hent j n hy) (hnm j n hy)) ?_)
   rintro r rfl
   refine o_ (h:=dnt_ 47 (h:=dpf_ 48 (h:=z_ (h:=t_ (?_)))))
   refine aw_cond rfl (fun hb19 => ?_) (fun hb19 => ?_)
   ·have hc19 := bp hb19
    refine w_ (a_ (h:=e_ (aw_ret (x_thenR (x_blockR (x_thenR (x_thenR (x_blockR (x_thenR (?_))))))))))
    refine e_ret ?_
    exact vb (dev_no hlt (by unfold devAt; simp only [hy]; simp_all)).symm
   have hc19 := bp hb19
   refine kt_ (w_ (m_ (h:=f_ (h:=l_ (h:=bd_ (h:=al_ (h:=s_ (h:=e_ (q_ (w_ (m_ (h:=eq_ (h:=e_ (?_))))))))))))))
   refine aw_cond rfl (fun hb20 => ?_) (fun hb20 => ?_)
   ·have hc20 := bp hb20
    refine aw_exit (x_thenE (ABlock_out (t_ (aw_region (m_ (h:=ad_ (h:=a_ (h:=al_nil (?_)))))))))
    refine x_then ?_
    refine ⟨_, _, ?_, ⟨j + 1, by omega, rfl, upto_next ha (by unfold devAt; simp only [hy]; simp_all), rfl⟩, (wk 2 0)⟩
    omega
   have hc20 := bp hb20
   refine kt_ (w_ (l_ (h:=l_ (h:=?_))))
   refine al_p rfl (q_call (Rlinks f ((q : Int), n.ino) hf.b) ?_)
   rintro r rfl
   refine a_ (h:=e_ (q_ (w_ (f_ (h:=l_ (h:=nq_ (h:=m_ (h:=g0_ (h:=g0_ (h:=pf_ (h:=e_ (cn_ (h:=kt_ (w_ (f_ (h:=l_ (h:=eq_ (h:=e_ (cy_ (h:=w_ (l_ (h:=m_ (h:=f_ (h:=?_))))))))))))))))))))))))
   refine l_ (h:=bd_ (h:=?_))
   refine al_p rfl (q_call (Rnode f ((q : Int), n.parent) hf.b) ?_)
   rintro r rfl
   refine m_ (h:=x_ (h:=x_ (h:=al_ (h:=s_ (h:=a_ (h:=e_ (w_ (m_ (h:=nq_ (h:=m_ (h:=?_)))))))))))
   refine al_gs false rfl rfl (fun hb21 => ?_) (fun hb21 => ?_)
   ·have hc21 := bp hb21
    refine g0_ (h:=g0_ (h:=pt_ (h:=m_ (h:=g0_ (h:=g0_ (h:=g0_ (h:=g0_ (h:=g0_ (h:=pt_ (h:=e_ (cy_ (h:=w_ (a_ (h:=e_ (aw_ret (x_blockR (x_thenR (x_thenR (x_blockR (x_thenR (?_)))))))))))))))))))))
    refine e_ret ?_
    exact vb (dev_no hlt (by unfold devAt; simp only [hy]; simp_all)).symm
   have hc21 := bp hb21
   refine m_ (h:=nt_ (h:=pf_ (h:=m_ (h:=?_))))
   refine al_gs false rfl rfl (fun hb22 => ?_) (fun hb22 => ?_)
   ·have hc22 := bp hb22
    refine g0_ (h:=g0_ (h:=g0_ (h:=g0_ (h:=g0_ (h:=pt_ (h:=e_ (cy_ (h:=w_ (a_ (h:=e_ (aw_ret (x_blockR (x_thenR (x_thenR (x_blockR (x_thenR (?_)))))))))))))))))
    refine e_ret ?_
    exact vb (dev_no hlt (by unfold devAt; simp only [hy]; simp_all)).symm
   have hc22 := bp hb22
   refine l_ (h:=f_ (h:=l_ (h:=?_)))
   refine g_y (q_call (Rholds (nodG f ((q : Int), n.parent)) n.ino (hpe _)) ?_)
   rintro r rfl
   refine nt_ (h:=pf_ (h:=e_ (?_)))
   refine aw_cond rfl (fun hb23 => ?_) (fun hb23 => ?_)
   ·have hc23 := bp hb23
    refine w_ (a_ (h:=e_ (aw_ret (x_blockR (x_thenR (x_thenR (x_blockR (x_thenR (?_)))))))))
    refine e_ret ?_
    exact vb (dev_no hlt (by unfold devAt; simp only [hy]; simp_all)).symm
   have hc23 := bp hb23
   refine aw_skip (x_blockN (t_ (aw_region (m_ (h:=ad_ (h:=a_ (h:=al_nil (?_))))))))
   refine x_then ?_
   refine ⟨_, _, ?_, ⟨j + 1, by omega, rfl, upto_next ha (by unfold devAt; simp only [hy]; simp_all), rfl⟩, (wk 2 0)⟩
   omega
  have hc10 := bp hb10
  refine d0_ 9 (h:=d0_ 10 (h:=d0_ 11 (h:=d0_ 12 (h:=d0_ 13 (h:=d0_ 14 (h:=d0_ 15 (h:=d0_ 16 (h:=d0_ 17 (h:=d0_ 18 (h:=dpf_ 19 (h:=dpf_ 20 (h:=dm_ 21 (h:=dl_ 22 (h:=?_))))))))))))))
  refine c_ 23 rfl (q_call (Rplain n (htg j n hy)) ?_)
  rintro r rfl
  refine o_ (h:=dnt_ 24 (h:=dpf_ 25 (h:=dm_ 26 (h:=?_))))
  refine aa_both (j := 26) rfl (fun hb24 => ?_) (fun hb24 => ?_)
  ·have hc24 := bp hb24
   refine d0_ 27 (h:=d0_ 28 (h:=d0_ 29 (h:=d0_ 30 (h:=d0_ 31 (h:=d0_ 32 (h:=d0_ 33 (h:=d0_ 34 (h:=d0_ 35 (h:=d0_ 36 (h:=d0_ 37 (h:=d0_ 38 (h:=d0_ 39 (h:=d0_ 40 (h:=dpt_ 41 (h:=dm_ 42 (h:=d0_ 43 (h:=d0_ 44 (h:=d0_ 45 (h:=d0_ 46 (h:=d0_ 47 (h:=dpt_ 48 (h:=z_ (h:=t_ (?_))))))))))))))))))))))))
   refine cy_ (h:=w_ (a_ (h:=e_ (aw_ret (x_thenR (x_blockR (x_thenR (x_thenR (x_blockR (x_thenR (?_)))))))))))
   refine e_ret ?_
   exact vb (dev_no hlt (by unfold devAt; simp only [hy]; simp_all)).symm
  have hc24 := bp hb24
  refine df_ 27 (h:=dl_ 28 (h:=dnq_ 29 (h:=dm_ 30 (h:=?_))))
  refine aa_both (j := 30) rfl (fun hb25 => ?_) (fun hb25 => ?_)
  ·have hc25 := bp hb25
   refine df_ 31 (h:=dl_ 32 (h:=dnq_ 33 (h:=dm_ 34 (h:=?_))))
   refine aa_both (j := 34) rfl (fun hb26 => ?_) (fun hb26 => ?_)
   ·have hc26 := bp hb26
    refine d0_ 35 (h:=d0_ 36 (h:=d0_ 37 (h:=d0_ 38 (h:=dpt_ 39 (h:=dpt_ 40 (h:=dpf_ 41 (h:=dm_ 42 (h:=d0_ 43 (h:=d0_ 44 (h:=d0_ 45 (h:=d0_ 46 (h:=d0_ 47 (h:=dpt_ 48 (h:=z_ (h:=t_ (cy_ (h:=w_ (a_ (h:=e_ (aw_ret (x_thenR (x_blockR (x_thenR (?_))))))))))))))))))))))))
    refine x_thenR (x_blockR (x_thenR (?_)))
    refine e_ret ?_
    exact vb (dev_no hlt (by unfold devAt; simp only [hy]; simp_all)).symm
   have hc26 := bp hb26
   refine df_ 35 (h:=dl_ 36 (h:=dn_ 37 (h:=dgt_ 38 (h:=dpf_ 39 (h:=dpt_ 40 (h:=dpf_ 41 (h:=dm_ 42 (h:=?_))))))))
   refine aa_both (j := 42) rfl (fun hb27 => ?_) (fun hb27 => ?_)
   ·have hc27 := bp hb27
    refine d0_ 43 (h:=d0_ 44 (h:=d0_ 45 (h:=d0_ 46 (h:=d0_ 47 (h:=dpt_ 48 (h:=z_ (h:=t_ (cy_ (h:=w_ (a_ (h:=e_ (aw_ret (x_thenR (x_blockR (x_thenR (x_thenR (x_blockR (x_thenR (?_)))))))))))))))))))
    refine e_ret ?_
    exact vb (dev_no hlt (by unfold devAt; simp only [hy]; simp_all)).symm
   have hc27 := bp hb27
   refine dl_ 43 (h:=dm_ 44 (h:=dl_ 45 (h:=?_)))
   refine c_ 46 rfl (q_call (Rents f (q : Int) n hf.b (hent j n hy) (hnm j n hy)) ?_)
   rintro r rfl
   refine o_ (h:=dnt_ 47 (h:=dpf_ 48 (h:=z_ (h:=t_ (?_)))))
   refine aw_cond rfl (fun hb28 => ?_) (fun hb28 => ?_)
   ·have hc28 := bp hb28
    refine w_ (a_ (h:=e_ (aw_ret (x_thenR (x_blockR (x_thenR (x_thenR (x_blockR (x_thenR (?_))))))))))
    refine e_ret ?_
    exact vb (dev_no hlt (by unfold devAt; simp only [hy]; simp_all)).symm
   have hc28 := bp hb28
   refine kt_ (w_ (m_ (h:=f_ (h:=l_ (h:=bd_ (h:=al_ (h:=s_ (h:=e_ (q_ (w_ (m_ (h:=eq_ (h:=e_ (?_))))))))))))))
   refine aw_cond rfl (fun hb29 => ?_) (fun hb29 => ?_)
   ·have hc29 := bp hb29
    refine aw_exit (x_thenE (ABlock_out (t_ (aw_region (m_ (h:=ad_ (h:=a_ (h:=al_nil (?_)))))))))
    refine x_then ?_
    refine ⟨_, _, ?_, ⟨j + 1, by omega, rfl, upto_next ha (by unfold devAt; simp only [hy]; simp_all), rfl⟩, (wk 2 0)⟩
    omega
   have hc29 := bp hb29
   refine kt_ (w_ (l_ (h:=l_ (h:=?_))))
   refine al_p rfl (q_call (Rlinks f ((q : Int), n.ino) hf.b) ?_)
   rintro r rfl
   refine a_ (h:=e_ (q_ (w_ (f_ (h:=l_ (h:=nq_ (h:=m_ (h:=m_ (h:=lt_ (h:=pt_ (h:=e_ (?_))))))))))))
   refine aw_cond rfl (fun hb30 => ?_) (fun hb30 => ?_)
   ·have hc30 := bp hb30
    refine w_ (a_ (h:=e_ (aw_ret (x_thenR (x_blockR (x_thenR (x_thenR (x_blockR (x_thenR (?_))))))))))
    refine e_ret ?_
    exact vb (dev_no hlt (by unfold devAt; simp only [hy]; simp_all)).symm
   have hc30 := bp hb30
   refine kt_ (w_ (f_ (h:=l_ (h:=eq_ (h:=e_ (cn_ (h:=aw_skip (x_blockN (t_ (aw_region (m_ (h:=ad_ (h:=a_ (h:=al_nil (?_)))))))))))))))
   refine x_then ?_
   refine ⟨_, _, ?_, ⟨j + 1, by omega, rfl, upto_next ha (by unfold devAt; simp only [hy]; simp_all), rfl⟩, (wk 2 0)⟩
   omega
  have hc25 := bp hb25
  refine d0_ 31 (h:=d0_ 32 (h:=d0_ 33 (h:=d0_ 34 (h:=d0_ 35 (h:=d0_ 36 (h:=d0_ 37 (h:=d0_ 38 (h:=d0_ 39 (h:=dpf_ 40 (h:=dpf_ 41 (h:=dm_ 42 (h:=dl_ 43 (h:=dm_ 44 (h:=dl_ 45 (h:=?_)))))))))))))))
  refine c_ 46 rfl (q_call (Rents f (q : Int) n hf.b (hent j n hy) (hnm j n hy)) ?_)
  rintro r rfl
  refine o_ (h:=dnt_ 47 (h:=dpf_ 48 (h:=z_ (h:=t_ (?_)))))
  refine aw_cond rfl (fun hb31 => ?_) (fun hb31 => ?_)
  ·have hc31 := bp hb31
   refine w_ (a_ (h:=e_ (aw_ret (x_thenR (x_blockR (x_thenR (x_thenR (x_blockR (x_thenR (?_))))))))))
   refine e_ret ?_
   exact vb (dev_no hlt (by unfold devAt; simp only [hy]; simp_all)).symm
  have hc31 := bp hb31
  refine kt_ (w_ (m_ (h:=f_ (h:=l_ (h:=bd_ (h:=al_ (h:=s_ (h:=e_ (q_ (w_ (m_ (h:=eq_ (h:=e_ (?_))))))))))))))
  refine aw_cond rfl (fun hb32 => ?_) (fun hb32 => ?_)
  ·have hc32 := bp hb32
   refine aw_exit (x_thenE (ABlock_out (t_ (aw_region (m_ (h:=ad_ (h:=a_ (h:=al_nil (?_)))))))))
   refine x_then ?_
   refine ⟨_, _, ?_, ⟨j + 1, by omega, rfl, upto_next ha (by unfold devAt; simp only [hy]; simp_all), rfl⟩, (wk 2 0)⟩
   omega
  have hc32 := bp hb32
  refine kt_ (w_ (l_ (h:=l_ (h:=?_))))
  refine al_p rfl (q_call (Rlinks f ((q : Int), n.ino) hf.b) ?_)
  rintro r rfl
  refine a_ (h:=e_ (q_ (w_ (f_ (h:=l_ (h:=nq_ (h:=m_ (h:=g0_ (h:=g0_ (h:=pf_ (h:=e_ (cn_ (h:=kt_ (w_ (f_ (h:=l_ (h:=eq_ (h:=e_ (cy_ (h:=w_ (l_ (h:=m_ (h:=f_ (h:=?_))))))))))))))))))))))))
  refine l_ (h:=bd_ (h:=?_))
  refine al_p rfl (q_call (Rnode f ((q : Int), n.parent) hf.b) ?_)
  rintro r rfl
  refine m_ (h:=x_ (h:=x_ (h:=al_ (h:=s_ (h:=a_ (h:=e_ (w_ (m_ (h:=nq_ (h:=m_ (h:=?_)))))))))))
  refine al_gs false rfl rfl (fun hb33 => ?_) (fun hb33 => ?_)
  ·have hc33 := bp hb33
   refine g0_ (h:=g0_ (h:=pt_ (h:=m_ (h:=g0_ (h:=g0_ (h:=g0_ (h:=g0_ (h:=g0_ (h:=pt_ (h:=e_ (cy_ (h:=w_ (a_ (h:=e_ (aw_ret (x_blockR (x_thenR (x_thenR (x_blockR (x_thenR (?_)))))))))))))))))))))
   refine e_ret ?_
   exact vb (dev_no hlt (by unfold devAt; simp only [hy]; simp_all)).symm
  have hc33 := bp hb33
  refine m_ (h:=nt_ (h:=pf_ (h:=m_ (h:=?_))))
  refine al_gs false rfl rfl (fun hb34 => ?_) (fun hb34 => ?_)
  ·have hc34 := bp hb34
   refine g0_ (h:=g0_ (h:=g0_ (h:=g0_ (h:=g0_ (h:=pt_ (h:=e_ (cy_ (h:=w_ (a_ (h:=e_ (aw_ret (x_blockR (x_thenR (x_thenR (x_blockR (x_thenR (?_)))))))))))))))))
   refine e_ret ?_
   exact vb (dev_no hlt (by unfold devAt; simp only [hy]; simp_all)).symm
  have hc34 := bp hb34
  refine l_ (h:=f_ (h:=l_ (h:=?_)))
  refine g_y (q_call (Rholds (nodG f ((q : Int), n.parent)) n.ino (hpe _)) ?_)
  rintro r rfl
  refine nt_ (h:=pf_ (h:=e_ (?_)))
  refine aw_cond rfl (fun hb35 => ?_) (fun hb35 => ?_)
  ·have hc35 := bp hb35
   refine w_ (a_ (h:=e_ (aw_ret (x_blockR (x_thenR (x_thenR (x_blockR (x_thenR (?_)))))))))
   refine e_ret ?_
   exact vb (dev_no hlt (by unfold devAt; simp only [hy]; simp_all)).symm
  have hc35 := bp hb35
  refine aw_skip (x_blockN (t_ (aw_region (m_ (h:=ad_ (h:=a_ (h:=al_nil (?_))))))))
  refine x_then ?_
  refine ⟨_, _, ?_, ⟨j + 1, by omega, rfl, upto_next ha (by unfold devAt; simp only [hy]; simp_all), rfl⟩, (wk 2 0)⟩
  omega
 have hc8 := bp hb8
 refine aw_exit (x_thenE (x_thenE (ABlock_out (t_ (w_ (l_ (h:=?_)))))))
 refine al_p rfl (q_call (Rreached d hdn) ?_)
 rintro r rfl
 refine a_ (h:=e_ (aw_ret (?_)))
 refine e_ret ?_
 first | exact vb (dev_no hlt (by unfold devAt; simp only [hy]; simp_all)).symm | exact vb (dev_yes hhd (fun i hi => ha i (by omega))).symm
theorem Rvalid5 (f : Fls) (hf : FlsT f) : AFn Try.prog 41 [.agg (flsA f)] (fun r => r = .v (.bool (vldR f))) := by
 have hfew := hf.b.few
 have hel : (f.map dvcA).length = f.length := by simp
 refine enter Try.func41 rfl rfl rfl rfl rfl 0 rfl ?_
 refine w_ (b_ (h:=a_ (h:=e_ (q_ (w_ (f_ (h:=l_ (h:=n_ (h:=lt_ (h:=m_ (h:=?_)))))))))))
 refine al_gs false rfl rfl (fun hb1 => ?_) (fun hb1 => ?_)
 ·have hc1 := bp hb1
  refine g0_ (h:=g0_ (h:=g0_ (h:=g0_ (h:=pt_ (h:=e_ (cy_ (h:=w_ (a_ (h:=e_ (aw_ret (x_thenR (?_))))))))))))
  refine e_ret ?_
  exact vb (by unfold vldR; rw [if_pos (by omega)])
 have hc1 := bp hb1
 refine f_ (h:=l_ (h:=n_ (h:=gt_ (h:=pf_ (h:=e_ (?_))))))
 refine aw_cond rfl (fun hb2 => ?_) (fun hb2 => ?_)
 ·have hc2 := bp hb2
  refine w_ (a_ (h:=e_ (aw_ret (x_thenR (?_)))))
  refine e_ret ?_
  exact vb (by unfold vldR; rw [if_neg (by omega), if_pos (by omega)])
 have hc2 := bp hb2
 refine kt_ (q_ (w_ (a_ (h:=e_ (aw_block (?_))))))
 refine aw_loopW (fun m t => ∃ j : Nat, j ≤ f.length ∧ m = f.length - j ∧ (∀ i, i < j → vldAt f i = true) ∧ t = ⟨look [(1, .bp 0 0), (3, .v (.int .i64 (j : Int)))], ⟨[flsA f], []⟩⟩) (f.length) ((wk 1 0)) (⟨0, by omega, rfl, fun i hi => by omega, rfl⟩) ?_
 rintro m t ⟨j, hj, rfl, ha, rfl⟩
 refine q_ (w_ (m_ (h:=f_ (h:=l_ (h:=n_ (h:=lt_ (h:=e_ (?_))))))))
 refine aw_cond rfl (fun hb3 => ?_) (fun hb3 => ?_)
 ·have hc3 := bp hb3
  obtain ⟨hlt, d, hy, hrow, -⟩ := row_at dvcA hc3
  refine kt_ (q_ (aw_block (w_ (l_ (h:=m_ (h:=?_))))))
  refine al_p rfl (q_call (Rdev f j d hf hy) ?_)
  rintro r rfl
  refine nt_ (h:=e_ (?_))
  refine aw_cond rfl (fun hb4 => ?_) (fun hb4 => ?_)
  ·have hc4 := bp hb4
   refine w_ (a_ (h:=e_ (aw_ret (x_blockR (x_thenR (x_thenR (x_blockR (x_thenR (?_)))))))))
   refine e_ret ?_
   exact vb (by unfold vldR; rw [if_neg (by omega), if_neg (by omega)]; exact (range_no hlt (by unfold vldAt; simp only [hy]; simp_all)).symm)
  have hc4 := bp hb4
  refine aw_skip (x_blockN (t_ (aw_region (m_ (h:=ad_ (h:=a_ (h:=al_nil (?_))))))))
  refine x_then ?_
  refine ⟨_, _, ?_, ⟨j + 1, by omega, rfl, upto_next ha (by unfold vldAt; simp only [hy]; simp_all), rfl⟩, (wk 1 0)⟩
  omega
 have hc3 := bp hb3
 refine aw_exit (x_thenE (x_thenE (ABlock_out (t_ (w_ (a_ (h:=e_ (aw_ret (?_)))))))))
 refine e_ret ?_
 exact vb (by unfold vldR; rw [if_neg (by omega), if_neg (by omega)]; exact (range_yes (fun i hi => ha i (by omega))).symm)
end
def Old (w : World) : Nat → Prop := fun b => b < w.heap.size
theorem below_drewN {B : Nat} {a w : World} (h : Below B a w) (n : Nat) : Below B a (w.drewN n) := ⟨h.os, h.tape, h.output, h.size, h.block⟩
theorem ret_bool {a b : Bool} (h : a = b) : Ending.returned (.bool a) = .returned (.bool b) := by rw [h]
theorem below_a1 (w : World) (o1 : Obj) : Below w.heap.size w (w.alloc o1) := by
 exact (Below.refl _ w).alloc (Nat.le_refl _) _
theorem below_a2 (w : World) (o1 o2 : Obj) : Below w.heap.size w ((w.alloc o1).alloc o2) := by
 exact (below_a1 w o1).alloc (by simp <;> omega) _
end Go.Proofs.Ythcbdkmhamhciaa
namespace Go.Proofs.Ythcbdkmhamhciaa
abbrev Bs := List UInt8
def nmL (l : Bs) : Bool := decide (l ≠ [] ∧ l.length ≤ 12 ∧ l ≠ [46] ∧ l ≠ [46, 46] ∧ (0 : UInt8) ∉ l ∧ (47 : UInt8) ∉ l)
theorem nmL_iff {l : Bs} : nmL l = true ↔ l ≠ [] ∧ l.length ≤ 12 ∧ l ≠ [46] ∧ l ≠ [46, 46] ∧ (0 : UInt8) ∉ l ∧ (47 : UInt8) ∉ l := decide_eq_true_iff
end Go.Proofs.Ythcbdkmhamhciaa
namespace Go.Proofs.Ythcbdkmhamhciaa
open Go.RowKit
theorem toL (s : ByteArray) : s.toList = s.data.toList := Lib.toList_data s
theorem empty_iff' (s : ByteArray) : s.toList.isEmpty = decide (s.size = 0) := by
 rw [toL, Lib.size_eq, Bool.eq_iff_iff, List.isEmpty_iff, decide_eq_true_iff, List.length_eq_zero_iff]
theorem encode_high (r : Int) (h0 : 128 ≤ r) (h1 : Lib.validRune r = true) :
    (∃ a b : UInt8, Utf8.encode r = ⟨#[a, b]⟩ ∧ 128 ≤ b.toNat) ∨ (∃ a b c : UInt8, Utf8.encode r = ⟨#[a, b, c]⟩) ∨ (∃ a b c d : UInt8, Utf8.encode r = ⟨#[a, b, c, d]⟩) := by
 have hv : Utf8.valid r = true := by
  have := of_decide_eq_true h1
  unfold Utf8.valid
  simp only [Bool.or_eq_true, Bool.and_eq_true, decide_eq_true_iff]
  omega
 unfold Utf8.encode
 simp only [hv, if_true]
 have hn : ¬ r.toNat < 128 := by omega
 rw [if_neg hn]
 by_cases h2 : r.toNat < 2048
 ·rw [if_pos h2]
  refine .inl ⟨_, _, rfl, ?_⟩
  simp only [UInt8.toNat_ofNat']
  omega
 rw [if_neg h2]
 by_cases h3 : r.toNat < 65536
 ·rw [if_pos h3]
  exact .inr (.inl ⟨_, _, _, rfl⟩)
 rw [if_neg h3]
 exact .inr (.inr ⟨_, _, _, _, rfl⟩)
set_option maxRecDepth 1000000 in
set_option maxHeartbeats 2000000 in
theorem IndexRune_bad (r : Int) (w : World) (h0 : 128 ≤ r) (h1 : r ≤ 2147483647) (h2 : r ≠ 65533) (hv : Lib.validRune r = false) :
    Calls Try.prog 114 #[.string ⟨#[0, 47]⟩, .int .i32 r] w fun e w' => e = .returned (.int .i64 (-1)) ∧ w = w' := by
 have h2' : (r == 65533) = false := by simpa using h2
 go_enter Try.func114, Try.ntmps114
 go_wp2_with (go_at_call 120; refine (Try.utf8_ValidRune _ _).mono ?_; rintro e w' ⟨rfl, rfl⟩; rw [hv])
 go_ret
 exact ⟨rfl, rfl⟩
set_option maxRecDepth 1000000 in
set_option maxHeartbeats 2000000 in
theorem IndexRune_good (r : Int) (w : World) (h0 : 128 ≤ r) (h1 : r ≤ 2147483647) (h2 : r ≠ 65533) (hv : Lib.validRune r = true) :
    Calls Try.prog 114 #[.string ⟨#[0, 47]⟩, .int .i32 r] w fun e w' => e = .returned (.int .i64 (-1)) ∧ Below w.heap.size w w' := by
 have h2' : (r == 65533) = false := by simpa using h2
 have hlt : decide (r < 128) = false := by simpa using h0
 rcases encode_high r h0 hv with ⟨a, b, he, hb⟩ | ⟨a, b, c, he⟩ | ⟨a, b, c, d, he⟩
 ·have hne : ((((⟨#[0, 47]⟩ : ByteArray)[1]'(by decide)).toNat : Int) != (((⟨#[a, b]⟩ : ByteArray)[1]'(by show 1 < 2; decide)).toNat : Int)) = true := by
     show ((47 : Int) != (b.toNat : Int)) = true
     rw [bne_iff_ne]
     omega
  go_enter Try.func114, Try.ntmps114
  go_wp2_with (go_at_call 120; refine (Try.utf8_ValidRune _ _).mono ?_; rintro e w' ⟨rfl, rfl⟩; rw [hv])
  go_step3
  go_wp2
  refine wp_loop_rounds 1 ?_
  rw [rounds_succ]
  go_wp2
  go_step3
  go_wp2
  go_quiet (fail)
  have hb := below_drewN (Below.refl w'.heap.size w') nq
  generalize w'.drewN nq = wq at *
  go_wp2
  go_quiet ((go_at_call 107; exact Calls.quiet_of_same (Try.strings_IndexByte _ _ _)))
  go_wp2
  rw [Exit.noGoto_ret]
  go_wp2
  rw [Exit.noGoto_ret]
  go_wp2
  go_ret
  exact ⟨rfl, below_drewN hb _⟩
 ·go_enter Try.func114, Try.ntmps114
  go_wp2_with (go_at_call 120; refine (Try.utf8_ValidRune _ _).mono ?_; rintro e w' ⟨rfl, rfl⟩; rw [hv])
  go_step3
  go_wp2
  refine wp_loop_rounds 1 ?_
  rw [rounds_succ]
  go_wp2
  rw [Exit.noGoto_ret]
  go_wp2
  go_ret
  exact ⟨rfl, Below.refl _ _⟩
 go_enter Try.func114, Try.ntmps114
 go_wp2_with (go_at_call 120; refine (Try.utf8_ValidRune _ _).mono ?_; rintro e w' ⟨rfl, rfl⟩; rw [hv])
 go_step3
 go_wp2
 refine wp_loop_rounds 1 ?_
 rw [rounds_succ]
 go_wp2
 rw [Exit.noGoto_ret]
 go_wp2
 go_ret
 exact ⟨rfl, Below.refl _ _⟩
theorem two_at (i : Nat) (hi : i < 2) : ((⟨#[0, 47]⟩ : ByteArray)[i]'hi).toNat < 128 := by
 match i, hi with
 | 0, _ => show (0 : UInt8).toNat < 128; decide
 | 1, _ => show (47 : UInt8).toNat < 128; decide
set_option maxRecDepth 1000000 in
set_option maxHeartbeats 2000000 in
theorem IndexRune_err (w : World) :
    Calls Try.prog 114 #[.string ⟨#[0, 47]⟩, .int .i32 65533] w fun e w' => e = .returned (.int .i64 (-1)) ∧ Below w.heap.size w w' := by
 go_enter Try.func114, Try.ntmps114
 go_wp2
 go_loopg [5, 6] 2 (fun g _ _ wx => ∃ i : Nat, i + g = 2 ∧ wx = w.iter ⟨#[0, 47]⟩ i)
 case atStart => exact ⟨0, by omega, rfl⟩
 case round =>
  obtain ⟨i, hig, rfl⟩ := hrel
  cases gk with
  | zero =>
    obtain rfl : i = 2 := by omega
    have hnx := run_next_end (P := Try.prog) w ⟨#[0, 47]⟩ 2
    go_wp2
    go_ret
    exact ⟨rfl, (Below.refl _ _).alloc (Nat.le_refl _) _⟩
  | succ g =>
    have hi : i < 2 := by omega
    have hx := two_at i hi
    have hnx := fun ty => run_next_ascii (P := Try.prog) w ⟨#[0, 47]⟩ i ty hi hx
    generalize ((⟨#[0, 47]⟩ : ByteArray)[i]'hi) = x at *
    have hne : ((x.toNat : Int) == 65533) = false := beq_eq_false_iff_ne.2 (by omega)
    go_wp2
    go_roundg g
    case measure => omega
    case rel => exact ⟨i + 1, by omega, rfl⟩
end Go.Proofs.Ythcbdkmhamhciaa
