/-
  Part 10 of the proof of FilesKeepP: what the statement's proof uses of the texts in wip/tpl.
-/
import Derived.Test.YthcbdkmhamhciaaQk9
namespace Go.Proofs.Ythcbdkmhamhciaa
open Go.RowKit
theorem back_new1 {bx : List (List AV)} (r : List AV) (h : renL (backS [] bx.length) r = r) : Back bx [] [r] (bx ++ [r]) := by
 have := back_F (bx := bx) (is := []) (bc := [r]) List.nodup_nil (by simp) (by simp)
 simpa [backF, h] using this
theorem nodF_eight (l : List Nod) : ∀ r ∈ l.map nodF, r.length = 8 := by
 intro r hr
 obtain ⟨d, _, rfl⟩ := List.mem_map.1 hr
 rfl
def NF (ns : List Nod) (cap : Nat) : List AV := rowsB 8 cap (ns.map nodF)
theorem bp_nodF {n m : Nat} (x : Nod) : bpLtL n m (nodF x) = true := by
 unfold nodF
 rcases entX_or x.entries with h | h <;> rw [h] <;> rfl
theorem bp_NF {n m : Nat} (ns : List Nod) (cap : Nat) : bpLtL n m (NF ns cap) = true := by
 refine bpLt_rowsB fun r hr => ?_
 obtain ⟨d, _, rfl⟩ := List.mem_map.1 hr
 exact bp_nodF d
def rowsG (ns : List Nod) (i : Nat) (nI : Nod) (j cap : Nat) : List (List AV) := (ns.map nodF).set i (nodB nI j cap)
def NG (ns : List Nod) (i : Nat) (nI : Nod) (j cap cap1 : Nat) : List AV := rowsB 8 cap1 (rowsG ns i nI j cap)
theorem rowsG_eight (ns : List Nod) (i : Nat) (nI : Nod) (j cap : Nat) : ∀ r ∈ rowsG ns i nI j cap, r.length = 8 := by
 intro r hr
 rcases List.mem_or_eq_of_mem_set hr with h | h
 ·exact nodF_eight _ r h
 rw [h]; rfl
theorem rowsG_len (ns : List Nod) (i : Nat) (nI : Nod) (j cap : Nat) : (rowsG ns i nI j cap).length = ns.length := by simp [rowsG]
theorem bp_NG {n m : Nat} {ns : List Nod} {i : Nat} {nI : Nod} {j cap cap1 : Nat} (hj : j < n) : bpLtL n m (NG ns i nI j cap cap1) = true := by
 refine bpLt_rowsB fun r hr => ?_
 rcases List.mem_or_eq_of_mem_set hr with h | h
 ·obtain ⟨d, _, rfl⟩ := List.mem_map.1 h
  exact bp_nodF d
 rw [h]; simp [nodB, nodX, bpLtL, bpLt, hj]
theorem rowsG_succ {ns : List Nod} {i q : Nat} {nI x : Nod} {j cap : Nat} (hx : ns[q]? = some x) (hi : i < q) : rowsG (ns.take (q + 1)) i nI j cap = rowsG (ns.take q) i nI j cap ++ [nodF x] := by
 obtain ⟨hlt, e⟩ := List.getElem?_eq_some_iff.1 hx
 unfold rowsG
 rw [List.take_succ_eq_append_getElem hlt, e, List.map_append, List.set_append_left _ _ (by simp; omega)]
 rfl
theorem rowsG_here {ns : List Nod} {i : Nat} {nI : Nod} {j cap : Nat} (hx : ns[i]? = some nI) : rowsG (ns.take (i + 1)) i nI j cap = (ns.take i).map nodF ++ [nodB nI j cap] := by
 obtain ⟨hlt, e⟩ := List.getElem?_eq_some_iff.1 hx
 unfold rowsG
 have hl : ((ns.take i).map nodF).length = i := by simp; omega
 rw [List.take_succ_eq_append_getElem hlt, e, List.map_append, List.set_append_right _ _ (by omega), hl, Nat.sub_self]
 rfl
section
set_option maxRecDepth 10000
set_option maxHeartbeats 1000000
theorem PcopyNodeB (n : Nod) (h0 : 0 < n.entries.length) (hn : n.entries.length ≤ 1000) : ACall Try.prog 75 [.agg (nodA n)] [] (fun r b t => t = [] ∧ r = .agg (nodB n 2 n.entries.length) ∧ b = [nodB n 2 n.entries.length, nodB n 2 n.entries.length, EB n.entries n.entries.length]) := by
 refine enter Try.func75 rfl rfl rfl rfl rfl 3 rfl ?_
 refine w_ (b_ (h:=al_ (h:=e_ (w_ (f_ (h:=l_ (h:=?_)))))))
 refine al_p rfl (s_callM [] rfl (.cons _ _ _ _ _ rfl (LeA.refl _) (.cons _ _ _ _ _ rfl (LeA.refl _) .nil)) (by decide) .nil (PcopiedEB n.entries h0 hn) ?_)
 rintro r bc tc ⟨rfl, rfl, rfl⟩
 refine ⟨rfl, _, (back_new1 _ (ren_EB _ _ _) : Back _ [] _ [_, _, _]), ?_⟩
 refine f_ (h:=s_ (h:=e_ (w_ (l_ (h:=s_ (h:=e_ (aw_ret (?_))))))))
 refine abody_ret none (by repeat (first | exact ResA.nil | (apply ResA.tmp; (focus exact rfl)) | (apply ResA.cellN; (focus exact inferInstance); (focus exact rfl); (focus exact rfl); (focus exact rfl)) | (apply ResA.cell1; (focus exact inferInstance); (focus exact rfl); (focus exact rfl); (focus exact rfl)))) rfl rfl (by simp [bpLtB, bpLtL, bpLt, nodA, nodX, bp_EB, ren, backS]) (LeA.refl _) ⟨rfl, rfl, rfl⟩
theorem PcopiedN0 (ns : List Nod) (h0 : 0 < ns.length) (hns : ns.length ≤ 1000) (hen : ∀ n ∈ ns, n.entries.length ≤ 1000) : ACall Try.prog 108 [.sl 8 (ns.map nodA) none, .fn 75 []] [] (fun r b t => t = [] ∧ r = .bs 0 0 8 ns.length ns.length ∧ b = [NF ns ns.length]) := by
 have hml : (ns.map nodA).length = ns.length := by simp
 refine enter Try.func108 rfl rfl rfl rfl rfl 1 rfl ?_
 refine w_ (a_ (h:=e_ (q_ (w_ (m_ (h:=n_ (h:=eq_ (h:=e_ (?_)))))))))
 refine aw_cond rfl (fun hb1 => ?_) (fun hb1 => ?_)
 ·have hc1 := bp hb1
  exfalso; first | contradiction | omega
 have hc1 := bp hb1
 refine kt_ (w_ (m_ (h:=n_ (h:=?_))))
 refine al_p rfl (st_makeB (l := 0) (m := ns.length) (k := 0) rfl rfl rfl (by simp) (Nat.zero_le _) h0 (by omega) (by repeat constructor) ?_)
 refine a_ (h:=e_ (q_ (w_ (m_ (h:=n_ (h:=m_ (h:=e_ (aw_block (?_)))))))))
 refine aw_loopW (fun m s => ∃ j : Nat, j ≤ ns.length ∧ m = ns.length - j ∧ s = ⟨look [(1, .fn 75 []), (5, .bs 0 0 8 j ns.length), (14, .sl 8 (ns.map nodA) none), (15, .v (.int .i64 ((ns.map nodA).length : Int))), (16, .v (.int .i64 (j : Int)))], ⟨[NF (ns.take j) ns.length], []⟩⟩) (ns.length) (wb_ 1 0 (by show (bpLtL 1 0 (NF [] ns.length) && true) = true; rw [bp_NF]; rfl)) (⟨0, by omega, rfl, rfl⟩) ?_
 rintro m s ⟨j, hj, rfl, rfl⟩
 refine w_ (lt_ (h:=e_ (q_ (?_))))
 refine aw_cond rfl (fun hb2 => ?_) (fun hb2 => ?_)
 ·have hc2 := bp hb2
  obtain ⟨hlt, x, hy, hrow, -⟩ := row_at nodA hc2
  have hxe := hen x (List.mem_of_getElem? hy)
  have e : (ns.take (j + 1)).map nodF = (ns.take j).map nodF ++ [nodF x] := by
   obtain ⟨hl, e0⟩ := List.getElem?_eq_some_iff.1 hy
   rw [List.take_succ_eq_append_getElem hl, e0, List.map_append]; rfl
  have hlj : ((ns.take j).map nodF).length = j := by simp; omega
  refine kt_ (q_ (aw_block (w_ (i_ (h:=l_ (h:=al_ (h:=s_ (h:=e_ (aw_region (m_ (h:=m_ (h:=l_ (h:=?_)))))))))))))
  refine al_p rfl (st_callC (cy := []) (ys := [.agg (nodA x)]) rfl (by repeat (first | exact Args.nil | refine Args.cons _ _ _ _ _ rfl (argOk_clean rfl) ?_ | refine Args.cons _ _ _ _ _ rfl (argOk_nil _) ?_ | refine Args.cons _ _ _ _ _ rfl (argOk_era _) ?_ | refine Args.cons _ _ _ _ _ rfl (argOk_le rfl (by repeat (first | exact LeA.refl _ | exact LeA.nil _ | exact LeL.refl _ | refine LeA.agg ?_ | refine LeA.tup ?_ | exact LeL.nil | refine LeL.cons ?_ ?_ | exact LeA.any _))) ?_)) rfl rfl (PcopyNodeX x hxe) ?_)
  intro r hr
  rcases entX_or x.entries with he | he
  ·have e9 : nodF x = nodX x (.v (.slice none 0 0)) := by unfold nodF; rw [he]
   rw [e9] at hr
   subst hr
   refine bs_ (h:=?_)
   refine al_p rfl (st_appendB rfl rfl rfl (by rw [NF, rowsB_len (nodF_eight _) (by simp; omega)]; omega) (SrcA.sl _ _) (by simp) (by simp; omega) ?_ (fun h => absurd h (by simp; omega)))
   intro _ row2 bx2 hs1 hs2
   obtain rfl : row2 = NF (ns.take (j + 1)) ns.length := by
    unfold NF
    rw [e, e9]
    exact rowsB_push (nodF_eight _) rfl (by decide) (by rw [hlj]; omega) (by rw [hlj]; exact hs1)
   obtain rfl := (SetAt.one hs2).2
   refine a_ (h:=al_nil (x_blockN (t_ (aw_region (ad_ (h:=m_ (h:=al_nil (?_))))))))
   refine x_then ?_
   refine ⟨_, _, ?_, ⟨j + 1, by omega, rfl, rfl⟩, wb_ 1 0 (by simp [bpLtB, bp_NF])⟩
   omega
  have e9 : nodF x = nodX x (.sl 2 (x.entries.map entA) none) := by unfold nodF; rw [he]
  rw [e9] at hr
  subst hr
  refine bs_ (h:=?_)
  refine al_p rfl (st_appendB rfl rfl rfl (by rw [NF, rowsB_len (nodF_eight _) (by simp; omega)]; omega) (SrcA.sl _ _) (by simp) (by simp; omega) ?_ (fun h => absurd h (by simp; omega)))
  intro _ row2 bx2 hs1 hs2
  obtain rfl : row2 = NF (ns.take (j + 1)) ns.length := by
   unfold NF
   rw [e, e9]
   exact rowsB_push (nodF_eight _) rfl (by decide) (by rw [hlj]; omega) (by rw [hlj]; exact hs1)
  obtain rfl := (SetAt.one hs2).2
  refine a_ (h:=al_nil (x_blockN (t_ (aw_region (ad_ (h:=m_ (h:=al_nil (?_))))))))
  refine x_then ?_
  refine ⟨_, _, ?_, ⟨j + 1, by omega, rfl, rfl⟩, wb_ 1 0 (by simp [bpLtB, bp_NF])⟩
  omega
 have hc2 := bp hb2
 have e := row_no nodA hj hc2
 subst e
 rw [List.take_length]
 refine aw_exit (x_thenE (x_thenE (ABlock_out (t_ (w_ (m_ (h:=a_ (h:=e_ (aw_ret (?_))))))))))
 refine abody_ret (r := .bs 0 0 8 ns.length ns.length) none (by repeat (first | exact ResA.nil | (apply ResA.tmp; (focus exact rfl)) | (apply ResA.cellN; (focus exact inferInstance); (focus exact rfl); (focus exact rfl); (focus exact rfl)) | (apply ResA.cell1; (focus exact inferInstance); (focus exact rfl); (focus exact rfl); (focus exact rfl)))) rfl rfl (by simp [bpLtB, bp_NF]) (LeA.refl _) ⟨rfl, rfl, rfl⟩
end
section
variable {F : AV → AV} (hany : F .any = .any) (hv : ∀ x, F (.v x) = .v x) (hs : ∀ sz rows, F (.sl sz rows none) = .sl sz rows none)
include hv hs
theorem map_nodF (x : Nod) : (nodF x).map F = nodF x := by
 unfold nodF
 rcases entX_or x.entries with h | h <;> rw [h] <;> simp [nodX, hv, hs]
include hany
theorem map_NF (ns : List Nod) (cap : Nat) : (NF ns cap).map F = NF ns cap := by
 unfold NF
 rw [rowsB_map F hany, List.map_map]
 congr 1
 apply List.map_congr_left
 intro n _
 exact map_nodF hv hs n
theorem map_NG (ns : List Nod) (i : Nat) (nI : Nod) {j j' : Nat} (cap cap1 : Nat) (hb : F (.bs j 0 2 nI.entries.length cap) = .bs j' 0 2 nI.entries.length cap) : (NG ns i nI j cap cap1).map F = NG ns i nI j' cap cap1 := by
 unfold NG rowsG
 rw [rowsB_map F hany, List.map_set]
 congr 1
 have e1 : ((ns.map nodF).map fun r => r.map F) = ns.map nodF := by
  rw [List.map_map]
  apply List.map_congr_left
  intro n _
  exact map_nodF hv hs n
 rw [e1]
 congr 1
 simp [nodB, nodX, hv, hb]
end
theorem renK_NF (g : Nat → Option Nat) (ns : List Nod) (cap : Nat) : renKL g (NF ns cap) = NF ns cap := by
 rw [renKL_map]
 exact map_NF rfl (fun _ => rfl) (fun _ _ => rfl) ns cap
theorem ren_NF (g : Nat → Option Nat) (ns : List Nod) (cap : Nat) : renL g (NF ns cap) = NF ns cap := by
 rw [renL_map]
 exact map_NF rfl (fun _ => rfl) (fun _ _ => rfl) ns cap
theorem renK_NG {g : Nat → Option Nat} {j j' : Nat} (h : g j = some j') (ns : List Nod) (i : Nat) (nI : Nod) (cap cap1 : Nat) : renKL g (NG ns i nI j cap cap1) = NG ns i nI j' cap cap1 := by
 rw [renKL_map]
 exact map_NG rfl (fun _ => rfl) (fun _ _ => rfl) ns i nI cap cap1 (by simp [renK, h])
theorem ren_NG {g : Nat → Option Nat} {j j' : Nat} (h : g j = some j') (ns : List Nod) (i : Nat) (nI : Nod) (cap cap1 : Nat) : renL g (NG ns i nI j cap cap1) = NG ns i nI j' cap cap1 := by
 rw [renL_map]
 exact map_NG rfl (fun _ => rfl) (fun _ _ => rfl) ns i nI cap cap1 (by simp [ren, h])
theorem renK_EB (g : Nat → Option Nat) (es : List Ent) (cap : Nat) : renKL g (EB es cap) = EB es cap := by
 rw [renKL_map]
 exact map_plain rfl (fun _ => rfl) (ent_plain es)
theorem back_nodB {bx : List (List AV)} {n : Nat} (hn : bx.length = n) (x : Nod) (l : Nat) : Back bx [] [nodB x 2 l, nodB x 2 l, EB x.entries l] (bx ++ [nodB x (n + 2) l, nodB x (n + 2) l, EB x.entries l]) := by
 subst hn
 have := back_F (bx := bx) (is := []) (bc := [nodB x 2 l, nodB x 2 l, EB x.entries l]) List.nodup_nil (by simp) (by simp)
 have e1 : renL (backS [] bx.length) (nodB x 2 l) = nodB x (bx.length + 2) l := by simp [nodB, nodX, renL, ren, backS]
 simpa [backF, ren_EB, e1] using this
section
set_option maxRecDepth 10000
set_option maxHeartbeats 1000000
theorem PcopiedNG (ns : List Nod) (i : Nat) (nI : Nod) (hi : ns[i]? = some nI) (hE : 0 < nI.entries.length) (hns : ns.length ≤ 1000) (hen : ∀ n ∈ ns, n.entries.length ≤ 1000) : ACall Try.prog 108 [.sl 8 (ns.map nodA) none, .fn 75 []] [] (fun r b t => t = [] ∧ r = .bs 0 0 8 ns.length ns.length ∧ b = [NG ns i nI 1 nI.entries.length ns.length, EB nI.entries nI.entries.length]) := by
 have hml : (ns.map nodA).length = ns.length := by simp
 have hil := (List.getElem?_eq_some_iff.1 hi).1
 have hEn := hen nI (List.mem_of_getElem? hi)
 refine enter Try.func108 rfl rfl rfl rfl rfl 2 rfl ?_
 refine w_ (a_ (h:=e_ (q_ (w_ (m_ (h:=n_ (h:=eq_ (h:=e_ (?_)))))))))
 refine aw_cond rfl (fun hb1 => ?_) (fun hb1 => ?_)
 ·have hc1 := bp hb1
  exfalso; first | contradiction | omega
 have hc1 := bp hb1
 refine kt_ (w_ (m_ (h:=n_ (h:=?_))))
 refine al_p rfl (st_makeB (l := 0) (m := ns.length) (k := 0) rfl rfl rfl (by simp) (Nat.zero_le _) (by omega) (by omega) (by repeat constructor) ?_)
 refine a_ (h:=e_ (q_ (w_ (m_ (h:=n_ (h:=m_ (h:=e_ (aw_block (?_)))))))))
 refine aw_loopW (fun m s => ∃ j : Nat, j ≤ ns.length ∧ m = ns.length - j ∧ ((j ≤ i ∧ s = ⟨look [(1, .fn 75 []), (5, .bs 0 0 8 j ns.length), (14, .sl 8 (ns.map nodA) none), (15, .v (.int .i64 ((ns.map nodA).length : Int))), (16, .v (.int .i64 (j : Int)))], ⟨[NF (ns.take j) ns.length], []⟩⟩) ∨ (i < j ∧ s = ⟨look [(1, .fn 75 []), (5, .bs 0 0 8 j ns.length), (14, .sl 8 (ns.map nodA) none), (15, .v (.int .i64 ((ns.map nodA).length : Int))), (16, .v (.int .i64 (j : Int)))], ⟨[NG (ns.take j) i nI 1 nI.entries.length ns.length, EB nI.entries nI.entries.length], []⟩⟩))) (ns.length) (wb_ 1 0 (by show (bpLtL 1 0 (NF [] ns.length) && true) = true; rw [bp_NF]; rfl)) (⟨0, by omega, rfl, .inl ⟨by omega, rfl⟩⟩) ?_
 rintro m s ⟨j, hj, rfl, ⟨hji, rfl⟩ | ⟨hji, rfl⟩⟩
 rcases Nat.lt_or_eq_of_le hji with hji | rfl
 ·skip
  refine w_ (lt_ (h:=e_ (q_ (?_))))
  refine aw_cond rfl (fun hb2 => ?_) (fun hb2 => ?_)
  ·have hc2 := bp hb2
   obtain ⟨hlt, x, hy, hrow, -⟩ := row_at nodA hc2
   have hxe := hen x (List.mem_of_getElem? hy)
   have e : (ns.take (j + 1)).map nodF = (ns.take j).map nodF ++ [nodF x] := by
    obtain ⟨hl, e0⟩ := List.getElem?_eq_some_iff.1 hy
    rw [List.take_succ_eq_append_getElem hl, e0, List.map_append]; rfl
   have hlj : ((ns.take j).map nodF).length = j := by simp; omega
   refine kt_ (q_ (aw_block (w_ (i_ (h:=l_ (h:=al_ (h:=s_ (h:=e_ (aw_region (m_ (h:=m_ (h:=l_ (h:=?_)))))))))))))
   refine al_p rfl (st_callC (cy := []) (ys := [.agg (nodA x)]) rfl (by repeat (first | exact Args.nil | refine Args.cons _ _ _ _ _ rfl (argOk_clean rfl) ?_ | refine Args.cons _ _ _ _ _ rfl (argOk_nil _) ?_ | refine Args.cons _ _ _ _ _ rfl (argOk_era _) ?_ | refine Args.cons _ _ _ _ _ rfl (argOk_le rfl (by repeat (first | exact LeA.refl _ | exact LeA.nil _ | exact LeL.refl _ | refine LeA.agg ?_ | refine LeA.tup ?_ | exact LeL.nil | refine LeL.cons ?_ ?_ | exact LeA.any _))) ?_)) rfl rfl (PcopyNodeX x hxe) ?_)
   intro r hr
   rcases entX_or x.entries with he | he
   ·have e9 : nodF x = nodX x (.v (.slice none 0 0)) := by unfold nodF; rw [he]
    rw [e9] at hr
    subst hr
    refine bs_ (h:=?_)
    refine al_p rfl (st_appendB rfl rfl rfl (by rw [NF, rowsB_len (nodF_eight _) (by simp; omega)]; omega) (SrcA.sl _ _) (by simp) (by simp; omega) ?_ (fun h => absurd h (by simp; omega)))
    intro _ row2 bx2 hs1 hs2
    obtain rfl : row2 = NF (ns.take (j + 1)) ns.length := by
     unfold NF
     rw [e, e9]
     exact rowsB_push (nodF_eight _) rfl (by decide) (by rw [hlj]; omega) (by rw [hlj]; exact hs1)
    obtain rfl := (SetAt.one hs2).2
    refine a_ (h:=al_nil (x_blockN (t_ (aw_region (ad_ (h:=m_ (h:=al_nil (?_))))))))
    refine x_then ?_
    refine ⟨_, _, ?_, ⟨j + 1, by omega, rfl, .inl ⟨by omega, rfl⟩⟩, wb_ 1 0 (by simp [bpLtB, bp_NF])⟩
    omega
   have e9 : nodF x = nodX x (.sl 2 (x.entries.map entA) none) := by unfold nodF; rw [he]
   rw [e9] at hr
   subst hr
   refine bs_ (h:=?_)
   refine al_p rfl (st_appendB rfl rfl rfl (by rw [NF, rowsB_len (nodF_eight _) (by simp; omega)]; omega) (SrcA.sl _ _) (by simp) (by simp; omega) ?_ (fun h => absurd h (by simp; omega)))
   intro _ row2 bx2 hs1 hs2
   obtain rfl : row2 = NF (ns.take (j + 1)) ns.length := by
    unfold NF
    rw [e, e9]
    exact rowsB_push (nodF_eight _) rfl (by decide) (by rw [hlj]; omega) (by rw [hlj]; exact hs1)
   obtain rfl := (SetAt.one hs2).2
   refine a_ (h:=al_nil (x_blockN (t_ (aw_region (ad_ (h:=m_ (h:=al_nil (?_))))))))
   refine x_then ?_
   refine ⟨_, _, ?_, ⟨j + 1, by omega, rfl, .inl ⟨by omega, rfl⟩⟩, wb_ 1 0 (by simp [bpLtB, bp_NF])⟩
   omega
  have hc2 := bp hb2
  exfalso; first | contradiction | omega
 ·have hrow : (ns.map nodA)[j]? = some (nodA nI) := by rw [List.getElem?_map, hi]; rfl
  refine w_ (lt_ (h:=e_ (q_ (?_))))
  refine aw_cond rfl (fun hb3 => ?_) (fun hb3 => ?_)
  ·have hc3 := bp hb3
   have hlj : ((ns.take j).map nodF).length = j := by simp; omega
   refine kt_ (q_ (aw_block (w_ (?_))))
   refine al_p rfl (st_index rfl rfl rfl hrow ?_)
   refine l_ (h:=al_ (h:=s_ (h:=e_ (aw_region (m_ (h:=m_ (h:=l_ (h:=?_))))))))
   refine al_p rfl (s_callMC [] rfl (.cons _ _ _ _ _ rfl (LeA.refl _) .nil) (by decide) .nil (PcopyNodeB nI hE hEn) ?_)
   rintro r bc tc ⟨rfl, rfl, rfl⟩
   refine ⟨rfl, _, (back_nodB (n := 2) rfl nI nI.entries.length : Back _ [] _ [_, _, _, _, _]), ?_⟩
   refine al_p rfl (st_slit1B rfl rfl rfl rfl (by repeat constructor) ?_)
   refine al_p rfl (st_appendB rfl rfl rfl (by rw [NF, rowsB_len (nodF_eight _) (by simp; omega)]; omega) (SrcA.bs 5 0 1 1 _ rfl (Nat.le_of_ble_eq_true rfl)) (by decide) (by omega) ?_ (fun h => absurd h (by omega)))
   intro _ row2 bx2 hs1 hs2
   obtain rfl : row2 = NG (ns.take (j + 1)) j nI 4 nI.entries.length ns.length := by
    unfold NG
    rw [rowsG_here hi]
    exact rowsB_push (nodF_eight _) rfl (by decide) (by rw [hlj]; omega) (by rw [hlj]; exact hs1)
   obtain rfl := (SetAt.one hs2).2
   refine a_ (h:=al_nil (x_blockN (t_ (aw_region (ad_ (h:=m_ (h:=al_nil (?_))))))))
   refine x_then ?_
   refine ⟨_, _, ?_, ⟨j + 1, by omega, rfl, .inr ⟨by omega, rfl⟩⟩, weak_ren [0, 4] (fun i hi => absurd hi (Nat.not_lt_zero i)) (by decide) (.cons _ _ _ _ _ rfl (renK_NG (by rfl) _ _ _ _ _) (.cons _ _ _ _ _ rfl (renK_EB _ _ _) .nil)) (by repeat (first | exact SubK.nil | refine SubK.cons _ _ _ _ rfl (LeA.refl _) ?_))⟩
   omega
  have hc3 := bp hb3
  exfalso; first | contradiction | omega
 skip
 refine w_ (lt_ (h:=e_ (q_ (?_))))
 refine aw_cond rfl (fun hb4 => ?_) (fun hb4 => ?_)
 ·have hc4 := bp hb4
  obtain ⟨hlt, x, hy, hrow, -⟩ := row_at nodA hc4
  have hxe := hen x (List.mem_of_getElem? hy)
  have e := rowsG_succ (nI := nI) (j := 1) (cap := nI.entries.length) hy hji
  have hlj : (rowsG (ns.take j) i nI 1 nI.entries.length).length = j := by rw [rowsG_len]; simp; omega
  refine kt_ (q_ (aw_block (w_ (i_ (h:=l_ (h:=al_ (h:=s_ (h:=e_ (aw_region (m_ (h:=m_ (h:=l_ (h:=?_)))))))))))))
  refine al_p rfl (st_callC (cy := []) (ys := [.agg (nodA x)]) rfl (by repeat (first | exact Args.nil | refine Args.cons _ _ _ _ _ rfl (argOk_clean rfl) ?_ | refine Args.cons _ _ _ _ _ rfl (argOk_nil _) ?_ | refine Args.cons _ _ _ _ _ rfl (argOk_era _) ?_ | refine Args.cons _ _ _ _ _ rfl (argOk_le rfl (by repeat (first | exact LeA.refl _ | exact LeA.nil _ | exact LeL.refl _ | refine LeA.agg ?_ | refine LeA.tup ?_ | exact LeL.nil | refine LeL.cons ?_ ?_ | exact LeA.any _))) ?_)) rfl rfl (PcopyNodeX x hxe) ?_)
  intro r hr
  rcases entX_or x.entries with he | he
  ·have e9 : nodF x = nodX x (.v (.slice none 0 0)) := by unfold nodF; rw [he]
   rw [e9] at hr
   subst hr
   refine bs_ (h:=?_)
   refine al_p rfl (st_appendB rfl rfl rfl (by rw [NG, rowsB_len (rowsG_eight _ _ _ _ _) (by rw [hlj]; omega)]; omega) (SrcA.sl _ _) (by simp) (by simp; omega) ?_ (fun h => absurd h (by simp; omega)))
   intro _ row2 bx2 hs1 hs2
   obtain rfl : row2 = NG (ns.take (j + 1)) i nI 1 nI.entries.length ns.length := by
    unfold NG
    rw [e, e9]
    exact rowsB_push (rowsG_eight _ _ _ _ _) rfl (by decide) (by rw [hlj]; omega) (by rw [hlj]; exact hs1)
   obtain rfl := (SetAt.one hs2).2
   refine a_ (h:=al_nil (x_blockN (t_ (aw_region (ad_ (h:=m_ (h:=al_nil (?_))))))))
   refine x_then ?_
   refine ⟨_, _, ?_, ⟨j + 1, by omega, rfl, .inr ⟨by omega, rfl⟩⟩, wb_ 2 0 (by simp [bpLtB, bp_NG, bp_EB])⟩
   omega
  have e9 : nodF x = nodX x (.sl 2 (x.entries.map entA) none) := by unfold nodF; rw [he]
  rw [e9] at hr
  subst hr
  refine bs_ (h:=?_)
  refine al_p rfl (st_appendB rfl rfl rfl (by rw [NG, rowsB_len (rowsG_eight _ _ _ _ _) (by rw [hlj]; omega)]; omega) (SrcA.sl _ _) (by simp) (by simp; omega) ?_ (fun h => absurd h (by simp; omega)))
  intro _ row2 bx2 hs1 hs2
  obtain rfl : row2 = NG (ns.take (j + 1)) i nI 1 nI.entries.length ns.length := by
   unfold NG
   rw [e, e9]
   exact rowsB_push (rowsG_eight _ _ _ _ _) rfl (by decide) (by rw [hlj]; omega) (by rw [hlj]; exact hs1)
  obtain rfl := (SetAt.one hs2).2
  refine a_ (h:=al_nil (x_blockN (t_ (aw_region (ad_ (h:=m_ (h:=al_nil (?_))))))))
  refine x_then ?_
  refine ⟨_, _, ?_, ⟨j + 1, by omega, rfl, .inr ⟨by omega, rfl⟩⟩, wb_ 2 0 (by simp [bpLtB, bp_NG, bp_EB])⟩
  omega
 have hc4 := bp hb4
 have e := row_no nodA hj hc4
 subst e
 rw [List.take_length]
 refine aw_exit (x_thenE (x_thenE (ABlock_out (t_ (w_ (m_ (h:=a_ (h:=e_ (aw_ret (?_))))))))))
 refine abody_ret (r := .bs 0 0 8 ns.length ns.length) none (by repeat (first | exact ResA.nil | (apply ResA.tmp; (focus exact rfl)) | (apply ResA.cellN; (focus exact inferInstance); (focus exact rfl); (focus exact rfl); (focus exact rfl)) | (apply ResA.cell1; (focus exact inferInstance); (focus exact rfl); (focus exact rfl); (focus exact rfl)))) rfl rfl (by simp [bpLtB, bp_NG, bp_EB]) (LeA.refl _) ⟨rfl, rfl, rfl⟩
end
def FB (f : Fls) (cap : Nat) : List AV := rowsB 2 cap (f.map dvcA)
theorem bp_FB {n m : Nat} (f : Fls) (cap : Nat) : bpLtL n m (FB f cap) = true := by
 refine bpLt_rowsB fun r hr => ?_
 obtain ⟨d, _, rfl⟩ := List.mem_map.1 hr
 rfl
theorem devB_succ {f : Fls} {K q : Nat} {dK x : Dvc} {j cap : Nat} (hx : f[q]? = some x) (hK : K < q) : devB (f.take (q + 1)) K dK j cap = devB (f.take q) K dK j cap ++ [dvcA x] := by
 obtain ⟨hlt, e⟩ := List.getElem?_eq_some_iff.1 hx
 unfold devB
 rw [List.take_succ_eq_append_getElem hlt, e, List.map_append, List.set_append_left _ _ (by simp; omega)]
 rfl
theorem devB_here {f : Fls} {K : Nat} {dK : Dvc} {j cap : Nat} (hx : f[K]? = some dK) : devB (f.take (K + 1)) K dK j cap = (f.take K).map dvcA ++ [devR dK j cap] := by
 obtain ⟨hlt, e⟩ := List.getElem?_eq_some_iff.1 hx
 unfold devB
 have hl : ((f.take K).map dvcA).length = K := by simp; omega
 rw [List.take_succ_eq_append_getElem hlt, e, List.map_append, List.set_append_right _ _ (by omega), hl, Nat.sub_self]
 rfl
theorem back_dev0 {bx : List (List AV)} {n : Nat} (hn : bx.length = n) (d : Dvc) (m : Nat) (ns : List Nod) (cap : Nat) : Back bx [] [devR d 2 m, devR d 2 m, NF ns cap] (bx ++ [devR d (n + 2) m, devR d (n + 2) m, NF ns cap]) := by
 subst hn
 have := back_F (bx := bx) (is := []) (bc := [devR d 2 m, devR d 2 m, NF ns cap]) List.nodup_nil (by simp) (by simp)
 have e1 : renL (backS [] bx.length) (devR d 2 m) = devR d (bx.length + 2) m := by simp [devR, renL, ren, backS]
 simpa [backF, ren_NF, e1] using this
theorem back_devG {bx : List (List AV)} {n : Nat} (hn : bx.length = n) (d : Dvc) (m : Nat) (ns : List Nod) (i : Nat) (nI : Nod) (l cap : Nat) (es : List Ent) (cap2 : Nat) : Back bx [] [devR d 2 m, devR d 2 m, NG ns i nI 3 l cap, EB es cap2] (bx ++ [devR d (n + 2) m, devR d (n + 2) m, NG ns i nI (n + 3) l cap, EB es cap2]) := by
 subst hn
 have := back_F (bx := bx) (is := []) (bc := [devR d 2 m, devR d 2 m, NG ns i nI 3 l cap, EB es cap2]) List.nodup_nil (by simp) (by simp)
 have e1 : renL (backS [] bx.length) (devR d 2 m) = devR d (bx.length + 2) m := by simp [devR, renL, ren, backS]
 have e2 : renL (backS [] bx.length) (NG ns i nI 3 l cap) = NG ns i nI (bx.length + 3) l cap := ren_NG (by simp [backS]) _ _ _ _ _
 simpa [backF, ren_EB, e1, e2] using this
theorem back_devs0 {bx : List (List AV)} {n : Nat} (hn : bx.length = n) (f : Fls) (K : Nat) (d : Dvc) (cap cap1 : Nat) (ns : List Nod) (cap2 : Nat) : Back bx [] [DB f K d 1 cap cap1, NF ns cap2] (bx ++ [DB f K d (n + 1) cap cap1, NF ns cap2]) := by
 subst hn
 have := back_F (bx := bx) (is := []) (bc := [DB f K d 1 cap cap1, NF ns cap2]) List.nodup_nil (by simp) (by simp)
 have e1 : renL (backS [] bx.length) (DB f K d 1 cap cap1) = DB f K d (bx.length + 1) cap cap1 := ren_DB (by simp [backS]) _ _ _ _ _
 simpa [backF, ren_NF, e1] using this
theorem back_devsG {bx : List (List AV)} {n : Nat} (hn : bx.length = n) (f : Fls) (K : Nat) (d : Dvc) (cap cap1 : Nat) (ns : List Nod) (i : Nat) (nI : Nod) (l cap2 : Nat) (es : List Ent) (cap3 : Nat) : Back bx [] [DB f K d 1 cap cap1, NG ns i nI 2 l cap2, EB es cap3] (bx ++ [DB f K d (n + 1) cap cap1, NG ns i nI (n + 2) l cap2, EB es cap3]) := by
 subst hn
 have := back_F (bx := bx) (is := []) (bc := [DB f K d 1 cap cap1, NG ns i nI 2 l cap2, EB es cap3]) List.nodup_nil (by simp) (by simp)
 have e1 : renL (backS [] bx.length) (DB f K d 1 cap cap1) = DB f K d (bx.length + 1) cap cap1 := ren_DB (by simp [backS]) _ _ _ _ _
 have e2 : renL (backS [] bx.length) (NG ns i nI 2 l cap2) = NG ns i nI (bx.length + 2) l cap2 := ren_NG (by simp [backS]) _ _ _ _ _
 simpa [backF, ren_EB, e1, e2] using this
section
set_option maxRecDepth 10000
set_option maxHeartbeats 1000000
theorem PcopiedNA (ns : List Nod) (hns : ns.length ≤ 1000) (hen : ∀ n ∈ ns, n.entries.length ≤ 1000) : AFn Try.prog 108 [.sl 8 (ns.map nodA) none, .fn 75 []] (fun r => r = .sl 8 (ns.map nodA) none) := by
 have hml : (ns.map nodA).length = ns.length := by simp
 refine enter Try.func108 rfl rfl rfl rfl rfl 0 rfl ?_
 refine w_ (a_ (h:=e_ (q_ (w_ (m_ (h:=n_ (h:=eq_ (h:=e_ (?_)))))))))
 refine aw_cond rfl (fun hb1 => ?_) (fun hb1 => ?_)
 ·have hc1 := bp hb1
  refine w_ (a_ (h:=e_ (aw_ret (x_thenR (?_)))))
  refine rt_ (r := .sl 8 (ns.map nodA) none) none (h5 := ?_) (h6 := ⟨rfl, rfl, rfl⟩)
  rw [show ns = [] from List.eq_nil_of_length_eq_zero (by omega)]
  exact LeA.nil _
 have hc1 := bp hb1
 refine kt_ (w_ (m_ (h:=n_ (h:=ms_ (h:=a_ (h:=e_ (q_ (w_ (m_ (h:=n_ (h:=m_ (h:=e_ (aw_block (?_))))))))))))))
 refine aw_loopW (fun m s => ∃ j : Nat, j ≤ ns.length ∧ m = ns.length - j ∧ s = ⟨look [(1, .fn 75 []), (5, .sl 8 ((ns.take j).map nodA) (some 0)), (14, .sl 8 (ns.map nodA) none), (15, .v (.int .i64 ((ns.map nodA).length : Int))), (16, .v (.int .i64 (j : Int)))], ⟨[], [(34, 8, (ns.take j).map nodA)]⟩⟩) (ns.length) ((wk 0 1)) (⟨0, by omega, rfl, rfl⟩) ?_
 rintro m s ⟨j, hj, rfl, rfl⟩
 refine w_ (lt_ (h:=e_ (q_ (?_))))
 refine aw_cond rfl (fun hb2 => ?_) (fun hb2 => ?_)
 ·have hc2 := bp hb2
  obtain ⟨hlt, x, hy, hrow, e⟩ := row_at nodA hc2
  have hxe := hen x (List.mem_of_getElem? hy)
  refine kt_ (q_ (aw_block (w_ (i_ (h:=l_ (h:=al_ (h:=s_ (h:=e_ (aw_region (m_ (h:=m_ (h:=l_ (h:=?_)))))))))))))
  refine al_p rfl (st_callC (cy := []) (ys := [.agg (nodA x)]) rfl (by repeat (first | exact Args.nil | refine Args.cons _ _ _ _ _ rfl (argOk_clean rfl) ?_ | refine Args.cons _ _ _ _ _ rfl (argOk_nil _) ?_ | refine Args.cons _ _ _ _ _ rfl (argOk_era _) ?_ | refine Args.cons _ _ _ _ _ rfl (argOk_le rfl (by repeat (first | exact LeA.refl _ | exact LeA.nil _ | exact LeL.refl _ | refine LeA.agg ?_ | refine LeA.tup ?_ | exact LeL.nil | refine LeL.cons ?_ ?_ | exact LeA.any _))) ?_)) rfl rfl (PcopyNode x hxe) ?_)
  rintro r rfl
  refine bs_ (h:=?_)
  first | refine al_p rfl (s_append rfl rfl rfl (by simp; omega) (by repeat constructor) ?_) | refine al_p rfl (s_append0 rfl rfl (by simp; omega) (by repeat constructor) ?_)
  refine a_ (h:=al_nil (x_blockN (t_ (aw_region (ad_ (h:=m_ (h:=al_nil (?_))))))))
  refine x_then ?_
  refine ⟨_, _, ?_, ⟨j + 1, by omega, rfl, rfl⟩, (by rw [e]; exact (wk 0 1))⟩
  omega
 have hc2 := bp hb2
 have e := row_no nodA hj hc2
 subst e
 rw [List.take_length]
 refine aw_exit (x_thenE (x_thenE (ABlock_out (t_ (w_ (m_ (h:=a_ (h:=e_ (aw_ret (?_))))))))))
 refine e_ret ?_
 rfl
theorem PcopyDevA (d : Dvc) (hns : d.nodes.length ≤ 1000) (hen : ∀ n ∈ d.nodes, n.entries.length ≤ 1000) : AFn Try.prog 92 [.agg (dvcA d)] (fun r => r = .agg (dvcA d)) := by
 refine enter Try.func92 rfl rfl rfl rfl rfl 0 rfl ?_
 refine w_ (b_ (h:=al_ (h:=e_ (w_ (f_ (h:=l_ (h:=?_)))))))
 refine al_p rfl (q_call (PcopiedNA d.nodes hns hen) ?_)
 rintro r rfl
 refine f_ (h:=s_ (h:=e_ (w_ (l_ (h:=s_ (h:=e_ (aw_ret (?_))))))))
 refine e_ret ?_
 rfl
theorem PcopyDev0 (d : Dvc) (h0 : 0 < d.nodes.length) (hns : d.nodes.length ≤ 1000) (hen : ∀ n ∈ d.nodes, n.entries.length ≤ 1000) : ACall Try.prog 92 [.agg (dvcA d)] [] (fun r b t => t = [] ∧ r = .agg (devR d 2 d.nodes.length) ∧ b = [devR d 2 d.nodes.length, devR d 2 d.nodes.length, NF d.nodes d.nodes.length]) := by
 refine enter Try.func92 rfl rfl rfl rfl rfl 3 rfl ?_
 refine w_ (b_ (h:=al_ (h:=e_ (w_ (f_ (h:=l_ (h:=?_)))))))
 refine al_p rfl (s_callM [] rfl (.cons _ _ _ _ _ rfl (LeA.refl _) (.cons _ _ _ _ _ rfl (LeA.refl _) .nil)) (by decide) .nil (PcopiedN0 d.nodes h0 hns hen) ?_)
 rintro r bc tc ⟨rfl, rfl, rfl⟩
 refine ⟨rfl, _, (back_new1 _ (ren_NF _ _ _) : Back _ [] _ [_, _, _]), ?_⟩
 refine f_ (h:=s_ (h:=e_ (w_ (l_ (h:=s_ (h:=e_ (aw_ret (?_))))))))
 refine abody_ret none (by repeat (first | exact ResA.nil | (apply ResA.tmp; (focus exact rfl)) | (apply ResA.cellN; (focus exact inferInstance); (focus exact rfl); (focus exact rfl); (focus exact rfl)) | (apply ResA.cell1; (focus exact inferInstance); (focus exact rfl); (focus exact rfl); (focus exact rfl)))) rfl rfl (by simp [bpLtB, bpLtL, bpLt, dvcA, devR, bp_NF, ren, backS]) (LeA.refl _) ⟨rfl, rfl, rfl⟩
theorem PcopyDevG (d : Dvc) (i : Nat) (nI : Nod) (hi : d.nodes[i]? = some nI) (hE : 0 < nI.entries.length) (hns : d.nodes.length ≤ 1000) (hen : ∀ n ∈ d.nodes, n.entries.length ≤ 1000) : ACall Try.prog 92 [.agg (dvcA d)] [] (fun r b t => t = [] ∧ r = .agg (devR d 2 d.nodes.length) ∧ b = [devR d 2 d.nodes.length, devR d 2 d.nodes.length, NG d.nodes i nI 3 nI.entries.length d.nodes.length, EB nI.entries nI.entries.length]) := by
 have hbk : ∀ bx : List (List AV), Back bx [] [NG d.nodes i nI 1 nI.entries.length d.nodes.length, EB nI.entries nI.entries.length] (bx ++ [NG d.nodes i nI (bx.length + 1) nI.entries.length d.nodes.length, EB nI.entries nI.entries.length]) := fun bx => by
  have := back_F (bx := bx) (is := []) (bc := [NG d.nodes i nI 1 nI.entries.length d.nodes.length, EB nI.entries nI.entries.length]) List.nodup_nil (by simp) (by simp)
  have e2 : renL (backS [] bx.length) (NG d.nodes i nI 1 nI.entries.length d.nodes.length) = NG d.nodes i nI (bx.length + 1) nI.entries.length d.nodes.length := ren_NG (by simp [backS]) _ _ _ _ _
  simpa [backF, ren_EB, e2] using this
 refine enter Try.func92 rfl rfl rfl rfl rfl 4 rfl ?_
 refine w_ (b_ (h:=al_ (h:=e_ (w_ (f_ (h:=l_ (h:=?_)))))))
 refine al_p rfl (s_callM [] rfl (.cons _ _ _ _ _ rfl (LeA.refl _) (.cons _ _ _ _ _ rfl (LeA.refl _) .nil)) (by decide) .nil (PcopiedNG d.nodes i nI hi hE hns hen) ?_)
 rintro r bc tc ⟨rfl, rfl, rfl⟩
 refine ⟨rfl, _, (hbk _ : Back _ [] _ [_, _, _, _]), ?_⟩
 refine f_ (h:=s_ (h:=e_ (w_ (l_ (h:=s_ (h:=e_ (aw_ret (?_))))))))
 refine abody_ret none (by repeat (first | exact ResA.nil | (apply ResA.tmp; (focus exact rfl)) | (apply ResA.cellN; (focus exact inferInstance); (focus exact rfl); (focus exact rfl); (focus exact rfl)) | (apply ResA.cell1; (focus exact inferInstance); (focus exact rfl); (focus exact rfl); (focus exact rfl)))) rfl rfl (by simp [bpLtB, bpLtL, bpLt, dvcA, devR, bp_NG, bp_EB, ren, backS]) (LeA.refl _) ⟨rfl, rfl, rfl⟩
end
section
set_option maxRecDepth 10000
set_option maxHeartbeats 1000000
theorem PcopiedD0 (f : Fls) (K : Nat) (dK : Dvc) (hf : FlsB f) (hK : f[K]? = some dK) (h0 : 0 < dK.nodes.length) : ACall Try.prog 91 [.sl 2 (f.map dvcA) none, .fn 92 []] [] (fun r b t => t = [] ∧ r = .bs 0 0 2 f.length f.length ∧ b = [DB f K dK 1 f.length dK.nodes.length, NF dK.nodes dK.nodes.length]) := by
 have hml : (f.map dvcA).length = f.length := by simp
 have hKl := (List.getElem?_eq_some_iff.1 hK).1
 have hfew := hf.few
 refine enter Try.func91 rfl rfl rfl rfl rfl 2 rfl ?_
 refine w_ (a_ (h:=e_ (q_ (w_ (m_ (h:=n_ (h:=eq_ (h:=e_ (?_)))))))))
 refine aw_cond rfl (fun hb1 => ?_) (fun hb1 => ?_)
 ·have hc1 := bp hb1
  exfalso; first | contradiction | omega
 have hc1 := bp hb1
 refine kt_ (w_ (m_ (h:=n_ (h:=?_))))
 refine al_p rfl (st_makeB (l := 0) (m := f.length) (k := 0) rfl rfl rfl (by simp) (Nat.zero_le _) (by omega) (by omega) (by repeat constructor) ?_)
 refine a_ (h:=e_ (q_ (w_ (m_ (h:=n_ (h:=m_ (h:=e_ (aw_block (?_)))))))))
 refine aw_loopW (fun m s => ∃ j : Nat, j ≤ f.length ∧ m = f.length - j ∧ ((j ≤ K ∧ s = ⟨look [(1, .fn 92 []), (5, .bs 0 0 2 j f.length), (14, .sl 2 (f.map dvcA) none), (15, .v (.int .i64 ((f.map dvcA).length : Int))), (16, .v (.int .i64 (j : Int)))], ⟨[FB (f.take j) f.length], []⟩⟩) ∨ (K < j ∧ s = ⟨look [(1, .fn 92 []), (5, .bs 0 0 2 j f.length), (14, .sl 2 (f.map dvcA) none), (15, .v (.int .i64 ((f.map dvcA).length : Int))), (16, .v (.int .i64 (j : Int)))], ⟨[DB (f.take j) K dK 1 f.length dK.nodes.length, NF dK.nodes dK.nodes.length], []⟩⟩))) (f.length) (wb_ 1 0 (by show (bpLtL 1 0 (FB [] f.length) && true) = true; rw [bp_FB]; rfl)) (⟨0, by omega, rfl, .inl ⟨by omega, rfl⟩⟩) ?_
 rintro m s ⟨j, hj, rfl, ⟨hji, rfl⟩ | ⟨hji, rfl⟩⟩
 rcases Nat.lt_or_eq_of_le hji with hji | rfl
 ·skip
  refine w_ (lt_ (h:=e_ (q_ (?_))))
  refine aw_cond rfl (fun hb2 => ?_) (fun hb2 => ?_)
  ·have hc2 := bp hb2
   obtain ⟨hlt, x, hy, hrow, -⟩ := row_at dvcA hc2
   have hxd := List.mem_of_getElem? hy
   have e : (f.take (j + 1)).map dvcA = (f.take j).map dvcA ++ [dvcA x] := by
    obtain ⟨hl, e0⟩ := List.getElem?_eq_some_iff.1 hy
    rw [List.take_succ_eq_append_getElem hl, e0, List.map_append]; rfl
   have hlj : ((f.take j).map dvcA).length = j := by simp; omega
   refine kt_ (q_ (aw_block (w_ (i_ (h:=l_ (h:=al_ (h:=s_ (h:=e_ (aw_region (m_ (h:=m_ (h:=l_ (h:=?_)))))))))))))
   refine al_p rfl (st_callC (cy := []) (ys := [.agg (dvcA x)]) rfl (by repeat (first | exact Args.nil | refine Args.cons _ _ _ _ _ rfl (argOk_clean rfl) ?_ | refine Args.cons _ _ _ _ _ rfl (argOk_nil _) ?_ | refine Args.cons _ _ _ _ _ rfl (argOk_era _) ?_ | refine Args.cons _ _ _ _ _ rfl (argOk_le rfl (by repeat (first | exact LeA.refl _ | exact LeA.nil _ | exact LeL.refl _ | refine LeA.agg ?_ | refine LeA.tup ?_ | exact LeL.nil | refine LeL.cons ?_ ?_ | exact LeA.any _))) ?_)) rfl rfl (PcopyDevA x (hf.nodes x hxd) (hf.ents x hxd)) ?_)
   rintro r rfl
   refine bs_ (h:=?_)
   refine al_p rfl (st_appendB rfl rfl rfl (by rw [FB, rowsB_len (dvcs_two _) (by simp; omega)]; omega) (SrcA.sl _ _) (by simp) (by simp; omega) ?_ (fun h => absurd h (by simp; omega)))
   intro _ row2 bx2 hs1 hs2
   obtain rfl : row2 = FB (f.take (j + 1)) f.length := by
    unfold FB
    rw [e]
    exact rowsB_push (dvcs_two _) rfl (by decide) (by rw [hlj]; omega) (by rw [hlj]; exact hs1)
   obtain rfl := (SetAt.one hs2).2
   refine a_ (h:=al_nil (x_blockN (t_ (aw_region (ad_ (h:=m_ (h:=al_nil (?_))))))))
   refine x_then ?_
   refine ⟨_, _, ?_, ⟨j + 1, by omega, rfl, .inl ⟨by omega, rfl⟩⟩, wb_ 1 0 (by simp [bpLtB, bp_FB])⟩
   omega
  have hc2 := bp hb2
  exfalso; first | contradiction | omega
 ·have hrow : (f.map dvcA)[j]? = some (dvcA dK) := by rw [List.getElem?_map, hK]; rfl
  refine w_ (lt_ (h:=e_ (q_ (?_))))
  refine aw_cond rfl (fun hb3 => ?_) (fun hb3 => ?_)
  ·have hc3 := bp hb3
   have hlj : ((f.take j).map dvcA).length = j := by simp; omega
   refine kt_ (q_ (aw_block (w_ (?_))))
   refine al_p rfl (st_index rfl rfl rfl hrow ?_)
   refine l_ (h:=al_ (h:=s_ (h:=e_ (aw_region (m_ (h:=m_ (h:=l_ (h:=?_))))))))
   refine al_p rfl (s_callMC [] rfl (.cons _ _ _ _ _ rfl (LeA.refl _) .nil) (by decide) .nil (PcopyDev0 dK h0 (hf.nodes dK (List.mem_of_getElem? hK)) (hf.ents dK (List.mem_of_getElem? hK))) ?_)
   rintro r bc tc ⟨rfl, rfl, rfl⟩
   refine ⟨rfl, _, (back_dev0 (n := 2) rfl dK dK.nodes.length dK.nodes dK.nodes.length : Back _ [] _ [_, _, _, _, _]), ?_⟩
   refine al_p rfl (st_slit1B rfl rfl rfl rfl (by repeat constructor) ?_)
   refine al_p rfl (st_appendB rfl rfl rfl (by rw [FB, rowsB_len (dvcs_two _) (by simp; omega)]; omega) (SrcA.bs 5 0 1 1 _ rfl (Nat.le_of_ble_eq_true rfl)) (by decide) (by omega) ?_ (fun h => absurd h (by omega)))
   intro _ row2 bx2 hs1 hs2
   obtain rfl : row2 = DB (f.take (j + 1)) j dK 4 f.length dK.nodes.length := by
    unfold DB
    rw [devB_here hK]
    exact rowsB_push (dvcs_two _) rfl (by decide) (by rw [hlj]; omega) (by rw [hlj]; exact hs1)
   obtain rfl := (SetAt.one hs2).2
   refine a_ (h:=al_nil (x_blockN (t_ (aw_region (ad_ (h:=m_ (h:=al_nil (?_))))))))
   refine x_then ?_
   refine ⟨_, _, ?_, ⟨j + 1, by omega, rfl, .inr ⟨by omega, rfl⟩⟩, weak_ren [0, 4] (fun i hi => absurd hi (Nat.not_lt_zero i)) (by decide) (.cons _ _ _ _ _ rfl (renK_DB (by rfl) _ _ _ _ _) (.cons _ _ _ _ _ rfl (renK_NF _ _ _) .nil)) (by repeat (first | exact SubK.nil | refine SubK.cons _ _ _ _ rfl (LeA.refl _) ?_))⟩
   omega
  have hc3 := bp hb3
  exfalso; first | contradiction | omega
 skip
 refine w_ (lt_ (h:=e_ (q_ (?_))))
 refine aw_cond rfl (fun hb4 => ?_) (fun hb4 => ?_)
 ·have hc4 := bp hb4
  obtain ⟨hlt, x, hy, hrow, -⟩ := row_at dvcA hc4
  have hxd := List.mem_of_getElem? hy
  have e := devB_succ (dK := dK) (j := 1) (cap := dK.nodes.length) hy hji
  have hlj : (devB (f.take j) K dK 1 dK.nodes.length).length = j := by rw [devB_len]; simp; omega
  refine kt_ (q_ (aw_block (w_ (i_ (h:=l_ (h:=al_ (h:=s_ (h:=e_ (aw_region (m_ (h:=m_ (h:=l_ (h:=?_)))))))))))))
  refine al_p rfl (st_callC (cy := []) (ys := [.agg (dvcA x)]) rfl (by repeat (first | exact Args.nil | refine Args.cons _ _ _ _ _ rfl (argOk_clean rfl) ?_ | refine Args.cons _ _ _ _ _ rfl (argOk_nil _) ?_ | refine Args.cons _ _ _ _ _ rfl (argOk_era _) ?_ | refine Args.cons _ _ _ _ _ rfl (argOk_le rfl (by repeat (first | exact LeA.refl _ | exact LeA.nil _ | exact LeL.refl _ | refine LeA.agg ?_ | refine LeA.tup ?_ | exact LeL.nil | refine LeL.cons ?_ ?_ | exact LeA.any _))) ?_)) rfl rfl (PcopyDevA x (hf.nodes x hxd) (hf.ents x hxd)) ?_)
  rintro r rfl
  refine bs_ (h:=?_)
  refine al_p rfl (st_appendB rfl rfl rfl (by rw [DB, rowsB_len (devB_two _ _ _ _ _) (by rw [hlj]; omega)]; omega) (SrcA.sl _ _) (by simp) (by simp; omega) ?_ (fun h => absurd h (by simp; omega)))
  intro _ row2 bx2 hs1 hs2
  obtain rfl : row2 = DB (f.take (j + 1)) K dK 1 f.length dK.nodes.length := by
   unfold DB
   rw [e]
   exact rowsB_push (devB_two _ _ _ _ _) rfl (by decide) (by rw [hlj]; omega) (by rw [hlj]; exact hs1)
  obtain rfl := (SetAt.one hs2).2
  refine a_ (h:=al_nil (x_blockN (t_ (aw_region (ad_ (h:=m_ (h:=al_nil (?_))))))))
  refine x_then ?_
  refine ⟨_, _, ?_, ⟨j + 1, by omega, rfl, .inr ⟨by omega, rfl⟩⟩, wb_ 2 0 (by simp [bpLtB, bp_DB, bp_NF])⟩
  omega
 have hc4 := bp hb4
 have e := row_no dvcA hj hc4
 subst e
 rw [List.take_length]
 refine aw_exit (x_thenE (x_thenE (ABlock_out (t_ (w_ (m_ (h:=a_ (h:=e_ (aw_ret (?_))))))))))
 refine abody_ret (r := .bs 0 0 2 f.length f.length) none (by repeat (first | exact ResA.nil | (apply ResA.tmp; (focus exact rfl)) | (apply ResA.cellN; (focus exact inferInstance); (focus exact rfl); (focus exact rfl); (focus exact rfl)) | (apply ResA.cell1; (focus exact inferInstance); (focus exact rfl); (focus exact rfl); (focus exact rfl)))) rfl rfl (by simp [bpLtB, bp_DB, bp_NF]) (LeA.refl _) ⟨rfl, rfl, rfl⟩
theorem PcopyFiles0 (f : Fls) (K : Nat) (dK : Dvc) (hf : FlsB f) (hK : f[K]? = some dK) (h0 : 0 < dK.nodes.length) : ACall Try.prog 63 [.agg (flsA f)] [] (fun r b t => t = [] ∧ r = .agg [.bs 2 0 2 f.length f.length] ∧ b = [[.bs 2 0 2 f.length f.length], [.bs 2 0 2 f.length f.length], DB f K dK 3 f.length dK.nodes.length, NF dK.nodes dK.nodes.length]) := by
 refine enter Try.func63 rfl rfl rfl rfl rfl 4 rfl ?_
 refine w_ (b_ (h:=al_ (h:=e_ (w_ (f_ (h:=l_ (h:=?_)))))))
 refine al_p rfl (s_callM [] rfl (.cons _ _ _ _ _ rfl (LeA.refl _) (.cons _ _ _ _ _ rfl (LeA.refl _) .nil)) (by decide) .nil (PcopiedD0 f K dK hf hK h0) ?_)
 rintro r bc tc ⟨rfl, rfl, rfl⟩
 refine ⟨rfl, _, (back_devs0 (n := 2) rfl f K dK f.length dK.nodes.length dK.nodes dK.nodes.length : Back _ [] _ [_, _, _, _]), ?_⟩
 refine f_ (h:=s_ (h:=e_ (w_ (l_ (h:=s_ (h:=e_ (aw_ret (?_))))))))
 refine abody_ret none (by repeat (first | exact ResA.nil | (apply ResA.tmp; (focus exact rfl)) | (apply ResA.cellN; (focus exact inferInstance); (focus exact rfl); (focus exact rfl); (focus exact rfl)) | (apply ResA.cell1; (focus exact inferInstance); (focus exact rfl); (focus exact rfl); (focus exact rfl)))) rfl rfl (by simp [bpLtB, bpLtL, bpLt, flsA, bp_DB, bp_NF, ren, backS]) (LeA.refl _) ⟨rfl, rfl, rfl⟩
theorem PcopiedDG (f : Fls) (K : Nat) (dK : Dvc) (i : Nat) (nI : Nod) (hf : FlsB f) (hK : f[K]? = some dK) (hi : dK.nodes[i]? = some nI) (hE : 0 < nI.entries.length) : ACall Try.prog 91 [.sl 2 (f.map dvcA) none, .fn 92 []] [] (fun r b t => t = [] ∧ r = .bs 0 0 2 f.length f.length ∧ b = [DB f K dK 1 f.length dK.nodes.length, NG dK.nodes i nI 2 nI.entries.length dK.nodes.length, EB nI.entries nI.entries.length]) := by
 have hml : (f.map dvcA).length = f.length := by simp
 have hKl := (List.getElem?_eq_some_iff.1 hK).1
 have hfew := hf.few
 have h0 : 0 < dK.nodes.length := Nat.lt_of_le_of_lt (Nat.zero_le _) (List.getElem?_eq_some_iff.1 hi).1
 refine enter Try.func91 rfl rfl rfl rfl rfl 3 rfl ?_
 refine w_ (a_ (h:=e_ (q_ (w_ (m_ (h:=n_ (h:=eq_ (h:=e_ (?_)))))))))
 refine aw_cond rfl (fun hb1 => ?_) (fun hb1 => ?_)
 ·have hc1 := bp hb1
  exfalso; first | contradiction | omega
 have hc1 := bp hb1
 refine kt_ (w_ (m_ (h:=n_ (h:=?_))))
 refine al_p rfl (st_makeB (l := 0) (m := f.length) (k := 0) rfl rfl rfl (by simp) (Nat.zero_le _) (by omega) (by omega) (by repeat constructor) ?_)
 refine a_ (h:=e_ (q_ (w_ (m_ (h:=n_ (h:=m_ (h:=e_ (aw_block (?_)))))))))
 refine aw_loopW (fun m s => ∃ j : Nat, j ≤ f.length ∧ m = f.length - j ∧ ((j ≤ K ∧ s = ⟨look [(1, .fn 92 []), (5, .bs 0 0 2 j f.length), (14, .sl 2 (f.map dvcA) none), (15, .v (.int .i64 ((f.map dvcA).length : Int))), (16, .v (.int .i64 (j : Int)))], ⟨[FB (f.take j) f.length], []⟩⟩) ∨ (K < j ∧ s = ⟨look [(1, .fn 92 []), (5, .bs 0 0 2 j f.length), (14, .sl 2 (f.map dvcA) none), (15, .v (.int .i64 ((f.map dvcA).length : Int))), (16, .v (.int .i64 (j : Int)))], ⟨[DB (f.take j) K dK 1 f.length dK.nodes.length, NG dK.nodes i nI 2 nI.entries.length dK.nodes.length, EB nI.entries nI.entries.length], []⟩⟩))) (f.length) (wb_ 1 0 (by show (bpLtL 1 0 (FB [] f.length) && true) = true; rw [bp_FB]; rfl)) (⟨0, by omega, rfl, .inl ⟨by omega, rfl⟩⟩) ?_
 rintro m s ⟨j, hj, rfl, ⟨hji, rfl⟩ | ⟨hji, rfl⟩⟩
 rcases Nat.lt_or_eq_of_le hji with hji | rfl
 ·skip
  refine w_ (lt_ (h:=e_ (q_ (?_))))
  refine aw_cond rfl (fun hb2 => ?_) (fun hb2 => ?_)
  ·have hc2 := bp hb2
   obtain ⟨hlt, x, hy, hrow, -⟩ := row_at dvcA hc2
   have hxd := List.mem_of_getElem? hy
   have e : (f.take (j + 1)).map dvcA = (f.take j).map dvcA ++ [dvcA x] := by
    obtain ⟨hl, e0⟩ := List.getElem?_eq_some_iff.1 hy
    rw [List.take_succ_eq_append_getElem hl, e0, List.map_append]; rfl
   have hlj : ((f.take j).map dvcA).length = j := by simp; omega
   refine kt_ (q_ (aw_block (w_ (i_ (h:=l_ (h:=al_ (h:=s_ (h:=e_ (aw_region (m_ (h:=m_ (h:=l_ (h:=?_)))))))))))))
   refine al_p rfl (st_callC (cy := []) (ys := [.agg (dvcA x)]) rfl (by repeat (first | exact Args.nil | refine Args.cons _ _ _ _ _ rfl (argOk_clean rfl) ?_ | refine Args.cons _ _ _ _ _ rfl (argOk_nil _) ?_ | refine Args.cons _ _ _ _ _ rfl (argOk_era _) ?_ | refine Args.cons _ _ _ _ _ rfl (argOk_le rfl (by repeat (first | exact LeA.refl _ | exact LeA.nil _ | exact LeL.refl _ | refine LeA.agg ?_ | refine LeA.tup ?_ | exact LeL.nil | refine LeL.cons ?_ ?_ | exact LeA.any _))) ?_)) rfl rfl (PcopyDevA x (hf.nodes x hxd) (hf.ents x hxd)) ?_)
   rintro r rfl
   refine bs_ (h:=?_)
   refine al_p rfl (st_appendB rfl rfl rfl (by rw [FB, rowsB_len (dvcs_two _) (by simp; omega)]; omega) (SrcA.sl _ _) (by simp) (by simp; omega) ?_ (fun h => absurd h (by simp; omega)))
   intro _ row2 bx2 hs1 hs2
   obtain rfl : row2 = FB (f.take (j + 1)) f.length := by
    unfold FB
    rw [e]
    exact rowsB_push (dvcs_two _) rfl (by decide) (by rw [hlj]; omega) (by rw [hlj]; exact hs1)
   obtain rfl := (SetAt.one hs2).2
   refine a_ (h:=al_nil (x_blockN (t_ (aw_region (ad_ (h:=m_ (h:=al_nil (?_))))))))
   refine x_then ?_
   refine ⟨_, _, ?_, ⟨j + 1, by omega, rfl, .inl ⟨by omega, rfl⟩⟩, wb_ 1 0 (by simp [bpLtB, bp_FB])⟩
   omega
  have hc2 := bp hb2
  exfalso; first | contradiction | omega
 ·have hrow : (f.map dvcA)[j]? = some (dvcA dK) := by rw [List.getElem?_map, hK]; rfl
  refine w_ (lt_ (h:=e_ (q_ (?_))))
  refine aw_cond rfl (fun hb3 => ?_) (fun hb3 => ?_)
  ·have hc3 := bp hb3
   have hlj : ((f.take j).map dvcA).length = j := by simp; omega
   refine kt_ (q_ (aw_block (w_ (?_))))
   refine al_p rfl (st_index rfl rfl rfl hrow ?_)
   refine l_ (h:=al_ (h:=s_ (h:=e_ (aw_region (m_ (h:=m_ (h:=l_ (h:=?_))))))))
   refine al_p rfl (s_callMC [] rfl (.cons _ _ _ _ _ rfl (LeA.refl _) .nil) (by decide) .nil (PcopyDevG dK i nI hi hE (hf.nodes dK (List.mem_of_getElem? hK)) (hf.ents dK (List.mem_of_getElem? hK))) ?_)
   rintro r bc tc ⟨rfl, rfl, rfl⟩
   refine ⟨rfl, _, (back_devG (n := 2) rfl dK dK.nodes.length dK.nodes i nI nI.entries.length dK.nodes.length nI.entries nI.entries.length : Back _ [] _ [_, _, _, _, _, _]), ?_⟩
   refine al_p rfl (st_slit1B rfl rfl rfl rfl (by repeat constructor) ?_)
   refine al_p rfl (st_appendB rfl rfl rfl (by rw [FB, rowsB_len (dvcs_two _) (by simp; omega)]; omega) (SrcA.bs 6 0 1 1 _ rfl (Nat.le_of_ble_eq_true rfl)) (by decide) (by omega) ?_ (fun h => absurd h (by omega)))
   intro _ row2 bx2 hs1 hs2
   obtain rfl : row2 = DB (f.take (j + 1)) j dK 4 f.length dK.nodes.length := by
    unfold DB
    rw [devB_here hK]
    exact rowsB_push (dvcs_two _) rfl (by decide) (by rw [hlj]; omega) (by rw [hlj]; exact hs1)
   obtain rfl := (SetAt.one hs2).2
   refine a_ (h:=al_nil (x_blockN (t_ (aw_region (ad_ (h:=m_ (h:=al_nil (?_))))))))
   refine x_then ?_
   refine ⟨_, _, ?_, ⟨j + 1, by omega, rfl, .inr ⟨by omega, rfl⟩⟩, weak_ren [0, 4, 5] (fun i hi => absurd hi (Nat.not_lt_zero i)) (by decide) (.cons _ _ _ _ _ rfl (renK_DB (by rfl) _ _ _ _ _) (.cons _ _ _ _ _ rfl (renK_NG (by rfl) _ _ _ _ _) (.cons _ _ _ _ _ rfl (renK_EB _ _ _) .nil))) (by repeat (first | exact SubK.nil | refine SubK.cons _ _ _ _ rfl (LeA.refl _) ?_))⟩
   omega
  have hc3 := bp hb3
  exfalso; first | contradiction | omega
 skip
 refine w_ (lt_ (h:=e_ (q_ (?_))))
 refine aw_cond rfl (fun hb4 => ?_) (fun hb4 => ?_)
 ·have hc4 := bp hb4
  obtain ⟨hlt, x, hy, hrow, -⟩ := row_at dvcA hc4
  have hxd := List.mem_of_getElem? hy
  have e := devB_succ (dK := dK) (j := 1) (cap := dK.nodes.length) hy hji
  have hlj : (devB (f.take j) K dK 1 dK.nodes.length).length = j := by rw [devB_len]; simp; omega
  refine kt_ (q_ (aw_block (w_ (i_ (h:=l_ (h:=al_ (h:=s_ (h:=e_ (aw_region (m_ (h:=m_ (h:=l_ (h:=?_)))))))))))))
  refine al_p rfl (st_callC (cy := []) (ys := [.agg (dvcA x)]) rfl (by repeat (first | exact Args.nil | refine Args.cons _ _ _ _ _ rfl (argOk_clean rfl) ?_ | refine Args.cons _ _ _ _ _ rfl (argOk_nil _) ?_ | refine Args.cons _ _ _ _ _ rfl (argOk_era _) ?_ | refine Args.cons _ _ _ _ _ rfl (argOk_le rfl (by repeat (first | exact LeA.refl _ | exact LeA.nil _ | exact LeL.refl _ | refine LeA.agg ?_ | refine LeA.tup ?_ | exact LeL.nil | refine LeL.cons ?_ ?_ | exact LeA.any _))) ?_)) rfl rfl (PcopyDevA x (hf.nodes x hxd) (hf.ents x hxd)) ?_)
  rintro r rfl
  refine bs_ (h:=?_)
  refine al_p rfl (st_appendB rfl rfl rfl (by rw [DB, rowsB_len (devB_two _ _ _ _ _) (by rw [hlj]; omega)]; omega) (SrcA.sl _ _) (by simp) (by simp; omega) ?_ (fun h => absurd h (by simp; omega)))
  intro _ row2 bx2 hs1 hs2
  obtain rfl : row2 = DB (f.take (j + 1)) K dK 1 f.length dK.nodes.length := by
   unfold DB
   rw [e]
   exact rowsB_push (devB_two _ _ _ _ _) rfl (by decide) (by rw [hlj]; omega) (by rw [hlj]; exact hs1)
  obtain rfl := (SetAt.one hs2).2
  refine a_ (h:=al_nil (x_blockN (t_ (aw_region (ad_ (h:=m_ (h:=al_nil (?_))))))))
  refine x_then ?_
  refine ⟨_, _, ?_, ⟨j + 1, by omega, rfl, .inr ⟨by omega, rfl⟩⟩, wb_ 3 0 (by simp [bpLtB, bp_DB, bp_NG, bp_EB])⟩
  omega
 have hc4 := bp hb4
 have e := row_no dvcA hj hc4
 subst e
 rw [List.take_length]
 refine aw_exit (x_thenE (x_thenE (ABlock_out (t_ (w_ (m_ (h:=a_ (h:=e_ (aw_ret (?_))))))))))
 refine abody_ret (r := .bs 0 0 2 f.length f.length) none (by repeat (first | exact ResA.nil | (apply ResA.tmp; (focus exact rfl)) | (apply ResA.cellN; (focus exact inferInstance); (focus exact rfl); (focus exact rfl); (focus exact rfl)) | (apply ResA.cell1; (focus exact inferInstance); (focus exact rfl); (focus exact rfl); (focus exact rfl)))) rfl rfl (by simp [bpLtB, bp_DB, bp_NG, bp_EB]) (LeA.refl _) ⟨rfl, rfl, rfl⟩
theorem PcopyFilesG (f : Fls) (K : Nat) (dK : Dvc) (i : Nat) (nI : Nod) (hf : FlsB f) (hK : f[K]? = some dK) (hi : dK.nodes[i]? = some nI) (hE : 0 < nI.entries.length) : ACall Try.prog 63 [.agg (flsA f)] [] (fun r b t => t = [] ∧ r = .agg [.bs 2 0 2 f.length f.length] ∧ b = [[.bs 2 0 2 f.length f.length], [.bs 2 0 2 f.length f.length], DB f K dK 3 f.length dK.nodes.length, NG dK.nodes i nI 4 nI.entries.length dK.nodes.length, EB nI.entries nI.entries.length]) := by
 refine enter Try.func63 rfl rfl rfl rfl rfl 5 rfl ?_
 refine w_ (b_ (h:=al_ (h:=e_ (w_ (f_ (h:=l_ (h:=?_)))))))
 refine al_p rfl (s_callM [] rfl (.cons _ _ _ _ _ rfl (LeA.refl _) (.cons _ _ _ _ _ rfl (LeA.refl _) .nil)) (by decide) .nil (PcopiedDG f K dK i nI hf hK hi hE) ?_)
 rintro r bc tc ⟨rfl, rfl, rfl⟩
 refine ⟨rfl, _, (back_devsG (n := 2) rfl f K dK f.length dK.nodes.length dK.nodes i nI nI.entries.length dK.nodes.length nI.entries nI.entries.length : Back _ [] _ [_, _, _, _, _]), ?_⟩
 refine f_ (h:=s_ (h:=e_ (w_ (l_ (h:=s_ (h:=e_ (aw_ret (?_))))))))
 refine abody_ret none (by repeat (first | exact ResA.nil | (apply ResA.tmp; (focus exact rfl)) | (apply ResA.cellN; (focus exact inferInstance); (focus exact rfl); (focus exact rfl); (focus exact rfl)) | (apply ResA.cell1; (focus exact inferInstance); (focus exact rfl); (focus exact rfl); (focus exact rfl)))) rfl rfl (by simp [bpLtB, bpLtL, bpLt, flsA, bp_DB, bp_NG, bp_EB, ren, backS]) (LeA.refl _) ⟨rfl, rfl, rfl⟩
end
theorem rowsB_pushL {sz cap : Nat} {rows news : List (List AV)} (h : ∀ x ∈ rows, x.length = sz) (hr : ∀ x ∈ news, x.length = sz) (hp : 0 < sz) (hn : news ≠ []) (hc : rows.length + news.length ≤ cap) : SetAt (rowsB sz cap rows) (0 + rows.length * sz) news.flatten (rowsB sz cap (rows ++ news)) := by
 unfold rowsB
 have hnl : news.flatten.length = news.length * sz := flat_len hr
 have e : List.replicate ((cap - rows.length) * sz) AV.any = List.replicate (news.length * sz) AV.any ++ List.replicate ((cap - (rows ++ news).length) * sz) AV.any := by
  rw [List.replicate_append_replicate, ← Nat.add_mul, List.length_append]
  congr 2
  omega
 rw [e, Nat.zero_add, List.flatten_append, List.append_assoc]
 have hne : news.flatten ≠ [] := fun e => by
  rw [e, List.length_nil] at hnl
  have : 0 < news.length * sz := Nat.mul_pos (List.length_pos_iff.2 hn) hp
  omega
 have key := SetAt.right (SetAt.whole (xs := news.flatten) (l := List.replicate (news.length * sz) AV.any) (b := List.replicate ((cap - (rows ++ news).length) * sz) AV.any) (by simp [hnl])) rows.flatten hne
 rw [flat_len h, Nat.add_zero] at key
 simpa using key
theorem ent_flat (es : List Ent) (cap i : Nat) (hi : i ≤ es.length) : ((EB es cap).drop 0).take (i * 2) = ((es.take i).map entA).flatten := by
 unfold EB rowsB
 have hs : es.map entA = (es.take i).map entA ++ (es.drop i).map entA := by rw [← List.map_append, List.take_append_drop]
 have hl : ((es.take i).map entA).flatten.length = i * 2 := by rw [flat_len (ent_two _)]; simp; omega
 rw [List.drop_zero, hs, List.flatten_append, List.append_assoc, List.take_left' hl]
theorem ent_flat2 (es : List Ent) (cap i : Nat) (hi : i ≤ es.length) : ((EB es cap).drop (0 + i * 2)).take ((es.length - i) * 2) = ((es.drop i).map entA).flatten := by
 unfold EB rowsB
 have hs : es.map entA = (es.take i).map entA ++ (es.drop i).map entA := by rw [← List.map_append, List.take_append_drop]
 have hl : ((es.take i).map entA).flatten.length = i * 2 := by rw [flat_len (ent_two _)]; simp; omega
 have hl2 : ((es.drop i).map entA).flatten.length = (es.length - i) * 2 := by rw [flat_len (ent_two _)]; simp
 rw [Nat.zero_add]
 conv => lhs; rw [hs]
 rw [List.flatten_append, List.append_assoc, List.drop_left' hl, List.take_left' hl2]
theorem EB_take (es : List Ent) (cap cap2 i : Nat) (hi : i ≤ es.length) : ((EB es cap).drop 0).take (i * 2) ++ List.replicate ((cap2 - i) * 2) .any = EB (es.take i) cap2 := by
 rw [ent_flat es cap i hi]
 unfold EB rowsB
 have : ((es.take i).map entA).length = i := by simp; omega
 rw [this]
theorem EB_len (es : List Ent) (cap : Nat) (h : es.length ≤ cap) : (EB es cap).length = cap * 2 := rowsB_len (ent_two _) (by simpa using h)
def insE (es : List Ent) (i : Nat) (e : Ent) : List Ent := es.take i ++ e :: es.drop i
theorem EB_snoc (es : List Ent) (e : Ent) (cap0 cap : Nat) : ((EB es cap0).drop 0).take (es.length * 2) ++ [entA e].flatten ++ List.replicate ((cap - (es.length + 1)) * 2) .any = EB (es ++ [e]) cap := by
 have := rowsB_new (cap := cap) (r := entA e) (ent_two es) (cap0 := cap0) (n := es.length) (by simp)
 unfold EB
 rw [List.map_append]
 exact this
theorem EB_put (es : List Ent) (i : Nat) (e : Ent) (cap : Nat) (hi : i ≤ es.length) (hc : i + 1 ≤ cap) : SetAt (EB (es.take i) cap) (0 + i * 2) [entA e].flatten (EB (es.take i ++ [e]) cap) := by
 have hl : ((es.take i).map entA).length = i := by simp; omega
 have := rowsB_pushL (sz := 2) (cap := cap) (rows := (es.take i).map entA) (news := [entA e]) (ent_two _) (fun x hx => by rw [List.mem_singleton.1 hx]; rfl) (by decide) (by simp) (by rw [hl]; simpa using hc)
 rw [hl] at this
 unfold EB
 rw [List.map_append]
 exact this
theorem EB_put2 (es : List Ent) (i : Nat) (e : Ent) (cap : Nat) (hi : i < es.length) (hc : es.length + 1 ≤ cap) : SetAt (EB (es.take i ++ [e]) cap) (0 + (i + 1) * 2) (((EB es es.length).drop (0 + i * 2)).take ((es.length - i) * 2)) (EB (insE es i e) cap) := by
 rw [ent_flat2 es es.length i (by omega)]
 have hl : ((es.take i ++ [e]).map entA).length = i + 1 := by simp; omega
 have := rowsB_pushL (sz := 2) (cap := cap) (rows := (es.take i ++ [e]).map entA) (news := (es.drop i).map entA) (ent_two _) (ent_two _) (by decide) (by intro h; have := congrArg List.length h; simp at this; omega) (by rw [hl]; simp; omega)
 rw [hl] at this
 unfold EB insE
 rw [show es.take i ++ e :: es.drop i = es.take i ++ [e] ++ es.drop i by simp, List.map_append (l₁ := es.take i ++ [e])]
 exact this
section
set_option maxRecDepth 10000
set_option maxHeartbeats 1000000
theorem PinsE0 (e : Ent) : AFn Try.prog 93 [.v (.slice none 0 0), .v (.int .i64 0), .sl 2 [entA e] none] (fun r => r = .sl 2 [entA e] none) := by
 refine enter Try.func93 rfl rfl rfl rfl rfl 0 rfl ?_
 refine w_ (a_ (h:=e_ (w_ (m_ (h:=m_ (h:=?_))))))
 refine al_p rfl (st_sliceNil rfl rfl ?_)
 refine e_ (w_ (m_ (h:=n_ (h:=a_ (h:=e_ (q_ (w_ (m_ (h:=eq_ (h:=e_ (?_)))))))))))
 refine aw_cond rfl (fun hb1 => ?_) (fun hb1 => ?_)
 ·have hc1 := bp hb1
  exact absurd hc1 (by simp)
 have hc1 := bp hb1
 refine kt_ (w_ (m_ (h:=n_ (h:=a_ (h:=e_ (q_ (w_ (m_ (h:=m_ (h:=eq_ (h:=e_ (?_))))))))))))
 refine aw_cond rfl (fun hb2 => ?_) (fun hb2 => ?_)
 ·have hc2 := bp hb2
  refine w_ (m_ (h:=m_ (h:=?_)))
  first | refine al_p rfl (s_append rfl rfl rfl (by simp) (by repeat constructor) ?_) | refine al_p rfl (s_append0 rfl rfl (by simp) (by repeat constructor) ?_)
  refine a_ (h:=e_ (aw_ret (x_thenR (?_))))
  refine e_ret ?_
  rfl
 have hc2 := bp hb2
 exact absurd rfl hc2
theorem PinsE (es : List Ent) (i : Nat) (e : Ent) (h0 : 0 < es.length) (hes : es.length ≤ 1000) (hi : i ≤ es.length) : ACall Try.prog 93 [.bs 0 0 2 es.length es.length, .v (.int .i64 (i : Int)), .sl 2 [entA e] none] [EB es es.length] (fun r b t => t = [] ∧ ∃ cap, es.length + 1 ≤ cap ∧ r = .bs 1 0 2 (es.length + 1) cap ∧ b = [EB es es.length, EB (insE es i e) cap]) := by
 have hl1 : ([entA e] : List (List AV)).length = 1 := rfl
 have hfit : 0 + es.length * 2 ≤ (EB es es.length).length := by rw [EB_len es _ (Nat.le_refl _)]; omega
 refine enter Try.func93 rfl rfl rfl rfl rfl 2 rfl ?_
 refine w_ (a_ (h:=e_ (w_ (m_ (h:=m_ (h:=?_))))))
 refine al_p rfl (st_sliceAny rfl rfl rfl hi ?_)
 refine e_ (w_ (m_ (h:=n_ (h:=a_ (h:=e_ (q_ (w_ (m_ (h:=eq_ (h:=e_ (?_)))))))))))
 refine aw_cond rfl (fun hb1 => ?_) (fun hb1 => ?_)
 ·have hc1 := bp hb1
  exact absurd hc1 (by simp)
 have hc1 := bp hb1
 refine kt_ (w_ (m_ (h:=?_)))
 refine al_p rfl (st_lenB rfl ?_)
 refine a_ (h:=e_ (q_ (w_ (m_ (h:=m_ (h:=eq_ (h:=e_ (?_))))))))
 refine aw_cond rfl (fun hb2 => ?_) (fun hb2 => ?_)
 ·have hc2 := bp hb2
  refine w_ (m_ (h:=m_ (h:=?_)))
  refine al_p rfl (st_appendB rfl rfl rfl hfit (SrcA.sl _ _) (by simp) (by simp; omega) (fun h => absurd h (by simp)) ?_)
  intro hg cap k bx2 hcp hs
  have hs2 : SnocAt [EB es es.length] (EB (es ++ [e]) cap) k bx2 := by rw [← EB_snoc es e es.length cap]; exact hs
  obtain ⟨rfl, rfl⟩ : k = 1 ∧ bx2 = [EB es es.length, EB (es ++ [e]) cap] := hs2.eq
  refine a_ (h:=e_ (aw_ret (x_thenR (?_))))
  refine abody_ret (r := .bs 1 0 2 (es.length + 1) cap) none (by repeat (first | exact ResA.nil | (apply ResA.tmp; (focus exact rfl)) | (apply ResA.cellN; (focus exact inferInstance); (focus exact rfl); (focus exact rfl); (focus exact rfl)) | (apply ResA.cell1; (focus exact inferInstance); (focus exact rfl); (focus exact rfl); (focus exact rfl)))) rfl rfl (by simp [bpLtB, bp_EB]) (LeA.refl _) ⟨rfl, cap, by omega, rfl, ?_⟩
  rw [show insE es i e = es ++ [e] by unfold insE; rw [List.take_of_length_le (by omega), List.drop_of_length_le (by omega)]]
  rfl
 have hc2 := bp hb2
 have hil : i < es.length := by omega
 refine kt_ (q_ (w_ (m_ (h:=m_ (h:=?_)))))
 refine al_p rfl (st_add64 rfl rfl (by omega) ?_)
 refine m_ (h:=?_)
 refine al_p rfl (st_capB rfl ?_)
 refine gt_ (h:=e_ (?_))
 refine aw_cond rfl (fun hb3 => ?_) (fun hb3 => ?_)
 ·have hc3 := bp hb3
  refine w_ (m_ (h:=m_ (h:=?_)))
  refine al_p rfl (st_sliceHiB (k := i) rfl rfl rfl hi ?_)
  refine m_ (h:=m_ (h:=?_))
  refine al_p rfl (st_add64 rfl rfl (by omega) ?_)
  refine m_ (h:=?_)
  refine al_p rfl (st_sub64 rfl rfl (by omega) ?_)
  refine al_p rfl (st_appendNB (q := es.length + 1 - i) Try.underlying3 rfl rfl (by omega) rfl hfit (by omega) (by omega) (by omega) ?_)
  intro cap k bx2 hcp hs
  rw [EB_take es es.length cap i hi] at hs
  obtain ⟨rfl, rfl⟩ : k = 1 ∧ bx2 = [EB es es.length, EB (es.take i) cap] := hs.eq
  refine a_ (h:=e_ (w_ (m_ (h:=m_ (h:=?_)))))
  refine al_p rfl (st_sliceLoB (l := i) rfl rfl rfl (by omega) ?_)
  refine m_ (h:=?_)
  refine al_p rfl (st_copyB rfl rfl rfl (SrcA.sl _ _) (by simp) (by rw [hl1]; omega) (by rw [EB_len _ _ (by simp; omega)]; omega) (EB_put es i e cap hi (by omega)) (by repeat constructor) ?_)
  refine e_ (q_ (yk_ ([(0, EB es es.length)]) 9 (h:=dm_ 0 (h:=dm_ 1 (h:=dm_ 2 (h:=?_))))))
  refine tk_ 3 rfl (fun _ hS => st_add64 rfl rfl (by omega) ⟨rfl, rfl⟩) ?_
  refine tk_ 4 rfl (fun _ hS => st_sliceLoB (l := i + 1) rfl rfl (by omega) (by omega) ⟨rfl, rfl⟩) ?_
  refine dm_ 5 (h:=dm_ 6 (h:=?_))
  refine tk_ 7 rfl (fun _ hS => st_sliceLoB (l := i) rfl rfl rfl (by omega) ⟨rfl, rfl⟩) ?_
  refine c_ 8 rfl (st_copyB rfl rfl rfl (SrcA.bs 0 (0 + i * 2) (es.length - i) (es.length - i) _ rfl (by omega)) (by omega) (by omega) (by rw [EB_len _ _ (by simp; omega)]; omega) (EB_put2 es i e cap hil (by omega)) (by repeat constructor) ?_)
  refine o_ (h:=z_ (h:=t_ (w_ (m_ (h:=a_ (h:=e_ (aw_ret (x_thenR (?_)))))))))
  refine abody_ret (r := .bs 1 0 2 (es.length + 1) cap) none (by repeat (first | exact ResA.nil | (apply ResA.tmp; (focus exact rfl)) | (apply ResA.cellN; (focus exact inferInstance); (focus exact rfl); (focus exact rfl); (focus exact rfl)) | (apply ResA.cell1; (focus exact inferInstance); (focus exact rfl); (focus exact rfl); (focus exact rfl)))) rfl rfl (by simp [bpLtB, bp_EB]) (LeA.of_eq (by rw [show reT none (tupA [AV.bs 1 0 2 (i + (es.length + 1 - i)) cap]) = AV.bs 1 0 2 (i + (es.length + 1 - i)) cap from rfl]; congr 1; omega)) ⟨rfl, cap, by omega, rfl, rfl⟩
 have hc3 := bp hb3
 exfalso; omega
end
theorem entGo_ins (name : Str) (ino : Int) : ∀ (es : List Ent) (p : Nat), (∀ e ∈ es, e.1 ≠ name) → p ≤ es.length → (∀ k e, k < p → es[k]? = some e → strLt e.1 name = true) → (∀ e, es[p]? = some e → strLt e.1 name = false) → entGo name ino false es = insE es p (name, ino)
 | [], p, _, hp, _, _ => by
   simp at hp
   subst hp
   rfl
 | e :: es, p, hn, hp, h1, h2 => by
   have hne : e.1 ≠ name := hn e (List.mem_cons_self ..)
   cases p with
   | zero =>
     have hs := h2 e rfl
     have hw : without name es = es := by
      unfold without
      rw [List.filter_eq_self]
      intro x hx
      simpa using hn x (List.mem_cons_of_mem _ hx)
     unfold entGo
     rw [hs, if_neg hne]
     simp only [Bool.not_false, Bool.and_self, if_true, Bool.or_true, Bool.false_or, entGo_done, hw]
     simp [insE]
   | succ p =>
     have hs := h1 0 e (Nat.succ_pos _) rfl
     have ih := entGo_ins name ino es p (fun x hx => hn x (List.mem_cons_of_mem _ hx)) (by simpa using hp) (fun k x hk hx => h1 (k + 1) x (by omega) (by simpa using hx)) (fun x hx => h2 x (by simpa using hx))
     unfold entGo
     rw [hs, if_neg hne]
     simp only [Bool.not_true, Bool.and_false, Bool.false_eq_true, if_false, List.nil_append, Bool.or_false]
     rw [ih]
     simp [insE]
theorem entL_ins {name : Str} {ino : Int} {es : List Ent} {p : Nat} (h0 : ino ≠ 0) (hn : ∀ e ∈ es, e.1 ≠ name) (hp : p ≤ es.length) (h1 : ∀ k e, k < p → es[k]? = some e → strLt e.1 name = true) (h2 : ∀ e, es[p]? = some e → strLt e.1 name = false) : entL es name ino = insE es p (name, ino) := by
 unfold entL
 rw [show (ino == 0) = false by simpa using h0]
 exact entGo_ins name ino es p hn hp h1 h2
def NX (ns : List Nod) (i : Nat) (nI : Nod) (e : AV) (cap1 : Nat) : List AV := rowsB 8 cap1 ((ns.map nodF).set i (nodX nI e))
theorem NX_eight (ns : List Nod) (i : Nat) (nI : Nod) (e : AV) : ∀ r ∈ (ns.map nodF).set i (nodX nI e), r.length = 8 := by
 intro r hr
 rcases List.mem_or_eq_of_mem_set hr with h | h
 ·exact nodF_eight _ r h
 rw [h]; rfl
theorem NX_get {ns : List Nod} {i : Nat} {nI : Nod} {e x : AV} {cap1 k : Nat} (hi : i < ns.length) (hx : (nodX nI e)[k]? = some x) : (NX ns i nI e cap1)[0 + i * 8 + k]? = some x := rowsB_get (NX_eight _ _ _ _) (by rw [List.getElem?_set_self (by simpa using hi)]) hx
theorem NX_set {ns : List Nod} {i : Nat} {nI : Nod} {e e' : AV} {cap1 : Nat} (hi : i < ns.length) : SetAt (NX ns i nI e cap1) (0 + i * 8 + 7) [e'] (NX ns i nI e' cap1) := by
 have := rowsB_set (cap := cap1) (q := i) (k := 7) (r := nodX nI e) (r' := nodX nI e') (cs := [e']) (NX_eight ns i nI e) (by rw [List.getElem?_set_self (by simpa using hi)]) (by repeat constructor) (by simp)
 rw [List.set_set] at this
 exact this
theorem bp_NX {n m : Nat} {ns : List Nod} {i : Nat} {nI : Nod} {e : AV} {cap1 : Nat} (he : bpLt n m e = true) : bpLtL n m (NX ns i nI e cap1) = true := by
 refine bpLt_rowsB fun r hr => ?_
 rcases List.mem_or_eq_of_mem_set hr with h | h
 ·obtain ⟨d, _, rfl⟩ := List.mem_map.1 h
  exact bp_nodF d
 rw [h]; simp [nodX, bpLtL, bpLt, he]
theorem back_E1 (a : List AV) (es es' : List Ent) (cap cap' : Nat) : Back [a, EB es cap] [1] [EB es cap, EB es' cap'] [a, EB es cap, EB es' cap'] := by
 have := back_F (bx := [a, EB es cap]) (is := [1]) (bc := [EB es cap, EB es' cap']) (by decide) (by simp) (by simp)
 simpa [backF, ren_EB] using this
theorem EB_get {es : List Ent} {cap j k : Nat} {e : Ent} {x : AV} (h : es[j]? = some e) (hx : (entA e)[k]? = some x) : (EB es cap)[0 + j * 2 + k]? = some x := rowsB_get (ent_two _) (by rw [List.getElem?_map, h]; rfl) hx
section
set_option maxRecDepth 10000
set_option maxHeartbeats 1000000
theorem PputB (R : List AV) (R1 : AV → List AV) (i : Nat) (es : List Ent) (name : Str) (ino : Int) (h7 : R[0 + i * 8 + 7]? = some (.bs 1 0 2 es.length es.length)) (hset : ∀ x, SetAt R (0 + i * 8 + 7) [x] (R1 x)) (hbp : bpLtL 2 0 R = true) (hbp3 : ∀ cap, bpLtL 3 0 (R1 (.bs 2 0 2 (es.length + 1) cap)) = true) (hE : 0 < es.length) (hEn : es.length ≤ 1000) (hino : ino ≠ 0) (hno : ∀ e ∈ es, e.1 ≠ name) : ACall Try.prog 64 [.bp 0 (0 + i * 8), .v (.string name), .v (.int .i64 ino)] [R, EB es es.length] (fun r b t => t = [] ∧ r = .tup [] ∧ ∃ cap, es.length + 1 ≤ cap ∧ b = [R1 (.bs 2 0 2 (es.length + 1) cap), EB es es.length, EB (entL es name ino) cap]) := by
 refine enter Try.func64 rfl rfl rfl rfl rfl 3 rfl ?_
 refine q_ (w_ (m_ (h:=k_ (h:=f_ (h:=?_)))))
 refine al_p rfl (st_loadB1 rfl rfl h7 ?_)
 refine al_p rfl (st_lenB rfl ?_)
 refine m_ (h:=e_ (aw_block (?_)))
 refine aw_loopW (fun m t => ∃ j : Nat, j ≤ es.length ∧ m = es.length - j ∧ (∀ k x, k < j → es[k]? = some x → x.1 ≠ name) ∧ t = ⟨look [(0, .bp 0 (0 + i * 8)), (1, .v (.string name)), (2, .v (.int .i64 ino)), (12, .v (.int .i64 (es.length : Int))), (13, .v (.int .i64 (j : Int)))], ⟨[R, EB es es.length], []⟩⟩) (es.length) (wb_ 2 0 (by simp [bpLtB, bp_EB, hbp])) (⟨0, Nat.zero_le _, rfl, fun k x hk => by omega, rfl⟩) ?_
 rintro m t ⟨j, hj, rfl, hnot, rfl⟩
 refine w_ (lt_ (h:=e_ (q_ (?_))))
 refine aw_cond rfl (fun hb1 => ?_) (fun hb1 => ?_)
 ·have hc1 := bp hb1
  have hjl : j < es.length := by omega
  obtain ⟨y, hy⟩ : ∃ y, es[j]? = some y := ⟨_, List.getElem?_eq_getElem hjl⟩
  refine kt_ (q_ (aw_block (w_ (m_ (h:=a_ (h:=e_ (w_ (m_ (h:=k_ (h:=f_ (h:=?_)))))))))))
  refine al_p rfl (st_loadB1 rfl rfl h7 ?_)
  refine m_ (h:=?_)
  refine al_p rfl (st_indexS (m := j) rfl rfl rfl hjl ?_)
  refine f_ (h:=?_)
  refine al_p rfl (st_loadB1 rfl rfl (EB_get hy rfl) ?_)
  refine m_ (h:=eq_ (h:=e_ (?_)))
  refine aw_cond rfl (fun hb2 => ?_) (fun hb2 => ?_)
  ·have hc2 := bp hb2
   exact absurd hc2 (hno y (List.mem_of_getElem? hy))
  have hc2 := bp hb2
  refine aw_skip (x_blockN (t_ (aw_region (ad_ (h:=m_ (h:=al_nil (?_)))))))
  refine x_then ?_
  refine ⟨es.length - (j + 1), _, by omega, ⟨j + 1, by omega, rfl, fun k x hk hk2 => ?_, rfl⟩, wb_ 2 0 (by simp [bpLtB, bp_EB, hbp])⟩
  rcases Nat.lt_succ_iff_lt_or_eq.1 hk with h | rfl
  ·exact hnot k x h hk2
  rw [hy] at hk2; injection hk2 with hk2; subst hk2; assumption
 have hc1 := bp hb1
 refine aw_exit (x_thenE (x_thenE (ABlock_out (t_ (w_ (a_ (h:=e_ (q_ (aw_block (?_))))))))))
 refine aw_loopW (fun m t => ∃ p : Nat, p ≤ es.length ∧ m = es.length - p ∧ (∀ k e, k < p → es[k]? = some e → strLt e.1 name = true) ∧ t = ⟨look [(0, .bp 0 (0 + i * 8)), (1, .v (.string name)), (2, .v (.int .i64 ino)), (7, .v (.int .i64 (p : Int)))], ⟨[R, EB es es.length], []⟩⟩) (es.length) (wb_ 2 0 (by simp [bpLtB, bp_EB, hbp])) (⟨0, Nat.zero_le _, rfl, fun k e hk => by omega, rfl⟩) ?_
 rintro m t ⟨p, hp, rfl, hlt, rfl⟩
 refine q_ (w_ (m_ (h:=m_ (h:=k_ (h:=f_ (h:=?_))))))
 refine al_p rfl (st_loadB1 rfl rfl h7 ?_)
 refine al_p rfl (st_lenB rfl ?_)
 refine lt_ (h:=m_ (h:=?_))
 refine al_gs true rfl rfl (fun hb3 => ?_) (fun hb3 => ?_)
 ·have hc3 := bp hb3
  have hpl : p < es.length := by omega
  obtain ⟨y, hy⟩ : ∃ y, es[p]? = some y := ⟨_, List.getElem?_eq_getElem hpl⟩
  refine m_ (h:=k_ (h:=f_ (h:=?_)))
  refine g_y (st_loadB1 rfl rfl h7 ?_)
  refine m_ (h:=?_)
  refine g_y (st_indexS (m := p) rfl rfl rfl hpl ?_)
  refine f_ (h:=?_)
  refine g_y (st_loadB1 rfl rfl (EB_get hy rfl) ?_)
  refine m_ (h:=lt_ (h:=pt_ (h:=e_ (?_))))
  refine aw_cond rfl (fun hb4 => ?_) (fun hb4 => ?_)
  ·have hc4 := bp hb4
   refine kt_ (aw_block (aw_region (m_ (h:=ad_ (h:=a_ (h:=al_nil (x_blockN (?_))))))))
   refine x_then ?_
   refine ⟨es.length - (p + 1), _, by omega, ⟨p + 1, by omega, rfl, fun k e hk he => ?_, rfl⟩, wb_ 2 0 (by simp [bpLtB, bp_EB, hbp])⟩
   rcases Nat.lt_succ_iff_lt_or_eq.1 hk with h | rfl
   ·exact hlt k e h he
   rw [hy] at he; injection he with he; subst he; exact hb4
  have hc4 := bp hb4
  refine aw_exit (x_thenE (x_thenE (ABlock_out (t_ (aw_region (m_ (h:=m_ (h:=k_ (h:=f_ (h:=?_))))))))))
  refine al_p rfl (st_loadB1 rfl rfl h7 ?_)
  refine m_ (h:=m_ (h:=m_ (h:=bd_ (h:=bs_ (h:=?_)))))
  refine al_p rfl (s_callM [1] rfl (.cons _ _ _ _ _ rfl (LeA.refl _) (.cons _ _ _ _ _ rfl (LeA.refl _) (.cons _ _ _ _ _ rfl (LeA.refl _) .nil))) (by decide) (.cons _ _ _ _ _ rfl (ren_EB _ _ _) .nil) (PinsE es p (name, ino) hE hEn hp) ?_)
  rintro r bc tc ⟨rfl, cap, hcap, rfl, rfl⟩
  refine ⟨rfl, _, (back_E1 _ _ _ _ _ : Back _ [1] _ [_, _, _]), ?_⟩
  refine k_ (h:=f_ (h:=?_))
  refine al_p0 (s_store rfl rfl rfl rfl rfl rfl (hset _) (by repeat constructor) ?_)
  refine al_nil (?_)
  refine abody_end (r := .tup []) none (by repeat (first | exact ResA.nil | (apply ResA.tmp; (focus exact rfl)) | (apply ResA.cellN; (focus exact inferInstance); (focus exact rfl); (focus exact rfl); (focus exact rfl)) | (apply ResA.cell1; (focus exact inferInstance); (focus exact rfl); (focus exact rfl); (focus exact rfl)))) rfl rfl (by show (bpLtL 3 0 (R1 (.bs 2 0 2 (es.length + 1) cap)) && (bpLtL 3 0 (EB es es.length) && (bpLtL 3 0 (EB (insE es p (name, ino)) cap) && true))) = true; rw [hbp3, bp_EB, bp_EB]; rfl) (LeA.refl _) ⟨rfl, rfl, cap, hcap, ?_⟩
  rw [entL_ins hino hno hp hlt (fun e he => by rw [hy] at he; injection he with he; subst he; exact hb4)]
  rfl
 have hc3 := bp hb3
 refine g0_ (h:=g0_ (h:=g0_ (h:=g0_ (h:=g0_ (h:=g0_ (h:=g0_ (h:=g0_ (h:=g0_ (h:=g0_ (h:=pf_ (h:=e_ (cn_ (h:=aw_exit (x_thenE (x_thenE (ABlock_out (t_ (aw_region (m_ (h:=m_ (h:=k_ (h:=f_ (h:=?_)))))))))))))))))))))))
 refine al_p rfl (st_loadB1 rfl rfl h7 ?_)
 refine m_ (h:=m_ (h:=m_ (h:=bd_ (h:=bs_ (h:=?_)))))
 refine al_p rfl (s_callM [1] rfl (.cons _ _ _ _ _ rfl (LeA.refl _) (.cons _ _ _ _ _ rfl (LeA.refl _) (.cons _ _ _ _ _ rfl (LeA.refl _) .nil))) (by decide) (.cons _ _ _ _ _ rfl (ren_EB _ _ _) .nil) (PinsE es p (name, ino) hE hEn hp) ?_)
 rintro r bc tc ⟨rfl, cap, hcap, rfl, rfl⟩
 refine ⟨rfl, _, (back_E1 _ _ _ _ _ : Back _ [1] _ [_, _, _]), ?_⟩
 refine k_ (h:=f_ (h:=?_))
 refine al_p0 (s_store rfl rfl rfl rfl rfl rfl (hset _) (by repeat constructor) ?_)
 refine al_nil (?_)
 refine abody_end (r := .tup []) none (by repeat (first | exact ResA.nil | (apply ResA.tmp; (focus exact rfl)) | (apply ResA.cellN; (focus exact inferInstance); (focus exact rfl); (focus exact rfl); (focus exact rfl)) | (apply ResA.cell1; (focus exact inferInstance); (focus exact rfl); (focus exact rfl); (focus exact rfl)))) rfl rfl (by show (bpLtL 3 0 (R1 (.bs 2 0 2 (es.length + 1) cap)) && (bpLtL 3 0 (EB es es.length) && (bpLtL 3 0 (EB (insE es p (name, ino)) cap) && true))) = true; rw [hbp3, bp_EB, bp_EB]; rfl) (LeA.refl _) ⟨rfl, rfl, cap, hcap, ?_⟩
 rw [entL_ins hino hno hp hlt (fun e he => by rw [List.getElem?_eq_none (by omega)] at he; cases he)]
 rfl
theorem Pput0Y (R : List AV) (R1 : AV → List AV) (i : Nat) (name : Str) (ino : Int) (h7 : R[0 + i * 8 + 7]? = some (.v (.slice none 0 0))) (hset : ∀ x, SetAt R (0 + i * 8 + 7) [x] (R1 x)) (hbp : bpLtL 1 0 R = true) (hbp3 : bpLtL 1 0 (R1 (.sl 2 [entA (name, ino)] none)) = true) : ACall Try.prog 64 [.bp 0 (0 + i * 8), .v (.string name), .v (.int .i64 ino)] [R] (fun r b t => t = [] ∧ r = .tup [] ∧ b = [R1 (.sl 2 [entA (name, ino)] none)]) := by
 refine enter Try.func64 rfl rfl rfl rfl rfl 1 rfl ?_
 refine q_ (w_ (m_ (h:=k_ (h:=f_ (h:=?_)))))
 refine al_p rfl (st_loadB1 rfl rfl h7 ?_)
 refine n_ (h:=m_ (h:=e_ (aw_block (?_))))
 refine aw_loopW (fun m t => t = ⟨look [(0, .bp 0 (0 + i * 8)), (1, .v (.string name)), (2, .v (.int .i64 ino)), (12, .v (.int .i64 0)), (13, .v (.int .i64 0))], ⟨[R], []⟩⟩) (0) (wb_ 1 0 (by simp [bpLtB, hbp])) (rfl) ?_
 rintro m t rfl
 refine w_ (lt_ (h:=e_ (q_ (?_))))
 refine aw_cond rfl (fun hb1 => ?_) (fun hb1 => ?_)
 ·have hc1 := bp hb1
  exfalso; omega
 have hc1 := bp hb1
 refine aw_exit (x_thenE (x_thenE (ABlock_out (t_ (w_ (a_ (h:=e_ (q_ (aw_block (?_))))))))))
 refine aw_loopW (fun m t => t = ⟨look [(0, .bp 0 (0 + i * 8)), (1, .v (.string name)), (2, .v (.int .i64 ino)), (7, .v (.int .i64 0))], ⟨[R], []⟩⟩) (0) (wb_ 1 0 (by simp [bpLtB, hbp])) (rfl) ?_
 rintro m t rfl
 refine q_ (w_ (m_ (h:=m_ (h:=k_ (h:=f_ (h:=?_))))))
 refine al_p rfl (st_loadB1 rfl rfl h7 ?_)
 refine n_ (h:=lt_ (h:=m_ (h:=?_)))
 refine al_gs true rfl rfl (fun hb2 => ?_) (fun hb2 => ?_)
 ·have hc2 := bp hb2
  exfalso; omega
 have hc2 := bp hb2
 refine g0_ (h:=g0_ (h:=g0_ (h:=g0_ (h:=g0_ (h:=g0_ (h:=g0_ (h:=g0_ (h:=g0_ (h:=g0_ (h:=pf_ (h:=e_ (cn_ (h:=aw_exit (x_thenE (x_thenE (ABlock_out (t_ (aw_region (m_ (h:=m_ (h:=k_ (h:=f_ (h:=?_)))))))))))))))))))))))
 refine al_p rfl (st_loadB1 rfl rfl h7 ?_)
 refine m_ (h:=m_ (h:=m_ (h:=bd_ (h:=bs_ (h:=?_)))))
 refine al_p rfl (q_call (PinsE0 (name, ino)) ?_)
 rintro r rfl
 refine k_ (h:=f_ (h:=?_))
 refine al_p0 (s_store rfl rfl rfl rfl rfl rfl (hset _) (by repeat constructor) ?_)
 refine al_nil (?_)
 refine abody_end (r := .tup []) none (by repeat (first | exact ResA.nil | (apply ResA.tmp; (focus exact rfl)) | (apply ResA.cellN; (focus exact inferInstance); (focus exact rfl); (focus exact rfl); (focus exact rfl)) | (apply ResA.cell1; (focus exact inferInstance); (focus exact rfl); (focus exact rfl); (focus exact rfl)))) rfl rfl (by show (bpLtL 1 0 (R1 (.sl 2 [entA (name, ino)] none)) && true) = true; rw [hbp3]; rfl) (LeA.refl _) ⟨rfl, rfl, rfl⟩
theorem Pput (ns : List Nod) (i : Nat) (nI : Nod) (name : Str) (ino : Int) (hil : i < ns.length) (hE : 0 < nI.entries.length) (hEn : nI.entries.length ≤ 1000) (hino : ino ≠ 0) (hno : ∀ e ∈ nI.entries, e.1 ≠ name) : ACall Try.prog 64 [.bp 0 (0 + i * 8), .v (.string name), .v (.int .i64 ino)] [NX ns i nI (.bs 1 0 2 nI.entries.length nI.entries.length) ns.length, EB nI.entries nI.entries.length] (fun r b t => t = [] ∧ r = .tup [] ∧ ∃ cap, nI.entries.length + 1 ≤ cap ∧ b = [NX ns i nI (.bs 2 0 2 (nI.entries.length + 1) cap) ns.length, EB nI.entries nI.entries.length, EB (entL nI.entries name ino) cap]) := by
 exact PputB (NX ns i nI (.bs 1 0 2 nI.entries.length nI.entries.length) ns.length) (fun x => NX ns i nI x ns.length) i nI.entries name ino (NX_get hil rfl) (fun x => NX_set hil) (bp_NX rfl) (fun _ => bp_NX rfl) hE hEn hino hno
theorem Pput0 (ns : List Nod) (i : Nat) (nI : Nod) (name : Str) (ino : Int) (hil : i < ns.length) : ACall Try.prog 64 [.bp 0 (0 + i * 8), .v (.string name), .v (.int .i64 ino)] [NX ns i nI (.v (.slice none 0 0)) ns.length] (fun r b t => t = [] ∧ r = .tup [] ∧ b = [NX ns i nI (.sl 2 [entA (name, ino)] none) ns.length]) := by
 exact Pput0Y (NX ns i nI (.v (.slice none 0 0)) ns.length) (fun x => NX ns i nI x ns.length) i name ino (NX_get hil rfl) (fun x => NX_set hil) (bp_NX rfl) (bp_NX rfl)
end
section
variable {P : Program} {ev : Operand → Option AV} {h : AH} {R : AV → AH → Prop} {d : Option Tmp} {ty : TypeId} {pos : String} {af : Array Edge} {gd : Option (Nat × Bool)}
theorem st_sliceEnd {T : TypeId} {x lo : Operand} {E sz bytes i off n cap : Nat} {iv : Int} [hE : Elm P T E sz bytes] (hx : ev x = some (.bs i off sz n cap)) (hl : ev lo = some (.v (.int .i64 iv))) (hl' : iv = (n : Int)) (hR : R (.sl sz [] none) h) : AStep P ⟨d, .slice T x (some lo) none none, ty, pos, af, gd⟩ ev h R := by
 refine st_val (fun _ G w ec _ he => ?_) hR
 have k1 := he x (by simp [Op.operands]) _ hx
 have k2 := he lo (by simp [Op.operands]) _ hl
 simp only [rep] at k1 k2
 obtain ⟨b, e1, e2, e3, e4⟩ := k1
 obtain ⟨hu, inf, z, hinf, hz, hzs, hs, hby, hp⟩ := elm_spec hE.eq
 subst hl'
 refine ⟨.slice (if cap = n then some ⟨b, off, none⟩ else Option.map (fun y : Addr => y.add (n * sz)) (some ⟨b, off, none⟩)) 0 (cap - n), ?_, ?_⟩
 ·simp [execOp, e2, k2, Instr.sliceAt, Instr.slice, Instr.sliceBounds, Instr.sliceBound, asIntOf, run_underlying hu, sizeOf, typeInfo, hinf, hs, e3]
 simp only [rep, fro]
 exact ⟨trivial, _, _, rfl, Nat.zero_le _, by omega, .inl trivial⟩
theorem st_appendE {T : TypeId} {s y : Operand} {T' sz bytes i off n cap : Nat} [hE : Elm P T T' sz bytes] (hs : ev s = some (.bs i off sz n cap)) (hy : ev y = some (.sl sz [] none)) (hR : R (.bs i off sz n cap) h) : AStep P ⟨d, .call { callee := .builtin .append, args := #[s, y], argTypes := #[T, T] }, ty, pos, af, gd⟩ ev h R := by
 intro E G w ec hr he
 have k1 := he s (by simp [Op.operands, Call.operands]) _ hs
 have k2 := he y (by simp [Op.operands, Call.operands]) _ hy
 obtain ⟨hu, inf, z, hinf, hz, hzs, hsz, hbts, hp⟩ := elm_spec hE.eq
 simp only [rep, fro] at k1 k2
 obtain ⟨b, k3, k4, k5, k6⟩ := k1
 obtain ⟨_, A, c, j1, j2, j3, j4⟩ := k2
 have hrun : (Builtin.append_ #[T, T] ty #[.slice (some ⟨b, off, none⟩) n cap, .slice A 0 c]).run P w = .ok (.slice (some ⟨b, off, none⟩) n cap) w := by
  cases A with
  | none => simp [Builtin.append_, run_underlying hu, sizeOf, typeInfo, hinf, Builtin.lenOf, Builtin.firstCells, k5, storeCells]
  | some a =>
    have := run_append_room_cells (P := P) w T ty T' inf hu hinf b off n cap a 0 c [] (by simp) (fun j u hj => by simp at hj) (fun u hu => by cases hu) (by omega) (fun j hj => by simp at hj) (fun j hj => by simp at hj)
    simpa [World.setCells] using this
 simp only [List.length_nil] at j1
 simp only [execOp, resolve, invoke, builtin, Sem.run_bind, Sem.run_pure, Result.andThen_ok, List.map_toArray, List.map_cons, List.map_nil, k4, j1, hrun]
 exact ⟨_, _, G, hR, hr, Ext.refl _ _, by simp only [rep]; exact ⟨b, k3, rfl, k5, k6⟩⟩
end
theorem EB_delete (es : List Ent) (k cap : Nat) (hk : k + 1 < es.length) (hc : es.length ≤ cap) : ∃ row, SetAt (EB es cap) (0 + k * 2) (((EB es cap).drop (0 + (k + 1) * 2)).take ((es.length - (k + 1)) * 2)) row ∧ row.length = cap * 2 ∧ row.take (0 + (es.length - 1) * 2) ++ List.replicate (cap * 2 - (0 + (es.length - 1) * 2)) .any = EB (es.eraseIdx k) cap := by
 rw [ent_flat2 es cap (k + 1) (by omega)]
 have lA : ((es.take k).map entA).flatten.length = k * 2 := by rw [flat_len (ent_two _)]; simp; omega
 have lM : (((es.drop k).take (es.length - 1 - k)).map entA).flatten.length = (es.length - 1 - k) * 2 := by rw [flat_len (ent_two _)]; simp; omega
 have lX : ((es.drop (k + 1)).map entA).flatten.length = (es.length - 1 - k) * 2 := by rw [flat_len (ent_two _)]; simp; omega
 have lZ : ((es.drop (es.length - 1)).map entA).flatten.length = 2 := by rw [flat_len (ent_two _)]; simp; omega
 have hs : es = es.take k ++ ((es.drop k).take (es.length - 1 - k) ++ es.drop (es.length - 1)) := by
  conv => lhs; rw [← List.take_append_drop k es, ← List.take_append_drop (es.length - 1 - k) (es.drop k)]
  rw [List.drop_drop, show k + (es.length - 1 - k) = es.length - 1 by omega]
 have hE : EB es cap = ((es.take k).map entA).flatten ++ ((((es.drop k).take (es.length - 1 - k)).map entA).flatten ++ (((es.drop (es.length - 1)).map entA).flatten ++ List.replicate ((cap - es.length) * 2) .any)) := by
  unfold EB rowsB
  rw [List.length_map]
  conv => lhs; arg 1; rw [hs]
  simp only [List.map_append, List.flatten_append, List.append_assoc]
 refine ⟨((es.take k).map entA).flatten ++ (((es.drop (k + 1)).map entA).flatten ++ (((es.drop (es.length - 1)).map entA).flatten ++ List.replicate ((cap - es.length) * 2) .any)), ?_, ?_, ?_⟩
 ·rw [hE]
  have key := SetAt.right (SetAt.whole (xs := ((es.drop (k + 1)).map entA).flatten) (l := (((es.drop k).take (es.length - 1 - k)).map entA).flatten) (b := ((es.drop (es.length - 1)).map entA).flatten ++ List.replicate ((cap - es.length) * 2) .any) (by rw [lX, lM])) ((es.take k).map entA).flatten (fun h => by rw [h, List.length_nil] at lX; omega)
  rw [lA, Nat.add_zero] at key
  rw [Nat.zero_add]
  exact key
 ·simp only [List.length_append, lA, lX, lZ, List.length_replicate, Nat.sub_mul]
  omega
 rw [← List.append_assoc, List.take_left' (by rw [List.length_append, lA, lX]; omega)]
 unfold EB rowsB
 rw [List.eraseIdx_eq_take_drop_succ, List.map_append, List.flatten_append]
 congr 2
 simp only [List.length_append, List.length_map, List.length_take, List.length_drop]
 rw [Nat.min_eq_left (by omega)]
 omega
theorem EB_deleteL (es : List Ent) (k cap : Nat) (hk : k + 1 = es.length) (hc : es.length ≤ cap) : (EB es cap).take (0 + k * 2) ++ List.replicate ((EB es cap).length - (0 + k * 2)) .any = EB (es.eraseIdx k) cap := by
 have h := EB_take es cap cap k (by omega)
 rw [List.drop_zero] at h
 rw [EB_len _ _ hc, Nat.zero_add, List.eraseIdx_eq_take_drop_succ, List.drop_of_length_le (by omega), List.append_nil, ← Nat.sub_mul, h]
theorem back_E (a : List AV) (es es' : List Ent) (cap cap' : Nat) : Back [a, EB es cap] [1] [EB es' cap'] [a, EB es' cap'] := by
 have := back_F (bx := [a, EB es cap]) (is := [1]) (bc := [EB es' cap']) (by decide) (by simp) (by simp)
 simpa [backF, ren_EB] using this
section
set_option maxRecDepth 10000
set_option maxHeartbeats 1000000
theorem PdelE1 (es : List Ent) (k cap : Nat) (hk : k + 1 < es.length) (hes : es.length ≤ 1000) (hc : es.length ≤ cap) : ACall Try.prog 103 [.bs 0 0 2 es.length cap, .v (.int .i64 (k : Int)), .v (.int .i64 ((k : Int) + 1))] [EB es cap] (fun r b t => t = [] ∧ r = .bs 0 0 2 (es.length - 1) cap ∧ b = [EB (es.eraseIdx k) cap]) := by
 obtain ⟨row, hrow, hrl, hrt⟩ := EB_delete es k cap hk hc
 have hfit : 0 + cap * 2 ≤ (EB es cap).length := by rw [EB_len es _ hc]; omega
 refine enter Try.func103 rfl rfl rfl rfl rfl 1 rfl ?_
 refine w_ (a_ (h:=e_ (w_ (m_ (h:=m_ (h:=m_ (h:=m_ (h:=?_))))))))
 refine al_p rfl (st_lenB rfl ?_)
 refine al_p rfl (st_slice3B (l := k) (k := k + 1) (q := es.length) rfl rfl rfl rfl rfl (by omega) rfl (by omega) (by omega) (by omega) (by omega) ?_)
 refine e_ (q_ (w_ (m_ (h:=m_ (h:=eq_ (h:=e_ (?_)))))))
 refine aw_cond rfl (fun hb1 => ?_) (fun hb1 => ?_)
 ·have hc1 := bp hb1
  exfalso; omega
 have hc1 := bp hb1
 refine kt_ (w_ (m_ (h:=?_)))
 refine al_p rfl (st_lenB rfl ?_)
 refine a_ (h:=e_ (q_ (yk_ ([]) 8 (h:=dm_ 0 (h:=dm_ 1 (h:=?_))))))
 refine tk_ 2 rfl (fun _ hS => st_sliceHiB (k := k) rfl rfl rfl (by omega) ⟨rfl, rfl⟩) ?_
 refine dm_ 3 (h:=dm_ 4 (h:=?_))
 refine tk_ 5 rfl (fun _ hS => st_sliceLoB (l := k + 1) rfl rfl (by omega) (by omega) ⟨rfl, rfl⟩) ?_
 refine c_ 6 rfl (st_appendB rfl rfl rfl hfit (SrcA.bs 0 (0 + (k + 1) * 2) (es.length - (k + 1)) (cap - (k + 1)) _ rfl (by rw [EB_len es _ hc]; omega)) (by omega) (by omega) ?_ (fun h => absurd h (by omega)))
 intro _ row2 bx2 hs1 hs2
 obtain rfl : row2 = row := hs1.det hrow
 obtain rfl := (SetAt.one hs2).2
 refine o_ (h:=da_ 7 (h:=z_ (h:=t_ (w_ (m_ (h:=m_ (h:=?_)))))))
 refine al_p rfl (st_lenB rfl ?_)
 refine m_ (h:=?_)
 refine al_p rfl (st_slice2B (l := k + (es.length - (k + 1))) (k := es.length) rfl rfl rfl rfl rfl (by omega) (by omega) (by omega) ?_)
 refine al_p0 (st_clearB rfl rfl (by omega) (by rw [hrl]; omega) (by repeat constructor) ?_)
 refine e_ (w_ (m_ (h:=a_ (h:=e_ (aw_ret (?_))))))
 have e9 : k + (es.length - (k + 1)) = es.length - 1 := by omega
 rw [e9]
 refine abody_ret (r := .bs 0 0 2 (es.length - 1) cap) none (by repeat (first | exact ResA.nil | (apply ResA.tmp; (focus exact rfl)) | (apply ResA.cellN; (focus exact inferInstance); (focus exact rfl); (focus exact rfl); (focus exact rfl)) | (apply ResA.cell1; (focus exact inferInstance); (focus exact rfl); (focus exact rfl); (focus exact rfl)))) rfl rfl (by rw [hrl, hrt]; show (bpLtL 1 0 (EB (es.eraseIdx k) cap) && true) = true; rw [bp_EB]; rfl) (LeA.refl _) ⟨rfl, rfl, by rw [hrl, hrt]; rfl⟩
theorem PdelE2 (es : List Ent) (k cap : Nat) (hk : k + 1 = es.length) (hes : es.length ≤ 1000) (hc : es.length ≤ cap) : ACall Try.prog 103 [.bs 0 0 2 es.length cap, .v (.int .i64 (k : Int)), .v (.int .i64 ((k : Int) + 1))] [EB es cap] (fun r b t => t = [] ∧ r = .bs 0 0 2 k cap ∧ b = [EB (es.eraseIdx k) cap]) := by
 have hrt := EB_deleteL es k cap hk hc
 have hrl := EB_len es _ hc
 refine enter Try.func103 rfl rfl rfl rfl rfl 1 rfl ?_
 refine w_ (a_ (h:=e_ (w_ (m_ (h:=m_ (h:=m_ (h:=m_ (h:=?_))))))))
 refine al_p rfl (st_lenB rfl ?_)
 refine al_p rfl (st_slice3B (l := k) (k := k + 1) (q := es.length) rfl rfl rfl rfl rfl (by omega) rfl (by omega) (by omega) (by omega) (by omega) ?_)
 refine e_ (q_ (w_ (m_ (h:=m_ (h:=eq_ (h:=e_ (?_)))))))
 refine aw_cond rfl (fun hb1 => ?_) (fun hb1 => ?_)
 ·have hc1 := bp hb1
  exfalso; omega
 have hc1 := bp hb1
 refine kt_ (w_ (m_ (h:=?_)))
 refine al_p rfl (st_lenB rfl ?_)
 refine a_ (h:=e_ (q_ (yk_ ([]) 8 (h:=dm_ 0 (h:=dm_ 1 (h:=?_))))))
 refine tk_ 2 rfl (fun _ hS => st_sliceHiB (k := k) rfl rfl rfl (by omega) ⟨rfl, rfl⟩) ?_
 refine dm_ 3 (h:=dm_ 4 (h:=?_))
 refine tk_ 5 rfl (fun _ hS => st_sliceEnd rfl rfl (by omega) ⟨rfl, rfl⟩) ?_
 refine c_ 6 rfl (st_appendE rfl rfl ?_)
 refine o_ (h:=da_ 7 (h:=z_ (h:=t_ (w_ (m_ (h:=m_ (h:=?_)))))))
 refine al_p rfl (st_lenB rfl ?_)
 refine m_ (h:=?_)
 refine al_p rfl (st_slice2B (l := k) (k := es.length) rfl rfl rfl rfl rfl (by omega) (by omega) (by omega) ?_)
 refine al_p0 (st_clearB rfl rfl (by omega) (by rw [hrl]; omega) (by repeat constructor) ?_)
 refine e_ (w_ (m_ (h:=a_ (h:=e_ (aw_ret (?_))))))
 refine abody_ret (r := .bs 0 0 2 k cap) none (by repeat (first | exact ResA.nil | (apply ResA.tmp; (focus exact rfl)) | (apply ResA.cellN; (focus exact inferInstance); (focus exact rfl); (focus exact rfl); (focus exact rfl)) | (apply ResA.cell1; (focus exact inferInstance); (focus exact rfl); (focus exact rfl); (focus exact rfl)))) rfl rfl (by rw [hrt]; show (bpLtL 1 0 (EB (es.eraseIdx k) cap) && true) = true; rw [bp_EB]; rfl) (LeA.refl _) ⟨rfl, rfl, by rw [hrt]; rfl⟩
theorem PdelE (es : List Ent) (k cap : Nat) (hk : k < es.length) (hes : es.length ≤ 1000) (hc : es.length ≤ cap) : ACall Try.prog 103 [.bs 0 0 2 es.length cap, .v (.int .i64 (k : Int)), .v (.int .i64 ((k : Int) + 1))] [EB es cap] (fun r b t => t = [] ∧ r = .bs 0 0 2 (es.length - 1) cap ∧ b = [EB (es.eraseIdx k) cap]) := by
 by_cases h : k + 1 = es.length
 ·have := PdelE2 es k cap h hes hc
  rw [show es.length - 1 = k by omega]
  exact this
 exact PdelE1 es k cap (by omega) hes hc
theorem Pdrop (ns : List Nod) (i : Nat) (nI : Nod) (name : Str) (p : Nat) (cap m : Nat) (hil : i < ns.length) (hp : ∃ e, nI.entries[p]? = some e ∧ e.1 = name) (hfst : ∀ k e, k < p → nI.entries[k]? = some e → e.1 ≠ name) (hEn : nI.entries.length ≤ 1000) (hcap : nI.entries.length ≤ cap) : ACall Try.prog 86 [.bp 0 (0 + i * 8), .v (.string name)] [NX ns i nI (.bs 1 0 2 nI.entries.length cap) m, EB nI.entries cap] (fun r b t => t = [] ∧ r = .tup [] ∧ b = [NX ns i nI (.bs 1 0 2 (nI.entries.length - 1) cap) m, EB (nI.entries.eraseIdx p) cap]) := by
 obtain ⟨ep, hpe, hpn⟩ := hp
 have hpl := (List.getElem?_eq_some_iff.1 hpe).1
 have h7 : (NX ns i nI (.bs 1 0 2 nI.entries.length cap) m)[0 + i * 8 + 7]? = some (.bs 1 0 2 nI.entries.length cap) := NX_get hil rfl
 have hbp : bpLtL 2 0 (NX ns i nI (.bs 1 0 2 nI.entries.length cap) m) = true := bp_NX rfl
 have hbp2 : bpLtL 2 0 (NX ns i nI (.bs 1 0 2 (nI.entries.length - 1) cap) m) = true := bp_NX rfl
 refine enter Try.func86 rfl rfl rfl rfl rfl 2 rfl ?_
 refine w_ (m_ (h:=k_ (h:=f_ (h:=?_))))
 refine al_p rfl (st_loadB1 rfl rfl h7 ?_)
 refine al_p rfl (st_lenB rfl ?_)
 refine m_ (h:=e_ (aw_block (?_)))
 refine aw_loopW (fun n t => ∃ j : Nat, j ≤ nI.entries.length ∧ n = nI.entries.length - j ∧ (∀ k x, k < j → nI.entries[k]? = some x → x.1 ≠ name) ∧ t = ⟨look [(0, .bp 0 (0 + i * 8)), (1, .v (.string name)), (9, .v (.int .i64 (nI.entries.length : Int))), (10, .v (.int .i64 (j : Int)))], ⟨[NX ns i nI (.bs 1 0 2 nI.entries.length cap) m, EB nI.entries cap], []⟩⟩) (nI.entries.length) (wb_ 2 0 (by simp [bpLtB, bp_EB, hbp])) (⟨0, Nat.zero_le _, rfl, fun k x hk => by omega, rfl⟩) ?_
 rintro n t ⟨j, hj, rfl, hnot, rfl⟩
 refine w_ (lt_ (h:=e_ (q_ (?_))))
 refine aw_cond rfl (fun hb1 => ?_) (fun hb1 => ?_)
 ·have hc1 := bp hb1
  have hjl : j < nI.entries.length := by omega
  obtain ⟨y, hy⟩ : ∃ y, nI.entries[j]? = some y := ⟨_, List.getElem?_eq_getElem hjl⟩
  refine kt_ (q_ (aw_block (w_ (m_ (h:=a_ (h:=e_ (w_ (m_ (h:=k_ (h:=f_ (h:=?_)))))))))))
  refine al_p rfl (st_loadB1 rfl rfl h7 ?_)
  refine m_ (h:=?_)
  refine al_p rfl (st_indexS (m := j) rfl rfl rfl hjl ?_)
  refine f_ (h:=?_)
  refine al_p rfl (st_loadB1 rfl rfl (EB_get hy rfl) ?_)
  refine m_ (h:=eq_ (h:=e_ (?_)))
  refine aw_cond rfl (fun hb2 => ?_) (fun hb2 => ?_)
  ·have hc2 := bp hb2
   obtain rfl : j = p := by
    rcases Nat.lt_trichotomy j p with h | h | h
    ·exact absurd hc2 (hfst j y h hy)
    ·exact h
    exact absurd hpn (hnot p ep h hpe)
   refine w_ (m_ (h:=m_ (h:=k_ (h:=f_ (h:=?_)))))
   refine al_p rfl (st_loadB1 rfl rfl h7 ?_)
   refine m_ (h:=m_ (h:=?_))
   refine al_p rfl (st_add64 rfl rfl (by omega) ?_)
   refine al_p rfl (s_callM [1] rfl (.cons _ _ _ _ _ rfl (LeA.refl _) (.cons _ _ _ _ _ rfl (LeA.refl _) (.cons _ _ _ _ _ rfl (LeA.refl _) .nil))) (by decide) (.cons _ _ _ _ _ rfl (ren_EB _ _ _) .nil) (PdelE nI.entries j cap hjl hEn hcap) ?_)
   rintro r bc tc ⟨rfl, rfl, rfl⟩
   refine ⟨rfl, _, (back_E _ _ _ _ _ : Back _ [1] _ [_, _]), ?_⟩
   refine k_ (h:=f_ (h:=?_))
   refine al_p0 (s_store rfl rfl rfl rfl rfl rfl (NX_set hil) (by repeat constructor) ?_)
   refine e_ (aw_ret (x_blockR (x_thenR (x_thenR (x_blockR (?_))))))
   refine abody_ret (r := .tup []) none (by repeat (first | exact ResA.nil | (apply ResA.tmp; (focus exact rfl)) | (apply ResA.cellN; (focus exact inferInstance); (focus exact rfl); (focus exact rfl); (focus exact rfl)) | (apply ResA.cell1; (focus exact inferInstance); (focus exact rfl); (focus exact rfl); (focus exact rfl)))) rfl rfl (by simp [bpLtB, bp_EB]; exact hbp2) (LeA.refl _) ⟨rfl, rfl, rfl⟩
  have hc2 := bp hb2
  refine aw_skip (x_blockN (t_ (aw_region (ad_ (h:=m_ (h:=al_nil (?_)))))))
  refine x_then ?_
  refine ⟨nI.entries.length - (j + 1), _, by omega, ⟨j + 1, by omega, rfl, fun k x hk hk2 => ?_, rfl⟩, wb_ 2 0 (by simp [bpLtB, bp_EB, hbp])⟩
  rcases Nat.lt_succ_iff_lt_or_eq.1 hk with h | rfl
  ·exact hnot k x h hk2
  rw [hy] at hk2; injection hk2 with hk2; subst hk2; assumption
 have hc1 := bp hb1
 exact absurd hpn (hnot p ep (by omega) hpe)
end
end Go.Proofs.Ythcbdkmhamhciaa
