/-
  Part 14 of the proof of FilesNeverP: what the statement's proof uses of the texts in wip/tpl.
-/
import Derived.Lib.Overlaps
import Derived.Test.YthcbdkmhamhciaaQe13
namespace Go.Proofs.Ythcbdkmhamhciaa
open Go.RowKit

def rowsGG (ns : List Nod) (i : Nat) (nI : Nod) (a ca j : Nat) (nJ : Nod) (b cb : Nat) : List (List AV) := (rowsG ns i nI a ca).set j (nodB nJ b cb)
def NGG (ns : List Nod) (i : Nat) (nI : Nod) (a ca j : Nat) (nJ : Nod) (b cb cap1 : Nat) : List AV := rowsB 8 cap1 (rowsGG ns i nI a ca j nJ b cb)
theorem rowsGG_eight (ns : List Nod) (i : Nat) (nI : Nod) (a ca j : Nat) (nJ : Nod) (b cb : Nat) : ∀ r ∈ rowsGG ns i nI a ca j nJ b cb, r.length = 8 := by
  intro r hr
  rcases List.mem_or_eq_of_mem_set hr with h | h
  · exact rowsG_eight _ _ _ _ _ r h
  rw [h]; rfl
theorem rowsGG_len (ns : List Nod) (i : Nat) (nI : Nod) (a ca j : Nat) (nJ : Nod) (b cb : Nat) : (rowsGG ns i nI a ca j nJ b cb).length = ns.length := by simp [rowsGG, rowsG_len]
theorem bp_rG {n m : Nat} {ns : List Nod} {i : Nat} {nI : Nod} {j cap : Nat} (hj : j < n) : ∀ r ∈ rowsG ns i nI j cap, bpLtL n m r = true := by
  intro r hr
  rcases List.mem_or_eq_of_mem_set hr with h | h
  · obtain ⟨d, _, rfl⟩ := List.mem_map.1 h
    exact bp_nodF d
  rw [h]; simp [nodB, nodX, bpLtL, bpLt, hj]
theorem bp_NGG {n m : Nat} {ns : List Nod} {i : Nat} {nI : Nod} {a ca j : Nat} {nJ : Nod} {b cb cap1 : Nat} (ha : a < n) (hb : b < n) : bpLtL n m (NGG ns i nI a ca j nJ b cb cap1) = true := by
  refine bpLt_rowsB fun r hr => ?_
  rcases List.mem_or_eq_of_mem_set hr with h | h
  · exact bp_rG ha r h
  rw [h]; simp [nodB, nodX, bpLtL, bpLt, hb]
theorem rowsGG_succ {ns : List Nod} {i j q : Nat} {nI nJ x : Nod} {a ca b cb : Nat} (hx : ns[q]? = some x) (hi : i < q) (hj : j < q) : rowsGG (ns.take (q + 1)) i nI a ca j nJ b cb = rowsGG (ns.take q) i nI a ca j nJ b cb ++ [nodF x] := by
  have hlt := (List.getElem?_eq_some_iff.1 hx).1
  unfold rowsGG
  rw [rowsG_succ hx hi, List.set_append_left _ _ (by rw [rowsG_len, List.length_take]; omega)]
theorem rowsGG_here {ns : List Nod} {i j : Nat} {nI nJ : Nod} {a ca b cb : Nat} (hx : ns[j]? = some nJ) (hi : i < j) : rowsGG (ns.take (j + 1)) i nI a ca j nJ b cb = rowsG (ns.take j) i nI a ca ++ [nodB nJ b cb] := by
  have hlt := (List.getElem?_eq_some_iff.1 hx).1
  unfold rowsGG
  have hl : (rowsG (ns.take j) i nI a ca).length = j := by rw [rowsG_len, List.length_take]; omega
  rw [rowsG_succ hx hi, List.set_append_right _ _ (by omega), hl, Nat.sub_self]
  rfl
section
variable {F : AV → AV} (hany : F .any = .any) (hv : ∀ x, F (.v x) = .v x) (hs : ∀ sz rows, F (.sl sz rows none) = .sl sz rows none)
include hany hv hs
theorem map_NGG (ns : List Nod) (i : Nat) (nI : Nod) {a a' : Nat} (ca j : Nat) (nJ : Nod) {b b' : Nat} (cb cap1 : Nat) (ha : F (.bs a 0 2 nI.entries.length ca) = .bs a' 0 2 nI.entries.length ca) (hb : F (.bs b 0 2 nJ.entries.length cb) = .bs b' 0 2 nJ.entries.length cb) : (NGG ns i nI a ca j nJ b cb cap1).map F = NGG ns i nI a' ca j nJ b' cb cap1 := by
  unfold NGG rowsGG rowsG
  rw [rowsB_map F hany, List.map_set, List.map_set]
  congr 1
  have e1 : ((ns.map nodF).map fun r => r.map F) = ns.map nodF := by
    rw [List.map_map]
    apply List.map_congr_left
    intro n _
    exact map_nodF hv hs n
  rw [e1]
  congr 1
  · congr 1
    simp [nodB, nodX, hv, ha]
  simp [nodB, nodX, hv, hb]
end
theorem ren_NGG {g : Nat → Option Nat} {a a' b b' : Nat} (ha : g a = some a') (hb : g b = some b') (ns : List Nod) (i : Nat) (nI : Nod) (ca j : Nat) (nJ : Nod) (cb cap1 : Nat) : renL g (NGG ns i nI a ca j nJ b cb cap1) = NGG ns i nI a' ca j nJ b' cb cap1 := by
  rw [renL_map]
  exact map_NGG rfl (fun _ => rfl) (fun _ _ => rfl) ns i nI ca j nJ cb cap1 (by simp [ren, ha]) (by simp [ren, hb])
theorem renK_NGG {g : Nat → Option Nat} {a a' b b' : Nat} (ha : g a = some a') (hb : g b = some b') (ns : List Nod) (i : Nat) (nI : Nod) (ca j : Nat) (nJ : Nod) (cb cap1 : Nat) : renKL g (NGG ns i nI a ca j nJ b cb cap1) = NGG ns i nI a' ca j nJ b' cb cap1 := by
  rw [renKL_map]
  exact map_NGG rfl (fun _ => rfl) (fun _ _ => rfl) ns i nI ca j nJ cb cap1 (by simp [renK, ha]) (by simp [renK, hb])
theorem back_devGG {bx : List (List AV)} {n : Nat} (hn : bx.length = n) (d : Dvc) (m : Nat) (ns : List Nod) (i : Nat) (nI : Nod) (ca j : Nat) (nJ : Nod) (cb cap : Nat) (es : List Ent) (c2 : Nat) (es' : List Ent) (c3 : Nat) : Back bx [] [devR d 2 m, devR d 2 m, NGG ns i nI 3 ca j nJ 4 cb cap, EB es c2, EB es' c3] (bx ++ [devR d (n + 2) m, devR d (n + 2) m, NGG ns i nI (n + 3) ca j nJ (n + 4) cb cap, EB es c2, EB es' c3]) := by
  subst hn
  have := back_F (bx := bx) (is := []) (bc := [devR d 2 m, devR d 2 m, NGG ns i nI 3 ca j nJ 4 cb cap, EB es c2, EB es' c3]) List.nodup_nil (by simp) (by simp)
  have e1 : renL (backS [] bx.length) (devR d 2 m) = devR d (bx.length + 2) m := by simp [devR, renL, ren, backS]
  have e2 : renL (backS [] bx.length) (NGG ns i nI 3 ca j nJ 4 cb cap) = NGG ns i nI (bx.length + 3) ca j nJ (bx.length + 4) cb cap := ren_NGG (by simp [backS]) (by simp [backS]) _ _ _ _ _ _ _ _
  simpa [backF, ren_EB, e1, e2] using this
theorem back_devsGG {bx : List (List AV)} {n : Nat} (hn : bx.length = n) (f : Fls) (K : Nat) (d : Dvc) (cap cap1 : Nat) (ns : List Nod) (i : Nat) (nI : Nod) (ca j : Nat) (nJ : Nod) (cb cap2 : Nat) (es : List Ent) (c2 : Nat) (es' : List Ent) (c3 : Nat) : Back bx [] [DB f K d 1 cap cap1, NGG ns i nI 2 ca j nJ 3 cb cap2, EB es c2, EB es' c3] (bx ++ [DB f K d (n + 1) cap cap1, NGG ns i nI (n + 2) ca j nJ (n + 3) cb cap2, EB es c2, EB es' c3]) := by
  subst hn
  have := back_F (bx := bx) (is := []) (bc := [DB f K d 1 cap cap1, NGG ns i nI 2 ca j nJ 3 cb cap2, EB es c2, EB es' c3]) List.nodup_nil (by simp) (by simp)
  have e1 : renL (backS [] bx.length) (DB f K d 1 cap cap1) = DB f K d (bx.length + 1) cap cap1 := ren_DB (by simp [backS]) _ _ _ _ _
  have e2 : renL (backS [] bx.length) (NGG ns i nI 2 ca j nJ 3 cb cap2) = NGG ns i nI (bx.length + 2) ca j nJ (bx.length + 3) cb cap2 := ren_NGG (by simp [backS]) (by simp [backS]) _ _ _ _ _ _ _ _
  simpa [backF, ren_EB, e1, e2] using this
section
set_option maxRecDepth 10000
set_option maxHeartbeats 1000000
theorem PcopiedNGG (ns : List Nod) (i : Nat) (nI : Nod) (j : Nat) (nJ : Nod) (hij : i < j) (hi : ns[i]? = some nI) (hj : ns[j]? = some nJ) (hE : 0 < nI.entries.length) (hF : 0 < nJ.entries.length) (hns : ns.length ≤ 1000) (hen : ∀ n ∈ ns, n.entries.length ≤ 1000) : ACall Try.prog 108 [.sl 8 (ns.map nodA) none, .fn 75 []] [] (fun r b t => t = [] ∧ r = .bs 0 0 8 ns.length ns.length ∧ b = [NGG ns i nI 1 nI.entries.length j nJ 2 nJ.entries.length ns.length, EB nI.entries nI.entries.length, EB nJ.entries nJ.entries.length]) := by
  have hml : (ns.map nodA).length = ns.length := by simp
  have hil := (List.getElem?_eq_some_iff.1 hi).1
  have hjl := (List.getElem?_eq_some_iff.1 hj).1
  have hEn := hen nI (List.mem_of_getElem? hi)
  have hFn := hen nJ (List.mem_of_getElem? hj)
  refine enter Try.func108 rfl rfl rfl rfl rfl 3 rfl ?_
  refine w_ (a_ (h:=e_ (q_ (w_ (m_ (h:=n_ (h:=eq_ (h:=e_ (?_)))))))))
  refine aw_cond rfl (fun hb1 => ?_) (fun hb1 => ?_)
  · have hc1 := bp hb1
    exfalso; first | contradiction | omega
  have hc1 := bp hb1
  refine kt_ (w_ (m_ (h:=n_ (h:=?_))))
  refine al_p rfl (st_makeB (l := 0) (m := ns.length) (k := 0) rfl rfl rfl (by simp) (Nat.zero_le _) (by omega) (by omega) (by repeat constructor) ?_)
  refine a_ (h:=e_ (q_ (w_ (m_ (h:=n_ (h:=m_ (h:=e_ (aw_block (?_)))))))))
  refine aw_loopW (fun m s => ∃ k : Nat, k ≤ ns.length ∧ m = ns.length - k ∧ ((k ≤ i ∧ s = ⟨look [(1, .fn 75 []), (5, .bs 0 0 8 k ns.length), (14, .sl 8 (ns.map nodA) none), (15, .v (.int .i64 ((ns.map nodA).length : Int))), (16, .v (.int .i64 (k : Int)))], ⟨[NF (ns.take k) ns.length], []⟩⟩) ∨ (i < k ∧ k ≤ j ∧ s = ⟨look [(1, .fn 75 []), (5, .bs 0 0 8 k ns.length), (14, .sl 8 (ns.map nodA) none), (15, .v (.int .i64 ((ns.map nodA).length : Int))), (16, .v (.int .i64 (k : Int)))], ⟨[NG (ns.take k) i nI 1 nI.entries.length ns.length, EB nI.entries nI.entries.length], []⟩⟩) ∨ (j < k ∧ s = ⟨look [(1, .fn 75 []), (5, .bs 0 0 8 k ns.length), (14, .sl 8 (ns.map nodA) none), (15, .v (.int .i64 ((ns.map nodA).length : Int))), (16, .v (.int .i64 (k : Int)))], ⟨[NGG (ns.take k) i nI 1 nI.entries.length j nJ 2 nJ.entries.length ns.length, EB nI.entries nI.entries.length, EB nJ.entries nJ.entries.length], []⟩⟩))) (ns.length) (weak_of 1 0 rfl rfl rfl (by show (bpLtL 1 0 (NF [] ns.length) && true) = true; rw [bp_NF]; rfl) (by repeat (first | exact Sub.nil | refine Sub.cons _ _ _ rfl rfl ?_ | refine Sub.any _ _ ?_ | refine Sub.sl _ _ _ _ _ rfl ?_ | refine Sub.slnil _ _ _ rfl ?_))) (⟨0, by omega, rfl, .inl ⟨by omega, rfl⟩⟩) ?_
  rintro m s ⟨k, hk, rfl, ⟨hki, rfl⟩ | ⟨hki, hkj, rfl⟩ | ⟨hkj, rfl⟩⟩
  rcases Nat.lt_or_eq_of_le hki with hki | rfl
  rotate_left 2
  rcases Nat.lt_or_eq_of_le hkj with hkj | rfl
  rotate_right 2
  · skip
    refine w_ (lt_ (h:=e_ (q_ (?_))))
    refine aw_cond rfl (fun hb2 => ?_) (fun hb2 => ?_)
    · have hc2 := bp hb2
      obtain ⟨hlt, x, hy, hrow, -⟩ := row_at nodA hc2
      have hxe := hen x (List.mem_of_getElem? hy)
      have e : (ns.take (k + 1)).map nodF = (ns.take k).map nodF ++ [nodF x] := by
        obtain ⟨hl, e0⟩ := List.getElem?_eq_some_iff.1 hy
        rw [List.take_succ_eq_append_getElem hl, e0, List.map_append]; rfl
      have hlk : ((ns.take k).map nodF).length = k := by simp; omega
      refine kt_ (q_ (aw_block (w_ (i_ (h:=l_ (h:=al_ (h:=s_ (h:=e_ (aw_region (m_ (h:=m_ (h:=l_ (h:=?_)))))))))))))
      refine al_p rfl (st_callC (cy := []) (ys := [.agg (nodA x)]) rfl (by repeat (first | exact Args.nil | refine Args.cons _ _ _ _ _ rfl (argOk_clean rfl) ?_ | refine Args.cons _ _ _ _ _ rfl (argOk_nil _) ?_ | refine Args.cons _ _ _ _ _ rfl (argOk_era _) ?_ | refine Args.cons _ _ _ _ _ rfl (argOk_le rfl (by repeat (first | exact LeA.refl _ | exact LeA.nil _ | exact LeL.refl _ | refine LeA.agg ?_ | refine LeA.tup ?_ | exact LeL.nil | refine LeL.cons ?_ ?_ | exact LeA.any _))) ?_)) rfl rfl (PcopyNodeX x hxe) ?_)
      intro r hr
      rcases entX_or x.entries with he | he
      · have e9 : nodF x = nodX x (.v (.slice none 0 0)) := by unfold nodF; rw [he]
        rw [e9] at hr
        subst hr
        refine bs_ (h:=?_)
        refine al_p rfl (st_appendB rfl rfl rfl (by rw [NF, rowsB_len (nodF_eight _) (by simp; omega)]; omega) (SrcA.sl _ _) (by simp) (by simp; omega) ?_ (fun h => absurd h (by simp; omega)))
        intro _ row2 bx2 hs1 hs2
        obtain rfl : row2 = NF (ns.take (k + 1)) ns.length := by
          unfold NF
          rw [e, e9]
          exact rowsB_push (nodF_eight _) rfl (by decide) (by rw [hlk]; omega) (by rw [hlk]; exact hs1)
        obtain rfl := (SetAt.one hs2).2
        refine a_ (h:=al_nil (x_blockN (t_ (aw_region (ad_ (h:=m_ (h:=al_nil (?_))))))))
        refine x_then ?_
        refine ⟨_, _, ?_, ⟨k + 1, by omega, rfl, .inl ⟨by omega, rfl⟩⟩, weak_of 1 0 rfl rfl rfl (by simp [bpLtB, bp_NF]) (by repeat (first | exact Sub.nil | refine Sub.cons _ _ _ rfl rfl ?_ | refine Sub.any _ _ ?_ | refine Sub.sl _ _ _ _ _ rfl ?_ | refine Sub.slnil _ _ _ rfl ?_))⟩
        omega
      have e9 : nodF x = nodX x (.sl 2 (x.entries.map entA) none) := by unfold nodF; rw [he]
      rw [e9] at hr
      subst hr
      refine bs_ (h:=?_)
      refine al_p rfl (st_appendB rfl rfl rfl (by rw [NF, rowsB_len (nodF_eight _) (by simp; omega)]; omega) (SrcA.sl _ _) (by simp) (by simp; omega) ?_ (fun h => absurd h (by simp; omega)))
      intro _ row2 bx2 hs1 hs2
      obtain rfl : row2 = NF (ns.take (k + 1)) ns.length := by
        unfold NF
        rw [e, e9]
        exact rowsB_push (nodF_eight _) rfl (by decide) (by rw [hlk]; omega) (by rw [hlk]; exact hs1)
      obtain rfl := (SetAt.one hs2).2
      refine a_ (h:=al_nil (x_blockN (t_ (aw_region (ad_ (h:=m_ (h:=al_nil (?_))))))))
      refine x_then ?_
      refine ⟨_, _, ?_, ⟨k + 1, by omega, rfl, .inl ⟨by omega, rfl⟩⟩, weak_of 1 0 rfl rfl rfl (by simp [bpLtB, bp_NF]) (by repeat (first | exact Sub.nil | refine Sub.cons _ _ _ rfl rfl ?_ | refine Sub.any _ _ ?_ | refine Sub.sl _ _ _ _ _ rfl ?_ | refine Sub.slnil _ _ _ rfl ?_))⟩
      omega
    have hc2 := bp hb2
    exfalso; first | contradiction | omega
  · have hrow : (ns.map nodA)[k]? = some (nodA nI) := by rw [List.getElem?_map, hi]; rfl
    refine w_ (lt_ (h:=e_ (q_ (?_))))
    refine aw_cond rfl (fun hb3 => ?_) (fun hb3 => ?_)
    · have hc3 := bp hb3
      have hlk : ((ns.take k).map nodF).length = k := by simp; omega
      refine kt_ (q_ (aw_block (w_ (?_))))
      refine al_p rfl (st_index rfl rfl rfl hrow ?_)
      refine l_ (h:=al_ (h:=s_ (h:=e_ (aw_region (m_ (h:=m_ (h:=l_ (h:=?_))))))))
      refine al_p rfl (s_callMC [] rfl (.cons _ _ _ _ _ rfl (LeA.refl _) .nil) (by decide) .nil (PcopyNodeB nI hE hEn) ?_)
      rintro r bc tc ⟨rfl, rfl, rfl⟩
      refine ⟨rfl, _, (back_nodB (n := 2) rfl nI nI.entries.length : Back _ [] _ [_, _, _, _, _]), ?_⟩
      refine al_p rfl (st_slit1B rfl rfl rfl rfl (by repeat constructor) ?_)
      refine al_p rfl (st_appendB rfl rfl rfl (by rw [NF, rowsB_len (nodF_eight _) (by simp; omega)]; omega) (SrcA.bs 5 0 1 1 _ rfl (Nat.le_of_ble_eq_true rfl)) (by decide) (by omega) ?_ (fun h => absurd h (by omega)))
      intro _ row2 bx2 hs1 hs2
      obtain rfl : row2 = NG (ns.take (k + 1)) k nI 4 nI.entries.length ns.length := by
        unfold NG
        rw [rowsG_here hi]
        exact rowsB_push (nodF_eight _) rfl (by decide) (by rw [hlk]; omega) (by rw [hlk]; exact hs1)
      obtain rfl := (SetAt.one hs2).2
      refine a_ (h:=al_nil (x_blockN (t_ (aw_region (ad_ (h:=m_ (h:=al_nil (?_))))))))
      refine x_then ?_
      refine ⟨_, _, ?_, ⟨k + 1, by omega, rfl, .inr (.inl ⟨by omega, by omega, rfl⟩)⟩, weak_ren [0, 4] (fun i hi => absurd hi (Nat.not_lt_zero i)) (by decide) (.cons _ _ _ _ _ rfl (renK_NG (by rfl) _ _ _ _ _) (.cons _ _ _ _ _ rfl (renK_EB _ _ _) .nil)) (by repeat (first | exact SubK.nil | refine SubK.cons _ _ _ _ rfl (LeA.refl _) ?_))⟩
      omega
    have hc3 := bp hb3
    exfalso; first | contradiction | omega
  · skip
    refine w_ (lt_ (h:=e_ (q_ (?_))))
    refine aw_cond rfl (fun hb4 => ?_) (fun hb4 => ?_)
    · have hc4 := bp hb4
      obtain ⟨hlt, x, hy, hrow, -⟩ := row_at nodA hc4
      have hxe := hen x (List.mem_of_getElem? hy)
      have e := rowsG_succ (nI := nI) (j := 1) (cap := nI.entries.length) hy hki
      have hlk : (rowsG (ns.take k) i nI 1 nI.entries.length).length = k := by rw [rowsG_len]; simp; omega
      refine kt_ (q_ (aw_block (w_ (i_ (h:=l_ (h:=al_ (h:=s_ (h:=e_ (aw_region (m_ (h:=m_ (h:=l_ (h:=?_)))))))))))))
      refine al_p rfl (st_callC (cy := []) (ys := [.agg (nodA x)]) rfl (by repeat (first | exact Args.nil | refine Args.cons _ _ _ _ _ rfl (argOk_clean rfl) ?_ | refine Args.cons _ _ _ _ _ rfl (argOk_nil _) ?_ | refine Args.cons _ _ _ _ _ rfl (argOk_era _) ?_ | refine Args.cons _ _ _ _ _ rfl (argOk_le rfl (by repeat (first | exact LeA.refl _ | exact LeA.nil _ | exact LeL.refl _ | refine LeA.agg ?_ | refine LeA.tup ?_ | exact LeL.nil | refine LeL.cons ?_ ?_ | exact LeA.any _))) ?_)) rfl rfl (PcopyNodeX x hxe) ?_)
      intro r hr
      rcases entX_or x.entries with he | he
      · have e9 : nodF x = nodX x (.v (.slice none 0 0)) := by unfold nodF; rw [he]
        rw [e9] at hr
        subst hr
        refine bs_ (h:=?_)
        refine al_p rfl (st_appendB rfl rfl rfl (by rw [NG, rowsB_len (rowsG_eight _ _ _ _ _) (by rw [hlk]; omega)]; omega) (SrcA.sl _ _) (by simp) (by simp; omega) ?_ (fun h => absurd h (by simp; omega)))
        intro _ row2 bx2 hs1 hs2
        obtain rfl : row2 = NG (ns.take (k + 1)) i nI 1 nI.entries.length ns.length := by
          unfold NG
          rw [e, e9]
          exact rowsB_push (rowsG_eight _ _ _ _ _) rfl (by decide) (by rw [hlk]; omega) (by rw [hlk]; exact hs1)
        obtain rfl := (SetAt.one hs2).2
        refine a_ (h:=al_nil (x_blockN (t_ (aw_region (ad_ (h:=m_ (h:=al_nil (?_))))))))
        refine x_then ?_
        refine ⟨_, _, ?_, ⟨k + 1, by omega, rfl, .inr (.inl ⟨by omega, by omega, rfl⟩)⟩, weak_of 2 0 rfl rfl rfl (by simp [bpLtB, bp_NG, bp_EB]) (by repeat (first | exact Sub.nil | refine Sub.cons _ _ _ rfl rfl ?_ | refine Sub.any _ _ ?_ | refine Sub.sl _ _ _ _ _ rfl ?_ | refine Sub.slnil _ _ _ rfl ?_))⟩
        omega
      have e9 : nodF x = nodX x (.sl 2 (x.entries.map entA) none) := by unfold nodF; rw [he]
      rw [e9] at hr
      subst hr
      refine bs_ (h:=?_)
      refine al_p rfl (st_appendB rfl rfl rfl (by rw [NG, rowsB_len (rowsG_eight _ _ _ _ _) (by rw [hlk]; omega)]; omega) (SrcA.sl _ _) (by simp) (by simp; omega) ?_ (fun h => absurd h (by simp; omega)))
      intro _ row2 bx2 hs1 hs2
      obtain rfl : row2 = NG (ns.take (k + 1)) i nI 1 nI.entries.length ns.length := by
        unfold NG
        rw [e, e9]
        exact rowsB_push (rowsG_eight _ _ _ _ _) rfl (by decide) (by rw [hlk]; omega) (by rw [hlk]; exact hs1)
      obtain rfl := (SetAt.one hs2).2
      refine a_ (h:=al_nil (x_blockN (t_ (aw_region (ad_ (h:=m_ (h:=al_nil (?_))))))))
      refine x_then ?_
      refine ⟨_, _, ?_, ⟨k + 1, by omega, rfl, .inr (.inl ⟨by omega, by omega, rfl⟩)⟩, weak_of 2 0 rfl rfl rfl (by simp [bpLtB, bp_NG, bp_EB]) (by repeat (first | exact Sub.nil | refine Sub.cons _ _ _ rfl rfl ?_ | refine Sub.any _ _ ?_ | refine Sub.sl _ _ _ _ _ rfl ?_ | refine Sub.slnil _ _ _ rfl ?_))⟩
      omega
    have hc4 := bp hb4
    exfalso; first | contradiction | omega
  · have hrow : (ns.map nodA)[k]? = some (nodA nJ) := by rw [List.getElem?_map, hj]; rfl
    refine w_ (lt_ (h:=e_ (q_ (?_))))
    refine aw_cond rfl (fun hb5 => ?_) (fun hb5 => ?_)
    · have hc5 := bp hb5
      have hlk : (rowsG (ns.take k) i nI 1 nI.entries.length).length = k := by rw [rowsG_len]; simp; omega
      refine kt_ (q_ (aw_block (w_ (?_))))
      refine al_p rfl (st_index rfl rfl rfl hrow ?_)
      refine l_ (h:=al_ (h:=s_ (h:=e_ (aw_region (m_ (h:=m_ (h:=l_ (h:=?_))))))))
      refine al_p rfl (s_callMC [] rfl (.cons _ _ _ _ _ rfl (LeA.refl _) .nil) (by decide) .nil (PcopyNodeB nJ hF hFn) ?_)
      rintro r bc tc ⟨rfl, rfl, rfl⟩
      refine ⟨rfl, _, (back_nodB (n := 3) rfl nJ nJ.entries.length : Back _ [] _ [_, _, _, _, _, _]), ?_⟩
      refine al_p rfl (st_slit1B rfl rfl rfl rfl (by repeat constructor) ?_)
      refine al_p rfl (st_appendB rfl rfl rfl (by rw [NG, rowsB_len (rowsG_eight _ _ _ _ _) (by rw [hlk]; omega)]; omega) (SrcA.bs 6 0 1 1 _ rfl (Nat.le_of_ble_eq_true rfl)) (by decide) (by omega) ?_ (fun h => absurd h (by omega)))
      intro _ row2 bx2 hs1 hs2
      obtain rfl : row2 = NGG (ns.take (k + 1)) i nI 1 nI.entries.length k nJ 5 nJ.entries.length ns.length := by
        unfold NGG
        rw [rowsGG_here hj hki]
        exact rowsB_push (rowsG_eight _ _ _ _ _) rfl (by decide) (by rw [hlk]; omega) (by rw [hlk]; exact hs1)
      obtain rfl := (SetAt.one hs2).2
      refine a_ (h:=al_nil (x_blockN (t_ (aw_region (ad_ (h:=m_ (h:=al_nil (?_))))))))
      refine x_then ?_
      refine ⟨_, _, ?_, ⟨k + 1, by omega, rfl, .inr (.inr ⟨by omega, rfl⟩)⟩, weak_ren [0, 1, 5] (fun i hi => absurd hi (Nat.not_lt_zero i)) (by decide) (.cons _ _ _ _ _ rfl (renK_NGG (by rfl) (by rfl) _ _ _ _ _ _ _ _) (.cons _ _ _ _ _ rfl (renK_EB _ _ _) (.cons _ _ _ _ _ rfl (renK_EB _ _ _) .nil))) (by repeat (first | exact SubK.nil | refine SubK.cons _ _ _ _ rfl (LeA.refl _) ?_))⟩
      omega
    have hc5 := bp hb5
    exfalso; first | contradiction | omega
  skip
  refine w_ (lt_ (h:=e_ (q_ (?_))))
  refine aw_cond rfl (fun hb6 => ?_) (fun hb6 => ?_)
  · have hc6 := bp hb6
    obtain ⟨hlt, x, hy, hrow, -⟩ := row_at nodA hc6
    have hxe := hen x (List.mem_of_getElem? hy)
    have e := rowsGG_succ (i := i) (nI := nI) (a := 1) (ca := nI.entries.length) (nJ := nJ) (b := 2) (cb := nJ.entries.length) hy (by omega) hkj
    have hlk : (rowsGG (ns.take k) i nI 1 nI.entries.length j nJ 2 nJ.entries.length).length = k := by rw [rowsGG_len]; simp; omega
    refine kt_ (q_ (aw_block (w_ (i_ (h:=l_ (h:=al_ (h:=s_ (h:=e_ (aw_region (m_ (h:=m_ (h:=l_ (h:=?_)))))))))))))
    refine al_p rfl (st_callC (cy := []) (ys := [.agg (nodA x)]) rfl (by repeat (first | exact Args.nil | refine Args.cons _ _ _ _ _ rfl (argOk_clean rfl) ?_ | refine Args.cons _ _ _ _ _ rfl (argOk_nil _) ?_ | refine Args.cons _ _ _ _ _ rfl (argOk_era _) ?_ | refine Args.cons _ _ _ _ _ rfl (argOk_le rfl (by repeat (first | exact LeA.refl _ | exact LeA.nil _ | exact LeL.refl _ | refine LeA.agg ?_ | refine LeA.tup ?_ | exact LeL.nil | refine LeL.cons ?_ ?_ | exact LeA.any _))) ?_)) rfl rfl (PcopyNodeX x hxe) ?_)
    intro r hr
    rcases entX_or x.entries with he | he
    · have e9 : nodF x = nodX x (.v (.slice none 0 0)) := by unfold nodF; rw [he]
      rw [e9] at hr
      subst hr
      refine bs_ (h:=?_)
      refine al_p rfl (st_appendB rfl rfl rfl (by rw [NGG, rowsB_len (rowsGG_eight _ _ _ _ _ _ _ _ _) (by rw [hlk]; omega)]; omega) (SrcA.sl _ _) (by simp) (by simp; omega) ?_ (fun h => absurd h (by simp; omega)))
      intro _ row2 bx2 hs1 hs2
      obtain rfl : row2 = NGG (ns.take (k + 1)) i nI 1 nI.entries.length j nJ 2 nJ.entries.length ns.length := by
        unfold NGG
        rw [e, e9]
        exact rowsB_push (rowsGG_eight _ _ _ _ _ _ _ _ _) rfl (by decide) (by rw [hlk]; omega) (by rw [hlk]; exact hs1)
      obtain rfl := (SetAt.one hs2).2
      refine a_ (h:=al_nil (x_blockN (t_ (aw_region (ad_ (h:=m_ (h:=al_nil (?_))))))))
      refine x_then ?_
      refine ⟨_, _, ?_, ⟨k + 1, by omega, rfl, .inr (.inr ⟨by omega, rfl⟩)⟩, weak_of 3 0 rfl rfl rfl (by simp [bpLtB, bp_NGG, bp_EB]) (by repeat (first | exact Sub.nil | refine Sub.cons _ _ _ rfl rfl ?_ | refine Sub.any _ _ ?_ | refine Sub.sl _ _ _ _ _ rfl ?_ | refine Sub.slnil _ _ _ rfl ?_))⟩
      omega
    have e9 : nodF x = nodX x (.sl 2 (x.entries.map entA) none) := by unfold nodF; rw [he]
    rw [e9] at hr
    subst hr
    refine bs_ (h:=?_)
    refine al_p rfl (st_appendB rfl rfl rfl (by rw [NGG, rowsB_len (rowsGG_eight _ _ _ _ _ _ _ _ _) (by rw [hlk]; omega)]; omega) (SrcA.sl _ _) (by simp) (by simp; omega) ?_ (fun h => absurd h (by simp; omega)))
    intro _ row2 bx2 hs1 hs2
    obtain rfl : row2 = NGG (ns.take (k + 1)) i nI 1 nI.entries.length j nJ 2 nJ.entries.length ns.length := by
      unfold NGG
      rw [e, e9]
      exact rowsB_push (rowsGG_eight _ _ _ _ _ _ _ _ _) rfl (by decide) (by rw [hlk]; omega) (by rw [hlk]; exact hs1)
    obtain rfl := (SetAt.one hs2).2
    refine a_ (h:=al_nil (x_blockN (t_ (aw_region (ad_ (h:=m_ (h:=al_nil (?_))))))))
    refine x_then ?_
    refine ⟨_, _, ?_, ⟨k + 1, by omega, rfl, .inr (.inr ⟨by omega, rfl⟩)⟩, weak_of 3 0 rfl rfl rfl (by simp [bpLtB, bp_NGG, bp_EB]) (by repeat (first | exact Sub.nil | refine Sub.cons _ _ _ rfl rfl ?_ | refine Sub.any _ _ ?_ | refine Sub.sl _ _ _ _ _ rfl ?_ | refine Sub.slnil _ _ _ rfl ?_))⟩
    omega
  have hc6 := bp hb6
  have e := row_no nodA hk hc6
  subst e
  rw [List.take_length]
  refine aw_exit (x_thenE (x_thenE (ABlock_out (t_ (w_ (m_ (h:=a_ (h:=e_ (aw_ret (?_))))))))))
  refine abody_ret (r := .bs 0 0 8 ns.length ns.length) none (by repeat (first | exact ResA.nil | (apply ResA.tmp; (focus exact rfl)) | (apply ResA.cellN; (focus exact inferInstance); (focus exact rfl); (focus exact rfl); (focus exact rfl)) | (apply ResA.cell1; (focus exact inferInstance); (focus exact rfl); (focus exact rfl); (focus exact rfl)))) rfl rfl (by simp [bpLtB, bp_NGG, bp_EB]) (LeA.refl _) ⟨rfl, rfl, rfl⟩

theorem PcopyDevGG (d : Dvc) (i : Nat) (nI : Nod) (j : Nat) (nJ : Nod) (hij : i < j) (hi : d.nodes[i]? = some nI) (hj : d.nodes[j]? = some nJ) (hE : 0 < nI.entries.length) (hF : 0 < nJ.entries.length) (hns : d.nodes.length ≤ 1000) (hen : ∀ n ∈ d.nodes, n.entries.length ≤ 1000) : ACall Try.prog 92 [.agg (dvcA d)] [] (fun r b t => t = [] ∧ r = .agg (devR d 2 d.nodes.length) ∧ b = [devR d 2 d.nodes.length, devR d 2 d.nodes.length, NGG d.nodes i nI 3 nI.entries.length j nJ 4 nJ.entries.length d.nodes.length, EB nI.entries nI.entries.length, EB nJ.entries nJ.entries.length]) := by
  have hbk : ∀ bx : List (List AV), Back bx [] [NGG d.nodes i nI 1 nI.entries.length j nJ 2 nJ.entries.length d.nodes.length, EB nI.entries nI.entries.length, EB nJ.entries nJ.entries.length] (bx ++ [NGG d.nodes i nI (bx.length + 1) nI.entries.length j nJ (bx.length + 2) nJ.entries.length d.nodes.length, EB nI.entries nI.entries.length, EB nJ.entries nJ.entries.length]) := fun bx => by
    have := back_F (bx := bx) (is := []) (bc := [NGG d.nodes i nI 1 nI.entries.length j nJ 2 nJ.entries.length d.nodes.length, EB nI.entries nI.entries.length, EB nJ.entries nJ.entries.length]) List.nodup_nil (by simp) (by simp)
    have e2 : renL (backS [] bx.length) (NGG d.nodes i nI 1 nI.entries.length j nJ 2 nJ.entries.length d.nodes.length) = NGG d.nodes i nI (bx.length + 1) nI.entries.length j nJ (bx.length + 2) nJ.entries.length d.nodes.length := ren_NGG (by simp [backS]) (by simp [backS]) _ _ _ _ _ _ _ _
    simpa [backF, ren_EB, e2] using this
  refine enter Try.func92 rfl rfl rfl rfl rfl 5 rfl ?_
  refine w_ (b_ (h:=al_ (h:=e_ (w_ (f_ (h:=l_ (h:=?_)))))))
  refine al_p rfl (s_callM [] rfl (.cons _ _ _ _ _ rfl (LeA.refl _) (.cons _ _ _ _ _ rfl (LeA.refl _) .nil)) (by decide) .nil (PcopiedNGG d.nodes i nI j nJ hij hi hj hE hF hns hen) ?_)
  rintro r bc tc ⟨rfl, rfl, rfl⟩
  refine ⟨rfl, _, (hbk _ : Back _ [] _ [_, _, _, _, _]), ?_⟩
  refine f_ (h:=s_ (h:=e_ (w_ (l_ (h:=s_ (h:=e_ (aw_ret (?_))))))))
  refine abody_ret none (by repeat (first | exact ResA.nil | (apply ResA.tmp; (focus exact rfl)) | (apply ResA.cellN; (focus exact inferInstance); (focus exact rfl); (focus exact rfl); (focus exact rfl)) | (apply ResA.cell1; (focus exact inferInstance); (focus exact rfl); (focus exact rfl); (focus exact rfl)))) rfl rfl (by simp [bpLtB, bpLtL, bpLt, dvcA, devR, bp_NGG, bp_EB, ren, backS]) (LeA.refl _) ⟨rfl, rfl, rfl⟩

theorem PcopiedDGG (f : Fls) (K : Nat) (dK : Dvc) (i : Nat) (nI : Nod) (j : Nat) (nJ : Nod) (hf : FlsB f) (hK : f[K]? = some dK) (hij : i < j) (hi : dK.nodes[i]? = some nI) (hj : dK.nodes[j]? = some nJ) (hE : 0 < nI.entries.length) (hF : 0 < nJ.entries.length) : ACall Try.prog 91 [.sl 2 (f.map dvcA) none, .fn 92 []] [] (fun r b t => t = [] ∧ r = .bs 0 0 2 f.length f.length ∧ b = [DB f K dK 1 f.length dK.nodes.length, NGG dK.nodes i nI 2 nI.entries.length j nJ 3 nJ.entries.length dK.nodes.length, EB nI.entries nI.entries.length, EB nJ.entries nJ.entries.length]) := by
  have hml : (f.map dvcA).length = f.length := by simp
  have hKl := (List.getElem?_eq_some_iff.1 hK).1
  have hfew := hf.few
  have h0 : 0 < dK.nodes.length := Nat.lt_of_le_of_lt (Nat.zero_le _) (List.getElem?_eq_some_iff.1 hi).1
  refine enter Try.func91 rfl rfl rfl rfl rfl 4 rfl ?_
  refine w_ (a_ (h:=e_ (q_ (w_ (m_ (h:=n_ (h:=eq_ (h:=e_ (?_)))))))))
  refine aw_cond rfl (fun hb1 => ?_) (fun hb1 => ?_)
  · have hc1 := bp hb1
    exfalso; first | contradiction | omega
  have hc1 := bp hb1
  refine kt_ (w_ (m_ (h:=n_ (h:=?_))))
  refine al_p rfl (st_makeB (l := 0) (m := f.length) (k := 0) rfl rfl rfl (by simp) (Nat.zero_le _) (by omega) (by omega) (by repeat constructor) ?_)
  refine a_ (h:=e_ (q_ (w_ (m_ (h:=n_ (h:=m_ (h:=e_ (aw_block (?_)))))))))
  refine aw_loopW (fun m s => ∃ k : Nat, k ≤ f.length ∧ m = f.length - k ∧ ((k ≤ K ∧ s = ⟨look [(1, .fn 92 []), (5, .bs 0 0 2 k f.length), (14, .sl 2 (f.map dvcA) none), (15, .v (.int .i64 ((f.map dvcA).length : Int))), (16, .v (.int .i64 (k : Int)))], ⟨[FB (f.take k) f.length], []⟩⟩) ∨ (K < k ∧ s = ⟨look [(1, .fn 92 []), (5, .bs 0 0 2 k f.length), (14, .sl 2 (f.map dvcA) none), (15, .v (.int .i64 ((f.map dvcA).length : Int))), (16, .v (.int .i64 (k : Int)))], ⟨[DB (f.take k) K dK 1 f.length dK.nodes.length, NGG dK.nodes i nI 2 nI.entries.length j nJ 3 nJ.entries.length dK.nodes.length, EB nI.entries nI.entries.length, EB nJ.entries nJ.entries.length], []⟩⟩))) (f.length) (weak_of 1 0 rfl rfl rfl (by show (bpLtL 1 0 (FB [] f.length) && true) = true; rw [bp_FB]; rfl) (by repeat (first | exact Sub.nil | refine Sub.cons _ _ _ rfl rfl ?_ | refine Sub.any _ _ ?_ | refine Sub.sl _ _ _ _ _ rfl ?_ | refine Sub.slnil _ _ _ rfl ?_))) (⟨0, by omega, rfl, .inl ⟨by omega, rfl⟩⟩) ?_
  rintro m s ⟨k, hk, rfl, ⟨hki, rfl⟩ | ⟨hki, rfl⟩⟩
  rcases Nat.lt_or_eq_of_le hki with hki | rfl
  · skip
    refine w_ (lt_ (h:=e_ (q_ (?_))))
    refine aw_cond rfl (fun hb2 => ?_) (fun hb2 => ?_)
    · have hc2 := bp hb2
      obtain ⟨hlt, x, hy, hrow, -⟩ := row_at dvcA hc2
      have hxd := List.mem_of_getElem? hy
      have e : (f.take (k + 1)).map dvcA = (f.take k).map dvcA ++ [dvcA x] := by
        obtain ⟨hl, e0⟩ := List.getElem?_eq_some_iff.1 hy
        rw [List.take_succ_eq_append_getElem hl, e0, List.map_append]; rfl
      have hlk : ((f.take k).map dvcA).length = k := by simp; omega
      refine kt_ (q_ (aw_block (w_ (i_ (h:=l_ (h:=al_ (h:=s_ (h:=e_ (aw_region (m_ (h:=m_ (h:=l_ (h:=?_)))))))))))))
      refine al_p rfl (st_callC (cy := []) (ys := [.agg (dvcA x)]) rfl (by repeat (first | exact Args.nil | refine Args.cons _ _ _ _ _ rfl (argOk_clean rfl) ?_ | refine Args.cons _ _ _ _ _ rfl (argOk_nil _) ?_ | refine Args.cons _ _ _ _ _ rfl (argOk_era _) ?_ | refine Args.cons _ _ _ _ _ rfl (argOk_le rfl (by repeat (first | exact LeA.refl _ | exact LeA.nil _ | exact LeL.refl _ | refine LeA.agg ?_ | refine LeA.tup ?_ | exact LeL.nil | refine LeL.cons ?_ ?_ | exact LeA.any _))) ?_)) rfl rfl (PcopyDevA x (hf.nodes x hxd) (hf.ents x hxd)) ?_)
      rintro r rfl
      refine bs_ (h:=?_)
      refine al_p rfl (st_appendB rfl rfl rfl (by rw [FB, rowsB_len (dvcs_two _) (by simp; omega)]; omega) (SrcA.sl _ _) (by simp) (by simp; omega) ?_ (fun h => absurd h (by simp; omega)))
      intro _ row2 bx2 hs1 hs2
      obtain rfl : row2 = FB (f.take (k + 1)) f.length := by
        unfold FB
        rw [e]
        exact rowsB_push (dvcs_two _) rfl (by decide) (by rw [hlk]; omega) (by rw [hlk]; exact hs1)
      obtain rfl := (SetAt.one hs2).2
      refine a_ (h:=al_nil (x_blockN (t_ (aw_region (ad_ (h:=m_ (h:=al_nil (?_))))))))
      refine x_then ?_
      refine ⟨_, _, ?_, ⟨k + 1, by omega, rfl, .inl ⟨by omega, rfl⟩⟩, weak_of 1 0 rfl rfl rfl (by simp [bpLtB, bp_FB]) (by repeat (first | exact Sub.nil | refine Sub.cons _ _ _ rfl rfl ?_ | refine Sub.any _ _ ?_ | refine Sub.sl _ _ _ _ _ rfl ?_ | refine Sub.slnil _ _ _ rfl ?_))⟩
      omega
    have hc2 := bp hb2
    exfalso; first | contradiction | omega
  · have hrow : (f.map dvcA)[k]? = some (dvcA dK) := by rw [List.getElem?_map, hK]; rfl
    refine w_ (lt_ (h:=e_ (q_ (?_))))
    refine aw_cond rfl (fun hb3 => ?_) (fun hb3 => ?_)
    · have hc3 := bp hb3
      have hlk : ((f.take k).map dvcA).length = k := by simp; omega
      refine kt_ (q_ (aw_block (w_ (?_))))
      refine al_p rfl (st_index rfl rfl rfl hrow ?_)
      refine l_ (h:=al_ (h:=s_ (h:=e_ (aw_region (m_ (h:=m_ (h:=l_ (h:=?_))))))))
      refine al_p rfl (s_callMC [] rfl (.cons _ _ _ _ _ rfl (LeA.refl _) .nil) (by decide) .nil (PcopyDevGG dK i nI j nJ hij hi hj hE hF (hf.nodes dK (List.mem_of_getElem? hK)) (hf.ents dK (List.mem_of_getElem? hK))) ?_)
      rintro r bc tc ⟨rfl, rfl, rfl⟩
      refine ⟨rfl, _, (back_devGG (n := 2) rfl dK dK.nodes.length dK.nodes i nI nI.entries.length j nJ nJ.entries.length dK.nodes.length nI.entries nI.entries.length nJ.entries nJ.entries.length : Back _ [] _ [_, _, _, _, _, _, _]), ?_⟩
      refine al_p rfl (st_slit1B rfl rfl rfl rfl (by repeat constructor) ?_)
      refine al_p rfl (st_appendB rfl rfl rfl (by rw [FB, rowsB_len (dvcs_two _) (by simp; omega)]; omega) (SrcA.bs 7 0 1 1 _ rfl (Nat.le_of_ble_eq_true rfl)) (by decide) (by omega) ?_ (fun h => absurd h (by omega)))
      intro _ row2 bx2 hs1 hs2
      obtain rfl : row2 = DB (f.take (k + 1)) k dK 4 f.length dK.nodes.length := by
        unfold DB
        rw [devB_here hK]
        exact rowsB_push (dvcs_two _) rfl (by decide) (by rw [hlk]; omega) (by rw [hlk]; exact hs1)
      obtain rfl := (SetAt.one hs2).2
      refine a_ (h:=al_nil (x_blockN (t_ (aw_region (ad_ (h:=m_ (h:=al_nil (?_))))))))
      refine x_then ?_
      refine ⟨_, _, ?_, ⟨k + 1, by omega, rfl, .inr ⟨by omega, rfl⟩⟩, weak_ren [0, 4, 5, 6] (fun i hi => absurd hi (Nat.not_lt_zero i)) (by decide) (.cons _ _ _ _ _ rfl (renK_DB (by rfl) _ _ _ _ _) (.cons _ _ _ _ _ rfl (renK_NGG (by rfl) (by rfl) _ _ _ _ _ _ _ _) (.cons _ _ _ _ _ rfl (renK_EB _ _ _) (.cons _ _ _ _ _ rfl (renK_EB _ _ _) .nil)))) (by repeat (first | exact SubK.nil | refine SubK.cons _ _ _ _ rfl (LeA.refl _) ?_))⟩
      omega
    have hc3 := bp hb3
    exfalso; first | contradiction | omega
  skip
  refine w_ (lt_ (h:=e_ (q_ (?_))))
  refine aw_cond rfl (fun hb4 => ?_) (fun hb4 => ?_)
  · have hc4 := bp hb4
    obtain ⟨hlt, x, hy, hrow, -⟩ := row_at dvcA hc4
    have hxd := List.mem_of_getElem? hy
    have e := devB_succ (dK := dK) (j := 1) (cap := dK.nodes.length) hy hki
    have hlk : (devB (f.take k) K dK 1 dK.nodes.length).length = k := by rw [devB_len]; simp; omega
    refine kt_ (q_ (aw_block (w_ (i_ (h:=l_ (h:=al_ (h:=s_ (h:=e_ (aw_region (m_ (h:=m_ (h:=l_ (h:=?_)))))))))))))
    refine al_p rfl (st_callC (cy := []) (ys := [.agg (dvcA x)]) rfl (by repeat (first | exact Args.nil | refine Args.cons _ _ _ _ _ rfl (argOk_clean rfl) ?_ | refine Args.cons _ _ _ _ _ rfl (argOk_nil _) ?_ | refine Args.cons _ _ _ _ _ rfl (argOk_era _) ?_ | refine Args.cons _ _ _ _ _ rfl (argOk_le rfl (by repeat (first | exact LeA.refl _ | exact LeA.nil _ | exact LeL.refl _ | refine LeA.agg ?_ | refine LeA.tup ?_ | exact LeL.nil | refine LeL.cons ?_ ?_ | exact LeA.any _))) ?_)) rfl rfl (PcopyDevA x (hf.nodes x hxd) (hf.ents x hxd)) ?_)
    rintro r rfl
    refine bs_ (h:=?_)
    refine al_p rfl (st_appendB rfl rfl rfl (by rw [DB, rowsB_len (devB_two _ _ _ _ _) (by rw [hlk]; omega)]; omega) (SrcA.sl _ _) (by simp) (by simp; omega) ?_ (fun h => absurd h (by simp; omega)))
    intro _ row2 bx2 hs1 hs2
    obtain rfl : row2 = DB (f.take (k + 1)) K dK 1 f.length dK.nodes.length := by
      unfold DB
      rw [e]
      exact rowsB_push (devB_two _ _ _ _ _) rfl (by decide) (by rw [hlk]; omega) (by rw [hlk]; exact hs1)
    obtain rfl := (SetAt.one hs2).2
    refine a_ (h:=al_nil (x_blockN (t_ (aw_region (ad_ (h:=m_ (h:=al_nil (?_))))))))
    refine x_then ?_
    refine ⟨_, _, ?_, ⟨k + 1, by omega, rfl, .inr ⟨by omega, rfl⟩⟩, weak_of 4 0 rfl rfl rfl (by simp [bpLtB, bp_DB, bp_NGG, bp_EB]) (by repeat (first | exact Sub.nil | refine Sub.cons _ _ _ rfl rfl ?_ | refine Sub.any _ _ ?_ | refine Sub.sl _ _ _ _ _ rfl ?_ | refine Sub.slnil _ _ _ rfl ?_))⟩
    omega
  have hc4 := bp hb4
  have e := row_no dvcA hk hc4
  subst e
  rw [List.take_length]
  refine aw_exit (x_thenE (x_thenE (ABlock_out (t_ (w_ (m_ (h:=a_ (h:=e_ (aw_ret (?_))))))))))
  refine abody_ret (r := .bs 0 0 2 f.length f.length) none (by repeat (first | exact ResA.nil | (apply ResA.tmp; (focus exact rfl)) | (apply ResA.cellN; (focus exact inferInstance); (focus exact rfl); (focus exact rfl); (focus exact rfl)) | (apply ResA.cell1; (focus exact inferInstance); (focus exact rfl); (focus exact rfl); (focus exact rfl)))) rfl rfl (by simp [bpLtB, bp_DB, bp_NGG, bp_EB]) (LeA.refl _) ⟨rfl, rfl, rfl⟩

theorem PcopyFilesGG (f : Fls) (K : Nat) (dK : Dvc) (i : Nat) (nI : Nod) (j : Nat) (nJ : Nod) (hf : FlsB f) (hK : f[K]? = some dK) (hij : i < j) (hi : dK.nodes[i]? = some nI) (hj : dK.nodes[j]? = some nJ) (hE : 0 < nI.entries.length) (hF : 0 < nJ.entries.length) : ACall Try.prog 63 [.agg (flsA f)] [] (fun r b t => t = [] ∧ r = .agg [.bs 2 0 2 f.length f.length] ∧ b = [[.bs 2 0 2 f.length f.length], [.bs 2 0 2 f.length f.length], DB f K dK 3 f.length dK.nodes.length, NGG dK.nodes i nI 4 nI.entries.length j nJ 5 nJ.entries.length dK.nodes.length, EB nI.entries nI.entries.length, EB nJ.entries nJ.entries.length]) := by
  refine enter Try.func63 rfl rfl rfl rfl rfl 6 rfl ?_
  refine w_ (b_ (h:=al_ (h:=e_ (w_ (f_ (h:=l_ (h:=?_)))))))
  refine al_p rfl (s_callM [] rfl (.cons _ _ _ _ _ rfl (LeA.refl _) (.cons _ _ _ _ _ rfl (LeA.refl _) .nil)) (by decide) .nil (PcopiedDGG f K dK i nI j nJ hf hK hij hi hj hE hF) ?_)
  rintro r bc tc ⟨rfl, rfl, rfl⟩
  refine ⟨rfl, _, (back_devsGG (n := 2) rfl f K dK f.length dK.nodes.length dK.nodes i nI nI.entries.length j nJ nJ.entries.length dK.nodes.length nI.entries nI.entries.length nJ.entries nJ.entries.length : Back _ [] _ [_, _, _, _, _, _]), ?_⟩
  refine f_ (h:=s_ (h:=e_ (w_ (l_ (h:=s_ (h:=e_ (aw_ret (?_))))))))
  refine abody_ret none (by repeat (first | exact ResA.nil | (apply ResA.tmp; (focus exact rfl)) | (apply ResA.cellN; (focus exact inferInstance); (focus exact rfl); (focus exact rfl); (focus exact rfl)) | (apply ResA.cell1; (focus exact inferInstance); (focus exact rfl); (focus exact rfl); (focus exact rfl)))) rfl rfl (by simp [bpLtB, bpLtL, bpLt, flsA, bp_DB, bp_NGG, bp_EB, ren, backS]) (LeA.refl _) ⟨rfl, rfl, rfl⟩

end
end Go.Proofs.Ythcbdkmhamhciaa
namespace Go.Proofs.Ythcbdkmhamhciaa
open Go.RowKit

section
variable {P : Program} {ev : Operand → Option AV} {h : AH} {R : AV → AH → Prop} {d : Option Tmp} {ty : TypeId} {pos : String} {af : Array Edge} {gd : Option (Nat × Bool)} {ats : Array TypeId}
theorem st_overlaps {f : FuncId} {fn : Func} {T T2 E sz bytes i o1 n1 c1 j o2 n2 c2 : Nat} {x y : Operand} {r1 r2 : List AV} [hE : Elm P T E sz bytes] (hf : P.funcs[f]? = some fn) (hname : (fn.name == "runtime.NumGoroutine") = false) (hb : fn.body.isNone = true) (hn : Extern.findNext fn = none) (he' : Extern.find fn = some (Extern.SlicesOverlaps.overlaps #[T, T] #[T2]))
    (hfo : ev (.func f) = some (.fn f [])) (hx : ev x = some (.bs i o1 sz n1 c1)) (hy : ev y = some (.bs j o2 sz n2 c2)) (hij : i ≠ j) (hb1 : h.bx[i]? = some r1) (hb2 : h.bx[j]? = some r2) (hl2 : 0 < r2.length) (hR : R (.v (.bool false)) h) : AStep P ⟨d, .call { callee := .value (.func f), args := #[x, y], argTypes := ats }, ty, pos, af, gd⟩ ev h R := by
  refine st_val (fun _ G w ec hr he => ?_) hR
  obtain ⟨cs, k1, k2⟩ := func_op (he (.func f) (by simp [Op.operands, Call.operands]) _ hfo)
  simp only [repL] at k2
  subst k2
  have h1 := he x (by simp [Op.operands, Call.operands]) _ hx
  have h2 := he y (by simp [Op.operands, Call.operands]) _ hy
  simp only [rep] at h1 h2
  obtain ⟨b, g1, g2, -, -⟩ := h1
  obtain ⟨b', g3, g4, -, -⟩ := h2
  obtain ⟨hu, inf, z, hinf, hz, hzs, hs, hby, hp⟩ := elm_spec hE.eq
  obtain ⟨us, T1, q1, q2, _⟩ := hr.boxAt g1 hb1
  obtain ⟨us2, T3, q3, q4, _⟩ := hr.boxAt g3 hb2
  have hne : b ≠ b' := by
    rintro rfl
    obtain ⟨l1, e1⟩ := List.getElem?_eq_some_iff.1 g1
    obtain ⟨l2, e2⟩ := List.getElem?_eq_some_iff.1 g3
    have hnd := List.pairwise_iff_getElem.1 hr.bxnd
    rcases Nat.lt_trichotomy i j with hl | hl | hl
    · exact hnd i j l1 l2 hl (e1.trans e2.symm)
    · exact hij hl
    exact hnd j i l2 l1 hl (e2.trans e1.symm)
  have hl4 := repL_length q4
  have hrun := Lib.run_overlaps_apart (P := P) w T T2 E hu inf.size (fun w => by simp [sizeOf, typeInfo, hinf]) ⟨b, o1, none⟩ ⟨b', o2, none⟩ n1 c1 n2 c2 hne T1 T3 us.length us2.length (by simp [World.shape?, q1]) (by simp [World.shape?, q3]) (by omega) (by simp [World.frozen?, q1]) (by simp [World.frozen?, q1])
  refine ⟨.bool false, ?_, by simp only [rep]⟩
  simp only [execOp, resolve, k1, Deferred.ofValue, invoke, Sem.run_bind, Sem.run_pure, Result.andThen_ok, List.map_toArray, List.map_cons, List.map_nil]
  rw [run_callFunc_extern hf hname hb hn he']
  simp [g2, g4, hrun]
theorem st_sliceUp {T : TypeId} {x hi : Operand} {E sz bytes i off n cap k : Nat} {iv : Int} [hE : Elm P T E sz bytes] (hx : ev x = some (.bs i off sz n cap)) (hh : ev hi = some (.v (.int .i64 iv))) (hi' : iv = (k : Int)) (hle : k ≤ cap) (hR : R (.bs i off sz k cap) h) :
    AStep P ⟨d, .slice T x none (some hi) none, ty, pos, af, gd⟩ ev h R := by
  refine st_val (fun _ G w ec _ he => ?_) hR
  have k1 := he x (by simp [Op.operands]) _ hx
  have k2 := he hi (by simp [Op.operands]) _ hh
  simp only [rep] at k1 k2
  obtain ⟨b, e1, e2, e3, e4⟩ := k1
  obtain ⟨hu, inf, z, hinf, hz, hzs, hs, hby, hp⟩ := elm_spec hE.eq
  subst hi'
  refine ⟨.slice (some ⟨b, off, none⟩) k cap, ?_, by simp only [rep]; exact ⟨b, e1, rfl, hle, e4⟩⟩
  simp [execOp, e2, k2, Instr.sliceAt, Instr.slice, Instr.sliceBounds, Instr.sliceBound, asIntOf, run_underlying hu, sizeOf, typeInfo, hinf, hs, hle, Addr.add_mid]
theorem st_copyMB {T T2 : TypeId} {x y : Operand} {E sz bytes i off n cap j o2 m2 c2 : Nat} {row row' row2 : List AV} {bx' : List (List AV)} [hE : Elm P T E sz bytes] (hx : ev x = some (.bs i off sz n cap)) (hy : ev y = some (.bs j o2 sz m2 c2)) (hb : h.bx[i]? = some row) (hb2 : h.bx[j]? = some row2) (hn : 0 < n) (hmn : n ≤ m2) (hfit : off + n * sz ≤ row.length) (hfit2 : o2 + n * sz ≤ row2.length)
    (hset : SetAt row off ((row2.drop o2).take (n * sz)) row') (hbx : SetAt h.bx i [row'] bx') (hR : R (.v (.int .i64 (n : Int))) ⟨bx', h.tk⟩) : AStep P ⟨d, .call { callee := .builtin .copy, args := #[x, y], argTypes := #[T, T2] }, ty, pos, af, gd⟩ ev h R := by
  intro E' G w ec hr he
  have k1 := he x (by simp [Op.operands, Call.operands]) _ hx
  have k2 := he y (by simp [Op.operands, Call.operands]) _ hy
  obtain ⟨hu, inf, z, hinf, hz, hzs, hsz, hbts, hp⟩ := elm_spec hE.eq
  simp only [rep] at k2
  obtain ⟨b2, j1, j2, j3, j4⟩ := k2
  obtain ⟨ad, c, us, e1, e2, e3, e4, e5⟩ := (SrcA.bs (h := h) (sz := sz) j o2 n c2 row2 hb2 hfit2).run (v := .slice (some ⟨b2, o2, none⟩) n c2) hr (by simp only [rep]; exact ⟨b2, j1, rfl, by omega, j4⟩) hp hn
  injection e1 with e1 _ e1c
  injection e1 with e1
  subst e1 e1c
  simp only [rep] at k1
  obtain ⟨b, k3, k4, k5, k6⟩ := k1
  obtain ⟨vs, Tb, q1, q2, q3⟩ := hr.boxAt k3 hb
  have hlen := repL_length q2
  have hl := run_loadCells_list (P := P) w ⟨b2, o2, none⟩ us e5
  rw [e2] at hl
  have hst := run_storeCells_cells (P := P) b off us 0 w (fun j hj => by simp only [World.cell?, q1]; simp; omega) (fun j hj => by simp [World.frozen?, q1]) e4
  simp only [Nat.add_zero] at hst
  have hrun : (Builtin.copy_ #[T, T2] ty #[.slice (some ⟨b, off, none⟩) n cap, .slice (some ⟨b2, o2, none⟩) m2 c2]).run P w = .ok (.int .i64 (n : Int)) (w.setCells b off us) := by
    have hmin : Nat.min m2 n = n := Nat.min_eq_right hmn
    simp [Builtin.copy_, run_underlying hu, Builtin.lenOf, Builtin.firstCells, sizeOf, typeInfo, hinf, hsz, hmin, hl, hst, goInt]
  obtain ⟨r1, r2, r3, r4, r5, r6⟩ := setCells_heap b Tb us off vs w q1
  obtain ⟨m1, _⟩ := hset.rep q2 e3
  obtain ⟨t1, t2⟩ := hr.setBox (w' := w.setCells b off us) (row := row') k3 r4 r5 r6 r3 r2 ⟨_, Tb, r1, m1, fun u hu => by
    rcases setL_mem us vs _ u hu with e | e
    · exact q3 u e
    exact e4 u e⟩
  have hbe := (SetAt.one hbx).2
  subst hbe
  simp only [execOp, resolve, invoke, builtin, Sem.run_bind, Sem.run_pure, Result.andThen_ok, List.map_toArray, List.map_cons, List.map_nil, k4, j2, hrun]
  exact ⟨_, _, G, hR, t1, t2, by simp only [rep]⟩
end
end Go.Proofs.Ythcbdkmhamhciaa
namespace Go.Proofs.Ythcbdkmhamhciaa
open Go.RowKit

def NY (ns : List Nod) (i : Nat) (nI : Nod) (e : AV) (j : Nat) (nJ : Nod) (e' : AV) (m : Nat) : List AV := rowsB 8 m (((ns.map nodF).set i (nodX nI e)).set j (nodX nJ e'))
section
variable {ns : List Nod} {i : Nat} {nI : Nod} {e : AV} {j : Nat} {nJ : Nod} {e' : AV} {m : Nat}
theorem NY_eight : ∀ r ∈ ((ns.map nodF).set i (nodX nI e)).set j (nodX nJ e'), r.length = 8 := by
  intro r hr
  rcases List.mem_or_eq_of_mem_set hr with h | h
  · exact NX_eight _ _ _ _ r h
  rw [h]; rfl
theorem NY_i (hij : i ≠ j) (hi : i < ns.length) : (((ns.map nodF).set i (nodX nI e)).set j (nodX nJ e'))[i]? = some (nodX nI e) := by
  rw [List.getElem?_set_ne (Ne.symm hij), List.getElem?_set_self (by simpa using hi)]
theorem NY_j (hj : j < ns.length) : (((ns.map nodF).set i (nodX nI e)).set j (nodX nJ e'))[j]? = some (nodX nJ e') := by
  rw [List.getElem?_set_self (by simpa using hj)]
theorem NY_geti {k : Nat} {x : AV} (hij : i ≠ j) (hi : i < ns.length) (hx : (nodX nI e)[k]? = some x) : (NY ns i nI e j nJ e' m)[0 + i * 8 + k]? = some x := rowsB_get NY_eight (NY_i hij hi) hx
theorem NY_getj {k : Nat} {x : AV} (hj : j < ns.length) (hx : (nodX nJ e')[k]? = some x) : (NY ns i nI e j nJ e' m)[0 + j * 8 + k]? = some x := rowsB_get NY_eight (NY_j hj) hx
theorem NY_seti {x : AV} (hij : i ≠ j) (hi : i < ns.length) : SetAt (NY ns i nI e j nJ e' m) (0 + i * 8 + 7) [x] (NY ns i nI x j nJ e' m) := by
  have key := rowsB_set (cap := m) (k := 7) (r' := nodX nI x) (cs := [x]) (NY_eight (ns := ns) (i := i) (nI := nI) (e := e) (j := j) (nJ := nJ) (e' := e')) (NY_i hij hi) (by repeat constructor) (List.cons_ne_nil _ _)
  rw [List.set_comm _ _ (Ne.symm hij), List.set_set] at key
  exact key
theorem NY_setj {x : AV} (hj : j < ns.length) : SetAt (NY ns i nI e j nJ e' m) (0 + j * 8 + 7) [x] (NY ns i nI e j nJ x m) := by
  have key := rowsB_set (cap := m) (k := 7) (r' := nodX nJ x) (cs := [x]) (NY_eight (ns := ns) (i := i) (nI := nI) (e := e) (j := j) (nJ := nJ) (e' := e')) (NY_j hj) (by repeat constructor) (List.cons_ne_nil _ _)
  rw [List.set_set] at key
  exact key
theorem NY_ino (hi : ns[i]? = some nI) (hj : ns[j]? = some nJ) {k : Nat} {x : Nod} (hx : ns[k]? = some x) : (NY ns i nI e j nJ e' m)[0 + k * 8 + 0]? = some (.v (.int .i64 x.ino)) := by
  have hil := (List.getElem?_eq_some_iff.1 hi).1
  have hjl := (List.getElem?_eq_some_iff.1 hj).1
  by_cases hkj : k = j
  · subst hkj
    rw [hj] at hx
    injection hx with hx
    subst hx
    exact NY_getj hjl rfl
  by_cases hki : k = i
  · subst hki
    rw [hi] at hx
    injection hx with hx
    subst hx
    exact NY_geti hkj hil rfl
  refine rowsB_get (r := nodF x) NY_eight ?_ rfl
  rw [List.getElem?_set_ne (Ne.symm hkj), List.getElem?_set_ne (Ne.symm hki), List.getElem?_map, hx]
  rfl
theorem bp_NY {n k : Nat} (he : bpLt n k e = true) (he' : bpLt n k e' = true) : bpLtL n k (NY ns i nI e j nJ e' m) = true := by
  refine bpLt_rowsB fun r hr => ?_
  rcases List.mem_or_eq_of_mem_set hr with h | h
  · rcases List.mem_or_eq_of_mem_set h with h | h
    · obtain ⟨d, _, rfl⟩ := List.mem_map.1 h
      exact bp_nodF d
    rw [h]; simp [nodX, bpLtL, bpLt, he]
  rw [h]; simp [nodX, bpLtL, bpLt, he']
theorem map_NY {F : AV → AV} (hany : F .any = .any) (hv : ∀ x, F (.v x) = .v x) (hs : ∀ sz rows, F (.sl sz rows none) = .sl sz rows none) {f f' : AV} (he : F e = f) (he' : F e' = f') : (NY ns i nI e j nJ e' m).map F = NY ns i nI f j nJ f' m := by
  unfold NY
  rw [rowsB_map F hany, List.map_set, List.map_set]
  have e1 : ((ns.map nodF).map fun r => r.map F) = ns.map nodF := by
    rw [List.map_map]
    apply List.map_congr_left
    intro n _
    exact map_nodF hv hs n
  rw [e1]
  congr 2
  · congr 1
    simp [nodX, hv, he]
  simp [nodX, hv, he']
theorem ren_NY {g : Nat → Option Nat} {f f' : AV} (he : ren g e = f) (he' : ren g e' = f') : renL g (NY ns i nI e j nJ e' m) = NY ns i nI f j nJ f' m := by
  rw [renL_map]; exact map_NY rfl (fun _ => rfl) (fun _ _ => rfl) he he'
theorem renK_NY {g : Nat → Option Nat} {f f' : AV} (he : renK g e = f) (he' : renK g e' = f') : renKL g (NY ns i nI e j nJ e' m) = NY ns i nI f j nJ f' m := by
  rw [renKL_map]; exact map_NY rfl (fun _ => rfl) (fun _ _ => rfl) he he'
theorem livL_NY {n : Nat} {g : Nat → Option (List AV)} {f f' : AV} (he : liv n g e = f) (he' : liv n g e' = f') : livL n g (NY ns i nI e j nJ e' m) = NY ns i nI f j nJ f' m := by
  rw [livL_map]; exact map_NY rfl (fun _ => rfl) (fun _ _ => rfl) he he'
theorem NY_comm (hij : i ≠ j) : NY ns i nI e j nJ e' m = NY ns j nJ e' i nI e m := by
  unfold NY
  rw [List.set_comm _ _ hij]
theorem rowsN_NY {es es' : List Ent} : RowsN (((ns.map nodF).set i (nodX nI (.sl 2 (es.map entA) none))).set j (nodX nJ (.sl 2 (es'.map entA) none))) ((ns.set i { nI with entries := es }).set j { nJ with entries := es' }) := (rowsN_set ns i nI es).set j (rowN_A { nJ with entries := es' })
end
theorem entL_repl {name : Str} {ino : Int} (h0 : ino ≠ 0) : ∀ {es : List Ent} {p : Nat} {e : Ent}, Sorted es → es[p]? = some e → e.1 = name → entL es name ino = es.set p (name, ino) := by
  have key : ∀ {es : List Ent} {p : Nat} {e : Ent}, Sorted es → es[p]? = some e → e.1 = name → entGo name ino false es = es.set p (name, ino) := by
    intro es
    induction es with
    | nil => intro p e _ h; simp at h
    | cons x es ih =>
      intro p e hs hp hn
      obtain ⟨h1, h2⟩ := List.pairwise_cons.1 hs
      cases p with
      | zero =>
        simp at hp
        subst hp
        have hw : without name es = es := by
          unfold without
          rw [List.filter_eq_self]
          intro y hy
          have := lt_ne (h1 y hy)
          rw [hn] at this
          simpa using Ne.symm this
        unfold entGo
        rw [hn, lt_irr]
        simp [entGo_done, hw]
      | succ p =>
        simp at hp
        have hlt := h1 e (List.mem_of_getElem? hp)
        rw [hn] at hlt
        unfold entGo
        rw [hlt, if_neg (lt_ne hlt)]
        simp only [Bool.not_true, Bool.and_false, Bool.false_eq_true, if_false, List.nil_append, Bool.or_false]
        rw [ih h2 hp hn]
        simp
  intro es p e hs hp hn
  unfold entL
  rw [show (ino == 0) = false by simpa using h0]
  exact key hs hp hn
theorem EB_set {es : List Ent} {cap p : Nat} {e : Ent} {ino : Int} (hp : es[p]? = some e) : SetAt (EB es cap) (0 + p * 2 + 1) [.v (.int .i64 ino)] (EB (es.set p (e.1, ino)) cap) := by
  have key := rowsB_set (cap := cap) (k := 1) (r' := entA (e.1, ino)) (cs := [.v (.int .i64 ino)]) (ent_two es) (by rw [List.getElem?_map, hp]; rfl) (by repeat constructor) (List.cons_ne_nil _ _)
  rw [← List.map_set] at key
  exact key
theorem EB_push (es : List Ent) (e : Ent) (cap : Nat) (hc : es.length + 1 ≤ cap) : SetAt (EB es cap) (0 + es.length * 2) (entA e) (EB (es ++ [e]) cap) := by
  have := rowsB_pushL (sz := 2) (cap := cap) (rows := es.map entA) (news := [entA e]) (ent_two _) (fun x hx => by rw [List.mem_singleton.1 hx]; rfl) (by decide) (by simp) (by simpa using hc)
  rw [List.length_map] at this
  unfold EB
  rw [List.map_append]
  exact this
theorem EB_shift (es : List Ent) (i cap : Nat) (e : Ent) (hi : i < es.length) (hc : es.length + 1 ≤ cap) : ∃ row, SetAt (EB es cap) (0 + (i + 1) * 2) (((EB es cap).drop (0 + i * 2)).take ((es.length - i) * 2)) row ∧ row.length = cap * 2 ∧ SetAt row (0 + i * 2) (entA e) (EB (insE es i e) cap) := by
  rw [ent_flat2 es cap i (by omega)]
  obtain ⟨x, hx⟩ : ∃ x, es[i]? = some x := ⟨_, List.getElem?_eq_getElem hi⟩
  have hd : es.drop i = x :: es.drop (i + 1) := by rw [List.drop_eq_getElem_cons hi]; congr 1; exact (List.getElem?_eq_some_iff.1 hx).2
  have hs : es = es.take i ++ x :: es.drop (i + 1) := by rw [← hd, List.take_append_drop]
  have lA : ((es.take i).map entA).flatten.length = i * 2 := by rw [flat_len (ent_two _)]; simp; omega
  have lX : ((es.drop i).map entA).flatten.length = (es.length - i) * 2 := by rw [flat_len (ent_two _)]; simp
  have lY : ((es.drop (i + 1)).map entA).flatten.length = (es.length - (i + 1)) * 2 := by rw [flat_len (ent_two _)]; simp
  have hE : EB es cap = (((es.take i).map entA).flatten ++ entA x) ++ ((((es.drop (i + 1)).map entA).flatten ++ List.replicate 2 .any) ++ List.replicate ((cap - (es.length + 1)) * 2) .any) := by
    unfold EB rowsB
    rw [List.length_map, show (cap - es.length) * 2 = 2 + (cap - (es.length + 1)) * 2 by omega, ← List.replicate_append_replicate]
    conv => lhs; arg 1; rw [hs]
    simp only [List.map_append, List.map_cons, List.flatten_append, List.flatten_cons, List.append_assoc]
  refine ⟨(((es.take i).map entA).flatten ++ entA x) ++ (((es.drop i).map entA).flatten ++ List.replicate ((cap - (es.length + 1)) * 2) .any), ?_, ?_, ?_⟩
  · rw [hE]
    have key := SetAt.right (SetAt.whole (xs := ((es.drop i).map entA).flatten) (l := ((es.drop (i + 1)).map entA).flatten ++ List.replicate 2 .any) (b := List.replicate ((cap - (es.length + 1)) * 2) .any) (by rw [List.length_append, lX, lY, List.length_replicate]; omega)) (((es.take i).map entA).flatten ++ entA x) (fun h => by rw [h, List.length_nil] at lX; omega)
    rw [List.length_append, lA, Nat.add_zero, show (entA x).length = 2 from rfl] at key
    rw [Nat.zero_add, show (i + 1) * 2 = i * 2 + 2 by omega]
    exact key
  · simp only [List.length_append, lA, lX, List.length_replicate, Nat.sub_mul, show (entA x).length = 2 from rfl]
    omega
  have key := SetAt.right (SetAt.whole (xs := entA e) (l := entA x) (b := ((es.drop i).map entA).flatten ++ List.replicate ((cap - (es.length + 1)) * 2) .any) rfl) ((es.take i).map entA).flatten (List.cons_ne_nil _ _)
  rw [lA, Nat.add_zero] at key
  rw [Nat.zero_add, List.append_assoc]
  refine cast ?_ key
  congr 1
  unfold EB rowsB insE
  simp only [List.map_append, List.map_cons, List.flatten_append, List.flatten_cons, List.append_assoc, List.length_append, List.length_cons, List.length_map, List.length_take, List.length_drop]
  rw [show min i es.length + (es.length - i + 1) = es.length + 1 by omega]
section
set_option maxRecDepth 10000
set_option maxHeartbeats 1000000
theorem PinsC1 (es : List Ent) (e : Ent) (cap : Nat) (hes : es.length ≤ 1000) (hc : es.length + 1 ≤ cap) : ACall Try.prog 93 [.bs 0 0 2 es.length cap, .v (.int .i64 (es.length : Int)), .bs 1 0 2 1 1] [EB es cap, entA e] (fun r b t => t = [] ∧ r = .bs 0 0 2 (es.length + 1) cap ∧ b = [EB (es ++ [e]) cap, entA e]) := by
  have hfit : 0 + cap * 2 ≤ (EB es cap).length := by rw [EB_len es _ (by omega)]; omega
  refine enter Try.func93 rfl rfl rfl rfl rfl 2 rfl ?_
  refine w_ (a_ (h:=e_ (w_ (m_ (h:=m_ (h:=?_))))))
  refine al_p rfl (st_sliceAny rfl rfl rfl (Nat.le_refl _) ?_)
  refine e_ (w_ (m_ (h:=?_)))
  refine al_p rfl (st_lenB rfl ?_)
  refine a_ (h:=e_ (q_ (w_ (m_ (h:=eq_ (h:=e_ (?_)))))))
  refine aw_cond rfl (fun hb1 => ?_) (fun hb1 => ?_)
  · have hc1 := bp hb1
    exfalso; first | contradiction | omega
  have hc1 := bp hb1
  refine kt_ (w_ (m_ (h:=?_)))
  refine al_p rfl (st_lenB rfl ?_)
  refine a_ (h:=e_ (q_ (w_ (m_ (h:=m_ (h:=eq_ (h:=e_ (?_))))))))
  refine aw_cond rfl (fun hb2 => ?_) (fun hb2 => ?_)
  · have hc2 := bp hb2
    refine w_ (m_ (h:=m_ (h:=?_)))
    refine al_p rfl (st_appendB rfl rfl rfl hfit (SrcA.bs 1 0 1 1 _ rfl (Nat.le_of_ble_eq_true rfl)) (by decide) (by omega) ?_ (fun h => absurd h (by omega)))
    intro _ row2 bx2 hs1 hs2
    obtain rfl : row2 = EB (es ++ [e]) cap := hs1.det (EB_push es e cap hc)
    obtain rfl := (SetAt.one hs2).2
    refine a_ (h:=e_ (aw_ret (x_thenR (?_))))
    refine abody_ret (r := .bs 0 0 2 (es.length + 1) cap) none (by repeat (first | exact ResA.nil | (apply ResA.tmp; (focus exact rfl)) | (apply ResA.cellN; (focus exact inferInstance); (focus exact rfl); (focus exact rfl); (focus exact rfl)) | (apply ResA.cell1; (focus exact inferInstance); (focus exact rfl); (focus exact rfl); (focus exact rfl)))) rfl rfl (by show (bpLtL 2 0 (EB (es ++ [e]) cap) && (bpLtL 2 0 (entA e) && true)) = true; rw [bp_EB]; rfl) (LeA.refl _) ⟨rfl, rfl, rfl⟩
  have hc2 := bp hb2
  exact absurd rfl hc2

theorem PinsC2 (es : List Ent) (i : Nat) (e : Ent) (cap : Nat) (hes : es.length ≤ 1000) (hi : i < es.length) (hc : es.length + 1 ≤ cap) : ACall Try.prog 93 [.bs 0 0 2 es.length cap, .v (.int .i64 (i : Int)), .bs 1 0 2 1 1] [EB es cap, entA e] (fun r b t => t = [] ∧ r = .bs 0 0 2 (es.length + 1) cap ∧ b = [EB (insE es i e) cap, entA e]) := by
  have hel := EB_len es cap (by omega)
  obtain ⟨row, hr1, hrl, hr2⟩ := EB_shift es i cap e hi hc
  have hr1x : SetAt (EB es cap) (0 + (i + 1) * 2) (((EB es cap).drop (0 + i * 2)).take ((es.length + 1 - (i + 1)) * 2)) row := by rw [show es.length + 1 - (i + 1) = es.length - i by omega]; exact hr1
  refine enter Try.func93 rfl rfl rfl rfl rfl 2 rfl ?_
  refine w_ (a_ (h:=e_ (w_ (m_ (h:=m_ (h:=?_))))))
  refine al_p rfl (st_sliceAny rfl rfl rfl (by omega) ?_)
  refine e_ (w_ (m_ (h:=?_)))
  refine al_p rfl (st_lenB rfl ?_)
  refine a_ (h:=e_ (q_ (w_ (m_ (h:=eq_ (h:=e_ (?_)))))))
  refine aw_cond rfl (fun hb1 => ?_) (fun hb1 => ?_)
  · have hc1 := bp hb1
    exfalso; first | contradiction | omega
  have hc1 := bp hb1
  refine kt_ (w_ (m_ (h:=?_)))
  refine al_p rfl (st_lenB rfl ?_)
  refine a_ (h:=e_ (q_ (w_ (m_ (h:=m_ (h:=eq_ (h:=e_ (?_))))))))
  refine aw_cond rfl (fun hb2 => ?_) (fun hb2 => ?_)
  · have hc2 := bp hb2
    exfalso; omega
  have hc2 := bp hb2
  refine kt_ (q_ (w_ (m_ (h:=m_ (h:=?_)))))
  refine al_p rfl (st_add64 rfl rfl (by omega) ?_)
  refine m_ (h:=?_)
  refine al_p rfl (st_capB rfl ?_)
  refine gt_ (h:=e_ (?_))
  refine aw_cond rfl (fun hb3 => ?_) (fun hb3 => ?_)
  · have hc3 := bp hb3
    exfalso; omega
  have hc3 := bp hb3
  refine kt_ (w_ (m_ (h:=m_ (h:=m_ (h:=?_)))))
  refine al_p rfl (st_add64 rfl rfl (by omega) ?_)
  refine al_p rfl (st_sliceUp (k := es.length + 1) rfl rfl (by omega) (by omega) ?_)
  refine a_ (h:=e_ (q_ (w_ (m_ (h:=m_ (h:=m_ (h:=m_ (h:=?_))))))))
  refine al_p rfl (st_add64 rfl rfl (by omega) ?_)
  refine al_p rfl (st_sliceLoB (l := i + 1) rfl rfl (by omega) (by omega) ?_)
  refine al_p rfl (st_overlaps (T := 32) (T2 := 4) Try.func109 (by kernel_rfl) (by kernel_rfl) (by kernel_rfl) (by kernel_rfl) rfl rfl rfl (by decide) rfl rfl (by rw [hel]; omega) ?_)
  refine nt_ (h:=e_ (?_))
  refine aw_cond rfl (fun hb4 => ?_) (fun hb4 => ?_)
  · have hc4 := bp hb4
    refine q_ (yk_ ([(1, entA e)]) 9 (h:=dm_ 0 (h:=dm_ 1 (h:=dm_ 2 (h:=?_)))))
    refine tk_ 3 rfl (fun _ hS => st_add64 rfl rfl (by omega) ⟨rfl, rfl⟩) ?_
    refine tk_ 4 rfl (fun _ hS => st_sliceLoB (l := i + 1) rfl rfl (by omega) (by omega) ⟨rfl, rfl⟩) ?_
    refine dm_ 5 (h:=dm_ 6 (h:=?_))
    refine tk_ 7 rfl (fun _ hS => st_sliceLoB (l := i) rfl rfl rfl (by omega) ⟨rfl, rfl⟩) ?_
    refine c_ 8 rfl (st_copyMB rfl rfl rfl rfl (by omega) (by omega) (by rw [hel]; omega) (by rw [hel]; omega) hr1x (by repeat constructor) ?_)
    refine o_ (h:=z_ (h:=t_ (w_ (m_ (h:=m_ (h:=?_))))))
    refine al_p rfl (st_sliceLoB (l := i) rfl rfl rfl (by omega) ?_)
    refine m_ (h:=?_)
    refine al_p rfl (st_copyB rfl rfl rfl (SrcA.bs 1 0 1 1 _ rfl (Nat.le_of_ble_eq_true rfl)) (by decide) (by omega) (by rw [hrl]; omega) hr2 (by repeat constructor) ?_)
    refine e_ (w_ (m_ (h:=a_ (h:=e_ (aw_ret (x_thenR (?_)))))))
    refine abody_ret (r := .bs 0 0 2 (es.length + 1) cap) none (by repeat (first | exact ResA.nil | (apply ResA.tmp; (focus exact rfl)) | (apply ResA.cellN; (focus exact inferInstance); (focus exact rfl); (focus exact rfl); (focus exact rfl)) | (apply ResA.cell1; (focus exact inferInstance); (focus exact rfl); (focus exact rfl); (focus exact rfl)))) rfl rfl (by show (bpLtL 2 0 (EB (insE es i e) cap) && (bpLtL 2 0 (entA e) && true)) = true; rw [bp_EB]; rfl) (LeA.refl _) ⟨rfl, rfl, rfl⟩
  have hc4 := bp hb4
  exfalso; first | contradiction | omega

theorem PinsC (es : List Ent) (i : Nat) (e : Ent) (cap : Nat) (hes : es.length ≤ 1000) (hi : i ≤ es.length) (hc : es.length + 1 ≤ cap) : ACall Try.prog 93 [.bs 0 0 2 es.length cap, .v (.int .i64 (i : Int)), .bs 1 0 2 1 1] [EB es cap, entA e] (fun r b t => t = [] ∧ r = .bs 0 0 2 (es.length + 1) cap ∧ b = [EB (insE es i e) cap, entA e]) := by
  have hfit : 0 + cap * 2 ≤ (EB es cap).length := by rw [EB_len es _ (by omega)]; omega
  have hbp : bpLtB 2 0 [EB (insE es i e) cap, entA e] = true := by show (bpLtL 2 0 (EB (insE es i e) cap) && (bpLtL 2 0 (entA e) && true)) = true; rw [bp_EB]; rfl
  by_cases hlast : i = es.length
  · subst hlast
    have hins : insE es es.length e = es ++ [e] := by unfold insE; rw [List.take_length, List.drop_length]
    rw [hins] at hbp ⊢
    exact PinsC1 es e cap hes hc
  exact PinsC2 es i e cap hes (by omega) hc
end
end Go.Proofs.Ythcbdkmhamhciaa
namespace Go.Proofs.Ythcbdkmhamhciaa
open Go.RowKit

theorem back_E2 (a b : List AV) (es es' : List Ent) (cap cap' : Nat) : Back [a, b, EB es cap] [2] [EB es' cap'] [a, b, EB es' cap'] := by
  have := back_F (bx := [a, b, EB es cap]) (is := [2]) (bc := [EB es' cap']) (by decide) (by simp) (by simp)
  simpa [backF, ren_EB] using this
theorem back_EC (a : List AV) (es es' : List Ent) (cap : Nat) (e : Ent) : Back [a, EB es cap, entA e] [1, 2] [EB es' cap, entA e] [a, EB es' cap, entA e] := by
  have := back_F (bx := [a, EB es cap, entA e]) (is := [1, 2]) (bc := [EB es' cap, entA e]) (by decide) (by simp) (by simp)
  have e2 : renL (backS [1, 2] [a, EB es cap, entA e].length) (entA e) = entA e := by simp [renL, ren, entA]
  simp only [backF, ren_EB, e2] at this
  simpa [List.set] using this
section
set_option maxRecDepth 10000
set_option maxHeartbeats 1000000
theorem PdropY (R : List AV) (R1 : AV → List AV) (E1 : List AV) (i : Nat) (es : List Ent) (name : Str) (p : Nat) (cap : Nat) (h7 : R[0 + i * 8 + 7]? = some (.bs 2 0 2 es.length cap)) (hset : ∀ x, SetAt R (0 + i * 8 + 7) [x] (R1 x)) (hbp : bpLtL 3 0 R = true) (hbp2 : bpLtL 3 0 (R1 (.bs 2 0 2 (es.length - 1) cap)) = true) (hE1 : ∀ q, bpLtL q 0 E1 = true) (hp : ∃ e, es[p]? = some e ∧ e.1 = name) (hfst : ∀ k e, k < p → es[k]? = some e → e.1 ≠ name) (hEn : es.length ≤ 1000) (hcap : es.length ≤ cap) : ACall Try.prog 86 [.bp 0 (0 + i * 8), .v (.string name)] [R, E1, EB es cap] (fun r b t => t = [] ∧ r = .tup [] ∧ b = [R1 (.bs 2 0 2 (es.length - 1) cap), E1, EB (es.eraseIdx p) cap]) := by
  obtain ⟨ep, hpe, hpn⟩ := hp
  have hpl := (List.getElem?_eq_some_iff.1 hpe).1
  refine enter Try.func86 rfl rfl rfl rfl rfl 3 rfl ?_
  refine w_ (m_ (h:=k_ (h:=f_ (h:=?_))))
  refine al_p rfl (st_loadB1 rfl rfl h7 ?_)
  refine al_p rfl (st_lenB rfl ?_)
  refine m_ (h:=e_ (aw_block (?_)))
  refine aw_loopW (fun n t => ∃ j : Nat, j ≤ es.length ∧ n = es.length - j ∧ (∀ k x, k < j → es[k]? = some x → x.1 ≠ name) ∧ t = ⟨look [(0, .bp 0 (0 + i * 8)), (1, .v (.string name)), (9, .v (.int .i64 (es.length : Int))), (10, .v (.int .i64 (j : Int)))], ⟨[R, E1, EB es cap], []⟩⟩) (es.length) (weak_of 3 0 rfl rfl rfl (by simp [bpLtB, bp_EB, hbp, hE1]) (by repeat (first | exact Sub.nil | refine Sub.cons _ _ _ rfl rfl ?_ | refine Sub.any _ _ ?_ | refine Sub.sl _ _ _ _ _ rfl ?_ | refine Sub.slnil _ _ _ rfl ?_))) (⟨0, Nat.zero_le _, rfl, fun k x hk => by omega, rfl⟩) ?_
  rintro n t ⟨j, hj, rfl, hnot, rfl⟩
  refine w_ (lt_ (h:=e_ (q_ (?_))))
  refine aw_cond rfl (fun hb1 => ?_) (fun hb1 => ?_)
  · have hc1 := bp hb1
    have hjl : j < es.length := by omega
    obtain ⟨y, hy⟩ : ∃ y, es[j]? = some y := ⟨_, List.getElem?_eq_getElem hjl⟩
    refine kt_ (q_ (aw_block (w_ (m_ (h:=a_ (h:=e_ (w_ (m_ (h:=k_ (h:=f_ (h:=?_)))))))))))
    refine al_p rfl (st_loadB1 rfl rfl h7 ?_)
    refine m_ (h:=?_)
    refine al_p rfl (st_indexS (m := j) rfl rfl rfl hjl ?_)
    refine f_ (h:=?_)
    refine al_p rfl (st_loadB1 rfl rfl (EB_get hy rfl) ?_)
    refine m_ (h:=eq_ (h:=e_ (?_)))
    refine aw_cond rfl (fun hb2 => ?_) (fun hb2 => ?_)
    · have hc2 := bp hb2
      obtain rfl : j = p := by
        rcases Nat.lt_trichotomy j p with h | h | h
        · exact absurd hc2 (hfst j y h hy)
        · exact h
        exact absurd hpn (hnot p ep h hpe)
      refine w_ (m_ (h:=m_ (h:=k_ (h:=f_ (h:=?_)))))
      refine al_p rfl (st_loadB1 rfl rfl h7 ?_)
      refine m_ (h:=m_ (h:=?_))
      refine al_p rfl (st_add64 rfl rfl (by omega) ?_)
      refine al_p rfl (s_callM [2] rfl (.cons _ _ _ _ _ rfl (LeA.refl _) (.cons _ _ _ _ _ rfl (LeA.refl _) (.cons _ _ _ _ _ rfl (LeA.refl _) .nil))) (by decide) (.cons _ _ _ _ _ rfl (ren_EB _ _ _) .nil) (PdelE es j cap hjl hEn hcap) ?_)
      rintro r bc tc ⟨rfl, rfl, rfl⟩
      refine ⟨rfl, _, (back_E2 _ _ _ _ _ _ : Back _ [2] _ [_, _, _]), ?_⟩
      refine k_ (h:=f_ (h:=?_))
      refine al_p0 (s_store rfl rfl rfl rfl rfl rfl (hset _) (by repeat constructor) ?_)
      refine e_ (aw_ret (x_blockR (x_thenR (x_thenR (x_blockR (?_))))))
      refine abody_ret (r := .tup []) none (by repeat (first | exact ResA.nil | (apply ResA.tmp; (focus exact rfl)) | (apply ResA.cellN; (focus exact inferInstance); (focus exact rfl); (focus exact rfl); (focus exact rfl)) | (apply ResA.cell1; (focus exact inferInstance); (focus exact rfl); (focus exact rfl); (focus exact rfl)))) rfl rfl (by show (bpLtL 3 0 (R1 (.bs 2 0 2 (es.length - 1) cap)) && (bpLtL 3 0 E1 && (bpLtL 3 0 (EB (es.eraseIdx j) cap) && true))) = true; rw [hbp2, hE1, bp_EB]; rfl) (LeA.refl _) ⟨rfl, rfl, rfl⟩
    have hc2 := bp hb2
    refine aw_skip (x_blockN (t_ (aw_region (ad_ (h:=m_ (h:=al_nil (?_)))))))
    refine x_then ?_
    refine ⟨es.length - (j + 1), _, by omega, ⟨j + 1, by omega, rfl, fun k x hk hk2 => ?_, rfl⟩, weak_of 3 0 rfl rfl rfl (by simp [bpLtB, bp_EB, hbp, hE1]) (by repeat (first | exact Sub.nil | refine Sub.cons _ _ _ rfl rfl ?_ | refine Sub.any _ _ ?_ | refine Sub.sl _ _ _ _ _ rfl ?_ | refine Sub.slnil _ _ _ rfl ?_))⟩
    rcases Nat.lt_succ_iff_lt_or_eq.1 hk with h | rfl
    · exact hnot k x h hk2
    rw [hy] at hk2; injection hk2 with hk2; subst hk2; assumption
  have hc1 := bp hb1
  exact absurd hpn (hnot p ep (by omega) hpe)

theorem PputA (R : List AV) (i : Nat) (es : List Ent) (name : Str) (ino : Int) (cap : Nat) (p : Nat) (h7 : R[0 + i * 8 + 7]? = some (.bs 1 0 2 es.length cap)) (hbp : bpLtL 2 0 R = true) (hp : ∃ e, es[p]? = some e ∧ e.1 = name) (hfst : ∀ k e, k < p → es[k]? = some e → e.1 ≠ name) (hEn : es.length ≤ 1000) : ACall Try.prog 64 [.bp 0 (0 + i * 8), .v (.string name), .v (.int .i64 ino)] [R, EB es cap] (fun r b t => t = [] ∧ r = .tup [] ∧ b = [R, EB (es.set p (name, ino)) cap]) := by
  obtain ⟨ep, hpe, hpn⟩ := hp
  have hpl := (List.getElem?_eq_some_iff.1 hpe).1
  refine enter Try.func64 rfl rfl rfl rfl rfl 2 rfl ?_
  refine q_ (w_ (m_ (h:=k_ (h:=f_ (h:=?_)))))
  refine al_p rfl (st_loadB1 rfl rfl h7 ?_)
  refine al_p rfl (st_lenB rfl ?_)
  refine m_ (h:=e_ (aw_block (?_)))
  refine aw_loopW (fun m t => ∃ j : Nat, j ≤ es.length ∧ m = es.length - j ∧ (∀ k x, k < j → es[k]? = some x → x.1 ≠ name) ∧ t = ⟨look [(0, .bp 0 (0 + i * 8)), (1, .v (.string name)), (2, .v (.int .i64 ino)), (12, .v (.int .i64 (es.length : Int))), (13, .v (.int .i64 (j : Int)))], ⟨[R, EB es cap], []⟩⟩) (es.length) (weak_of 2 0 rfl rfl rfl (by simp [bpLtB, bp_EB, hbp]) (by repeat (first | exact Sub.nil | refine Sub.cons _ _ _ rfl rfl ?_ | refine Sub.any _ _ ?_ | refine Sub.sl _ _ _ _ _ rfl ?_ | refine Sub.slnil _ _ _ rfl ?_))) (⟨0, Nat.zero_le _, rfl, fun k x hk => by omega, rfl⟩) ?_
  rintro m t ⟨j, hj, rfl, hnot, rfl⟩
  refine w_ (lt_ (h:=e_ (q_ (?_))))
  refine aw_cond rfl (fun hb1 => ?_) (fun hb1 => ?_)
  · have hc1 := bp hb1
    have hjl : j < es.length := by omega
    obtain ⟨y, hy⟩ : ∃ y, es[j]? = some y := ⟨_, List.getElem?_eq_getElem hjl⟩
    refine kt_ (q_ (aw_block (w_ (m_ (h:=a_ (h:=e_ (w_ (m_ (h:=k_ (h:=f_ (h:=?_)))))))))))
    refine al_p rfl (st_loadB1 rfl rfl h7 ?_)
    refine m_ (h:=?_)
    refine al_p rfl (st_indexS (m := j) rfl rfl rfl hjl ?_)
    refine f_ (h:=?_)
    refine al_p rfl (st_loadB1 rfl rfl (EB_get hy rfl) ?_)
    refine m_ (h:=eq_ (h:=e_ (?_)))
    refine aw_cond rfl (fun hb2 => ?_) (fun hb2 => ?_)
    · have hc2 := bp hb2
      obtain rfl : j = p := by
        rcases Nat.lt_trichotomy j p with h | h | h
        · exact absurd hc2 (hfst j y h hy)
        · exact h
        exact absurd hpn (hnot p ep h hpe)
      have hyn : y.1 = name := hc2
      refine w_ (m_ (h:=k_ (h:=f_ (h:=?_))))
      refine al_p rfl (st_loadB1 rfl rfl h7 ?_)
      refine m_ (h:=m_ (h:=?_))
      refine al_p rfl (st_indexS (m := j) rfl rfl rfl hjl ?_)
      refine f_ (h:=?_)
      refine al_p0 (s_store rfl rfl rfl rfl rfl rfl (EB_set hy) (by repeat constructor) ?_)
      refine e_ (aw_ret (x_blockR (x_thenR (x_thenR (x_blockR (x_thenR (?_)))))))
      refine abody_ret (r := .tup []) none (by repeat (first | exact ResA.nil | (apply ResA.tmp; (focus exact rfl)) | (apply ResA.cellN; (focus exact inferInstance); (focus exact rfl); (focus exact rfl); (focus exact rfl)) | (apply ResA.cell1; (focus exact inferInstance); (focus exact rfl); (focus exact rfl); (focus exact rfl)))) rfl rfl (by show (bpLtL 2 0 R && (bpLtL 2 0 (EB (es.set j (y.1, ino)) cap) && true)) = true; rw [hbp, bp_EB]; rfl) (LeA.refl _) ⟨rfl, rfl, by rw [hyn]; rfl⟩
    have hc2 := bp hb2
    refine aw_skip (x_blockN (t_ (aw_region (ad_ (h:=m_ (h:=al_nil (?_)))))))
    refine x_then ?_
    refine ⟨es.length - (j + 1), _, by omega, ⟨j + 1, by omega, rfl, fun k x hk hk2 => ?_, rfl⟩, weak_of 2 0 rfl rfl rfl (by simp [bpLtB, bp_EB, hbp]) (by repeat (first | exact Sub.nil | refine Sub.cons _ _ _ rfl rfl ?_ | refine Sub.any _ _ ?_ | refine Sub.sl _ _ _ _ _ rfl ?_ | refine Sub.slnil _ _ _ rfl ?_))⟩
    rcases Nat.lt_succ_iff_lt_or_eq.1 hk with h | rfl
    · exact hnot k x h hk2
    rw [hy] at hk2; injection hk2 with hk2; subst hk2; assumption
  have hc1 := bp hb1
  exact absurd hpn (hnot p ep (by omega) hpe)

theorem PputC (R : List AV) (R1 : AV → List AV) (i : Nat) (es : List Ent) (name : Str) (ino : Int) (cap : Nat) (h7 : R[0 + i * 8 + 7]? = some (.bs 1 0 2 es.length cap)) (hset : ∀ x, SetAt R (0 + i * 8 + 7) [x] (R1 x)) (hbp : bpLtL 2 0 R = true) (hbp3 : bpLtL 2 0 (R1 (.bs 1 0 2 (es.length + 1) cap)) = true) (hc : es.length + 1 ≤ cap) (hEn : es.length ≤ 1000) (hino : ino ≠ 0) (hno : ∀ e ∈ es, e.1 ≠ name) : ACall Try.prog 64 [.bp 0 (0 + i * 8), .v (.string name), .v (.int .i64 ino)] [R, EB es cap] (fun r b t => t = [] ∧ r = .tup [] ∧ b = [R1 (.bs 1 0 2 (es.length + 1) cap), EB (entL es name ino) cap]) := by
  refine enter Try.func64 rfl rfl rfl rfl rfl 2 rfl ?_
  refine q_ (w_ (m_ (h:=k_ (h:=f_ (h:=?_)))))
  refine al_p rfl (st_loadB1 rfl rfl h7 ?_)
  refine al_p rfl (st_lenB rfl ?_)
  refine m_ (h:=e_ (aw_block (?_)))
  refine aw_loopW (fun m t => ∃ j : Nat, j ≤ es.length ∧ m = es.length - j ∧ (∀ k x, k < j → es[k]? = some x → x.1 ≠ name) ∧ t = ⟨look [(0, .bp 0 (0 + i * 8)), (1, .v (.string name)), (2, .v (.int .i64 ino)), (12, .v (.int .i64 (es.length : Int))), (13, .v (.int .i64 (j : Int)))], ⟨[R, EB es cap], []⟩⟩) (es.length) (weak_of 2 0 rfl rfl rfl (by simp [bpLtB, bp_EB, hbp]) (by repeat (first | exact Sub.nil | refine Sub.cons _ _ _ rfl rfl ?_ | refine Sub.any _ _ ?_ | refine Sub.sl _ _ _ _ _ rfl ?_ | refine Sub.slnil _ _ _ rfl ?_))) (⟨0, Nat.zero_le _, rfl, fun k x hk => by omega, rfl⟩) ?_
  rintro m t ⟨j, hj, rfl, hnot, rfl⟩
  refine w_ (lt_ (h:=e_ (q_ (?_))))
  refine aw_cond rfl (fun hb1 => ?_) (fun hb1 => ?_)
  · have hc1 := bp hb1
    have hjl : j < es.length := by omega
    obtain ⟨y, hy⟩ : ∃ y, es[j]? = some y := ⟨_, List.getElem?_eq_getElem hjl⟩
    refine kt_ (q_ (aw_block (w_ (m_ (h:=a_ (h:=e_ (w_ (m_ (h:=k_ (h:=f_ (h:=?_)))))))))))
    refine al_p rfl (st_loadB1 rfl rfl h7 ?_)
    refine m_ (h:=?_)
    refine al_p rfl (st_indexS (m := j) rfl rfl rfl hjl ?_)
    refine f_ (h:=?_)
    refine al_p rfl (st_loadB1 rfl rfl (EB_get hy rfl) ?_)
    refine m_ (h:=eq_ (h:=e_ (?_)))
    refine aw_cond rfl (fun hb2 => ?_) (fun hb2 => ?_)
    · have hc2 := bp hb2
      exact absurd hc2 (hno y (List.mem_of_getElem? hy))
    have hc2 := bp hb2
    refine aw_skip (x_blockN (t_ (aw_region (ad_ (h:=m_ (h:=al_nil (?_)))))))
    refine x_then ?_
    refine ⟨es.length - (j + 1), _, by omega, ⟨j + 1, by omega, rfl, fun k x hk hk2 => ?_, rfl⟩, weak_of 2 0 rfl rfl rfl (by simp [bpLtB, bp_EB, hbp]) (by repeat (first | exact Sub.nil | refine Sub.cons _ _ _ rfl rfl ?_ | refine Sub.any _ _ ?_ | refine Sub.sl _ _ _ _ _ rfl ?_ | refine Sub.slnil _ _ _ rfl ?_))⟩
    rcases Nat.lt_succ_iff_lt_or_eq.1 hk with h | rfl
    · exact hnot k x h hk2
    rw [hy] at hk2; injection hk2 with hk2; subst hk2; assumption
  have hc1 := bp hb1
  refine aw_exit (x_thenE (x_thenE (ABlock_out (t_ (w_ (a_ (h:=e_ (q_ (aw_block (?_))))))))))
  refine aw_loopW (fun m t => ∃ p : Nat, p ≤ es.length ∧ m = es.length - p ∧ (∀ k e, k < p → es[k]? = some e → strLt e.1 name = true) ∧ t = ⟨look [(0, .bp 0 (0 + i * 8)), (1, .v (.string name)), (2, .v (.int .i64 ino)), (7, .v (.int .i64 (p : Int)))], ⟨[R, EB es cap], []⟩⟩) (es.length) (weak_of 2 0 rfl rfl rfl (by simp [bpLtB, bp_EB, hbp]) (by repeat (first | exact Sub.nil | refine Sub.cons _ _ _ rfl rfl ?_ | refine Sub.any _ _ ?_ | refine Sub.sl _ _ _ _ _ rfl ?_ | refine Sub.slnil _ _ _ rfl ?_))) (⟨0, Nat.zero_le _, rfl, fun k e hk => by omega, rfl⟩) ?_
  rintro m t ⟨p, hp, rfl, hlt, rfl⟩
  refine q_ (w_ (m_ (h:=m_ (h:=k_ (h:=f_ (h:=?_))))))
  refine al_p rfl (st_loadB1 rfl rfl h7 ?_)
  refine al_p rfl (st_lenB rfl ?_)
  refine lt_ (h:=m_ (h:=?_))
  refine al_gs true rfl rfl (fun hb3 => ?_) (fun hb3 => ?_)
  · have hc3 := bp hb3
    have hpl : p < es.length := by omega
    obtain ⟨y, hy⟩ : ∃ y, es[p]? = some y := ⟨_, List.getElem?_eq_getElem hpl⟩
    refine m_ (h:=k_ (h:=f_ (h:=?_)))
    refine g_y (st_loadB1 rfl rfl h7 ?_)
    refine m_ (h:=?_)
    refine g_y (st_indexS (m := p) rfl rfl rfl hpl ?_)
    refine f_ (h:=?_)
    refine g_y (st_loadB1 rfl rfl (EB_get hy rfl) ?_)
    refine m_ (h:=lt_ (h:=pt_ (h:=e_ (?_))))
    refine aw_cond rfl (fun hb4 => ?_) (fun hb4 => ?_)
    · have hc4 := bp hb4
      refine kt_ (aw_block (aw_region (m_ (h:=ad_ (h:=a_ (h:=al_nil (x_blockN (?_))))))))
      refine x_then ?_
      refine ⟨es.length - (p + 1), _, by omega, ⟨p + 1, by omega, rfl, fun k e hk he => ?_, rfl⟩, weak_of 2 0 rfl rfl rfl (by simp [bpLtB, bp_EB, hbp]) (by repeat (first | exact Sub.nil | refine Sub.cons _ _ _ rfl rfl ?_ | refine Sub.any _ _ ?_ | refine Sub.sl _ _ _ _ _ rfl ?_ | refine Sub.slnil _ _ _ rfl ?_))⟩
      rcases Nat.lt_succ_iff_lt_or_eq.1 hk with h | rfl
      · exact hlt k e h he
      rw [hy] at he; injection he with he; subst he; exact hb4
    have hc4 := bp hb4
    refine aw_exit (x_thenE (x_thenE (ABlock_out (t_ (aw_region (m_ (h:=m_ (h:=k_ (h:=f_ (h:=?_))))))))))
    refine al_p rfl (st_loadB1 rfl rfl h7 ?_)
    refine m_ (h:=m_ (h:=m_ (h:=bd_ (h:=?_))))
    refine al_p rfl (st_slit1B rfl rfl rfl rfl (by repeat constructor) ?_)
    refine al_p rfl (s_callM [1, 2] rfl (.cons _ _ _ _ _ rfl (LeA.refl _) (.cons _ _ _ _ _ rfl (LeA.refl _) (.cons _ _ _ _ _ rfl (LeA.refl _) .nil))) (by decide) (.cons _ _ _ _ _ rfl (ren_EB _ _ _) (.cons _ _ _ _ _ rfl rfl .nil)) (PinsC es p (name, ino) cap hEn hp hc) ?_)
    rintro r bc tc ⟨rfl, rfl, rfl⟩
    refine ⟨rfl, _, (back_EC R es (insE es p (name, ino)) cap (name, ino) : Back _ [1, 2] _ [_, _, _]), ?_⟩
    refine k_ (h:=f_ (h:=?_))
    refine al_p0 (s_store rfl rfl rfl rfl rfl rfl (hset _) (by repeat constructor) ?_)
    refine al_nil (?_)
    refine abody_end (r := .tup []) none (by repeat (first | exact ResA.nil | (apply ResA.tmp; (focus exact rfl)) | (apply ResA.cellN; (focus exact inferInstance); (focus exact rfl); (focus exact rfl); (focus exact rfl)) | (apply ResA.cell1; (focus exact inferInstance); (focus exact rfl); (focus exact rfl); (focus exact rfl)))) rfl rfl (by show (bpLtL 2 0 (R1 (.bs 1 0 2 (es.length + 1) cap)) && (bpLtL 2 0 (EB (insE es p (name, ino)) cap) && true)) = true; rw [hbp3, bp_EB]; rfl) (LeA.refl _) ⟨rfl, rfl, ?_⟩
    rw [entL_ins hino hno hp hlt (fun e he => by rw [hy] at he; injection he with he; subst he; exact hb4)]
    rfl
  have hc3 := bp hb3
  refine g0_ (h:=g0_ (h:=g0_ (h:=g0_ (h:=g0_ (h:=g0_ (h:=g0_ (h:=g0_ (h:=g0_ (h:=g0_ (h:=pf_ (h:=e_ (cn_ (h:=aw_exit (x_thenE (x_thenE (ABlock_out (t_ (aw_region (m_ (h:=m_ (h:=k_ (h:=f_ (h:=?_)))))))))))))))))))))))
  refine al_p rfl (st_loadB1 rfl rfl h7 ?_)
  refine m_ (h:=m_ (h:=m_ (h:=bd_ (h:=?_))))
  refine al_p rfl (st_slit1B rfl rfl rfl rfl (by repeat constructor) ?_)
  refine al_p rfl (s_callM [1, 2] rfl (.cons _ _ _ _ _ rfl (LeA.refl _) (.cons _ _ _ _ _ rfl (LeA.refl _) (.cons _ _ _ _ _ rfl (LeA.refl _) .nil))) (by decide) (.cons _ _ _ _ _ rfl (ren_EB _ _ _) (.cons _ _ _ _ _ rfl rfl .nil)) (PinsC es p (name, ino) cap hEn hp hc) ?_)
  rintro r bc tc ⟨rfl, rfl, rfl⟩
  refine ⟨rfl, _, (back_EC R es (insE es p (name, ino)) cap (name, ino) : Back _ [1, 2] _ [_, _, _]), ?_⟩
  refine k_ (h:=f_ (h:=?_))
  refine al_p0 (s_store rfl rfl rfl rfl rfl rfl (hset _) (by repeat constructor) ?_)
  refine al_nil (?_)
  refine abody_end (r := .tup []) none (by repeat (first | exact ResA.nil | (apply ResA.tmp; (focus exact rfl)) | (apply ResA.cellN; (focus exact inferInstance); (focus exact rfl); (focus exact rfl); (focus exact rfl)) | (apply ResA.cell1; (focus exact inferInstance); (focus exact rfl); (focus exact rfl); (focus exact rfl)))) rfl rfl (by show (bpLtL 2 0 (R1 (.bs 1 0 2 (es.length + 1) cap)) && (bpLtL 2 0 (EB (insE es p (name, ino)) cap) && true)) = true; rw [hbp3, bp_EB]; rfl) (LeA.refl _) ⟨rfl, rfl, ?_⟩
  rw [entL_ins hino hno hp hlt (fun e he => by rw [List.getElem?_eq_none (by omega)] at he; cases he)]
  rfl

end
end Go.Proofs.Ythcbdkmhamhciaa
namespace Go.Proofs.Ythcbdkmhamhciaa
open Go.RowKit

theorem belF_anc {f : Fls} {q : Nat} {d : Dvc} (hv : VD d) (hq : f[q]? = some d) {top : Fil} : ∀ (n : Nat) (a : Fil) (m : Nod), a.1 = (q : Int) → m ∈ d.nodes → m.ino = a.2 → m.kind = 2 → belF f top n a = true → top.1 = (q : Int) ∧ ∃ k, AncN d.nodes k a.2 top.2
  | 0, _, _, _, _, _, _, h => by cases h
  | n + 1, a, m, ha, hm, hi, hk, h => by
    unfold belF at h
    split at h
    · cases h
    rename_i h1
    split at h
    · rename_i h2
      exact ⟨by omega, 0, by rw [h2]; rfl⟩
    have hn := node_asc ha hq hv.asc hm hi
    have hg : nodG f a = m := by simp [nodG, hn]
    rw [hg] at h
    by_cases h1' : m.ino = 1
    · have hp := (hv.isRoot hm h1').2
      have e : (a.1, m.parent) = a := Prod.ext rfl (by rw [hp, ← hi, h1'])
      rw [e] at h
      exact belF_anc hv hq n a m ha hm hi hk h
    obtain ⟨p, hp, hpi, e, he, _⟩ := hv.par m hm h1' hk
    obtain ⟨t1, k, hk'⟩ := belF_anc hv hq n (a.1, m.parent) p ha hp hpi (hv.dirOf hp he) h
    exact ⟨t1, k + 1, m, hm, hi, h1', hk, hk'⟩
theorem belP_anc {f : Fls} {q : Nat} {d : Dvc} (hv : VD d) (hq : f[q]? = some d) {top : Fil} : ∀ (n : Nat) (a : Fil) (m : Nod), a.1 = (q : Int) → m ∈ d.nodes → m.ino = a.2 → m.kind = 2 → belowP f top n a = true → ∃ k, AncN d.nodes k a.2 top.2
  | 0, _, _, _, _, _, _, h => by cases h
  | n + 1, a, m, ha, hm, hi, hk, h => by
    rw [below_succ] at h
    split at h
    · rename_i h2
      exact ⟨0, by rw [h2]; rfl⟩
    rw [node_asc ha hq hv.asc hm hi] at h
    simp only at h
    split at h
    · cases h
    rename_i h1'
    obtain ⟨p, hp, hpi, e, he, _⟩ := hv.par m hm h1' hk
    obtain ⟨k, hk'⟩ := belP_anc hv hq n (a.1, m.parent) p ha hp hpi (hv.dirOf hp he) h
    exact ⟨k + 1, m, hm, hi, h1', hk, hk'⟩
theorem anc_belP {f : Fls} {q : Nat} {d : Dvc} (hq : f[q]? = some d) (hd : Asc d.nodes) {top : Fil} (ht : top.1 = (q : Int)) : ∀ (k n : Nat) (a : Fil), k < n → a.1 = (q : Int) → AncN d.nodes k a.2 top.2 → belowP f top n a = true
  | _, 0, _, h, _, _ => by omega
  | 0, n + 1, a, _, ha, hk => by
    have e : a.2 = top.2 := hk
    rw [below_succ, if_pos (Prod.ext (by omega) e)]
  | k + 1, n + 1, a, h, ha, hk => by
    obtain ⟨m, hm, h1, h2, h3, h4⟩ := hk
    rw [below_succ]
    split
    · rfl
    rw [node_asc ha hq hd hm h1]
    simp only
    rw [if_neg h2]
    exact anc_belP hq hd ht k n _ (by omega) ha h4
theorem bel_same {f : Fls} {q : Nat} {d : Dvc} (hv : VD d) (hq : f[q]? = some d) {top a : Fil} {t m : Nod} (ht : top.1 = (q : Int)) (htm : t ∈ d.nodes) (hti : t.ino = top.2) (ha : a.1 = (q : Int)) (hm : m ∈ d.nodes) (hi : m.ino = a.2) (hk : m.kind = 2) : belowP f top d.nodes.length a = belF f top 17 a := by
  have hlen := hv.len
  rw [Bool.eq_iff_iff]
  constructor
  · intro h
    obtain ⟨k, hk'⟩ := belP_anc hv hq _ a m ha hm hi hk h
    have := hv.anc_len htm (by rw [hti]; exact hk')
    exact bel_anc hq hv.asc ht k 17 a (by omega) ha hk'
  intro h
  obtain ⟨-, k, hk'⟩ := belF_anc hv hq _ a m ha hm hi hk h
  have := hv.anc_len htm (by rw [hti]; exact hk')
  exact anc_belP hq hv.asc ht k _ a (by omega) ha hk'
def srcL (f : Fls) (src : Fil) (name : Str) (to : Fil) (name2 : Str) : Fil × Int :=
  if ordL (placeL f src name) (placeL f to name2) ≠ 0 then ((0, 0), ordL (placeL f src name) (placeL f to name2)) else if (lookL f src name).2 ≠ 0 then ((0, 0), (lookL f src name).2) else if src.1 ≠ to.1 then ((0, 0), 18) else
  if dirL f (lookL f src name).1 = true ∧ belowF f to (lookL f src name).1 = true then ((0, 0), 22) else ((lookL f src name).1, 0)
theorem place_none {f : Fls} {a : Fil} {name : Str} (h : nodeL f a = none) : placeL f a name = 2 := by unfold placeL; rw [h]
theorem place_some {f : Fls} {a : Fil} {name : Str} {n : Nod} (h : nodeL f a = some n) : placeL f a name = if n.kind = 2 then (if nameL name then 0 else 22) else 20 := by unfold placeL; rw [h]
theorem dirL_some {f : Fls} {a : Fil} {n : Nod} (h : nodeL f a = some n) : dirL f a = decide (n.kind = 2) := by rw [dirL_eq]; simp [hasG, nodG, h]
theorem dir_zero {f : Fls} {a : Fil} (h : dirL f a = true) : dirE f a = 0 := by
  rw [dirL_eq] at h
  unfold dirE
  cases hn : nodeL f a with
  | none => simp [hasG, hn] at h
  | some n => simp [hasG, nodG, hn] at h; simp [h]
section
set_option maxRecDepth 10000
set_option maxHeartbeats 2000000
theorem Psource (f : Fls) (src : Fil) (name : Str) (to : Fil) (name2 : Str) (hv : FlsV f) : AFn Try.prog 85 [.agg (flsA f), .agg (filA src), .v (.string name), .agg (filA to), .v (.string name2)] (fun r => r = .tup [.agg (filA (srcL f src name to name2).1), .v (.int .i64 (srcL f src name to name2).2)]) := by
  have hf := hv.b
  refine enter Try.func85 rfl rfl rfl rfl rfl 0 rfl ?_
  refine w_ (b_ (h:=b_ (h:=b_ (h:=al_ (h:=a_ (h:=e_ (q_ (w_ (l_ (h:=l_ (h:=?_)))))))))))
  refine al_p rfl (q_call (Pfind f src hf) ?_)
  rintro r (⟨e, rfl⟩ | ⟨n, e, rfl⟩)
  · skip
    first | refine al_p rfl (st_eqPnil (by kernel_rfl) rfl rfl ?_) | refine al_p rfl (st_eqPfp (by kernel_rfl) rfl rfl ?_)
    refine m_ (h:=?_)
    refine al_gs false rfl rfl (fun hb1 => ?_) (fun hb1 => ?_)
    · have hc1 := bp hb1
      refine g0_ (h:=g0_ (h:=g0_ (h:=g0_ (h:=pt_ (h:=e_ (cy_ (h:=w_ (bd_ (h:=s_ (h:=a_ (h:=e_ (aw_ret (x_thenR (?_))))))))))))))
      refine e_ret ?_
      rw [show srcL f src name to name2 = ((0, 0), 2) by simp [srcL, place_none e, ordL]]
      rfl
    have hc1 := bp hb1
    exfalso; first | contradiction | omega
  skip
  first | refine al_p rfl (st_eqPnil (by kernel_rfl) rfl rfl ?_) | refine al_p rfl (st_eqPfp (by kernel_rfl) rfl rfl ?_)
  refine m_ (h:=?_)
  refine al_gs false rfl rfl (fun hb2 => ?_) (fun hb2 => ?_)
  · have hc2 := bp hb2
    exfalso; first | contradiction | omega
  have hc2 := bp hb2
  refine l_ (h:=l_ (h:=?_))
  refine g_y (q_call (Pfind f to hf) ?_)
  rintro r (⟨e2, rfl⟩ | ⟨n2, e2, rfl⟩)
  · skip
    first | refine g_y (st_eqPnil (by kernel_rfl) rfl rfl ?_) | refine g_y (st_eqPfp (by kernel_rfl) rfl rfl ?_)
    refine pf_ (h:=e_ (?_))
    refine aw_cond rfl (fun hb3 => ?_) (fun hb3 => ?_)
    · have hc3 := bp hb3
      refine w_ (bd_ (h:=s_ (h:=a_ (h:=e_ (aw_ret (x_thenR (?_)))))))
      refine e_ret ?_
      rw [show srcL f src name to name2 = ((0, 0), 2) by simp [srcL, place_none e2, ordL]]
      rfl
    have hc3 := bp hb3
    exfalso; first | contradiction | omega
  skip
  first | refine g_y (st_eqPnil (by kernel_rfl) rfl rfl ?_) | refine g_y (st_eqPfp (by kernel_rfl) rfl rfl ?_)
  refine pf_ (h:=e_ (?_))
  refine aw_cond rfl (fun hb4 => ?_) (fun hb4 => ?_)
  · have hc4 := bp hb4
    exfalso; first | contradiction | omega
  have hc4 := bp hb4
  refine kt_ (q_ (w_ (l_ (h:=l_ (h:=?_)))))
  refine al_p rfl (q_call (PisDir f src hf) ?_)
  rintro r rfl
  refine nt_ (h:=m_ (h:=?_))
  refine al_gs false rfl rfl (fun hb5 => ?_) (fun hb5 => ?_)
  · have hc5 := bp hb5
    refine g0_ (h:=g0_ (h:=g0_ (h:=g0_ (h:=pt_ (h:=e_ (cy_ (h:=w_ (bd_ (h:=s_ (h:=a_ (h:=e_ (aw_ret (x_thenR (?_))))))))))))))
    refine e_ret ?_
    rw [show srcL f src name to name2 = ((0, 0), 20) by (have h1 := dirL_some e; have h2 := dirL_some e2; by_cases k1 : n.kind = 2 <;> by_cases k2 : n2.kind = 2 <;> by_cases m1 : nameL name = true <;> by_cases m2 : nameL name2 = true <;> simp_all [srcL, place_some e, place_some e2, ordL])]
    rfl
  have hc5 := bp hb5
  refine l_ (h:=l_ (h:=?_))
  refine g_y (q_call (PisDir f to hf) ?_)
  rintro r rfl
  refine nt_ (h:=pf_ (h:=e_ (?_)))
  refine aw_cond rfl (fun hb6 => ?_) (fun hb6 => ?_)
  · have hc6 := bp hb6
    refine w_ (bd_ (h:=s_ (h:=a_ (h:=e_ (aw_ret (x_thenR (?_)))))))
    refine e_ret ?_
    rw [show srcL f src name to name2 = ((0, 0), 20) by (have h1 := dirL_some e; have h2 := dirL_some e2; by_cases k1 : n.kind = 2 <;> by_cases k2 : n2.kind = 2 <;> by_cases m1 : nameL name = true <;> by_cases m2 : nameL name2 = true <;> simp_all [srcL, place_some e, place_some e2, ordL])]
    rfl
  have hc6 := bp hb6
  refine kt_ (q_ (w_ (m_ (h:=?_))))
  refine al_p rfl (q_call (Pname name) ?_)
  rintro r rfl
  refine nt_ (h:=m_ (h:=?_))
  refine al_gs false rfl rfl (fun hb7 => ?_) (fun hb7 => ?_)
  · have hc7 := bp hb7
    refine g0_ (h:=g0_ (h:=g0_ (h:=pt_ (h:=e_ (cy_ (h:=w_ (bd_ (h:=s_ (h:=a_ (h:=e_ (aw_ret (x_thenR (?_)))))))))))))
    refine e_ret ?_
    rw [show srcL f src name to name2 = ((0, 0), 22) by (have h1 := dirL_some e; have h2 := dirL_some e2; by_cases k1 : n.kind = 2 <;> by_cases k2 : n2.kind = 2 <;> by_cases m1 : nameL name = true <;> by_cases m2 : nameL name2 = true <;> simp_all [srcL, place_some e, place_some e2, ordL])]
    rfl
  have hc7 := bp hb7
  refine m_ (h:=?_)
  refine g_y (q_call (Pname name2) ?_)
  rintro r rfl
  refine nt_ (h:=pf_ (h:=e_ (?_)))
  refine aw_cond rfl (fun hb8 => ?_) (fun hb8 => ?_)
  · have hc8 := bp hb8
    refine w_ (bd_ (h:=s_ (h:=a_ (h:=e_ (aw_ret (x_thenR (?_)))))))
    refine e_ret ?_
    rw [show srcL f src name to name2 = ((0, 0), 22) by (have h1 := dirL_some e; have h2 := dirL_some e2; by_cases k1 : n.kind = 2 <;> by_cases k2 : n2.kind = 2 <;> by_cases m1 : nameL name = true <;> by_cases m2 : nameL name2 = true <;> simp_all [srcL, place_some e, place_some e2, ordL])]
    rfl
  have hc8 := bp hb8
  have hp1 : placeL f src name = 0 := by rw [place_some e]; rw [dirL_some e] at hc5; simp_all
  have hp2 : placeL f to name2 = 0 := by rw [place_some e2]; rw [dirL_some e2] at hc6; simp_all
  have hord : ordL (placeL f src name) (placeL f to name2) = 0 := by rw [hp1, hp2]; rfl
  refine kt_ (w_ (l_ (h:=l_ (h:=m_ (h:=?_)))))
  refine al_p rfl (q_call (Pentry f src name hf) ?_)
  rintro r rfl
  refine m_ (h:=x_ (h:=x_ (h:=al_ (h:=s_ (h:=a_ (h:=e_ (q_ (w_ (m_ (h:=nt_ (h:=e_ (?_))))))))))))
  refine aw_cond rfl (fun hb9 => ?_) (fun hb9 => ?_)
  · have hc9 := bp hb9
    refine w_ (bd_ (h:=s_ (h:=a_ (h:=e_ (aw_ret (x_thenR (?_)))))))
    refine e_ret ?_
    rw [show srcL f src name to name2 = ((0, 0), 2) by rw [srcL, hord, if_neg (by decide), lkE_two (dir_zero (by simpa using hc5)) (by simpa using hc9), if_pos (by decide)]]
    rfl
  have hc9 := bp hb9
  have hlk : lookL f src name = ((entP f src name).1, 0) := lkE_yes (dir_zero (by simpa using hc5)) (by simpa using hc9)
  refine kt_ (q_ (w_ (f_ (h:=l_ (h:=f_ (h:=l_ (h:=nq_ (h:=e_ (?_)))))))))
  refine aw_cond rfl (fun hb10 => ?_) (fun hb10 => ?_)
  · have hc10 := bp hb10
    refine w_ (bd_ (h:=s_ (h:=a_ (h:=e_ (aw_ret (x_thenR (?_)))))))
    refine e_ret ?_
    rw [show srcL f src name to name2 = ((0, 0), 18) by rw [srcL, hord, if_neg (by decide), hlk, if_neg (not_not_intro rfl), if_pos (by simpa using hc10)]]
    rfl
  have hc10 := bp hb10
  have hdev : src.1 = to.1 := hc10
  refine kt_ (q_ (w_ (l_ (h:=l_ (h:=?_)))))
  refine al_p rfl (q_call (PisDir f (entP f src name).1 hf) ?_)
  rintro r rfl
  refine m_ (h:=?_)
  refine al_gs true rfl rfl (fun hb11 => ?_) (fun hb11 => ?_)
  · have hc11 := bp hb11
    obtain ⟨q, i, d, n0, hdq, hq, hn0, hino, hidx, hnode, hk0, hnm⟩ := place_ok hp1
    obtain ⟨q2, i2, d2, n02, hdq2, hq2, hn02, hino2, hidx2, hnode2, hk02, hnm2⟩ := place_ok hp2
    obtain rfl : q = q2 := by omega
    obtain rfl : d = d2 := Option.some.inj (hq.symm.trans hq2)
    have hvd := hv.vd d (List.mem_of_getElem? hq)
    obtain ⟨ee, m, he, hle, hm, hem, he1, hmn⟩ := look_node hv hdq hq hn0 hnode hk0 (name := name) (by rw [hlk])
    have hatq : (entP f src name).1.1 = (q : Int) := by rw [hlk] at hle; rw [show (entP f src name).1 = (src.1, ee.2) from congrArg Prod.fst hle]; exact hdq
    have hati : m.ino = (entP f src name).1.2 := by rw [hlk] at hle; rw [show (entP f src name).1 = (src.1, ee.2) from congrArg Prod.fst hle]; exact hem.symm
    have hbs := bel_same hvd hq hatq hm hati hdq2 (List.mem_of_getElem? hn02) hino2 hk02
    refine l_ (h:=l_ (h:=l_ (h:=?_)))
    refine g_y (q_call (Pbelow f (entP f src name).1 to q d hf hatq hq) ?_)
    rintro r rfl
    refine pt_ (h:=e_ (?_))
    refine aw_cond rfl (fun hb12 => ?_) (fun hb12 => ?_)
    · have hc12 := bp hb12
      refine w_ (bd_ (h:=s_ (h:=a_ (h:=e_ (aw_ret (x_thenR (?_)))))))
      refine e_ret ?_
      rw [show srcL f src name to name2 = ((0, 0), 22) by rw [srcL, hord, if_neg (by decide), hlk, if_neg (not_not_intro rfl), if_neg (by simpa using hdev), if_pos ⟨hc11, hbs.symm.trans hc12⟩]]
      rfl
    have hc12 := bp hb12
    refine kt_ (w_ (l_ (h:=s_ (h:=a_ (h:=e_ (aw_ret (?_)))))))
    refine e_ret ?_
    rw [show srcL f src name to name2 = ((entP f src name).1, 0) by rw [srcL, hord, if_neg (by decide), hlk, if_neg (not_not_intro rfl), if_neg (by simpa using hdev), if_neg (fun h => absurd (show belF f (entP f src name).1 17 to = true from h.2) (by rw [← hbs, hc12]; simp))]]
    rfl
  have hc11 := bp hb11
  refine g0_ (h:=g0_ (h:=g0_ (h:=g0_ (h:=pf_ (h:=e_ (cn_ (h:=kt_ (w_ (l_ (h:=s_ (h:=a_ (h:=e_ (aw_ret (?_))))))))))))))
  refine e_ret ?_
  rw [show srcL f src name to name2 = ((entP f src name).1, 0) by rw [srcL, hord, if_neg (by decide), hlk, if_neg (not_not_intro rfl), if_neg (by simpa using hdev), if_neg (fun h => by rw [h.1] at hc11; cases hc11)]]
  rfl

end
end Go.Proofs.Ythcbdkmhamhciaa
