/-
  Part 13 of the proof of FilesKeepP: what the statement's proof uses of the texts in wip/tpl.
-/
import Derived.Lib.Overlaps
import Derived.Test.YthcbdkmhamhciaaQk12
namespace Go.Proofs.Ythcbdkmhamhciaa
open Go.RowKit
def RowN (r : List AV) (n : Nod) : Prop := ∃ e, r = nodX n e ∧ (e = .sl 2 (n.entries.map entA) none ∨ (e = .v (.slice none 0 0) ∧ n.entries = []))
def RowsN (RN : List (List AV)) (ns : List Nod) : Prop := RN.length = ns.length ∧ ∀ (k : Nat) (r : List AV) (n : Nod), RN[k]? = some r → ns[k]? = some n → RowN r n
theorem rowN_A (n : Nod) : RowN (nodA n) n := ⟨_, rfl, .inl rfl⟩
theorem rowN_F (n : Nod) : RowN (nodF n) n := by
 refine ⟨entX n.entries, rfl, ?_⟩
 unfold entX
 split
 ·rename_i h; exact .inr ⟨rfl, h⟩
 exact .inl rfl
theorem rowsN_F (ns : List Nod) : RowsN (ns.map nodF) ns := ⟨by simp, fun k r n h1 h2 => by rw [List.getElem?_map, h2] at h1; injection h1 with h1; subst h1; exact rowN_F n⟩
theorem RowsN.set {RN : List (List AV)} {ns : List Nod} (h : RowsN RN ns) (i : Nat) {r : List AV} {n : Nod} (hr : RowN r n) : RowsN (RN.set i r) (ns.set i n) := by
 refine ⟨by simp [h.1], fun k r' n' h1 h2 => ?_⟩
 rw [List.getElem?_set] at h1 h2
 have hl := h.1
 split at h1
 ·rename_i e
  rw [if_pos e] at h2
  split at h1
  ·rw [if_pos (by omega)] at h2
   injection h1 with h1
   injection h2 with h2
   subst h1 h2
   exact hr
  cases h1
 rename_i e
 rw [if_neg e] at h2
 exact h.2 k r' n' h1 h2
theorem RowsN.erase {RN : List (List AV)} {ns : List Nod} (h : RowsN RN ns) (i : Nat) : RowsN (RN.eraseIdx i) (ns.eraseIdx i) := by
 have hl := h.1
 refine ⟨by rw [List.length_eraseIdx, List.length_eraseIdx, hl], fun k r n h1 h2 => ?_⟩
 rw [List.getElem?_eraseIdx] at h1 h2
 split at h1
 ·rename_i e
  rw [if_pos e] at h2
  exact h.2 k r n h1 h2
 rename_i e
 rw [if_neg e] at h2
 exact h.2 _ r n h1 h2
theorem RowN.le {r : List AV} {n : Nod} (h : RowN r n) : LeFL r (nodA n) := by
 obtain ⟨e, rfl, h⟩ := h
 refine ⟨rfl, fun i x y hx hy => ?_⟩
 match i, hx, hy with
 | 0, hx, hy => injection hx with hx; injection hy with hy; subst hx hy; exact LeF.refl _
 | 1, hx, hy => injection hx with hx; injection hy with hy; subst hx hy; exact LeF.refl _
 | 2, hx, hy => injection hx with hx; injection hy with hy; subst hx hy; exact LeF.refl _
 | 3, hx, hy => injection hx with hx; injection hy with hy; subst hx hy; exact LeF.refl _
 | 4, hx, hy => injection hx with hx; injection hy with hy; subst hx hy; exact LeF.refl _
 | 5, hx, hy => injection hx with hx; injection hy with hy; subst hx hy; exact LeF.refl _
 | 6, hx, hy => injection hx with hx; injection hy with hy; subst hx hy; exact LeF.refl _
 | 7, hx, hy =>
   injection hx with hx; injection hy with hy; subst hx hy
   rcases h with rfl | ⟨rfl, h⟩
   ·exact LeF.refl _
   rw [h]; exact LeF.nil _
 | i + 8, hx, hy => simp [nodX] at hx
def PlnR (RN : List (List AV)) : Prop := ∀ r ∈ RN, ∀ x ∈ r, (∃ v, x = .v v) ∨ ∃ sz rows, x = .sl sz rows none
theorem RowN.pln {r : List AV} {n : Nod} (h : RowN r n) : r.length = 8 ∧ ∀ x ∈ r, (∃ v, x = .v v) ∨ ∃ sz rows, x = .sl sz rows none := by
 obtain ⟨e, rfl, h⟩ := h
 refine ⟨rfl, fun x hx => ?_⟩
 simp only [nodX, List.mem_cons, List.not_mem_nil, or_false] at hx
 rcases hx with rfl | rfl | rfl | rfl | rfl | rfl | rfl | rfl
 all_goals first | exact .inl ⟨_, rfl⟩ | skip
 rcases h with rfl | ⟨rfl, _⟩
 ·exact .inr ⟨_, _, rfl⟩
 exact .inl ⟨_, rfl⟩
theorem RowsN.mem {RN : List (List AV)} {ns : List Nod} (h : RowsN RN ns) {r : List AV} (hr : r ∈ RN) : ∃ n ∈ ns, RowN r n := by
 obtain ⟨k, hk⟩ := List.getElem?_of_mem hr
 have hl := h.1
 have hkl := (List.getElem?_eq_some_iff.1 hk).1
 have hn : ns[k]? = some ns[k] := List.getElem?_eq_getElem (by omega)
 exact ⟨_, List.mem_of_getElem? hn, h.2 k r _ hk hn⟩
theorem RowsN.pln {RN : List (List AV)} {ns : List Nod} (h : RowsN RN ns) : PlnR RN := fun r hr => by
 obtain ⟨n, _, hn⟩ := h.mem hr
 exact hn.pln.2
theorem RowsN.eight {RN : List (List AV)} {ns : List Nod} (h : RowsN RN ns) : ∀ r ∈ RN, r.length = 8 := fun r hr => by
 obtain ⟨n, _, hn⟩ := h.mem hr
 exact hn.pln.1
theorem RowsN.ino {RN : List (List AV)} {ns : List Nod} (h : RowsN RN ns) {cap : Nat} (j : Nat) (x : Nod) (hx : ns[j]? = some x) : (rowsB 8 cap RN)[0 + j * 8 + 0]? = some (.v (.int .i64 x.ino)) := by
 have hl := h.1
 have hjl := (List.getElem?_eq_some_iff.1 hx).1
 have hr : RN[j]? = some RN[j] := List.getElem?_eq_getElem (by omega)
 obtain ⟨e, he, _⟩ := h.2 j _ x hr hx
 exact rowsB_get h.eight hr (by rw [he]; rfl)
theorem map_pln {F : AV → AV} (hany : F .any = .any) (hv : ∀ x, F (.v x) = .v x) (hs : ∀ sz rows, F (.sl sz rows none) = .sl sz rows none) {RN : List (List AV)} (h : PlnR RN) (sz cap : Nat) : (rowsB sz cap RN).map F = rowsB sz cap RN := by
 rw [rowsB_map F hany]
 congr 1
 conv => rhs; rw [← List.map_id RN]
 apply List.map_congr_left
 intro r hr
 conv => rhs; rw [id, ← List.map_id r]
 apply List.map_congr_left
 intro x hx
 rcases h r hr x hx with ⟨v, rfl⟩ | ⟨sz, rows, rfl⟩
 ·exact hv v
 exact hs sz rows
theorem ren_pln (g : Nat → Option Nat) {RN : List (List AV)} (h : PlnR RN) (sz cap : Nat) : renL g (rowsB sz cap RN) = rowsB sz cap RN := by
 rw [renL_map]; exact map_pln rfl (fun _ => rfl) (fun _ _ => rfl) h sz cap
theorem renK_pln (g : Nat → Option Nat) {RN : List (List AV)} (h : PlnR RN) (sz cap : Nat) : renKL g (rowsB sz cap RN) = rowsB sz cap RN := by
 rw [renKL_map]; exact map_pln rfl (fun _ => rfl) (fun _ _ => rfl) h sz cap
theorem liv_pln (n : Nat) (g : Nat → Option (List AV)) {RN : List (List AV)} (h : PlnR RN) (sz cap : Nat) : livL n g (rowsB sz cap RN) = rowsB sz cap RN := by
 rw [livL_map]; exact map_pln rfl (fun _ => rfl) (fun _ _ => rfl) h sz cap
theorem low_pln (g : Nat → Option (List AV)) {RN : List (List AV)} (h : PlnR RN) (sz cap : Nat) : lowGL g (rowsB sz cap RN) = rowsB sz cap RN := by
 rw [lowGL_map]; exact map_pln rfl (fun _ => rfl) (fun _ _ => rfl) h sz cap
theorem bp_pln {n m : Nat} {RN : List (List AV)} (h : PlnR RN) (sz cap : Nat) : bpLtL n m (rowsB sz cap RN) = true := by
 refine bpLt_rowsB fun r hr => bpLtL_all.2 fun x hx => ?_
 rcases h r hr x hx with ⟨v, rfl⟩ | ⟨sz, rows, rfl⟩ <;> rfl
theorem liv_DB {n : Nat} {g : Nat → Option (List AV)} {j : Nat} (hj : Nat.blt j n = true) (f : Fls) (K : Nat) (d : Dvc) (cap cap1 : Nat) : livL n g (DB f K d j cap cap1) = DB f K d j cap cap1 := by
 rw [livL_map]
 exact map_DB rfl (fun _ => rfl) (fun _ _ => rfl) f K d cap cap1 (by simp [liv, hj])
theorem frz_pln {n : Nat} {bx : List (List AV)} {k j sz cap : Nat} {RN : List (List AV)} (hn : n ≤ j) (hj : bx[j]? = some (rowsB sz cap RN)) (h : PlnR RN) : frzG n bx (k + 1) j = some (rowsB sz cap RN) := by
 have : Nat.blt j n = false := by rw [← Bool.not_eq_true, Nat.blt_eq]; omega
 simp only [frzG, this, hj, Option.map_some, low_pln _ h]
theorem low_rows {n : Nat} {bx : List (List AV)} {i0 i1 : Nat} {f : Fls} {q : Nat} {d : Dvc} {RN : List (List AV)} {cap cap0 cap1 : Nat} (hR : RowsN RN d.nodes) (hq : q < f.length) (hc : f.length ≤ cap) (hc1 : d.nodes.length ≤ cap1) (hn0 : n ≤ i0) (hn1 : n ≤ i1) (h0 : bx[i0]? = some (DB f q d i1 cap cap1)) (h1 : bx[i1]? = some (rowsB 8 cap1 RN)) :
    lowG (frzG n bx 3) (.bs i0 0 2 f.length cap0) = .sl 2 (resD f q d RN) none := by
 have b0 : Nat.blt i0 n = false := by rw [← Bool.not_eq_true, Nat.blt_eq]; omega
 have hl := hR.1
 have hb : lowG (frzG n bx 2) (.bs i1 0 8 d.nodes.length cap1) = .sl 8 RN none := lowG_rows (frz_pln hn1 h1 hR.pln) hR.eight hl.symm (by omega)
 have f0 : frzG n bx 3 i0 = some (rowsB 2 cap (resD f q d RN)) := by
  rw [frzG, b0]
  simp only [h0, Option.map_some]
  rw [lowGL_map]
  unfold DB devB resD
  rw [rowsB_map (lowG (frzG n bx 2)) rfl, List.map_set, map_dvcs rfl (fun _ => rfl) (fun _ _ => rfl)]
  congr 3
  simp only [devR, List.map_cons, List.map_nil, hb]
  rfl
 exact lowG_rows f0 (fun r hr => by
  unfold resD at hr
  rcases List.mem_or_eq_of_mem_set hr with h | h
  ·exact dvcs_two _ r h
  rw [h]; rfl) (by simp [resD]) (by simpa [resD] using hc)
theorem liv_rowsN {n : Nat} {bx : List (List AV)} {i0 i1 : Nat} {f : Fls} {q : Nat} {d : Dvc} {RN : List (List AV)} {cap cap0 cap1 : Nat} (hR : RowsN RN d.nodes) (hq : q < f.length) (hc : f.length ≤ cap) (hc1 : d.nodes.length ≤ cap1) (hn0 : n ≤ i0) (hn1 : n ≤ i1) (h0 : bx[i0]? = some (DB f q d i1 cap cap1)) (h1 : bx[i1]? = some (rowsB 8 cap1 RN)) :
    livL n (frzG n bx 3) [.bs i0 0 2 f.length cap0] = [.sl 2 (resD f q d RN) none] := by
 have b0 : Nat.blt i0 n = false := by rw [← Bool.not_eq_true, Nat.blt_eq]; omega
 simp only [livL, liv, b0, low_rows hR hq hc hc1 hn0 hn1 h0 h1]
theorem resD_leN {f : Fls} {q : Nat} {d : Dvc} {RN : List (List AV)} (hR : RowsN RN d.nodes) : LeA (.agg [.sl 2 (resD f q d RN) none]) (.agg (flsA (f.set q d))) :=
 resD_le rfl hR.1 fun k r m h1 h2 => (hR.2 k r m h1 h2).le
section
variable {P : Program} {ev : Operand → Option AV} {h : AH} {R : AV → AH → Prop} {d : Option Tmp} {ty : TypeId} {pos : String} {af : Array Edge} {gd : Option (Nat × Bool)}
theorem st_eqPbp {T yT : TypeId} {x y : Operand} {i o : Nat} (hp : P.underlying T = some (.pointer (P.pointee T))) (hx : ev x = some (.bp i o)) (hy : ev y = some (.v (.pointer none))) (hR : R (.v (.bool false)) h) : AStep P ⟨d, .binOp .eql T x y yT, ty, pos, af, gd⟩ ev h R := by
 refine st_val (fun _ G w ec _ he => ?_) hR
 have h1 := he x (by simp [Op.operands]) _ hx
 have h2 := he y (by simp [Op.operands]) _ hy
 simp only [rep] at h1 h2
 obtain ⟨b, h3, h4⟩ := h1
 refine ⟨.bool false, ?_, by simp only [rep]⟩
 simp [execOp, h2, h4, eqGuard, run_eql_pointer_nil (P := P) (w := w) T (some ⟨b, o, none⟩) hp]
end
theorem rows_put {rows : List (List AV)} {cap i : Nat} {y x : List AV} (h8 : ∀ r ∈ rows, r.length = 8) (hx : x.length = 8) (h : rows[i]? = some y) : SetAt (rowsB 8 cap rows) (0 + i * 8) x (rowsB 8 cap (rows.set i x)) := by
 have hy := h8 y (List.mem_of_getElem? h)
 have hw : SetAt y 0 x x := by
  have := SetAt.whole (xs := x) (l := y) (b := []) (by omega)
  simpa using this
 exact rowsB_set (k := 0) h8 h hw (fun e => by rw [e] at hx; cases hx)
theorem rows_cut {rows : List (List AV)} {cap i : Nat} (h8 : ∀ r ∈ rows, r.length = 8) (hi : i ≤ rows.length) (hc : rows.length ≤ cap) : (rowsB 8 cap rows).take (0 + i * 8) ++ List.replicate ((rowsB 8 cap rows).length - (0 + i * 8)) .any = rowsB 8 cap (rows.take i) := by
 rw [rowsB_len h8 hc]
 have h1 : (rowsB 8 cap rows).take (0 + i * 8) = (rows.take i).flatten := by
  unfold rowsB
  rw [Nat.zero_add, List.take_append_of_le_length (by rw [flat_len h8]; omega)]
  conv => lhs; rw [← List.take_append_drop i rows, List.flatten_append]
  rw [List.take_left' (by rw [flat_len (fun r hr => h8 r (List.mem_of_mem_take hr))]; simp [hi])]
 rw [h1]
 unfold rowsB
 congr 1
 congr 1
 simp [Nat.sub_mul, hi]
theorem take_setN {α : Type} {l : List α} {i : Nat} {x : α} (h : i < l.length) : (l.set i x).take (i + 1) = l.take i ++ [x] := by
 rw [List.take_succ_eq_append_getElem (by simpa using h), List.getElem_set_self]
 congr 1
 apply List.ext_getElem?
 intro k
 rw [List.getElem?_take, List.getElem?_take]
 split
 ·rw [List.getElem?_set_ne (by omega)]
 rfl
theorem drop_setN {α : Type} {l : List α} {i j : Nat} {x : α} (h : i < j) : (l.set i x).drop j = l.drop j := by
 apply List.ext_getElem?
 intro k
 rw [List.getElem?_drop, List.getElem?_drop, List.getElem?_set_ne (by omega)]
theorem drop_getN {α : Type} {l l' : List α} {j : Nat} (h : l.drop j = l'.drop j) : l[j]? = l'[j]? ∧ l.drop (j + 1) = l'.drop (j + 1) := by
 have h1 := congrArg (fun x => x[0]?) h
 simp only [List.getElem?_drop, Nat.add_zero] at h1
 refine ⟨h1, ?_⟩
 rw [← List.drop_drop, ← List.drop_drop, h]
theorem pln_set {RN rows : List (List AV)} (hR : PlnR RN) (hm : ∀ r ∈ rows, r ∈ RN) {i j : Nat} {r : List AV} (hr : RN[j]? = some r) : PlnR (rows.set i r) := fun s hs => by
 rcases List.mem_or_eq_of_mem_set hs with h | h
 ·exact hR s (hm s h)
 rw [h]; exact hR r (List.mem_of_getElem? hr)
theorem erase_take {α : Type} {l : List α} {k j : Nat} {x : α} (hk : k ≤ j) (hx : l[j + 1]? = some x) : (l.eraseIdx k).take (j + 1) = (l.eraseIdx k).take j ++ [x] := by
 rw [List.take_add_one, List.getElem?_eraseIdx, if_neg (by omega), hx]
 rfl
section
set_option maxRecDepth 10000
set_option maxHeartbeats 1000000
theorem PrelF1 (n : Nod) (a : Fil) : AFn Try.prog 105 [.agg (nodA n), .fp (filA a)] (fun r => r = .v (.bool (decide (n.ino = a.2)))) := by
 refine enter Try.func105 rfl rfl rfl rfl rfl 0 rfl ?_
 refine w_ (b_ (h:=a_ (h:=e_ (w_ (f_ (h:=l_ (h:=f_ (h:=l_ (h:=eq_ (h:=a_ (h:=e_ (aw_ret (?_)))))))))))))
 refine e_ret ?_
 rfl
theorem PrelF2 (n : Nod) (a : Fil) : AFn Try.prog 105 [.agg (nodX n (.v (.slice none 0 0))), .fp (filA a)] (fun r => r = .v (.bool (decide (n.ino = a.2)))) := by
 refine enter Try.func105 rfl rfl rfl rfl rfl 0 rfl ?_
 refine w_ (b_ (h:=a_ (h:=e_ (w_ (f_ (h:=l_ (h:=f_ (h:=l_ (h:=eq_ (h:=a_ (h:=e_ (aw_ret (?_)))))))))))))
 refine e_ret ?_
 rfl
theorem PidxN (ns : List Nod) (a : Fil) (hm : ns.length ≤ 1000) : AFn Try.prog 113 [.sl 8 (ns.map nodA) none, .fn 105 [.fp (filA a)]] (fun r => r = .v (.int .i64 (idxBy (fun m : Nod => decide (m.ino = a.2)) ns))) := by
 refine enter Try.func113 rfl rfl rfl rfl rfl 0 rfl ?_
 refine w_ (a_ (h:=e_ (q_ (w_ (m_ (h:=n_ (h:=m_ (h:=e_ (aw_block (?_))))))))))
 refine aw_loopW (fun m t => ∃ j : Nat, j ≤ ns.length ∧ m = ns.length - j ∧ (∀ i y, i < j → ns[i]? = some y → decide (y.ino = a.2) = false) ∧ t = ⟨look [(0, .sl 8 (ns.map nodA) none), (1, .fn 105 [.fp (filA a)]), (7, .v (.int .i64 ((ns.map nodA).length : Int))), (8, .v (.int .i64 (j : Int)))], ⟨[], []⟩⟩) (ns.length) ((wk 0 0)) (⟨0, by omega, rfl, fun i y hi => by omega, rfl⟩) ?_
 rintro m t ⟨j, hj, rfl, ha, rfl⟩
 refine w_ (lt_ (h:=e_ (q_ (?_))))
 refine aw_cond rfl (fun hb1 => ?_) (fun hb1 => ?_)
 ·have hc1 := bp hb1
  obtain ⟨hlt, x, hy, hrow, -⟩ := row_at nodA hc1
  refine kt_ (q_ (aw_block (w_ (m_ (h:=a_ (h:=e_ (w_ (m_ (h:=m_ (h:=m_ (h:=i_ (h:=l_ (h:=?_)))))))))))))
  refine al_p rfl (st_callC (cy := []) (ys := [.agg (nodA x)]) rfl (by repeat (first | exact Args.nil | refine Args.cons _ _ _ _ _ rfl (argOk_clean rfl) ?_ | refine Args.cons _ _ _ _ _ rfl (argOk_nil _) ?_ | refine Args.cons _ _ _ _ _ rfl (argOk_era _) ?_ | refine Args.cons _ _ _ _ _ rfl (argOk_le rfl (by repeat (first | exact LeA.refl _ | exact LeA.nil _ | exact LeL.refl _ | refine LeA.agg ?_ | refine LeA.tup ?_ | exact LeL.nil | refine LeL.cons ?_ ?_ | exact LeA.any _))) ?_)) rfl rfl (PrelF1 x a) ?_)
  rintro r rfl
  refine e_ (?_)
  refine aw_cond rfl (fun hb2 => ?_) (fun hb2 => ?_)
  ·have hc2 := bp hb2
   refine w_ (m_ (h:=a_ (h:=e_ (aw_ret (x_blockR (x_thenR (x_thenR (x_blockR (x_thenR (?_))))))))))
   refine e_ret ?_
   exact vi (idxBy_first hy (decide_eq_true hc2) ha).symm
  have hc2 := bp hb2
  refine aw_skip (x_blockN (t_ (aw_region (ad_ (h:=m_ (h:=al_nil (?_)))))))
  refine x_then ?_
  refine ⟨_, _, ?_, ⟨j + 1, by omega, rfl, upto_snoc hy ha (decide_eq_false hc2), rfl⟩, (wk 0 0)⟩
  omega
 have hc1 := bp hb1
 have e3 := row_no nodA hj hc1
 subst e3
 refine aw_exit (x_thenE (x_thenE (ABlock_out (t_ (w_ (a_ (h:=e_ (aw_ret (?_)))))))))
 refine e_ret ?_
 exact vi (idxBy_none ha).symm
theorem PdelN (ns : List Nod) (RN : List (List AV)) (a : Fil) (k cap : Nat) (hR : RowsN RN ns) (hm : ns.length ≤ 1000) (hcap : ns.length ≤ cap) (hk : ∃ n, ns[k]? = some n ∧ n.ino = a.2) (hun : ∀ i n, ns[i]? = some n → i ≠ k → n.ino ≠ a.2) : ACall Try.prog 104 [.bs 0 0 8 ns.length cap, .fn 105 [.fp (filA a)]] [rowsB 8 cap RN] (fun r b t => t = [] ∧ r = .bs 0 0 8 (ns.length - 1) cap ∧ b = [rowsB 8 cap (RN.eraseIdx k)]) := by
 obtain ⟨nk, hnk, hnki⟩ := hk
 have hkl := (List.getElem?_eq_some_iff.1 hnk).1
 have hRl := hR.1
 have hidx : idxBy (fun m : Nod => decide (m.ino = a.2)) ns = (k : Int) := idxBy_first hnk (decide_eq_true hnki) fun i n hi hn => decide_eq_false (hun i n hn (by omega))
 have hle : LeA (lowG (frzG 0 [rowsB 8 cap RN] 1) (.bs 0 0 8 ns.length cap)) (.sl 8 (ns.map nodA) none) := by
  rw [lowG_rows (rows := RN) (frz_pln (n := 0) (k := 0) (j := 0) (Nat.zero_le _) rfl hR.pln) hR.eight hRl.symm (by omega)]
  exact LeF.toA (LeF.rows (by simp [hRl]) fun i r r' h1 h2 => by
   rw [List.getElem?_map] at h2
   cases hn : ns[i]? with
   | none => rw [hn] at h2; cases h2
   | some n =>
     rw [hn] at h2
     injection h2 with h2
     subst h2
     exact (hR.2 i r n h1 hn).le)
 refine enter Try.func104 rfl rfl rfl rfl rfl 1 rfl ?_
 refine w_ (a_ (h:=e_ (w_ (m_ (h:=m_ (h:=?_))))))
 refine al_p rfl (s_callR 1 rfl (.cons _ _ _ _ _ rfl hle (.cons _ _ _ _ _ rfl (LeA.refl _) .nil)) (PidxN ns a hm) ?_)
 rintro r rfl
 refine ⟨rfl, ?_⟩
 rw [hidx]
 refine a_ (h:=e_ (q_ (w_ (m_ (h:=eq_ (h:=e_ (?_)))))))
 refine aw_cond rfl (fun hb1 => ?_) (fun hb1 => ?_)
 ·have hc1 := bp hb1
  exfalso
  omega
 have hc1 := bp hb1
 refine kt_ (q_ (w_ (m_ (h:=?_))))
 refine al_p rfl (st_add64 rfl rfl (by omega) ?_)
 refine a_ (h:=e_ (aw_block (?_)))
 refine aw_loopW (fun m t => ∃ (i : Nat) (rows : List (List AV)), k ≤ i ∧ i + 1 ≤ ns.length ∧ m = ns.length - (i + 1) ∧ rows.length = ns.length ∧ (∀ r ∈ rows, r ∈ RN) ∧ rows.take i = (RN.eraseIdx k).take i ∧ rows.drop (i + 1) = RN.drop (i + 1) ∧ t = ⟨look [(0, .bs 0 0 8 ns.length cap), (1, .fn 105 [.fp (filA a)]), (5, .v (.int .i64 (i : Int))), (6, .v (.int .i64 ((i + 1 : Nat) : Int)))], ⟨[rowsB 8 cap rows], []⟩⟩) (ns.length - (k + 1)) (wb_ 1 0 (by simp [bpLtB, bp_pln hR.pln])) (⟨k, RN, Nat.le_refl _, by omega, rfl, hRl, fun r hr => hr, (by rw [List.eraseIdx_eq_take_drop_succ, List.take_append_of_le_length (by simp; omega), List.take_take, Nat.min_self]), rfl, rfl⟩) ?_
 rintro m t ⟨i, rows, hki, hi, rfl, hrl, hmem, htk, hdr, rfl⟩
 have h8 : ∀ r ∈ rows, r.length = 8 := fun r hr => hR.eight r (hmem r hr)
 refine q_ (w_ (m_ (h:=m_ (h:=?_))))
 refine al_p rfl (st_lenB rfl ?_)
 refine lt_ (h:=e_ (?_))
 refine aw_cond rfl (fun hb2 => ?_) (fun hb2 => ?_)
 ·have hc2 := bp hb2
  have hjl : i + 1 < ns.length := by omega
  obtain ⟨x, hx⟩ : ∃ x, ns[i + 1]? = some x := ⟨_, List.getElem?_eq_getElem hjl⟩
  obtain ⟨rx, hrx0⟩ : ∃ r, RN[i + 1]? = some r := ⟨_, List.getElem?_eq_getElem (by omega)⟩
  obtain ⟨e, rfl, he⟩ := hR.2 (i + 1) rx x hrx0 hx
  obtain ⟨hd1, hd2⟩ := drop_getN hdr
  have hrx : rows[i + 1]? = some (nodX x e) := hd1.trans hrx0
  obtain ⟨z, hz⟩ : ∃ z, rows[i]? = some z := ⟨_, List.getElem?_eq_getElem (by omega)⟩
  have hne := hun (i + 1) x hx (by omega)
  refine kt_ (q_ (aw_block (w_ (m_ (h:=m_ (h:=?_))))))
  refine al_p rfl (st_indexS (m := i + 1) rfl rfl rfl hjl ?_)
  refine al_p rfl (st_loadBE rfl rfl (by rw [rowsB_len h8 (by omega)]; omega) (rowsB_row h8 hrx) ?_)
  rcases he with rfl | ⟨rfl, -⟩
  ·skip
   refine al_ (h:=s_ (h:=e_ (w_ (m_ (h:=l_ (h:=?_))))))
   refine al_p rfl (st_callC (cy := []) (ys := [.agg (nodA x)]) rfl (by repeat (first | exact Args.nil | refine Args.cons _ _ _ _ _ rfl (argOk_clean rfl) ?_ | refine Args.cons _ _ _ _ _ rfl (argOk_nil _) ?_ | refine Args.cons _ _ _ _ _ rfl (argOk_era _) ?_ | refine Args.cons _ _ _ _ _ rfl (argOk_le rfl (by repeat (first | exact LeA.refl _ | exact LeA.nil _ | exact LeL.refl _ | refine LeA.agg ?_ | refine LeA.tup ?_ | exact LeL.nil | refine LeL.cons ?_ ?_ | exact LeA.any _))) ?_)) rfl rfl (PrelF1 x a) ?_)
   rintro r rfl
   refine nt_ (h:=e_ (?_))
   refine aw_cond rfl (fun hb3 => ?_) (fun hb3 => ?_)
   ·have hc3 := bp hb3
    refine w_ (m_ (h:=m_ (h:=l_ (h:=?_))))
    refine al_p rfl (st_indexS (m := i) rfl rfl rfl (by omega) ?_)
    refine al_p0 (s_store rfl rfl rfl rfl rfl rfl (rows_put h8 rfl hz) (by repeat constructor) ?_)
    refine e_ (aw_region (m_ (h:=?_)))
    refine al_p rfl (st_add64 rfl rfl (by omega) ?_)
    refine a_ (h:=al_nil (x_blockN (t_ (aw_region (m_ (h:=?_))))))
    refine al_p rfl (st_add64 rfl rfl (by omega) ?_)
    refine a_ (h:=al_nil (?_))
    refine x_then ?_
    refine ⟨ns.length - (i + 1 + 1), _, by omega, ⟨i + 1, rows.set i (nodX x _), by omega, by omega, rfl, by simpa using hrl, ?_, ?_, (by rw [drop_setN (by omega)]; exact hd2), rfl⟩, weak_of 1 0 rfl rfl rfl (by show (bpLtL 1 0 (rowsB 8 cap (rows.set i (nodX x _))) && true) = true; rw [bp_pln (pln_set hR.pln hmem hrx0)]; rfl) ((by repeat (first | exact Sub.nil | refine Sub.cons _ _ _ rfl rfl ?_ | refine Sub.any _ _ ?_ | refine Sub.sl _ _ _ _ _ rfl ?_ | refine Sub.slnil _ _ _ rfl ?_)))⟩
    ·intro r hr
     rcases List.mem_or_eq_of_mem_set hr with h | h
     ·exact hmem r h
     rw [h]; exact List.mem_of_getElem? hrx0
    rw [take_setN (by omega), htk, erase_take (by omega) hrx0]
   have hc3 := bp hb3
   exact absurd (by assumption) hne
  skip
  refine al_ (h:=s_ (h:=e_ (w_ (m_ (h:=l_ (h:=?_))))))
  refine al_p rfl (st_callC (cy := []) (ys := [.agg (nodX x (.v (.slice none 0 0)))]) rfl (by repeat (first | exact Args.nil | refine Args.cons _ _ _ _ _ rfl (argOk_clean rfl) ?_ | refine Args.cons _ _ _ _ _ rfl (argOk_nil _) ?_ | refine Args.cons _ _ _ _ _ rfl (argOk_era _) ?_ | refine Args.cons _ _ _ _ _ rfl (argOk_le rfl (by repeat (first | exact LeA.refl _ | exact LeA.nil _ | exact LeL.refl _ | refine LeA.agg ?_ | refine LeA.tup ?_ | exact LeL.nil | refine LeL.cons ?_ ?_ | exact LeA.any _))) ?_)) rfl rfl (PrelF2 x a) ?_)
  rintro r rfl
  refine nt_ (h:=e_ (?_))
  refine aw_cond rfl (fun hb4 => ?_) (fun hb4 => ?_)
  ·have hc4 := bp hb4
   refine w_ (m_ (h:=m_ (h:=l_ (h:=?_))))
   refine al_p rfl (st_indexS (m := i) rfl rfl rfl (by omega) ?_)
   refine al_p0 (s_store rfl rfl rfl rfl rfl rfl (rows_put h8 rfl hz) (by repeat constructor) ?_)
   refine e_ (aw_region (m_ (h:=?_)))
   refine al_p rfl (st_add64 rfl rfl (by omega) ?_)
   refine a_ (h:=al_nil (x_blockN (t_ (aw_region (m_ (h:=?_))))))
   refine al_p rfl (st_add64 rfl rfl (by omega) ?_)
   refine a_ (h:=al_nil (?_))
   refine x_then ?_
   refine ⟨ns.length - (i + 1 + 1), _, by omega, ⟨i + 1, rows.set i (nodX x _), by omega, by omega, rfl, by simpa using hrl, ?_, ?_, (by rw [drop_setN (by omega)]; exact hd2), rfl⟩, weak_of 1 0 rfl rfl rfl (by show (bpLtL 1 0 (rowsB 8 cap (rows.set i (nodX x _))) && true) = true; rw [bp_pln (pln_set hR.pln hmem hrx0)]; rfl) ((by repeat (first | exact Sub.nil | refine Sub.cons _ _ _ rfl rfl ?_ | refine Sub.any _ _ ?_ | refine Sub.sl _ _ _ _ _ rfl ?_ | refine Sub.slnil _ _ _ rfl ?_)))⟩
   ·intro r hr
    rcases List.mem_or_eq_of_mem_set hr with h | h
    ·exact hmem r h
    rw [h]; exact List.mem_of_getElem? hrx0
   rw [take_setN (by omega), htk, erase_take (by omega) hrx0]
  have hc4 := bp hb4
  exact absurd (by assumption) hne
 have hc2 := bp hb2
 obtain rfl : i = ns.length - 1 := by omega
 refine aw_exit (x_thenE (x_thenE (ABlock_out (t_ (w_ (m_ (h:=m_ (h:=?_))))))))
 refine al_p rfl (st_sliceLoB (l := ns.length - 1) rfl rfl rfl (by omega) ?_)
 refine al_p0 (st_clearB rfl rfl (by omega) (by rw [rowsB_len h8 (by omega)]; omega) (by repeat constructor) ?_)
 refine e_ (w_ (m_ (h:=m_ (h:=?_))))
 refine al_p rfl (st_sliceHiB (k := ns.length - 1) rfl rfl rfl (by omega) ?_)
 refine a_ (h:=e_ (aw_ret (?_)))
 have hcut := rows_cut (cap := cap) h8 (i := ns.length - 1) (by omega) (by omega)
 have hrows : rows.take (ns.length - 1) = RN.eraseIdx k := by rw [htk, List.take_of_length_le (by rw [List.length_eraseIdx, if_pos (by omega)]; omega)]
 rw [hrows] at hcut
 refine abody_ret (r := .bs 0 0 8 (ns.length - 1) cap) none (by repeat (first | exact ResA.nil | (apply ResA.tmp; (focus exact rfl)) | (apply ResA.cellN; (focus exact inferInstance); (focus exact rfl); (focus exact rfl); (focus exact rfl)) | (apply ResA.cell1; (focus exact inferInstance); (focus exact rfl); (focus exact rfl); (focus exact rfl)))) rfl rfl (by rw [hcut]; show (bpLtL 1 0 (rowsB 8 cap (RN.eraseIdx k)) && true) = true; rw [bp_pln (hR.erase k).pln]; rfl) (LeA.refl _) ⟨rfl, rfl, by rw [hcut]; rfl⟩
end
theorem keepNot_erase {ns : List Nod} {k : Nat} {n : Nod} {x : Int} (hk : ns[k]? = some n) (hn : n.ino = x) (hun : ∀ i m, ns[i]? = some m → i ≠ k → m.ino ≠ x) : keepNot x ns = ns.eraseIdx k := by
 obtain ⟨hl, he⟩ := List.getElem?_eq_some_iff.1 hk
 unfold keepNot
 have hs : ns = ns.take k ++ n :: ns.drop (k + 1) := by
  conv => lhs; rw [← List.take_append_drop k ns, List.drop_eq_getElem_cons hl, he]
 have h1 : (ns.take k).filter (fun m : Nod => m.ino != x) = ns.take k := by
  rw [List.filter_eq_self]
  intro m hm
  obtain ⟨i, hi⟩ := List.getElem?_of_mem hm
  rw [List.getElem?_take] at hi
  split at hi
  ·simpa using hun i m hi (by omega)
  cases hi
 have h2 : (ns.drop (k + 1)).filter (fun m : Nod => m.ino != x) = ns.drop (k + 1) := by
  rw [List.filter_eq_self]
  intro m hm
  obtain ⟨i, hi⟩ := List.getElem?_of_mem hm
  rw [List.getElem?_drop] at hi
  simpa using hun _ m hi (by omega)
 rw [List.eraseIdx_eq_take_drop_succ]
 conv => lhs; rw [hs]
 rw [List.filter_append, h1, List.filter_cons]
 simp only [hn, bne_self_eq_false, Bool.false_eq_true, if_false, h2]
theorem back_oneN {bx : List (List AV)} {i0 : Nat} (h0 : i0 < bx.length) {r : List AV} (hr : renL (backS [i0] bx.length) r = r) : Back bx [i0] [r] (bx.set i0 r) := by
 have := back_F (bx := bx) (is := [i0]) (bc := [r]) (by simp) (by simp [h0]) (by simp)
 simpa [backF, hr] using this
section
set_option maxRecDepth 10000
set_option maxHeartbeats 1000000
theorem Prelease (f : Fls) (K : Nat) (dK : Dvc) (RN : List (List AV)) (a : Fil) (k : Nat) (hR : RowsN RN dK.nodes) (hK : K < f.length) (hak : a.1 = (K : Int)) (hk : ∃ n, dK.nodes[k]? = some n ∧ n.ino = a.2) (hun : ∀ i n, dK.nodes[i]? = some n → i ≠ k → n.ino ≠ a.2) (hB : FlsB (f.set K dK)) : ACall Try.prog 87 [.agg [.bs 0 0 2 f.length f.length], .agg (filA a)] [DB f K dK 1 f.length dK.nodes.length, rowsB 8 dK.nodes.length RN] (fun r b t => t = [] ∧ r = .tup [] ∧ ∃ RN', RowsN RN' (dropI dK.nodes a.2) ∧ b = [DB f K ⟨dK.next, dropI dK.nodes a.2⟩ 1 f.length dK.nodes.length, rowsB 8 dK.nodes.length RN']) := by
 obtain ⟨nk, hnk, hnki⟩ := hk
 have hfew : f.length ≤ 1000 := by have := hB.few; simpa using this
 have hset : (f.set K dK)[K]? = some dK := List.getElem?_set_self hK
 have hdn : dK.nodes.length ≤ 1000 := hB.nodes dK (List.mem_of_getElem? hset)
 have hkl := (List.getElem?_eq_some_iff.1 hnk).1
 have hle : LeA (lowG (frzG 0 [DB f K dK 1 f.length dK.nodes.length, rowsB 8 dK.nodes.length RN, [.bs 0 0 2 f.length f.length], filA a] 3) (.agg [.bs 0 0 2 f.length f.length])) (.agg (flsA (f.set K dK))) := by
  show LeA (.agg [lowG _ _]) _
  rw [low_rows (n := 0) (i0 := 0) (i1 := 1) hR hK (Nat.le_refl _) (Nat.le_refl _) (Nat.le_refl _) (Nat.zero_le _) rfl rfl]
  exact resD_leN hR
 have hlk := links_at hak hset
 have hany : (dK.nodes.any fun n => n.ino == a.2) = true := List.any_eq_true.2 ⟨nk, List.mem_of_getElem? hnk, by simpa using hnki⟩
 refine enter Try.func87 rfl rfl rfl rfl rfl 2 rfl ?_
 refine w_ (b_ (h:=b_ (h:=e_ (q_ (w_ (l_ (h:=l_ (h:=?_))))))))
 refine al_p rfl (s_callM [0, 1] rfl (.cons _ _ _ _ _ rfl (LeA.refl _) (.cons _ _ _ _ _ rfl (LeA.refl _) .nil)) (by decide) (.cons _ _ _ _ _ rfl (ren_DB (by rfl) _ _ _ _ _) (.cons _ _ _ _ _ rfl (ren_pln _ hR.pln _ _) .nil)) (PfindR0 f K dK k nk a (rowsB 8 dK.nodes.length RN) (fun j x hx => hR.ino j x hx) (fun _ _ => bp_pln hR.pln _ _) hK hnk hak hnki (fun i n hi hn => hun i n hn (by omega)) hfew hdn) ?_)
 rintro r bc tc ⟨rfl, rfl, rfl⟩
 refine ⟨rfl, _, back_findR0 rfl rfl (ren_pln _ hR.pln _ _), ?_⟩
 refine al_p rfl (st_eqPbp (by kernel_rfl) rfl rfl ?_)
 refine m_ (h:=?_)
 refine al_gs false rfl rfl (fun hb1 => ?_) (fun hb1 => ?_)
 ·have hc1 := bp hb1
  exfalso; first | contradiction | omega
 have hc1 := bp hb1
 refine l_ (h:=l_ (h:=?_))
 refine g_y (s_callR 3 rfl (.cons _ _ _ _ _ rfl hle (.cons _ _ _ _ _ rfl (LeA.refl _) .nil)) (Plinks (f.set K dK) a hB) ?_)
 rintro r rfl
 refine ⟨rfl, ?_⟩
 refine gt_ (h:=pf_ (h:=e_ (?_)))
 refine aw_cond rfl (fun hb2 => ?_) (fun hb2 => ?_)
 ·have hc2 := bp hb2
  refine aw_ret (x_thenR (?_))
  have hp : 0 < linksF (f.set K dK) a := by omega
  refine abody_ret (r := .tup []) none (by repeat (first | exact ResA.nil | (apply ResA.tmp; (focus exact rfl)) | (apply ResA.cellN; (focus exact inferInstance); (focus exact rfl); (focus exact rfl); (focus exact rfl)) | (apply ResA.cell1; (focus exact inferInstance); (focus exact rfl); (focus exact rfl); (focus exact rfl)))) rfl rfl (by show (bpLtL 2 0 (DB f K dK 1 f.length dK.nodes.length) && (bpLtL 2 0 (rowsB 8 dK.nodes.length RN) && true)) = true; rw [bp_DB (by decide), bp_pln hR.pln]; rfl) (LeA.refl _) ⟨rfl, rfl, RN, (by rw [drop_pos hak hset hp]; exact hR), (by rw [drop_pos hak hset hp]; rfl)⟩
 have hc2 := bp hb2
 have hz : linksF (f.set K dK) a = 0 := by omega
 have hdr : dropI dK.nodes a.2 = dK.nodes.eraseIdx k := (drop_zero hak hset hz).trans (keepNot_erase hnk hnki hun)
 have hsd : SetAt (devR dK 1 dK.nodes.length) 1 [.bs 1 0 8 (dK.nodes.length - 1) dK.nodes.length] (devR ⟨dK.next, dropI dK.nodes a.2⟩ 1 dK.nodes.length) := by
  simp only [devR, hdr, List.length_eraseIdx, if_pos hkl]
  repeat constructor
 refine kt_ (?_)
 refine aw_midI (fun t => t = ⟨look [(3, .fp (filA a)), (4, .bp 0 (0 + K * 2))], ⟨[DB f K dK 1 f.length dK.nodes.length, rowsB 8 dK.nodes.length RN, [.bs 0 0 2 f.length f.length]], []⟩⟩) ?_ ?_
 ·skip
  refine aw_region (f_ (h:=l_ (h:=f_ (h:=l_ (h:=?_)))))
  refine al_p rfl (st_indexS (m := K) rfl rfl hak hK ?_)
  refine a_ (h:=al_nil (?_))
  refine x_then ?_
  exact ⟨_, rfl, weak_fz 3 1 rfl (by show [livL _ _ (DB f K dK 1 f.length dK.nodes.length), livL _ _ (rowsB 8 dK.nodes.length RN), livL _ _ [.bs 0 0 2 f.length f.length]] = _; rw [liv_DB rfl, liv_pln _ _ hR.pln]; rfl) (.cons _ _ _ _ rfl (LeA.refl _) (.cons _ _ _ _ rfl (LeA.refl _) .nil))⟩
 rintro t rfl
 refine aw_region (m_ (h:=m_ (h:=k_ (h:=f_ (h:=?_)))))
 refine al_p rfl (st_loadB1 rfl rfl (DB_nodes hK) ?_)
 refine mf_ (h:=?_)
 refine al_p rfl (s_callM [1] rfl (.cons _ _ _ _ _ rfl (LeA.refl _) (.cons _ _ _ _ _ rfl (LeA.refl _) .nil)) (by decide) (.cons _ _ _ _ _ rfl (ren_pln _ hR.pln _ _) .nil) (PdelN dK.nodes RN a k dK.nodes.length hR hdn (Nat.le_refl _) ⟨nk, hnk, hnki⟩ hun) ?_)
 rintro r bc tc ⟨rfl, rfl, rfl⟩
 refine ⟨rfl, _, (back_oneN (Nat.le_of_ble_eq_true rfl) (ren_pln _ (hR.erase k).pln _ _) : Back _ [1] _ [_, _, _]), ?_⟩
 refine k_ (h:=f_ (h:=?_))
 refine al_p0 (s_store rfl rfl rfl rfl rfl rfl (DB_set (d' := ⟨dK.next, dropI dK.nodes a.2⟩) (j' := 1) (cap1' := dK.nodes.length) (k := 1) hK hsd (List.cons_ne_nil _ _)) (by repeat constructor) ?_)
 refine al_nil (?_)
 refine abody_end (r := .tup []) none (by repeat (first | exact ResA.nil | (apply ResA.tmp; (focus exact rfl)) | (apply ResA.cellN; (focus exact inferInstance); (focus exact rfl); (focus exact rfl); (focus exact rfl)) | (apply ResA.cell1; (focus exact inferInstance); (focus exact rfl); (focus exact rfl); (focus exact rfl)))) rfl rfl (by show (bpLtL 2 0 (DB f K ⟨dK.next, dropI dK.nodes a.2⟩ 1 f.length dK.nodes.length) && (bpLtL 2 0 (rowsB 8 dK.nodes.length (RN.eraseIdx k)) && true)) = true; rw [bp_DB (by decide), bp_pln (hR.erase k).pln]; rfl) (LeA.refl _) ⟨rfl, rfl, RN.eraseIdx k, (by rw [hdr]; exact hR.erase k), rfl⟩
end
theorem asc_un {ns : List Nod} (h : Asc ns) {k : Nat} {m : Nod} (hk : ns[k]? = some m) : ∀ i n, ns[i]? = some n → i ≠ k → n.ino ≠ m.ino := by
 intro i n hi hne e
 have h1 := List.pairwise_iff_getElem.1 h
 obtain ⟨l1, e1⟩ := List.getElem?_eq_some_iff.1 hk
 obtain ⟨l2, e2⟩ := List.getElem?_eq_some_iff.1 hi
 rcases Nat.lt_trichotomy i k with hl | hl | hl
 ·have := h1 i k l2 l1 hl; rw [e1, e2] at this; omega
 ·exact hne hl
 have := h1 k i l1 l2 hl; rw [e1, e2] at this; omega
theorem without_erase {es : List Ent} {p : Nat} {e : Ent} {name : Str} (hp : es[p]? = some e) (hn : e.1 = name) (hun : ∀ i x, es[i]? = some x → i ≠ p → x.1 ≠ name) : without name es = es.eraseIdx p := by
 obtain ⟨hl, he⟩ := List.getElem?_eq_some_iff.1 hp
 unfold without
 have hs : es = es.take p ++ e :: es.drop (p + 1) := by
  conv => lhs; rw [← List.take_append_drop p es, List.drop_eq_getElem_cons hl, he]
 have h1 : (es.take p).filter (fun x : Ent => decide (x.1 ≠ name)) = es.take p := by
  rw [List.filter_eq_self]
  intro m hm
  obtain ⟨i, hi⟩ := List.getElem?_of_mem hm
  rw [List.getElem?_take] at hi
  split at hi
  ·simpa using hun i m hi (by omega)
  cases hi
 have h2 : (es.drop (p + 1)).filter (fun x : Ent => decide (x.1 ≠ name)) = es.drop (p + 1) := by
  rw [List.filter_eq_self]
  intro m hm
  obtain ⟨i, hi⟩ := List.getElem?_of_mem hm
  rw [List.getElem?_drop] at hi
  simpa using hun _ m hi (by omega)
 rw [List.eraseIdx_eq_take_drop_succ]
 conv => lhs; rw [hs]
 rw [List.filter_append, h1, List.filter_cons]
 simp only [hn, ne_eq, not_true, decide_false, Bool.false_eq_true, if_false, h2]
theorem sorted_un {es : List Ent} (h : Sorted es) {k : Nat} {m : Ent} (hk : es[k]? = some m) : ∀ i x, es[i]? = some x → i ≠ k → x.1 ≠ m.1 := by
 intro i n hi hne e
 have h1 := List.pairwise_iff_getElem.1 h
 obtain ⟨l1, e1⟩ := List.getElem?_eq_some_iff.1 hk
 obtain ⟨l2, e2⟩ := List.getElem?_eq_some_iff.1 hi
 rcases Nat.lt_trichotomy i k with hl | hl | hl
 ·have := h1 i k l2 l1 hl; rw [e1, e2, e] at this; exact absurd this (by simp [lt_irr])
 ·exact hne hl
 have := h1 k i l1 l2 hl; rw [e1, e2, e] at this; exact absurd this (by simp [lt_irr])
theorem DB_same {f : Fls} {q : Nat} {d d' : Dvc} (hn : d'.next = d.next) (hl : d'.nodes.length = d.nodes.length) (j cap cap1 : Nat) : DB f q d j cap cap1 = DB f q d' j cap cap1 := by
 unfold DB devB devR
 rw [hn, hl]
theorem back_drop {bx : List (List AV)} {i1 i2 : Nat} (h1 : i1 < bx.length) (h2 : i2 < bx.length) (hne : i1 ≠ i2) (ns : List Nod) (i : Nat) (nI : Nod) (l cap m : Nat) (es : List Ent) : Back bx [i1, i2] [NX ns i nI (.bs 1 0 2 l cap) m, EB es cap] ((bx.set i1 (NX ns i nI (.bs i2 0 2 l cap) m)).set i2 (EB es cap)) := by
 have := back_F (bx := bx) (is := [i1, i2]) (bc := [NX ns i nI (.bs 1 0 2 l cap) m, EB es cap]) (by simpa using hne) (by simp [h1, h2]) (by simp)
 have e1 : renL (backS [i1, i2] bx.length) (NX ns i nI (.bs 1 0 2 l cap) m) = NX ns i nI (.bs i2 0 2 l cap) m := ren_NX (by simp [ren, backS])
 simpa [backF, ren_EB, e1] using this
theorem back_rel {bx : List (List AV)} {i0 i1 : Nat} (h0 : i0 < bx.length) (h1 : i1 < bx.length) (hne : i0 ≠ i1) (f : Fls) (q : Nat) (d : Dvc) (cap cap1 cap2 : Nat) {RN : List (List AV)} (hR : PlnR RN) : Back bx [i0, i1] [DB f q d 1 cap cap1, rowsB 8 cap2 RN] ((bx.set i0 (DB f q d i1 cap cap1)).set i1 (rowsB 8 cap2 RN)) := by
 have := back_F (bx := bx) (is := [i0, i1]) (bc := [DB f q d 1 cap cap1, rowsB 8 cap2 RN]) (by simpa using hne) (by simp [h0, h1]) (by simp)
 have e1 : renL (backS [i0, i1] bx.length) (DB f q d 1 cap cap1) = DB f q d i1 cap cap1 := ren_DB (by simp [backS]) _ _ _ _ _
 simpa [backF, ren_pln _ hR, e1] using this
theorem renK_NX {g : Nat → Option Nat} {ns : List Nod} {i : Nat} {nI : Nod} {e e' : AV} {cap1 : Nat} (h : renK g e = e') : renKL g (NX ns i nI e cap1) = NX ns i nI e' cap1 := by
 rw [renKL_map]
 unfold NX
 rw [rowsB_map (renK g) rfl, List.map_set]
 congr 1
 have e1 : ((ns.map nodF).map fun r => r.map (renK g)) = ns.map nodF := by
  rw [List.map_map]
  apply List.map_congr_left
  intro n _
  exact map_nodF (fun _ => rfl) (fun _ _ => rfl) n
 rw [e1]
 congr 1
 simp [nodX, renK, h]
theorem livL_NX {n : Nat} {g : Nat → Option (List AV)} {ns : List Nod} {i : Nat} {nI : Nod} {e e' : AV} {cap1 : Nat} (h : liv n g e = e') : livL n g (NX ns i nI e cap1) = NX ns i nI e' cap1 := by
 rw [livL_map]
 unfold NX
 rw [rowsB_map (liv n g) rfl, List.map_set]
 congr 1
 have e1 : ((ns.map nodF).map fun r => r.map (liv n g)) = ns.map nodF := by
  rw [List.map_map]
  apply List.map_congr_left
  intro n _
  exact map_nodF (fun _ => rfl) (fun _ _ => rfl) n
 rw [e1]
 congr 1
 simp [nodX, liv, h]
theorem rowsN_set (ns : List Nod) (i : Nat) (nI : Nod) (es : List Ent) : RowsN ((ns.map nodF).set i (nodX nI (.sl 2 (es.map entA) none))) (ns.set i { nI with entries := es }) := (rowsN_F ns).set i (rowN_A { nI with entries := es })
def namedL (f : Fls) (dir : Fil) (name : Str) : Fil × Int := if placeL f dir name ≠ 0 then ((0, 0), placeL f dir name) else lookL f dir name
section
set_option maxRecDepth 10000
set_option maxHeartbeats 2000000
theorem Pnamed (f : Fls) (dir : Fil) (name : Str) (hf : FlsB f) : AFn Try.prog 79 [.agg (flsA f), .agg (filA dir), .v (.string name)] (fun r => r = .tup [.agg (filA (namedL f dir name).1), .v (.int .i64 (namedL f dir name).2)]) := by
 refine enter Try.func79 rfl rfl rfl rfl rfl 0 rfl ?_
 refine w_ (b_ (h:=b_ (h:=al_ (h:=a_ (h:=e_ (q_ (w_ (l_ (h:=l_ (h:=?_))))))))))
 refine al_p rfl (q_call (PdirF f dir hf) ?_)
 rintro r rfl
 refine a_ (h:=e_ (w_ (m_ (h:=nq_ (h:=e_ (?_))))))
 refine aw_cond rfl (fun hb1 => ?_) (fun hb1 => ?_)
 ·have hc1 := bp hb1
  refine w_ (bd_ (h:=m_ (h:=s_ (h:=a_ (h:=e_ (aw_ret (x_thenR (?_))))))))
  refine e_ret ?_
  rw [show namedL f dir name = ((0, 0), dirE f dir) by rw [namedL, place_dir hc1, if_pos hc1]]
  rfl
 have hc1 := bp hb1
 refine kt_ (q_ (w_ (m_ (h:=?_))))
 refine al_p rfl (q_call (Pname name) ?_)
 rintro r rfl
 refine nt_ (h:=e_ (?_))
 refine aw_cond rfl (fun hb2 => ?_) (fun hb2 => ?_)
 ·have hc2 := bp hb2
  refine w_ (bd_ (h:=s_ (h:=a_ (h:=e_ (aw_ret (x_thenR (?_)))))))
  refine e_ret ?_
  rw [show namedL f dir name = ((0, 0), 22) by rw [namedL, place_nm (by omega) (by simpa using hc2)]; rfl]
  rfl
 have hc2 := bp hb2
 refine kt_ (w_ (l_ (h:=l_ (h:=m_ (h:=?_)))))
 refine al_p rfl (q_call (Pentry f dir name hf) ?_)
 rintro r rfl
 refine m_ (h:=x_ (h:=x_ (h:=al_ (h:=s_ (h:=a_ (h:=e_ (q_ (w_ (m_ (h:=nt_ (h:=e_ (?_))))))))))))
 refine aw_cond rfl (fun hb3 => ?_) (fun hb3 => ?_)
 ·have hc3 := bp hb3
  refine w_ (bd_ (h:=s_ (h:=a_ (h:=e_ (aw_ret (x_thenR (?_)))))))
  refine e_ret ?_
  rw [show namedL f dir name = ((0, 0), 2) by rw [namedL, if_neg (by rw [place_zero (by omega) (by simpa using hc2)]; simp), lkE_two (by omega) (by simpa using hc3)]]
  rfl
 have hc3 := bp hb3
 refine kt_ (w_ (l_ (h:=s_ (h:=a_ (h:=e_ (aw_ret (?_)))))))
 refine e_ret ?_
 rw [show namedL f dir name = ((entP f dir name).1, 0) by rw [namedL, if_neg (by rw [place_zero (by omega) (by simpa using hc2)]; simp), lkE_yes (by omega) (by simpa using hc3)]]
 rfl
theorem Prm5 (f : Fls) (q : Nat) (d : Dvc) (i : Nat) (n0 : Nod) (dir a : Fil) (name : Str) (p k : Nat) (hv : FlsV f) (hdq : dir.1 = (q : Int)) (hq : f[q]? = some d) (hn0 : d.nodes[i]? = some n0) (hino : n0.ino = dir.2) (hp : ∃ e, n0.entries[p]? = some e ∧ e.1 = name) (ha : a.1 = (q : Int)) (hk : ∃ m, d.nodes[k]? = some m ∧ m.ino = a.2) : AFn Try.prog 81 [.agg (flsA f), .agg (filA dir), .v (.string name), .agg (filA a)] (fun r => r = .tup [.agg (flsA (f.set q ⟨d.next, dropI (entS d.nodes i n0 name 0) a.2⟩)), .sl 7 [chgA (dir, name, a, (0, 0))] none]) := by
 have hf := hv.b
 have hvd := hv.vd d (List.mem_of_getElem? hq)
 have hil := (List.getElem?_eq_some_iff.1 hn0).1
 have hql := (List.getElem?_eq_some_iff.1 hq).1
 have hfew := hf.few
 have hdn := hf.nodes d (List.mem_of_getElem? hq)
 have hen0 := hf.ents d (List.mem_of_getElem? hq) n0 (List.mem_of_getElem? hn0)
 obtain ⟨ep, hpe, hpn⟩ := hp
 have hE : 0 < n0.entries.length := by have := (List.getElem?_eq_some_iff.1 hpe).1; omega
 have hfst : ∀ j x, j < i → d.nodes[j]? = some x → x.ino ≠ dir.2 := fun j x hj hx => by rw [← hino]; exact asc_un hvd.asc hn0 j x hx (by omega)
 have hsu := sorted_un (hvd.sorted n0 (List.mem_of_getElem? hn0)) hpe
 have hee : n0.entries.eraseIdx p = entL n0.entries name 0 := by rw [entL_zero]; exact (without_erase hpe hpn (fun j x hj hne => by rw [← hpn]; exact hsu j x hj hne)).symm
 have hns : d.nodes.set i { n0 with entries := n0.entries.eraseIdx p } = entS d.nodes i n0 name 0 := by unfold entS; rw [hee]
 obtain ⟨D, hD⟩ : ∃ D : Dvc, D = ⟨d.next, entS d.nodes i n0 name 0⟩ := ⟨_, rfl⟩
 have hDn : D.next = d.next := by rw [hD]
 have hDl : D.nodes.length = d.nodes.length := by rw [hD]; exact entS_len _ _ _ _ _
 obtain ⟨RN, hRN⟩ : ∃ RN, RN = (d.nodes.map nodF).set i (nodX n0 (.sl 2 ((n0.entries.eraseIdx p).map entA) none)) := ⟨_, rfl⟩
 have hR : RowsN RN D.nodes := by rw [hRN, hD]; show RowsN _ (entS d.nodes i n0 name 0); rw [← hns]; exact rowsN_set _ _ _ _
 have hB : FlsB (f.set q D) := by rw [hD]; exact hv.entS hq hn0 name 0
 obtain ⟨mk, hmk, hmki⟩ := hk
 obtain ⟨m', hm', hmi, -⟩ := entS_get hn0 hmk name 0
 have hkD : ∃ n, D.nodes[k]? = some n ∧ n.ino = a.2 := ⟨m', by rw [hD]; exact hm', by rw [hmi, hmki]⟩
 have hunD : ∀ j n, D.nodes[j]? = some n → j ≠ k → n.ino ≠ a.2 := fun j n hj hne => by
  rw [hD] at hj
  rw [← hmki, ← hmi]
  exact asc_un (entS_isAsc hvd.asc hn0 name 0) hm' j n hj hne
 have hfin : f.set q ⟨d.next, dropI (entS d.nodes i n0 name 0) a.2⟩ = f.set q ⟨D.next, dropI D.nodes a.2⟩ := by rw [hD]
 have hdl : (dropI D.nodes a.2).length ≤ D.nodes.length := List.length_filter_le _ _
 rw [hfin]
 refine enter Try.func81 rfl rfl rfl rfl rfl 0 rfl ?_
 refine w_ (b_ (h:=b_ (h:=b_ (h:=al_ (h:=a_ (h:=e_ (w_ (l_ (h:=?_)))))))))
 refine al_p rfl (s_callM [] rfl (.cons _ _ _ _ _ rfl (LeA.refl _) .nil) (by decide) .nil (PcopyFilesG f q d i n0 hf hq hn0 hE) ?_)
 rintro r bc tc ⟨rfl, rfl, rfl⟩
 refine ⟨rfl, _, (back_copyG (n := 4) rfl f q d i n0 f.length d.nodes.length n0.entries.length : Back _ [] _ [_, _, _, _, _, _, _, _, _]), ?_⟩
 refine s_ (h:=e_ (?_))
 refine aw_midI (fun t => t = ⟨look [(2, .v (.string name)), (4, .bp 0 0), (5, .bp 1 0), (7, .bp 2 0), (8, .bp 3 0)], ⟨[[.bs 4 0 2 f.length f.length], filA dir, filA a, [.v (.slice none 0 0)], DB f q D 5 f.length D.nodes.length, rowsB 8 D.nodes.length RN], []⟩⟩) ?_ ?_
 ·skip
  refine aw_region (l_ (h:=l_ (h:=?_)))
  refine al_p rfl (s_callM [6, 7, 8] rfl (.cons _ _ _ _ _ rfl (LeA.refl _) (.cons _ _ _ _ _ rfl (LeA.refl _) .nil)) (by decide) (.cons _ _ _ _ _ rfl (ren_DB (by rfl) _ _ _ _ _) (.cons _ _ _ _ _ rfl (ren_NX (by rfl)) (.cons _ _ _ _ _ rfl (ren_EB _ _ _) .nil))) (PfindBG f q d i n0 dir hq hn0 hdq hino hfst (by omega) (by omega)) ?_)
  rintro r bc tc ⟨rfl, rfl, rfl⟩
  refine ⟨rfl, _, back_find rfl rfl rfl, ?_⟩
  refine m_ (h:=?_)
  refine al_p rfl (s_callM [7, 8] rfl (.cons _ _ _ _ _ rfl (LeA.refl _) (.cons _ _ _ _ _ rfl (LeA.refl _) .nil)) (by decide) (.cons _ _ _ _ _ rfl (ren_NX (by rfl)) (.cons _ _ _ _ _ rfl (ren_EB _ _ _) .nil)) (Pdrop d.nodes i n0 name p n0.entries.length d.nodes.length hil ⟨ep, hpe, hpn⟩ (fun j x hj hx => by rw [← hpn]; exact hsu j x hx (by omega)) (by omega) (Nat.le_refl _)) ?_)
  rintro r bc tc ⟨rfl, rfl, rfl⟩
  refine ⟨rfl, _, (back_drop (Nat.le_of_ble_eq_true rfl) (Nat.le_of_ble_eq_true rfl) (by decide) d.nodes i n0 (n0.entries.length - 1) n0.entries.length d.nodes.length (n0.entries.eraseIdx p) : Back _ [7, 8] _ [_, _, _, _, _, _, _, _, _]), ?_⟩
  refine al_nil (?_)
  refine x_then ?_
  refine ⟨_, rfl, Weak.trans (s' := ⟨look [(2, .v (.string name)), (4, .bp 0 0), (5, .bp 1 0), (7, .bp 2 0), (8, .bp 3 0)], ⟨[[.bs 4 0 2 f.length f.length], filA dir, filA a, [.v (.slice none 0 0)], DB f q d 5 f.length d.nodes.length, NX d.nodes i n0 (.bs 6 0 2 (n0.entries.length - 1) n0.entries.length) d.nodes.length, EB (n0.entries.eraseIdx p) n0.entries.length], []⟩⟩) ?_ ?_⟩
  ·exact weak_ren [0, 1, 2, 3, 6, 7, 8] (fun i hi => absurd hi (Nat.not_lt_zero i)) (by decide) (.cons _ _ _ _ _ rfl rfl (.cons _ _ _ _ _ rfl rfl (.cons _ _ _ _ _ rfl rfl (.cons _ _ _ _ _ rfl rfl (.cons _ _ _ _ _ rfl (renK_DB (by rfl) _ _ _ _ _) (.cons _ _ _ _ _ rfl (renK_NX (by rfl)) (.cons _ _ _ _ _ rfl (renK_EB _ _ _) .nil))))))) (by repeat (first | exact SubK.nil | refine SubK.cons _ _ _ _ rfl (LeA.refl _) ?_))
  refine weak_fz 6 1 rfl ?_ (.cons _ _ _ _ rfl (LeA.refl _) (.cons _ _ _ _ rfl (LeA.refl _) (.cons _ _ _ _ rfl (LeA.refl _) (.cons _ _ _ _ rfl (LeA.refl _) (.cons _ _ _ _ rfl (LeA.refl _) .nil)))))
  show [livL _ _ [.bs 4 0 2 f.length f.length], livL _ _ (filA dir), livL _ _ (filA a), livL _ _ [.v (.slice none 0 0)], livL _ _ (DB f q d 5 f.length d.nodes.length), livL _ _ (NX d.nodes i n0 (.bs 6 0 2 (n0.entries.length - 1) n0.entries.length) d.nodes.length)] = _
  rw [liv_DB rfl, livL_NX (e' := .sl 2 ((n0.entries.eraseIdx p).map entA) none) (liv_rows (n := 6) (Nat.le_refl _) (frz_plain (n := 6) (k := 0) (j := 6) (Nat.le_refl _) rfl (ent_plain _)) (ent_two _) (by rw [List.length_map, List.length_eraseIdx, if_pos (List.getElem?_eq_some_iff.1 hpe).1]) (by rw [List.length_map, List.length_eraseIdx]; split <;> omega)), hRN, DB_same hDn hDl, hDl]
  rfl
 rintro t rfl
 refine w_ (l_ (h:=l_ (h:=?_)))
 refine al_p rfl (s_callM [4, 5] rfl (.cons _ _ _ _ _ rfl (LeA.refl _) (.cons _ _ _ _ _ rfl (LeA.refl _) .nil)) (by decide) (.cons _ _ _ _ _ rfl (ren_DB (by rfl) _ _ _ _ _) (.cons _ _ _ _ _ rfl (ren_pln _ hR.pln _ _) .nil)) (Prelease f q D RN a k hR hql ha hkD hunD hB) ?_)
 rintro r bc tc ⟨rfl, rfl, RM, hRM, rfl⟩
 refine ⟨rfl, _, (back_rel (Nat.le_of_ble_eq_true rfl) (Nat.le_of_ble_eq_true rfl) (by decide) f q ⟨D.next, dropI D.nodes a.2⟩ f.length D.nodes.length D.nodes.length hRM.pln : Back _ [4, 5] _ [_, _, _, _, _, _]), ?_⟩
 refine e_ (?_)
 refine aw_midI (fun t => t = ⟨look [(8, .bp 3 0), (9, .sl 7 [chgA (dir, name, a, (0, 0))] none)], ⟨[[.sl 2 (resD f q ⟨D.next, dropI D.nodes a.2⟩ RM) none], filA dir, filA a, [.sl 2 (resD f q ⟨D.next, dropI D.nodes a.2⟩ RM) none]], []⟩⟩) ?_ ?_
 ·skip
  refine yk_ ([(0, [.bs 4 0 2 f.length f.length]), (1, filA dir), (2, filA a)]) 8 (h:=dl_ 0 (h:=dl_ 1 (h:=dm_ 2 (h:=dl_ 3 (h:=?_)))))
  refine tk_ 4 rfl (fun _ hS => st_le (y := .agg (chgA (dir, name, a, (0, 0)))) (st_build (by repeat (first | exact FillA.nil _ | (apply FillA.cons; (focus exact rfl); (focus exact rfl); (focus exact rfl); (focus exact rfl); (focus exact rfl); (focus (repeat constructor))))) ⟨rfl, rfl⟩) (by repeat (first | exact LeA.refl _ | exact LeA.nil _ | exact LeL.refl _ | refine LeA.agg ⟨rfl, rfl⟩ | refine LeA.tup ⟨rfl, rfl⟩ | exact LeL.nil | refine LeL.cons ⟨rfl, rfl⟩ ⟨rfl, rfl⟩ | exact LeA.any _)) ⟨rfl, rfl⟩) ?_
  refine dbs_ 5 (h:=?_)
  refine c0_ 6 rfl (s_store rfl rfl rfl rfl rfl rfl (by repeat constructor) (by repeat constructor) ?_)
  refine o_ (h:=da_ 7 (h:=z_ (h:=?_)))
  refine x_then ?_
  exact ⟨_, rfl, weak_fz 4 3 rfl (congrArg (fun x : List AV => [x, filA dir, filA a, x]) (liv_rowsN (n := 4) (i0 := 4) (i1 := 5) (f := f) (q := q) (d := ⟨D.next, dropI D.nodes a.2⟩) (cap := f.length) (cap0 := f.length) (cap1 := D.nodes.length) hRM hql (Nat.le_refl _) hdl (Nat.le_of_ble_eq_true rfl) (Nat.le_of_ble_eq_true rfl) (by rfl) (by rfl))) (.cons _ _ _ _ rfl (LeA.refl _) (.cons _ _ _ _ rfl (LeA.refl _) .nil))⟩
 rintro t rfl
 refine aw_ret (?_)
 refine rt_ (r := .tup [.agg (flsA (f.set q ⟨D.next, dropI D.nodes a.2⟩)), .sl 7 [chgA (dir, name, a, (0, 0))] none]) none (h5 := ?_) (h6 := ⟨rfl, rfl, rfl⟩)
 exact LeA.tup (.cons (resD_leN hRM) (.cons (LeA.refl _) .nil))
end
def rowsGG (ns : List Nod) (i : Nat) (nI : Nod) (a ca j : Nat) (nJ : Nod) (b cb : Nat) : List (List AV) := (rowsG ns i nI a ca).set j (nodB nJ b cb)
def NGG (ns : List Nod) (i : Nat) (nI : Nod) (a ca j : Nat) (nJ : Nod) (b cb cap1 : Nat) : List AV := rowsB 8 cap1 (rowsGG ns i nI a ca j nJ b cb)
theorem rowsGG_eight (ns : List Nod) (i : Nat) (nI : Nod) (a ca j : Nat) (nJ : Nod) (b cb : Nat) : ∀ r ∈ rowsGG ns i nI a ca j nJ b cb, r.length = 8 := by
 intro r hr
 rcases List.mem_or_eq_of_mem_set hr with h | h
 ·exact rowsG_eight _ _ _ _ _ r h
 rw [h]; rfl
theorem rowsGG_len (ns : List Nod) (i : Nat) (nI : Nod) (a ca j : Nat) (nJ : Nod) (b cb : Nat) : (rowsGG ns i nI a ca j nJ b cb).length = ns.length := by simp [rowsGG, rowsG_len]
theorem bp_rG {n m : Nat} {ns : List Nod} {i : Nat} {nI : Nod} {j cap : Nat} (hj : j < n) : ∀ r ∈ rowsG ns i nI j cap, bpLtL n m r = true := by
 intro r hr
 rcases List.mem_or_eq_of_mem_set hr with h | h
 ·obtain ⟨d, _, rfl⟩ := List.mem_map.1 h
  exact bp_nodF d
 rw [h]; simp [nodB, nodX, bpLtL, bpLt, hj]
theorem bp_NGG {n m : Nat} {ns : List Nod} {i : Nat} {nI : Nod} {a ca j : Nat} {nJ : Nod} {b cb cap1 : Nat} (ha : a < n) (hb : b < n) : bpLtL n m (NGG ns i nI a ca j nJ b cb cap1) = true := by
 refine bpLt_rowsB fun r hr => ?_
 rcases List.mem_or_eq_of_mem_set hr with h | h
 ·exact bp_rG ha r h
 rw [h]; simp [nodB, nodX, bpLtL, bpLt, hb]
theorem rowsGG_succ {ns : List Nod} {i j q : Nat} {nI nJ x : Nod} {a ca b cb : Nat} (hx : ns[q]? = some x) (hi : i < q) (hj : j < q) : rowsGG (ns.take (q + 1)) i nI a ca j nJ b cb = rowsGG (ns.take q) i nI a ca j nJ b cb ++ [nodF x] := by
 have hlt := (List.getElem?_eq_some_iff.1 hx).1
 unfold rowsGG
 rw [rowsG_succ hx hi, List.set_append_left _ _ (by rw [rowsG_len, List.length_take]; omega)]
theorem rowsGG_here {ns : List Nod} {i j : Nat} {nI nJ : Nod} {a ca b cb : Nat} (hx : ns[j]? = some nJ) (hi : i < j) : rowsGG (ns.take (j + 1)) i nI a ca j nJ b cb = rowsG (ns.take j) i nI a ca ++ [nodB nJ b cb] := by
 have hlt := (List.getElem?_eq_some_iff.1 hx).1
 unfold rowsGG
 have hl : (rowsG (ns.take j) i nI a ca).length = j := by rw [rowsG_len, List.length_take]; omega
 rw [rowsG_succ hx hi, List.set_append_right _ _ (by omega), hl, Nat.sub_self]
 rfl
section
variable {F : AV → AV} (hany : F .any = .any) (hv : ∀ x, F (.v x) = .v x) (hs : ∀ sz rows, F (.sl sz rows none) = .sl sz rows none)
include hany hv hs
theorem map_NGG (ns : List Nod) (i : Nat) (nI : Nod) {a a' : Nat} (ca j : Nat) (nJ : Nod) {b b' : Nat} (cb cap1 : Nat) (ha : F (.bs a 0 2 nI.entries.length ca) = .bs a' 0 2 nI.entries.length ca) (hb : F (.bs b 0 2 nJ.entries.length cb) = .bs b' 0 2 nJ.entries.length cb) : (NGG ns i nI a ca j nJ b cb cap1).map F = NGG ns i nI a' ca j nJ b' cb cap1 := by
 unfold NGG rowsGG rowsG
 rw [rowsB_map F hany, List.map_set, List.map_set]
 congr 1
 have e1 : ((ns.map nodF).map fun r => r.map F) = ns.map nodF := by
  rw [List.map_map]
  apply List.map_congr_left
  intro n _
  exact map_nodF hv hs n
 rw [e1]
 congr 1
 ·congr 1
  simp [nodB, nodX, hv, ha]
 simp [nodB, nodX, hv, hb]
end
theorem ren_NGG {g : Nat → Option Nat} {a a' b b' : Nat} (ha : g a = some a') (hb : g b = some b') (ns : List Nod) (i : Nat) (nI : Nod) (ca j : Nat) (nJ : Nod) (cb cap1 : Nat) : renL g (NGG ns i nI a ca j nJ b cb cap1) = NGG ns i nI a' ca j nJ b' cb cap1 := by
 rw [renL_map]
 exact map_NGG rfl (fun _ => rfl) (fun _ _ => rfl) ns i nI ca j nJ cb cap1 (by simp [ren, ha]) (by simp [ren, hb])
theorem renK_NGG {g : Nat → Option Nat} {a a' b b' : Nat} (ha : g a = some a') (hb : g b = some b') (ns : List Nod) (i : Nat) (nI : Nod) (ca j : Nat) (nJ : Nod) (cb cap1 : Nat) : renKL g (NGG ns i nI a ca j nJ b cb cap1) = NGG ns i nI a' ca j nJ b' cb cap1 := by
 rw [renKL_map]
 exact map_NGG rfl (fun _ => rfl) (fun _ _ => rfl) ns i nI ca j nJ cb cap1 (by simp [renK, ha]) (by simp [renK, hb])
theorem back_devGG {bx : List (List AV)} {n : Nat} (hn : bx.length = n) (d : Dvc) (m : Nat) (ns : List Nod) (i : Nat) (nI : Nod) (ca j : Nat) (nJ : Nod) (cb cap : Nat) (es : List Ent) (c2 : Nat) (es' : List Ent) (c3 : Nat) : Back bx [] [devR d 2 m, devR d 2 m, NGG ns i nI 3 ca j nJ 4 cb cap, EB es c2, EB es' c3] (bx ++ [devR d (n + 2) m, devR d (n + 2) m, NGG ns i nI (n + 3) ca j nJ (n + 4) cb cap, EB es c2, EB es' c3]) := by
 subst hn
 have := back_F (bx := bx) (is := []) (bc := [devR d 2 m, devR d 2 m, NGG ns i nI 3 ca j nJ 4 cb cap, EB es c2, EB es' c3]) List.nodup_nil (by simp) (by simp)
 have e1 : renL (backS [] bx.length) (devR d 2 m) = devR d (bx.length + 2) m := by simp [devR, renL, ren, backS]
 have e2 : renL (backS [] bx.length) (NGG ns i nI 3 ca j nJ 4 cb cap) = NGG ns i nI (bx.length + 3) ca j nJ (bx.length + 4) cb cap := ren_NGG (by simp [backS]) (by simp [backS]) _ _ _ _ _ _ _ _
 simpa [backF, ren_EB, e1, e2] using this
theorem back_devsGG {bx : List (List AV)} {n : Nat} (hn : bx.length = n) (f : Fls) (K : Nat) (d : Dvc) (cap cap1 : Nat) (ns : List Nod) (i : Nat) (nI : Nod) (ca j : Nat) (nJ : Nod) (cb cap2 : Nat) (es : List Ent) (c2 : Nat) (es' : List Ent) (c3 : Nat) : Back bx [] [DB f K d 1 cap cap1, NGG ns i nI 2 ca j nJ 3 cb cap2, EB es c2, EB es' c3] (bx ++ [DB f K d (n + 1) cap cap1, NGG ns i nI (n + 2) ca j nJ (n + 3) cb cap2, EB es c2, EB es' c3]) := by
 subst hn
 have := back_F (bx := bx) (is := []) (bc := [DB f K d 1 cap cap1, NGG ns i nI 2 ca j nJ 3 cb cap2, EB es c2, EB es' c3]) List.nodup_nil (by simp) (by simp)
 have e1 : renL (backS [] bx.length) (DB f K d 1 cap cap1) = DB f K d (bx.length + 1) cap cap1 := ren_DB (by simp [backS]) _ _ _ _ _
 have e2 : renL (backS [] bx.length) (NGG ns i nI 2 ca j nJ 3 cb cap2) = NGG ns i nI (bx.length + 2) ca j nJ (bx.length + 3) cb cap2 := ren_NGG (by simp [backS]) (by simp [backS]) _ _ _ _ _ _ _ _
 simpa [backF, ren_EB, e1, e2] using this
section
set_option maxRecDepth 10000
set_option maxHeartbeats 1000000
theorem PcopiedNGG (ns : List Nod) (i : Nat) (nI : Nod) (j : Nat) (nJ : Nod) (hij : i < j) (hi : ns[i]? = some nI) (hj : ns[j]? = some nJ) (hE : 0 < nI.entries.length) (hF : 0 < nJ.entries.length) (hns : ns.length ≤ 1000) (hen : ∀ n ∈ ns, n.entries.length ≤ 1000) : ACall Try.prog 108 [.sl 8 (ns.map nodA) none, .fn 75 []] [] (fun r b t => t = [] ∧ r = .bs 0 0 8 ns.length ns.length ∧ b = [NGG ns i nI 1 nI.entries.length j nJ 2 nJ.entries.length ns.length, EB nI.entries nI.entries.length, EB nJ.entries nJ.entries.length]) := by
 have hml : (ns.map nodA).length = ns.length := by simp
 have hil := (List.getElem?_eq_some_iff.1 hi).1
 have hjl := (List.getElem?_eq_some_iff.1 hj).1
 have hEn := hen nI (List.mem_of_getElem? hi)
 have hFn := hen nJ (List.mem_of_getElem? hj)
 refine enter Try.func108 rfl rfl rfl rfl rfl 3 rfl ?_
 refine w_ (a_ (h:=e_ (q_ (w_ (m_ (h:=n_ (h:=eq_ (h:=e_ (?_)))))))))
 refine aw_cond rfl (fun hb1 => ?_) (fun hb1 => ?_)
 ·have hc1 := bp hb1
  exfalso; first | contradiction | omega
 have hc1 := bp hb1
 refine kt_ (w_ (m_ (h:=n_ (h:=?_))))
 refine al_p rfl (st_makeB (l := 0) (m := ns.length) (k := 0) rfl rfl rfl (by simp) (Nat.zero_le _) (by omega) (by omega) (by repeat constructor) ?_)
 refine a_ (h:=e_ (q_ (w_ (m_ (h:=n_ (h:=m_ (h:=e_ (aw_block (?_)))))))))
 refine aw_loopW (fun m s => ∃ k : Nat, k ≤ ns.length ∧ m = ns.length - k ∧ ((k ≤ i ∧ s = ⟨look [(1, .fn 75 []), (5, .bs 0 0 8 k ns.length), (14, .sl 8 (ns.map nodA) none), (15, .v (.int .i64 ((ns.map nodA).length : Int))), (16, .v (.int .i64 (k : Int)))], ⟨[NF (ns.take k) ns.length], []⟩⟩) ∨ (i < k ∧ k ≤ j ∧ s = ⟨look [(1, .fn 75 []), (5, .bs 0 0 8 k ns.length), (14, .sl 8 (ns.map nodA) none), (15, .v (.int .i64 ((ns.map nodA).length : Int))), (16, .v (.int .i64 (k : Int)))], ⟨[NG (ns.take k) i nI 1 nI.entries.length ns.length, EB nI.entries nI.entries.length], []⟩⟩) ∨ (j < k ∧ s = ⟨look [(1, .fn 75 []), (5, .bs 0 0 8 k ns.length), (14, .sl 8 (ns.map nodA) none), (15, .v (.int .i64 ((ns.map nodA).length : Int))), (16, .v (.int .i64 (k : Int)))], ⟨[NGG (ns.take k) i nI 1 nI.entries.length j nJ 2 nJ.entries.length ns.length, EB nI.entries nI.entries.length, EB nJ.entries nJ.entries.length], []⟩⟩))) (ns.length) (wb_ 1 0 (by show (bpLtL 1 0 (NF [] ns.length) && true) = true; rw [bp_NF]; rfl)) (⟨0, by omega, rfl, .inl ⟨by omega, rfl⟩⟩) ?_
 rintro m s ⟨k, hk, rfl, ⟨hki, rfl⟩ | ⟨hki, hkj, rfl⟩ | ⟨hkj, rfl⟩⟩
 rcases Nat.lt_or_eq_of_le hki with hki | rfl
 rotate_left 2
 rcases Nat.lt_or_eq_of_le hkj with hkj | rfl
 rotate_right 2
 ·skip
  refine w_ (lt_ (h:=e_ (q_ (?_))))
  refine aw_cond rfl (fun hb2 => ?_) (fun hb2 => ?_)
  ·have hc2 := bp hb2
   obtain ⟨hlt, x, hy, hrow, -⟩ := row_at nodA hc2
   have hxe := hen x (List.mem_of_getElem? hy)
   have e : (ns.take (k + 1)).map nodF = (ns.take k).map nodF ++ [nodF x] := by
    obtain ⟨hl, e0⟩ := List.getElem?_eq_some_iff.1 hy
    rw [List.take_succ_eq_append_getElem hl, e0, List.map_append]; rfl
   have hlk : ((ns.take k).map nodF).length = k := by simp; omega
   refine kt_ (q_ (aw_block (w_ (i_ (h:=l_ (h:=al_ (h:=s_ (h:=e_ (aw_region (m_ (h:=m_ (h:=l_ (h:=?_)))))))))))))
   refine al_p rfl (st_callC (cy := []) (ys := [.agg (nodA x)]) rfl (by repeat (first | exact Args.nil | refine Args.cons _ _ _ _ _ rfl (argOk_clean rfl) ?_ | refine Args.cons _ _ _ _ _ rfl (argOk_nil _) ?_ | refine Args.cons _ _ _ _ _ rfl (argOk_era _) ?_ | refine Args.cons _ _ _ _ _ rfl (argOk_le rfl (by repeat (first | exact LeA.refl _ | exact LeA.nil _ | exact LeL.refl _ | refine LeA.agg ?_ | refine LeA.tup ?_ | exact LeL.nil | refine LeL.cons ?_ ?_ | exact LeA.any _))) ?_)) rfl rfl (PcopyNodeX x hxe) ?_)
   intro r hr
   rcases entX_or x.entries with he | he
   ·have e9 : nodF x = nodX x (.v (.slice none 0 0)) := by unfold nodF; rw [he]
    rw [e9] at hr
    subst hr
    refine bs_ (h:=?_)
    refine al_p rfl (st_appendB rfl rfl rfl (by rw [NF, rowsB_len (nodF_eight _) (by simp; omega)]; omega) (SrcA.sl _ _) (by simp) (by simp; omega) ?_ (fun h => absurd h (by simp; omega)))
    intro _ row2 bx2 hs1 hs2
    obtain rfl : row2 = NF (ns.take (k + 1)) ns.length := by
     unfold NF
     rw [e, e9]
     exact rowsB_push (nodF_eight _) rfl (by decide) (by rw [hlk]; omega) (by rw [hlk]; exact hs1)
    obtain rfl := (SetAt.one hs2).2
    refine a_ (h:=al_nil (x_blockN (t_ (aw_region (ad_ (h:=m_ (h:=al_nil (?_))))))))
    refine x_then ?_
    refine ⟨_, _, ?_, ⟨k + 1, by omega, rfl, .inl ⟨by omega, rfl⟩⟩, wb_ 1 0 (by simp [bpLtB, bp_NF])⟩
    omega
   have e9 : nodF x = nodX x (.sl 2 (x.entries.map entA) none) := by unfold nodF; rw [he]
   rw [e9] at hr
   subst hr
   refine bs_ (h:=?_)
   refine al_p rfl (st_appendB rfl rfl rfl (by rw [NF, rowsB_len (nodF_eight _) (by simp; omega)]; omega) (SrcA.sl _ _) (by simp) (by simp; omega) ?_ (fun h => absurd h (by simp; omega)))
   intro _ row2 bx2 hs1 hs2
   obtain rfl : row2 = NF (ns.take (k + 1)) ns.length := by
    unfold NF
    rw [e, e9]
    exact rowsB_push (nodF_eight _) rfl (by decide) (by rw [hlk]; omega) (by rw [hlk]; exact hs1)
   obtain rfl := (SetAt.one hs2).2
   refine a_ (h:=al_nil (x_blockN (t_ (aw_region (ad_ (h:=m_ (h:=al_nil (?_))))))))
   refine x_then ?_
   refine ⟨_, _, ?_, ⟨k + 1, by omega, rfl, .inl ⟨by omega, rfl⟩⟩, wb_ 1 0 (by simp [bpLtB, bp_NF])⟩
   omega
  have hc2 := bp hb2
  exfalso; first | contradiction | omega
 ·have hrow : (ns.map nodA)[k]? = some (nodA nI) := by rw [List.getElem?_map, hi]; rfl
  refine w_ (lt_ (h:=e_ (q_ (?_))))
  refine aw_cond rfl (fun hb3 => ?_) (fun hb3 => ?_)
  ·have hc3 := bp hb3
   have hlk : ((ns.take k).map nodF).length = k := by simp; omega
   refine kt_ (q_ (aw_block (w_ (?_))))
   refine al_p rfl (st_index rfl rfl rfl hrow ?_)
   refine l_ (h:=al_ (h:=s_ (h:=e_ (aw_region (m_ (h:=m_ (h:=l_ (h:=?_))))))))
   refine al_p rfl (s_callMC [] rfl (.cons _ _ _ _ _ rfl (LeA.refl _) .nil) (by decide) .nil (PcopyNodeB nI hE hEn) ?_)
   rintro r bc tc ⟨rfl, rfl, rfl⟩
   refine ⟨rfl, _, (back_nodB (n := 2) rfl nI nI.entries.length : Back _ [] _ [_, _, _, _, _]), ?_⟩
   refine al_p rfl (st_slit1B rfl rfl rfl rfl (by repeat constructor) ?_)
   refine al_p rfl (st_appendB rfl rfl rfl (by rw [NF, rowsB_len (nodF_eight _) (by simp; omega)]; omega) (SrcA.bs 5 0 1 1 _ rfl (Nat.le_of_ble_eq_true rfl)) (by decide) (by omega) ?_ (fun h => absurd h (by omega)))
   intro _ row2 bx2 hs1 hs2
   obtain rfl : row2 = NG (ns.take (k + 1)) k nI 4 nI.entries.length ns.length := by
    unfold NG
    rw [rowsG_here hi]
    exact rowsB_push (nodF_eight _) rfl (by decide) (by rw [hlk]; omega) (by rw [hlk]; exact hs1)
   obtain rfl := (SetAt.one hs2).2
   refine a_ (h:=al_nil (x_blockN (t_ (aw_region (ad_ (h:=m_ (h:=al_nil (?_))))))))
   refine x_then ?_
   refine ⟨_, _, ?_, ⟨k + 1, by omega, rfl, .inr (.inl ⟨by omega, by omega, rfl⟩)⟩, weak_ren [0, 4] (fun i hi => absurd hi (Nat.not_lt_zero i)) (by decide) (.cons _ _ _ _ _ rfl (renK_NG (by rfl) _ _ _ _ _) (.cons _ _ _ _ _ rfl (renK_EB _ _ _) .nil)) (by repeat (first | exact SubK.nil | refine SubK.cons _ _ _ _ rfl (LeA.refl _) ?_))⟩
   omega
  have hc3 := bp hb3
  exfalso; first | contradiction | omega
 ·skip
  refine w_ (lt_ (h:=e_ (q_ (?_))))
  refine aw_cond rfl (fun hb4 => ?_) (fun hb4 => ?_)
  ·have hc4 := bp hb4
   obtain ⟨hlt, x, hy, hrow, -⟩ := row_at nodA hc4
   have hxe := hen x (List.mem_of_getElem? hy)
   have e := rowsG_succ (nI := nI) (j := 1) (cap := nI.entries.length) hy hki
   have hlk : (rowsG (ns.take k) i nI 1 nI.entries.length).length = k := by rw [rowsG_len]; simp; omega
   refine kt_ (q_ (aw_block (w_ (i_ (h:=l_ (h:=al_ (h:=s_ (h:=e_ (aw_region (m_ (h:=m_ (h:=l_ (h:=?_)))))))))))))
   refine al_p rfl (st_callC (cy := []) (ys := [.agg (nodA x)]) rfl (by repeat (first | exact Args.nil | refine Args.cons _ _ _ _ _ rfl (argOk_clean rfl) ?_ | refine Args.cons _ _ _ _ _ rfl (argOk_nil _) ?_ | refine Args.cons _ _ _ _ _ rfl (argOk_era _) ?_ | refine Args.cons _ _ _ _ _ rfl (argOk_le rfl (by repeat (first | exact LeA.refl _ | exact LeA.nil _ | exact LeL.refl _ | refine LeA.agg ?_ | refine LeA.tup ?_ | exact LeL.nil | refine LeL.cons ?_ ?_ | exact LeA.any _))) ?_)) rfl rfl (PcopyNodeX x hxe) ?_)
   intro r hr
   rcases entX_or x.entries with he | he
   ·have e9 : nodF x = nodX x (.v (.slice none 0 0)) := by unfold nodF; rw [he]
    rw [e9] at hr
    subst hr
    refine bs_ (h:=?_)
    refine al_p rfl (st_appendB rfl rfl rfl (by rw [NG, rowsB_len (rowsG_eight _ _ _ _ _) (by rw [hlk]; omega)]; omega) (SrcA.sl _ _) (by simp) (by simp; omega) ?_ (fun h => absurd h (by simp; omega)))
    intro _ row2 bx2 hs1 hs2
    obtain rfl : row2 = NG (ns.take (k + 1)) i nI 1 nI.entries.length ns.length := by
     unfold NG
     rw [e, e9]
     exact rowsB_push (rowsG_eight _ _ _ _ _) rfl (by decide) (by rw [hlk]; omega) (by rw [hlk]; exact hs1)
    obtain rfl := (SetAt.one hs2).2
    refine a_ (h:=al_nil (x_blockN (t_ (aw_region (ad_ (h:=m_ (h:=al_nil (?_))))))))
    refine x_then ?_
    refine ⟨_, _, ?_, ⟨k + 1, by omega, rfl, .inr (.inl ⟨by omega, by omega, rfl⟩)⟩, wb_ 2 0 (by simp [bpLtB, bp_NG, bp_EB])⟩
    omega
   have e9 : nodF x = nodX x (.sl 2 (x.entries.map entA) none) := by unfold nodF; rw [he]
   rw [e9] at hr
   subst hr
   refine bs_ (h:=?_)
   refine al_p rfl (st_appendB rfl rfl rfl (by rw [NG, rowsB_len (rowsG_eight _ _ _ _ _) (by rw [hlk]; omega)]; omega) (SrcA.sl _ _) (by simp) (by simp; omega) ?_ (fun h => absurd h (by simp; omega)))
   intro _ row2 bx2 hs1 hs2
   obtain rfl : row2 = NG (ns.take (k + 1)) i nI 1 nI.entries.length ns.length := by
    unfold NG
    rw [e, e9]
    exact rowsB_push (rowsG_eight _ _ _ _ _) rfl (by decide) (by rw [hlk]; omega) (by rw [hlk]; exact hs1)
   obtain rfl := (SetAt.one hs2).2
   refine a_ (h:=al_nil (x_blockN (t_ (aw_region (ad_ (h:=m_ (h:=al_nil (?_))))))))
   refine x_then ?_
   refine ⟨_, _, ?_, ⟨k + 1, by omega, rfl, .inr (.inl ⟨by omega, by omega, rfl⟩)⟩, wb_ 2 0 (by simp [bpLtB, bp_NG, bp_EB])⟩
   omega
  have hc4 := bp hb4
  exfalso; first | contradiction | omega
 ·have hrow : (ns.map nodA)[k]? = some (nodA nJ) := by rw [List.getElem?_map, hj]; rfl
  refine w_ (lt_ (h:=e_ (q_ (?_))))
  refine aw_cond rfl (fun hb5 => ?_) (fun hb5 => ?_)
  ·have hc5 := bp hb5
   have hlk : (rowsG (ns.take k) i nI 1 nI.entries.length).length = k := by rw [rowsG_len]; simp; omega
   refine kt_ (q_ (aw_block (w_ (?_))))
   refine al_p rfl (st_index rfl rfl rfl hrow ?_)
   refine l_ (h:=al_ (h:=s_ (h:=e_ (aw_region (m_ (h:=m_ (h:=l_ (h:=?_))))))))
   refine al_p rfl (s_callMC [] rfl (.cons _ _ _ _ _ rfl (LeA.refl _) .nil) (by decide) .nil (PcopyNodeB nJ hF hFn) ?_)
   rintro r bc tc ⟨rfl, rfl, rfl⟩
   refine ⟨rfl, _, (back_nodB (n := 3) rfl nJ nJ.entries.length : Back _ [] _ [_, _, _, _, _, _]), ?_⟩
   refine al_p rfl (st_slit1B rfl rfl rfl rfl (by repeat constructor) ?_)
   refine al_p rfl (st_appendB rfl rfl rfl (by rw [NG, rowsB_len (rowsG_eight _ _ _ _ _) (by rw [hlk]; omega)]; omega) (SrcA.bs 6 0 1 1 _ rfl (Nat.le_of_ble_eq_true rfl)) (by decide) (by omega) ?_ (fun h => absurd h (by omega)))
   intro _ row2 bx2 hs1 hs2
   obtain rfl : row2 = NGG (ns.take (k + 1)) i nI 1 nI.entries.length k nJ 5 nJ.entries.length ns.length := by
    unfold NGG
    rw [rowsGG_here hj hki]
    exact rowsB_push (rowsG_eight _ _ _ _ _) rfl (by decide) (by rw [hlk]; omega) (by rw [hlk]; exact hs1)
   obtain rfl := (SetAt.one hs2).2
   refine a_ (h:=al_nil (x_blockN (t_ (aw_region (ad_ (h:=m_ (h:=al_nil (?_))))))))
   refine x_then ?_
   refine ⟨_, _, ?_, ⟨k + 1, by omega, rfl, .inr (.inr ⟨by omega, rfl⟩)⟩, weak_ren [0, 1, 5] (fun i hi => absurd hi (Nat.not_lt_zero i)) (by decide) (.cons _ _ _ _ _ rfl (renK_NGG (by rfl) (by rfl) _ _ _ _ _ _ _ _) (.cons _ _ _ _ _ rfl (renK_EB _ _ _) (.cons _ _ _ _ _ rfl (renK_EB _ _ _) .nil))) (by repeat (first | exact SubK.nil | refine SubK.cons _ _ _ _ rfl (LeA.refl _) ?_))⟩
   omega
  have hc5 := bp hb5
  exfalso; first | contradiction | omega
 skip
 refine w_ (lt_ (h:=e_ (q_ (?_))))
 refine aw_cond rfl (fun hb6 => ?_) (fun hb6 => ?_)
 ·have hc6 := bp hb6
  obtain ⟨hlt, x, hy, hrow, -⟩ := row_at nodA hc6
  have hxe := hen x (List.mem_of_getElem? hy)
  have e := rowsGG_succ (i := i) (nI := nI) (a := 1) (ca := nI.entries.length) (nJ := nJ) (b := 2) (cb := nJ.entries.length) hy (by omega) hkj
  have hlk : (rowsGG (ns.take k) i nI 1 nI.entries.length j nJ 2 nJ.entries.length).length = k := by rw [rowsGG_len]; simp; omega
  refine kt_ (q_ (aw_block (w_ (i_ (h:=l_ (h:=al_ (h:=s_ (h:=e_ (aw_region (m_ (h:=m_ (h:=l_ (h:=?_)))))))))))))
  refine al_p rfl (st_callC (cy := []) (ys := [.agg (nodA x)]) rfl (by repeat (first | exact Args.nil | refine Args.cons _ _ _ _ _ rfl (argOk_clean rfl) ?_ | refine Args.cons _ _ _ _ _ rfl (argOk_nil _) ?_ | refine Args.cons _ _ _ _ _ rfl (argOk_era _) ?_ | refine Args.cons _ _ _ _ _ rfl (argOk_le rfl (by repeat (first | exact LeA.refl _ | exact LeA.nil _ | exact LeL.refl _ | refine LeA.agg ?_ | refine LeA.tup ?_ | exact LeL.nil | refine LeL.cons ?_ ?_ | exact LeA.any _))) ?_)) rfl rfl (PcopyNodeX x hxe) ?_)
  intro r hr
  rcases entX_or x.entries with he | he
  ·have e9 : nodF x = nodX x (.v (.slice none 0 0)) := by unfold nodF; rw [he]
   rw [e9] at hr
   subst hr
   refine bs_ (h:=?_)
   refine al_p rfl (st_appendB rfl rfl rfl (by rw [NGG, rowsB_len (rowsGG_eight _ _ _ _ _ _ _ _ _) (by rw [hlk]; omega)]; omega) (SrcA.sl _ _) (by simp) (by simp; omega) ?_ (fun h => absurd h (by simp; omega)))
   intro _ row2 bx2 hs1 hs2
   obtain rfl : row2 = NGG (ns.take (k + 1)) i nI 1 nI.entries.length j nJ 2 nJ.entries.length ns.length := by
    unfold NGG
    rw [e, e9]
    exact rowsB_push (rowsGG_eight _ _ _ _ _ _ _ _ _) rfl (by decide) (by rw [hlk]; omega) (by rw [hlk]; exact hs1)
   obtain rfl := (SetAt.one hs2).2
   refine a_ (h:=al_nil (x_blockN (t_ (aw_region (ad_ (h:=m_ (h:=al_nil (?_))))))))
   refine x_then ?_
   refine ⟨_, _, ?_, ⟨k + 1, by omega, rfl, .inr (.inr ⟨by omega, rfl⟩)⟩, wb_ 3 0 (by simp [bpLtB, bp_NGG, bp_EB])⟩
   omega
  have e9 : nodF x = nodX x (.sl 2 (x.entries.map entA) none) := by unfold nodF; rw [he]
  rw [e9] at hr
  subst hr
  refine bs_ (h:=?_)
  refine al_p rfl (st_appendB rfl rfl rfl (by rw [NGG, rowsB_len (rowsGG_eight _ _ _ _ _ _ _ _ _) (by rw [hlk]; omega)]; omega) (SrcA.sl _ _) (by simp) (by simp; omega) ?_ (fun h => absurd h (by simp; omega)))
  intro _ row2 bx2 hs1 hs2
  obtain rfl : row2 = NGG (ns.take (k + 1)) i nI 1 nI.entries.length j nJ 2 nJ.entries.length ns.length := by
   unfold NGG
   rw [e, e9]
   exact rowsB_push (rowsGG_eight _ _ _ _ _ _ _ _ _) rfl (by decide) (by rw [hlk]; omega) (by rw [hlk]; exact hs1)
  obtain rfl := (SetAt.one hs2).2
  refine a_ (h:=al_nil (x_blockN (t_ (aw_region (ad_ (h:=m_ (h:=al_nil (?_))))))))
  refine x_then ?_
  refine ⟨_, _, ?_, ⟨k + 1, by omega, rfl, .inr (.inr ⟨by omega, rfl⟩)⟩, wb_ 3 0 (by simp [bpLtB, bp_NGG, bp_EB])⟩
  omega
 have hc6 := bp hb6
 have e := row_no nodA hk hc6
 subst e
 rw [List.take_length]
 refine aw_exit (x_thenE (x_thenE (ABlock_out (t_ (w_ (m_ (h:=a_ (h:=e_ (aw_ret (?_))))))))))
 refine abody_ret (r := .bs 0 0 8 ns.length ns.length) none (by repeat (first | exact ResA.nil | (apply ResA.tmp; (focus exact rfl)) | (apply ResA.cellN; (focus exact inferInstance); (focus exact rfl); (focus exact rfl); (focus exact rfl)) | (apply ResA.cell1; (focus exact inferInstance); (focus exact rfl); (focus exact rfl); (focus exact rfl)))) rfl rfl (by simp [bpLtB, bp_NGG, bp_EB]) (LeA.refl _) ⟨rfl, rfl, rfl⟩
theorem PcopyDevGG (d : Dvc) (i : Nat) (nI : Nod) (j : Nat) (nJ : Nod) (hij : i < j) (hi : d.nodes[i]? = some nI) (hj : d.nodes[j]? = some nJ) (hE : 0 < nI.entries.length) (hF : 0 < nJ.entries.length) (hns : d.nodes.length ≤ 1000) (hen : ∀ n ∈ d.nodes, n.entries.length ≤ 1000) : ACall Try.prog 92 [.agg (dvcA d)] [] (fun r b t => t = [] ∧ r = .agg (devR d 2 d.nodes.length) ∧ b = [devR d 2 d.nodes.length, devR d 2 d.nodes.length, NGG d.nodes i nI 3 nI.entries.length j nJ 4 nJ.entries.length d.nodes.length, EB nI.entries nI.entries.length, EB nJ.entries nJ.entries.length]) := by
 have hbk : ∀ bx : List (List AV), Back bx [] [NGG d.nodes i nI 1 nI.entries.length j nJ 2 nJ.entries.length d.nodes.length, EB nI.entries nI.entries.length, EB nJ.entries nJ.entries.length] (bx ++ [NGG d.nodes i nI (bx.length + 1) nI.entries.length j nJ (bx.length + 2) nJ.entries.length d.nodes.length, EB nI.entries nI.entries.length, EB nJ.entries nJ.entries.length]) := fun bx => by
  have := back_F (bx := bx) (is := []) (bc := [NGG d.nodes i nI 1 nI.entries.length j nJ 2 nJ.entries.length d.nodes.length, EB nI.entries nI.entries.length, EB nJ.entries nJ.entries.length]) List.nodup_nil (by simp) (by simp)
  have e2 : renL (backS [] bx.length) (NGG d.nodes i nI 1 nI.entries.length j nJ 2 nJ.entries.length d.nodes.length) = NGG d.nodes i nI (bx.length + 1) nI.entries.length j nJ (bx.length + 2) nJ.entries.length d.nodes.length := ren_NGG (by simp [backS]) (by simp [backS]) _ _ _ _ _ _ _ _
  simpa [backF, ren_EB, e2] using this
 refine enter Try.func92 rfl rfl rfl rfl rfl 5 rfl ?_
 refine w_ (b_ (h:=al_ (h:=e_ (w_ (f_ (h:=l_ (h:=?_)))))))
 refine al_p rfl (s_callM [] rfl (.cons _ _ _ _ _ rfl (LeA.refl _) (.cons _ _ _ _ _ rfl (LeA.refl _) .nil)) (by decide) .nil (PcopiedNGG d.nodes i nI j nJ hij hi hj hE hF hns hen) ?_)
 rintro r bc tc ⟨rfl, rfl, rfl⟩
 refine ⟨rfl, _, (hbk _ : Back _ [] _ [_, _, _, _, _]), ?_⟩
 refine f_ (h:=s_ (h:=e_ (w_ (l_ (h:=s_ (h:=e_ (aw_ret (?_))))))))
 refine abody_ret none (by repeat (first | exact ResA.nil | (apply ResA.tmp; (focus exact rfl)) | (apply ResA.cellN; (focus exact inferInstance); (focus exact rfl); (focus exact rfl); (focus exact rfl)) | (apply ResA.cell1; (focus exact inferInstance); (focus exact rfl); (focus exact rfl); (focus exact rfl)))) rfl rfl (by simp [bpLtB, bpLtL, bpLt, dvcA, devR, bp_NGG, bp_EB, ren, backS]) (LeA.refl _) ⟨rfl, rfl, rfl⟩
theorem PcopiedDGG (f : Fls) (K : Nat) (dK : Dvc) (i : Nat) (nI : Nod) (j : Nat) (nJ : Nod) (hf : FlsB f) (hK : f[K]? = some dK) (hij : i < j) (hi : dK.nodes[i]? = some nI) (hj : dK.nodes[j]? = some nJ) (hE : 0 < nI.entries.length) (hF : 0 < nJ.entries.length) : ACall Try.prog 91 [.sl 2 (f.map dvcA) none, .fn 92 []] [] (fun r b t => t = [] ∧ r = .bs 0 0 2 f.length f.length ∧ b = [DB f K dK 1 f.length dK.nodes.length, NGG dK.nodes i nI 2 nI.entries.length j nJ 3 nJ.entries.length dK.nodes.length, EB nI.entries nI.entries.length, EB nJ.entries nJ.entries.length]) := by
 have hml : (f.map dvcA).length = f.length := by simp
 have hKl := (List.getElem?_eq_some_iff.1 hK).1
 have hfew := hf.few
 have h0 : 0 < dK.nodes.length := Nat.lt_of_le_of_lt (Nat.zero_le _) (List.getElem?_eq_some_iff.1 hi).1
 refine enter Try.func91 rfl rfl rfl rfl rfl 4 rfl ?_
 refine w_ (a_ (h:=e_ (q_ (w_ (m_ (h:=n_ (h:=eq_ (h:=e_ (?_)))))))))
 refine aw_cond rfl (fun hb1 => ?_) (fun hb1 => ?_)
 ·have hc1 := bp hb1
  exfalso; first | contradiction | omega
 have hc1 := bp hb1
 refine kt_ (w_ (m_ (h:=n_ (h:=?_))))
 refine al_p rfl (st_makeB (l := 0) (m := f.length) (k := 0) rfl rfl rfl (by simp) (Nat.zero_le _) (by omega) (by omega) (by repeat constructor) ?_)
 refine a_ (h:=e_ (q_ (w_ (m_ (h:=n_ (h:=m_ (h:=e_ (aw_block (?_)))))))))
 refine aw_loopW (fun m s => ∃ k : Nat, k ≤ f.length ∧ m = f.length - k ∧ ((k ≤ K ∧ s = ⟨look [(1, .fn 92 []), (5, .bs 0 0 2 k f.length), (14, .sl 2 (f.map dvcA) none), (15, .v (.int .i64 ((f.map dvcA).length : Int))), (16, .v (.int .i64 (k : Int)))], ⟨[FB (f.take k) f.length], []⟩⟩) ∨ (K < k ∧ s = ⟨look [(1, .fn 92 []), (5, .bs 0 0 2 k f.length), (14, .sl 2 (f.map dvcA) none), (15, .v (.int .i64 ((f.map dvcA).length : Int))), (16, .v (.int .i64 (k : Int)))], ⟨[DB (f.take k) K dK 1 f.length dK.nodes.length, NGG dK.nodes i nI 2 nI.entries.length j nJ 3 nJ.entries.length dK.nodes.length, EB nI.entries nI.entries.length, EB nJ.entries nJ.entries.length], []⟩⟩))) (f.length) (wb_ 1 0 (by show (bpLtL 1 0 (FB [] f.length) && true) = true; rw [bp_FB]; rfl)) (⟨0, by omega, rfl, .inl ⟨by omega, rfl⟩⟩) ?_
 rintro m s ⟨k, hk, rfl, ⟨hki, rfl⟩ | ⟨hki, rfl⟩⟩
 rcases Nat.lt_or_eq_of_le hki with hki | rfl
 ·skip
  refine w_ (lt_ (h:=e_ (q_ (?_))))
  refine aw_cond rfl (fun hb2 => ?_) (fun hb2 => ?_)
  ·have hc2 := bp hb2
   obtain ⟨hlt, x, hy, hrow, -⟩ := row_at dvcA hc2
   have hxd := List.mem_of_getElem? hy
   have e : (f.take (k + 1)).map dvcA = (f.take k).map dvcA ++ [dvcA x] := by
    obtain ⟨hl, e0⟩ := List.getElem?_eq_some_iff.1 hy
    rw [List.take_succ_eq_append_getElem hl, e0, List.map_append]; rfl
   have hlk : ((f.take k).map dvcA).length = k := by simp; omega
   refine kt_ (q_ (aw_block (w_ (i_ (h:=l_ (h:=al_ (h:=s_ (h:=e_ (aw_region (m_ (h:=m_ (h:=l_ (h:=?_)))))))))))))
   refine al_p rfl (st_callC (cy := []) (ys := [.agg (dvcA x)]) rfl (by repeat (first | exact Args.nil | refine Args.cons _ _ _ _ _ rfl (argOk_clean rfl) ?_ | refine Args.cons _ _ _ _ _ rfl (argOk_nil _) ?_ | refine Args.cons _ _ _ _ _ rfl (argOk_era _) ?_ | refine Args.cons _ _ _ _ _ rfl (argOk_le rfl (by repeat (first | exact LeA.refl _ | exact LeA.nil _ | exact LeL.refl _ | refine LeA.agg ?_ | refine LeA.tup ?_ | exact LeL.nil | refine LeL.cons ?_ ?_ | exact LeA.any _))) ?_)) rfl rfl (PcopyDevA x (hf.nodes x hxd) (hf.ents x hxd)) ?_)
   rintro r rfl
   refine bs_ (h:=?_)
   refine al_p rfl (st_appendB rfl rfl rfl (by rw [FB, rowsB_len (dvcs_two _) (by simp; omega)]; omega) (SrcA.sl _ _) (by simp) (by simp; omega) ?_ (fun h => absurd h (by simp; omega)))
   intro _ row2 bx2 hs1 hs2
   obtain rfl : row2 = FB (f.take (k + 1)) f.length := by
    unfold FB
    rw [e]
    exact rowsB_push (dvcs_two _) rfl (by decide) (by rw [hlk]; omega) (by rw [hlk]; exact hs1)
   obtain rfl := (SetAt.one hs2).2
   refine a_ (h:=al_nil (x_blockN (t_ (aw_region (ad_ (h:=m_ (h:=al_nil (?_))))))))
   refine x_then ?_
   refine ⟨_, _, ?_, ⟨k + 1, by omega, rfl, .inl ⟨by omega, rfl⟩⟩, wb_ 1 0 (by simp [bpLtB, bp_FB])⟩
   omega
  have hc2 := bp hb2
  exfalso; first | contradiction | omega
 ·have hrow : (f.map dvcA)[k]? = some (dvcA dK) := by rw [List.getElem?_map, hK]; rfl
  refine w_ (lt_ (h:=e_ (q_ (?_))))
  refine aw_cond rfl (fun hb3 => ?_) (fun hb3 => ?_)
  ·have hc3 := bp hb3
   have hlk : ((f.take k).map dvcA).length = k := by simp; omega
   refine kt_ (q_ (aw_block (w_ (?_))))
   refine al_p rfl (st_index rfl rfl rfl hrow ?_)
   refine l_ (h:=al_ (h:=s_ (h:=e_ (aw_region (m_ (h:=m_ (h:=l_ (h:=?_))))))))
   refine al_p rfl (s_callMC [] rfl (.cons _ _ _ _ _ rfl (LeA.refl _) .nil) (by decide) .nil (PcopyDevGG dK i nI j nJ hij hi hj hE hF (hf.nodes dK (List.mem_of_getElem? hK)) (hf.ents dK (List.mem_of_getElem? hK))) ?_)
   rintro r bc tc ⟨rfl, rfl, rfl⟩
   refine ⟨rfl, _, (back_devGG (n := 2) rfl dK dK.nodes.length dK.nodes i nI nI.entries.length j nJ nJ.entries.length dK.nodes.length nI.entries nI.entries.length nJ.entries nJ.entries.length : Back _ [] _ [_, _, _, _, _, _, _]), ?_⟩
   refine al_p rfl (st_slit1B rfl rfl rfl rfl (by repeat constructor) ?_)
   refine al_p rfl (st_appendB rfl rfl rfl (by rw [FB, rowsB_len (dvcs_two _) (by simp; omega)]; omega) (SrcA.bs 7 0 1 1 _ rfl (Nat.le_of_ble_eq_true rfl)) (by decide) (by omega) ?_ (fun h => absurd h (by omega)))
   intro _ row2 bx2 hs1 hs2
   obtain rfl : row2 = DB (f.take (k + 1)) k dK 4 f.length dK.nodes.length := by
    unfold DB
    rw [devB_here hK]
    exact rowsB_push (dvcs_two _) rfl (by decide) (by rw [hlk]; omega) (by rw [hlk]; exact hs1)
   obtain rfl := (SetAt.one hs2).2
   refine a_ (h:=al_nil (x_blockN (t_ (aw_region (ad_ (h:=m_ (h:=al_nil (?_))))))))
   refine x_then ?_
   refine ⟨_, _, ?_, ⟨k + 1, by omega, rfl, .inr ⟨by omega, rfl⟩⟩, weak_ren [0, 4, 5, 6] (fun i hi => absurd hi (Nat.not_lt_zero i)) (by decide) (.cons _ _ _ _ _ rfl (renK_DB (by rfl) _ _ _ _ _) (.cons _ _ _ _ _ rfl (renK_NGG (by rfl) (by rfl) _ _ _ _ _ _ _ _) (.cons _ _ _ _ _ rfl (renK_EB _ _ _) (.cons _ _ _ _ _ rfl (renK_EB _ _ _) .nil)))) (by repeat (first | exact SubK.nil | refine SubK.cons _ _ _ _ rfl (LeA.refl _) ?_))⟩
   omega
  have hc3 := bp hb3
  exfalso; first | contradiction | omega
 skip
 refine w_ (lt_ (h:=e_ (q_ (?_))))
 refine aw_cond rfl (fun hb4 => ?_) (fun hb4 => ?_)
 ·have hc4 := bp hb4
  obtain ⟨hlt, x, hy, hrow, -⟩ := row_at dvcA hc4
  have hxd := List.mem_of_getElem? hy
  have e := devB_succ (dK := dK) (j := 1) (cap := dK.nodes.length) hy hki
  have hlk : (devB (f.take k) K dK 1 dK.nodes.length).length = k := by rw [devB_len]; simp; omega
  refine kt_ (q_ (aw_block (w_ (i_ (h:=l_ (h:=al_ (h:=s_ (h:=e_ (aw_region (m_ (h:=m_ (h:=l_ (h:=?_)))))))))))))
  refine al_p rfl (st_callC (cy := []) (ys := [.agg (dvcA x)]) rfl (by repeat (first | exact Args.nil | refine Args.cons _ _ _ _ _ rfl (argOk_clean rfl) ?_ | refine Args.cons _ _ _ _ _ rfl (argOk_nil _) ?_ | refine Args.cons _ _ _ _ _ rfl (argOk_era _) ?_ | refine Args.cons _ _ _ _ _ rfl (argOk_le rfl (by repeat (first | exact LeA.refl _ | exact LeA.nil _ | exact LeL.refl _ | refine LeA.agg ?_ | refine LeA.tup ?_ | exact LeL.nil | refine LeL.cons ?_ ?_ | exact LeA.any _))) ?_)) rfl rfl (PcopyDevA x (hf.nodes x hxd) (hf.ents x hxd)) ?_)
  rintro r rfl
  refine bs_ (h:=?_)
  refine al_p rfl (st_appendB rfl rfl rfl (by rw [DB, rowsB_len (devB_two _ _ _ _ _) (by rw [hlk]; omega)]; omega) (SrcA.sl _ _) (by simp) (by simp; omega) ?_ (fun h => absurd h (by simp; omega)))
  intro _ row2 bx2 hs1 hs2
  obtain rfl : row2 = DB (f.take (k + 1)) K dK 1 f.length dK.nodes.length := by
   unfold DB
   rw [e]
   exact rowsB_push (devB_two _ _ _ _ _) rfl (by decide) (by rw [hlk]; omega) (by rw [hlk]; exact hs1)
  obtain rfl := (SetAt.one hs2).2
  refine a_ (h:=al_nil (x_blockN (t_ (aw_region (ad_ (h:=m_ (h:=al_nil (?_))))))))
  refine x_then ?_
  refine ⟨_, _, ?_, ⟨k + 1, by omega, rfl, .inr ⟨by omega, rfl⟩⟩, wb_ 4 0 (by simp [bpLtB, bp_DB, bp_NGG, bp_EB])⟩
  omega
 have hc4 := bp hb4
 have e := row_no dvcA hk hc4
 subst e
 rw [List.take_length]
 refine aw_exit (x_thenE (x_thenE (ABlock_out (t_ (w_ (m_ (h:=a_ (h:=e_ (aw_ret (?_))))))))))
 refine abody_ret (r := .bs 0 0 2 f.length f.length) none (by repeat (first | exact ResA.nil | (apply ResA.tmp; (focus exact rfl)) | (apply ResA.cellN; (focus exact inferInstance); (focus exact rfl); (focus exact rfl); (focus exact rfl)) | (apply ResA.cell1; (focus exact inferInstance); (focus exact rfl); (focus exact rfl); (focus exact rfl)))) rfl rfl (by simp [bpLtB, bp_DB, bp_NGG, bp_EB]) (LeA.refl _) ⟨rfl, rfl, rfl⟩
theorem PcopyFilesGG (f : Fls) (K : Nat) (dK : Dvc) (i : Nat) (nI : Nod) (j : Nat) (nJ : Nod) (hf : FlsB f) (hK : f[K]? = some dK) (hij : i < j) (hi : dK.nodes[i]? = some nI) (hj : dK.nodes[j]? = some nJ) (hE : 0 < nI.entries.length) (hF : 0 < nJ.entries.length) : ACall Try.prog 63 [.agg (flsA f)] [] (fun r b t => t = [] ∧ r = .agg [.bs 2 0 2 f.length f.length] ∧ b = [[.bs 2 0 2 f.length f.length], [.bs 2 0 2 f.length f.length], DB f K dK 3 f.length dK.nodes.length, NGG dK.nodes i nI 4 nI.entries.length j nJ 5 nJ.entries.length dK.nodes.length, EB nI.entries nI.entries.length, EB nJ.entries nJ.entries.length]) := by
 refine enter Try.func63 rfl rfl rfl rfl rfl 6 rfl ?_
 refine w_ (b_ (h:=al_ (h:=e_ (w_ (f_ (h:=l_ (h:=?_)))))))
 refine al_p rfl (s_callM [] rfl (.cons _ _ _ _ _ rfl (LeA.refl _) (.cons _ _ _ _ _ rfl (LeA.refl _) .nil)) (by decide) .nil (PcopiedDGG f K dK i nI j nJ hf hK hij hi hj hE hF) ?_)
 rintro r bc tc ⟨rfl, rfl, rfl⟩
 refine ⟨rfl, _, (back_devsGG (n := 2) rfl f K dK f.length dK.nodes.length dK.nodes i nI nI.entries.length j nJ nJ.entries.length dK.nodes.length nI.entries nI.entries.length nJ.entries nJ.entries.length : Back _ [] _ [_, _, _, _, _, _]), ?_⟩
 refine f_ (h:=s_ (h:=e_ (w_ (l_ (h:=s_ (h:=e_ (aw_ret (?_))))))))
 refine abody_ret none (by repeat (first | exact ResA.nil | (apply ResA.tmp; (focus exact rfl)) | (apply ResA.cellN; (focus exact inferInstance); (focus exact rfl); (focus exact rfl); (focus exact rfl)) | (apply ResA.cell1; (focus exact inferInstance); (focus exact rfl); (focus exact rfl); (focus exact rfl)))) rfl rfl (by simp [bpLtB, bpLtL, bpLt, flsA, bp_DB, bp_NGG, bp_EB, ren, backS]) (LeA.refl _) ⟨rfl, rfl, rfl⟩
end
section
variable {P : Program} {ev : Operand → Option AV} {h : AH} {R : AV → AH → Prop} {d : Option Tmp} {ty : TypeId} {pos : String} {af : Array Edge} {gd : Option (Nat × Bool)} {ats : Array TypeId}
theorem st_overlaps {f : FuncId} {fn : Func} {T T2 E sz bytes i o1 n1 c1 j o2 n2 c2 : Nat} {x y : Operand} {r1 r2 : List AV} [hE : Elm P T E sz bytes] (hf : P.funcs[f]? = some fn) (hname : (fn.name == "runtime.NumGoroutine") = false) (hb : fn.body.isNone = true) (hn : Extern.findNext fn = none) (he' : Extern.find fn = some (Extern.SlicesOverlaps.overlaps #[T, T] #[T2]))
    (hfo : ev (.func f) = some (.fn f [])) (hx : ev x = some (.bs i o1 sz n1 c1)) (hy : ev y = some (.bs j o2 sz n2 c2)) (hij : i ≠ j) (hb1 : h.bx[i]? = some r1) (hb2 : h.bx[j]? = some r2) (hl2 : 0 < r2.length) (hR : R (.v (.bool false)) h) : AStep P ⟨d, .call { callee := .value (.func f), args := #[x, y], argTypes := ats }, ty, pos, af, gd⟩ ev h R := by
 refine st_val (fun _ G w ec hr he => ?_) hR
 obtain ⟨cs, k1, k2⟩ := func_op (he (.func f) (by simp [Op.operands, Call.operands]) _ hfo)
 simp only [repL] at k2
 subst k2
 have h1 := he x (by simp [Op.operands, Call.operands]) _ hx
 have h2 := he y (by simp [Op.operands, Call.operands]) _ hy
 simp only [rep] at h1 h2
 obtain ⟨b, g1, g2, -, -⟩ := h1
 obtain ⟨b', g3, g4, -, -⟩ := h2
 obtain ⟨hu, inf, z, hinf, hz, hzs, hs, hby, hp⟩ := elm_spec hE.eq
 obtain ⟨us, T1, q1, q2, _⟩ := hr.boxAt g1 hb1
 obtain ⟨us2, T3, q3, q4, _⟩ := hr.boxAt g3 hb2
 have hne : b ≠ b' := by
  rintro rfl
  obtain ⟨l1, e1⟩ := List.getElem?_eq_some_iff.1 g1
  obtain ⟨l2, e2⟩ := List.getElem?_eq_some_iff.1 g3
  have hnd := List.pairwise_iff_getElem.1 hr.bxnd
  rcases Nat.lt_trichotomy i j with hl | hl | hl
  ·exact hnd i j l1 l2 hl (e1.trans e2.symm)
  ·exact hij hl
  exact hnd j i l2 l1 hl (e2.trans e1.symm)
 have hl4 := repL_length q4
 have hrun := Lib.run_overlaps_apart (P := P) w T T2 E hu inf.size (fun w => by simp [sizeOf, typeInfo, hinf]) ⟨b, o1, none⟩ ⟨b', o2, none⟩ n1 c1 n2 c2 hne T1 T3 us.length us2.length (by simp [World.shape?, q1]) (by simp [World.shape?, q3]) (by omega) (by simp [World.frozen?, q1]) (by simp [World.frozen?, q1])
 refine ⟨.bool false, ?_, by simp only [rep]⟩
 simp only [execOp, resolve, k1, Deferred.ofValue, invoke, Sem.run_bind, Sem.run_pure, Result.andThen_ok, List.map_toArray, List.map_cons, List.map_nil]
 rw [run_callFunc_extern hf hname hb hn he']
 simp [g2, g4, hrun]
theorem st_sliceUp {T : TypeId} {x hi : Operand} {E sz bytes i off n cap k : Nat} {iv : Int} [hE : Elm P T E sz bytes] (hx : ev x = some (.bs i off sz n cap)) (hh : ev hi = some (.v (.int .i64 iv))) (hi' : iv = (k : Int)) (hle : k ≤ cap) (hR : R (.bs i off sz k cap) h) :
    AStep P ⟨d, .slice T x none (some hi) none, ty, pos, af, gd⟩ ev h R := by
 refine st_val (fun _ G w ec _ he => ?_) hR
 have k1 := he x (by simp [Op.operands]) _ hx
 have k2 := he hi (by simp [Op.operands]) _ hh
 simp only [rep] at k1 k2
 obtain ⟨b, e1, e2, e3, e4⟩ := k1
 obtain ⟨hu, inf, z, hinf, hz, hzs, hs, hby, hp⟩ := elm_spec hE.eq
 subst hi'
 refine ⟨.slice (some ⟨b, off, none⟩) k cap, ?_, by simp only [rep]; exact ⟨b, e1, rfl, hle, e4⟩⟩
 simp [execOp, e2, k2, Instr.sliceAt, Instr.slice, Instr.sliceBounds, Instr.sliceBound, asIntOf, run_underlying hu, sizeOf, typeInfo, hinf, hs, hle, Addr.add_mid]
theorem st_copyMB {T T2 : TypeId} {x y : Operand} {E sz bytes i off n cap j o2 m2 c2 : Nat} {row row' row2 : List AV} {bx' : List (List AV)} [hE : Elm P T E sz bytes] (hx : ev x = some (.bs i off sz n cap)) (hy : ev y = some (.bs j o2 sz m2 c2)) (hb : h.bx[i]? = some row) (hb2 : h.bx[j]? = some row2) (hn : 0 < n) (hmn : n ≤ m2) (hfit : off + n * sz ≤ row.length) (hfit2 : o2 + n * sz ≤ row2.length)
    (hset : SetAt row off ((row2.drop o2).take (n * sz)) row') (hbx : SetAt h.bx i [row'] bx') (hR : R (.v (.int .i64 (n : Int))) ⟨bx', h.tk⟩) : AStep P ⟨d, .call { callee := .builtin .copy, args := #[x, y], argTypes := #[T, T2] }, ty, pos, af, gd⟩ ev h R := by
 intro E' G w ec hr he
 have k1 := he x (by simp [Op.operands, Call.operands]) _ hx
 have k2 := he y (by simp [Op.operands, Call.operands]) _ hy
 obtain ⟨hu, inf, z, hinf, hz, hzs, hsz, hbts, hp⟩ := elm_spec hE.eq
 simp only [rep] at k2
 obtain ⟨b2, j1, j2, j3, j4⟩ := k2
 obtain ⟨ad, c, us, e1, e2, e3, e4, e5⟩ := (SrcA.bs (h := h) (sz := sz) j o2 n c2 row2 hb2 hfit2).run (v := .slice (some ⟨b2, o2, none⟩) n c2) hr (by simp only [rep]; exact ⟨b2, j1, rfl, by omega, j4⟩) hp hn
 injection e1 with e1 _ e1c
 injection e1 with e1
 subst e1 e1c
 simp only [rep] at k1
 obtain ⟨b, k3, k4, k5, k6⟩ := k1
 obtain ⟨vs, Tb, q1, q2, q3⟩ := hr.boxAt k3 hb
 have hlen := repL_length q2
 have hl := run_loadCells_list (P := P) w ⟨b2, o2, none⟩ us e5
 rw [e2] at hl
 have hst := run_storeCells_cells (P := P) b off us 0 w (fun j hj => by simp only [World.cell?, q1]; simp; omega) (fun j hj => by simp [World.frozen?, q1]) e4
 simp only [Nat.add_zero] at hst
 have hrun : (Builtin.copy_ #[T, T2] ty #[.slice (some ⟨b, off, none⟩) n cap, .slice (some ⟨b2, o2, none⟩) m2 c2]).run P w = .ok (.int .i64 (n : Int)) (w.setCells b off us) := by
  have hmin : Nat.min m2 n = n := Nat.min_eq_right hmn
  simp [Builtin.copy_, run_underlying hu, Builtin.lenOf, Builtin.firstCells, sizeOf, typeInfo, hinf, hsz, hmin, hl, hst, goInt]
 obtain ⟨r1, r2, r3, r4, r5, r6⟩ := setCells_heap b Tb us off vs w q1
 obtain ⟨m1, _⟩ := hset.rep q2 e3
 obtain ⟨t1, t2⟩ := hr.setBox (w' := w.setCells b off us) (row := row') k3 r4 r5 r6 r3 r2 ⟨_, Tb, r1, m1, fun u hu => by
  rcases setL_mem us vs _ u hu with e | e
  ·exact q3 u e
  exact e4 u e⟩
 have hbe := (SetAt.one hbx).2
 subst hbe
 simp only [execOp, resolve, invoke, builtin, Sem.run_bind, Sem.run_pure, Result.andThen_ok, List.map_toArray, List.map_cons, List.map_nil, k4, j2, hrun]
 exact ⟨_, _, G, hR, t1, t2, by simp only [rep]⟩
end
end Go.Proofs.Ythcbdkmhamhciaa
