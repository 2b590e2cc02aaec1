/-
  Part 13 of the proof of FilesSpoiledP: what the statement's proof uses of the texts in wip/tpl.
-/
import Derived.Test.YthcbdkmhamhciaaQs12
namespace Go.Proofs.Ythcbdkmhamhciaa
open Go.RowKit
section
set_option maxRecDepth 10000
set_option maxHeartbeats 2000000
theorem plain_eq (n : Nod) : plainL n = if attrP n.mode n.uid n.gid = false then false else if n.kind = 1 then decide (n.target = ⟨#[]⟩) else if n.kind = 2 then decide (n.target = ⟨#[]⟩) else if n.kind = 3 then targetL n.target else false := by
 have ee : n.target.toList.isEmpty = decide (n.target = ⟨#[]⟩) := by
  rw [← str_eq n.target ⟨#[]⟩, show (⟨#[]⟩ : ByteArray).toList = [] by rw [ByteArray.toList_eq]]
  cases n.target.toList <;> rfl
 unfold plainL
 rw [ee]
 by_cases ha : attrP n.mode n.uid n.gid = false
 ·rw [if_pos ha]
  unfold attrP at ha
  simp only [decide_eq_false_iff_not] at ha
  rw [if_pos (by omega)]
 rw [if_neg ha]
 unfold attrP at ha
 simp only [decide_eq_false_iff_not, Decidable.not_not] at ha
 by_cases h1 : n.kind = 1
 ·rw [if_pos h1, if_neg (by omega), if_neg (by omega)]
 rw [if_neg h1]
 by_cases h2 : n.kind = 2
 ·rw [if_pos h2, if_neg (by omega), if_neg (by omega)]
 rw [if_neg h2]
 by_cases h3 : n.kind = 3
 ·rw [if_pos h3, if_neg (by omega), if_pos h3]
 rw [if_neg h3, if_neg h3, if_pos (by omega)]
theorem Pmakeable (n : Nod) (ht : n.target.size ≤ 100000) : AFn Try.prog 60 [.agg (nodA n)] (fun r => r = .v (.bool (plainL n))) := by
 refine enter Try.func60 rfl rfl rfl rfl rfl 0 rfl ?_
 refine w_ (b_ (h:=a_ (h:=e_ (q_ (w_ (f_ (h:=l_ (h:=f_ (h:=l_ (h:=f_ (h:=l_ (h:=?_))))))))))))
 refine al_p rfl (q_call (Pattr n.mode n.uid n.gid) ?_)
 rintro r rfl
 refine nt_ (h:=e_ (?_))
 refine aw_cond rfl (fun hb1 => ?_) (fun hb1 => ?_)
 ·have hc1 := bp hb1
  refine w_ (a_ (h:=e_ (aw_ret (x_thenR (?_)))))
  refine e_ret ?_
  exact vb (by rw [plain_eq]; simp_all)
 have hc1 := bp hb1
 refine kt_ (q_ (w_ (f_ (h:=l_ (h:=e_ (aw_block (q_ (w_ (eq_ (h:=a_ (h:=e_ (?_))))))))))))
 refine aw_cond rfl (fun hb2 => ?_) (fun hb2 => ?_)
 ·have hc2 := bp hb2
  refine kt_ (cy_ (h:=w_ (f_ (h:=l_ (h:=eq_ (h:=a_ (h:=e_ (aw_ret (x_blockR (x_thenR (?_)))))))))))
  refine e_ret ?_
  exact vb (by rw [plain_eq]; simp_all)
 have hc2 := bp hb2
 refine aw_region (eq_ (h:=a_ (h:=e_ (?_))))
 refine aw_cond rfl (fun hb3 => ?_) (fun hb3 => ?_)
 ·have hc3 := bp hb3
  refine w_ (f_ (h:=l_ (h:=eq_ (h:=a_ (h:=e_ (aw_ret (x_blockR (x_thenR (?_)))))))))
  refine e_ret ?_
  exact vb (by rw [plain_eq]; simp_all)
 have hc3 := bp hb3
 refine w_ (eq_ (h:=a_ (h:=e_ (?_))))
 refine aw_cond rfl (fun hb4 => ?_) (fun hb4 => ?_)
 ·have hc4 := bp hb4
  refine w_ (f_ (h:=l_ (h:=?_)))
  refine al_p rfl (q_call (Ptarget n.target ht) ?_)
  rintro r rfl
  refine a_ (h:=e_ (aw_ret (x_blockR (x_thenR (?_)))))
  refine e_ret ?_
  exact vb (by rw [plain_eq]; simp_all)
 have hc4 := bp hb4
 refine aw_skip (x_blockN (t_ (w_ (a_ (h:=e_ (aw_ret (?_)))))))
 refine e_ret ?_
 exact vb (by rw [plain_eq]; simp_all)
theorem NX_len (ns : List Nod) (i : Nat) (nI : Nod) (e : AV) (cap1 : Nat) (h : ns.length ≤ cap1) : (NX ns i nI e cap1).length = cap1 * 8 := rowsB_len (NX_eight _ _ _ _) (by simpa using h)
theorem NX_new {ns : List Nod} {i : Nat} {nI : Nod} {e : AV} {cap0 cap : Nat} {m : Nod} (hi : i < ns.length) (he : m.entries = []) : ((NX ns i nI e cap0).drop 0).take (ns.length * 8) ++ cellsA (.agg (nodX m (.v (.slice none 0 0)))) ++ List.replicate ((cap - (ns.length + 1)) * 8) .any = NX (ns ++ [m]) i nI e cap := by
 show _ ++ nodX m (.v (.slice none 0 0)) ++ _ = _
 unfold NX
 rw [rowsB_new (NX_eight _ _ _ _) (by simp)]
 congr 1
 rw [List.map_append, List.set_append_left _ _ (by simpa using hi)]
 simp [nodF, entX, he]
theorem Pmake0 (f : Fls) (dir : Fil) (name : Str) (n : Nod) (hv : FlsV f) (hns : n.target.size ≤ 100000) (hE0 : (nodG f dir).entries = []) : AFn Try.prog 24 [.agg (flsA f), .agg (filA dir), .v (.string name), .agg (nodA n)] (fun r => r = chgR (mkL f dir name n)) := by
 have hf := hv.b
 refine enter Try.func24 rfl rfl rfl rfl rfl 0 rfl ?_
 refine w_ (b_ (h:=b_ (h:=b_ (h:=al_ (h:=a_ (h:=a_ (h:=e_ (q_ (w_ (l_ (h:=l_ (h:=?_))))))))))))
 refine al_p rfl (q_call (PdirF f dir hf) ?_)
 rintro r rfl
 refine a_ (h:=e_ (w_ (m_ (h:=nq_ (h:=e_ (?_))))))
 refine aw_cond rfl (fun hb1 => ?_) (fun hb1 => ?_)
 ·have hc1 := bp hb1
  refine w_ (bd_ (h:=m_ (h:=s_ (h:=a_ (h:=a_ (h:=e_ (aw_ret (x_thenR (?_)))))))))
  refine rt_ (r := chgR (mkL f dir name n)) none (h5 := ?_) (h6 := ⟨rfl, rfl, rfl⟩)
  (rw [mkL, if_pos (show placeL f dir name ≠ 0 by rw [place_dir hc1]; exact hc1), place_dir hc1]; exact err_le _)
 have hc1 := bp hb1
 refine kt_ (q_ (w_ (m_ (h:=?_))))
 refine al_p rfl (q_call (Pname name) ?_)
 rintro r rfl
 refine nt_ (h:=m_ (h:=?_))
 refine al_gs false rfl rfl (fun hb2 => ?_) (fun hb2 => ?_)
 ·have hc2 := bp hb2
  refine g0_ (h:=g0_ (h:=g0_ (h:=pt_ (h:=e_ (cy_ (h:=w_ (bd_ (h:=s_ (h:=a_ (h:=a_ (h:=e_ (aw_ret (x_thenR (?_))))))))))))))
  refine rt_ (r := chgR (mkL f dir name n)) none (h5 := ?_) (h6 := ⟨rfl, rfl, rfl⟩)
  first
  | (rw [mkL, if_pos (show placeL f dir name ≠ 0 by rw [place_dir hc1]; exact hc1), place_dir hc1]; exact err_le _)
  | (rw [mkL, show placeL f dir name = 22 from place_nm (by omega) hc2, if_pos (by decide)]; exact err_le _)
 have hc2 := bp hb2
 have hpl : placeL f dir name = 0 := place_zero (by omega) hc2
 refine l_ (h:=?_)
 refine g_y (q_call (Pmakeable n hns) ?_)
 rintro r rfl
 refine nt_ (h:=pf_ (h:=e_ (?_)))
 refine aw_cond rfl (fun hb3 => ?_) (fun hb3 => ?_)
 ·have hc3 := bp hb3
  have hpn := hc3
  refine w_ (bd_ (h:=s_ (h:=a_ (h:=a_ (h:=e_ (aw_ret (x_thenR (?_))))))))
  refine rt_ (r := chgR (mkL f dir name n)) none (h5 := ?_) (h6 := ⟨rfl, rfl, rfl⟩)
  first
  | (rw [mkL, if_pos (show placeL f dir name ≠ 0 by rw [place_dir hc1]; exact hc1), place_dir hc1]; exact err_le _)
  | (rw [mkL, show placeL f dir name = 22 from place_nm (by omega) hc2, if_pos (by decide)]; exact err_le _)
  | (rw [mkL, if_neg (by rw [hpl]; simp), if_pos (by assumption)]; exact err_le _)
 have hc3 := bp hb3
 have hpn : ¬ plainL n = false := by simp [hc3]
 refine kt_ (q_ (w_ (l_ (h:=l_ (h:=m_ (h:=?_))))))
 refine al_p rfl (q_call (Pentry f dir name hf) ?_)
 rintro r rfl
 refine m_ (h:=x_ (h:=x_ (h:=al_ (h:=s_ (h:=a_ (h:=e_ (w_ (m_ (h:=e_ (?_))))))))))
 refine aw_cond rfl (fun hb4 => ?_) (fun hb4 => ?_)
 ·have hc4 := bp hb4
  refine w_ (bd_ (h:=s_ (h:=a_ (h:=a_ (h:=e_ (aw_ret (x_thenR (?_))))))))
  refine rt_ (r := chgR (mkL f dir name n)) none (h5 := ?_) (h6 := ⟨rfl, rfl, rfl⟩)
  first
  | (rw [mkL, if_pos (show placeL f dir name ≠ 0 by rw [place_dir hc1]; exact hc1), place_dir hc1]; exact err_le _)
  | (rw [mkL, show placeL f dir name = 22 from place_nm (by omega) hc2, if_pos (by decide)]; exact err_le _)
  | (rw [mkL, if_neg (by rw [hpl]; simp), if_pos (by assumption)]; exact err_le _)
  | (rw [mkL, if_neg (by rw [hpl]; simp), if_neg hpn, if_pos (show (lookL f dir name).2 = 0 by rw [lkE_yes (by omega) (by assumption)])]; exact err_le _)
 have hc4 := bp hb4
 obtain ⟨q, i, d, n0, hdq, hq, hn0, hino, hidx, hnode, hk0, hnm⟩ := place_ok hpl
 have hil := (List.getElem?_eq_some_iff.1 hn0).1
 have hql := (List.getElem?_eq_some_iff.1 hq).1
 have hdn := hf.nodes d (List.mem_of_getElem? hq)
 have hen0 := hf.ents d (List.mem_of_getElem? hq) n0 (List.mem_of_getElem? hn0)
 have hfst := idx_first hdq hq hidx
 have hno := ent_none hnode hc4
 have hfew := hf.few
 have hvd := hv.vd d (List.mem_of_getElem? hq)
 have hatI : atI f dir.1 = some d := by rw [hdq, atI_nat, hq]
 have hD0 : (DB f q d 11 f.length d.nodes.length)[0 + q * 2 + 1]? = some (.bs 11 0 8 d.nodes.length d.nodes.length) := DB_nodes hql
 have hrow : (f.map dvcA)[q]? = some (dvcA d) := by rw [List.getElem?_map, hq]; rfl
 have hnx1 := hvd.next2
 have hnx2 := hvd.nextM
 have hdl := hvd.len
 have hino0 : d.next ≠ 0 := by omega
 have hlk : ¬ (lookL f dir name).2 = 0 := by rw [lkE_two (by omega) hc4]; decide
 have hE : n0.entries = [] := by simpa [nodG, hnode] using hE0
 obtain ⟨mk, hmk⟩ : ∃ mk, mk = mkNod n d.next dir.2 := ⟨_, rfl⟩
 refine kt_ (w_ (f_ (h:=l_ (h:=f_ (h:=l_ (h:=?_))))))
 refine al_p rfl (st_index (n := q) rfl rfl hdq hrow ?_)
 refine l_ (h:=al_ (h:=s_ (h:=e_ (q_ (w_ (f_ (h:=l_ (h:=n_ (h:=ge_ (h:=m_ (h:=?_)))))))))))
 refine al_gs false rfl rfl (fun hb5 => ?_) (fun hb5 => ?_)
 ·have hc5 := bp hb5
  refine g0_ (h:=g0_ (h:=g0_ (h:=pt_ (h:=m_ (h:=g0_ (h:=g0_ (h:=g0_ (h:=pt_ (h:=e_ (cy_ (h:=w_ (bd_ (h:=s_ (h:=a_ (h:=a_ (h:=e_ (aw_ret (x_thenR (?_)))))))))))))))))))
  refine rt_ (r := chgR (mkL f dir name n)) none (h5 := ?_) (h6 := ⟨rfl, rfl, rfl⟩)
  first
  | (rw [mkL, if_pos (show placeL f dir name ≠ 0 by rw [place_dir hc1]; exact hc1), place_dir hc1]; exact err_le _)
  | (rw [mkL, show placeL f dir name = 22 from place_nm (by omega) hc2, if_pos (by decide)]; exact err_le _)
  | (rw [mkL, if_neg (by rw [hpl]; simp), if_pos (by assumption)]; exact err_le _)
  | (rw [mkL, if_neg (by rw [hpl]; simp), if_neg hpn, if_pos (show (lookL f dir name).2 = 0 by rw [lkE_yes (by omega) (by assumption)])]; exact err_le _)
  | (rw [mkL, if_neg (by rw [hpl]; simp), if_neg hpn, if_neg hlk, hatI]; simp only; rw [if_pos (by first | exact .inl (by rw [List.length_map] at hc5; omega) | exact .inr (.inl (by omega)) | exact .inr (.inr (by assumption)))]; exact err_le _)
 have hc5 := bp hb5
 refine f_ (h:=l_ (h:=ge_ (h:=pf_ (h:=m_ (h:=?_)))))
 refine al_gs false rfl rfl (fun hb6 => ?_) (fun hb6 => ?_)
 ·have hc6 := bp hb6
  refine g0_ (h:=g0_ (h:=g0_ (h:=pt_ (h:=e_ (cy_ (h:=w_ (bd_ (h:=s_ (h:=a_ (h:=a_ (h:=e_ (aw_ret (x_thenR (?_))))))))))))))
  refine rt_ (r := chgR (mkL f dir name n)) none (h5 := ?_) (h6 := ⟨rfl, rfl, rfl⟩)
  first
  | (rw [mkL, if_pos (show placeL f dir name ≠ 0 by rw [place_dir hc1]; exact hc1), place_dir hc1]; exact err_le _)
  | (rw [mkL, show placeL f dir name = 22 from place_nm (by omega) hc2, if_pos (by decide)]; exact err_le _)
  | (rw [mkL, if_neg (by rw [hpl]; simp), if_pos (by assumption)]; exact err_le _)
  | (rw [mkL, if_neg (by rw [hpl]; simp), if_neg hpn, if_pos (show (lookL f dir name).2 = 0 by rw [lkE_yes (by omega) (by assumption)])]; exact err_le _)
  | (rw [mkL, if_neg (by rw [hpl]; simp), if_neg hpn, if_neg hlk, hatI]; simp only; rw [if_pos (by first | exact .inl (by rw [List.length_map] at hc5; omega) | exact .inr (.inl (by omega)) | exact .inr (.inr (by assumption)))]; exact err_le _)
 have hc6 := bp hb6
 refine l_ (h:=l_ (h:=?_))
 refine g_y (q_call (Pfull f dir hf) ?_)
 rintro r rfl
 refine pf_ (h:=e_ (?_))
 refine aw_cond rfl (fun hb7 => ?_) (fun hb7 => ?_)
 ·have hc7 := bp hb7
  refine w_ (bd_ (h:=s_ (h:=a_ (h:=a_ (h:=e_ (aw_ret (x_thenR (?_))))))))
  refine rt_ (r := chgR (mkL f dir name n)) none (h5 := ?_) (h6 := ⟨rfl, rfl, rfl⟩)
  first
  | (rw [mkL, if_pos (show placeL f dir name ≠ 0 by rw [place_dir hc1]; exact hc1), place_dir hc1]; exact err_le _)
  | (rw [mkL, show placeL f dir name = 22 from place_nm (by omega) hc2, if_pos (by decide)]; exact err_le _)
  | (rw [mkL, if_neg (by rw [hpl]; simp), if_pos (by assumption)]; exact err_le _)
  | (rw [mkL, if_neg (by rw [hpl]; simp), if_neg hpn, if_pos (show (lookL f dir name).2 = 0 by rw [lkE_yes (by omega) (by assumption)])]; exact err_le _)
  | (rw [mkL, if_neg (by rw [hpl]; simp), if_neg hpn, if_neg hlk, hatI]; simp only; rw [if_pos (by first | exact .inl (by rw [List.length_map] at hc5; omega) | exact .inr (.inl (by omega)) | exact .inr (.inr (by assumption)))]; exact err_le _)
 have hc7 := bp hb7
 have hnf : ¬ (16 ≤ d.nodes.length ∨ d.next = 1073741824 ∨ fullL f dir = true) := by
  rw [List.length_map] at hc5
  rw [hc7]
  simp
  omega
 refine kt_ (w_ (f_ (h:=l_ (h:=f_ (h:=l_ (h:=f_ (h:=l_ (h:=f_ (h:=l_ (h:=f_ (h:=l_ (h:=f_ (h:=l_ (h:=bd_ (h:=al_ (h:=s_ (h:=e_ (?_))))))))))))))))))
 refine aw_midI (fun t => t = ⟨look [(2, .v (.string name)), (4, .bp 0 0), (5, .bp 1 0), (7, .bp 2 0), (8, .bp 3 0), (15, .bp 6 0)], ⟨[flsA f, filA dir, nodA n, [.v (.slice none 0 0)], filA (entP f dir name).1, dvcA d, nodX mk (.v (.slice none 0 0))], []⟩⟩) ?_ ?_
 ·skip
  refine w_ (f_ (h:=l_ (h:=eq_ (h:=e_ (?_)))))
  refine aw_cond rfl (fun hb8 => ?_) (fun hb8 => ?_)
  ·have hc8 := bp hb8
   have hmk2 : mk = ⟨d.next, n.kind, n.mode, n.uid, n.gid, dir.2, n.target, []⟩ := by rw [hmk]; unfold mkNod; rw [if_pos hc8]
   refine aw_region (f_ (h:=l_ (h:=f_ (h:=s_ (h:=al_nil (?_))))))
   refine x_then ?_
   refine ⟨_, rfl, ?_⟩
   rw [hmk2]
   exact (wk 7 0)
  have hc8 := bp hb8
  have hmk2 : mk = ⟨d.next, n.kind, n.mode, n.uid, n.gid, 0, n.target, []⟩ := by rw [hmk]; unfold mkNod; rw [if_neg hc8]
  refine aw_skip (?_)
  refine x_then ?_
  refine ⟨_, rfl, ?_⟩
  rw [hmk2]
  exact (wk 7 0)
 rintro t rfl
 have hmki : mk.ino = d.next := by rw [hmk]; rfl
 have hmk0 : (nodX mk (.v (.slice none 0 0)))[0 + 0]? = some (.v (.int .i64 d.next)) := by rw [hmk]; rfl
 have hmke : mk.entries = [] := by rw [hmk]; rfl
 refine w_ (f_ (h:=l_ (h:=f_ (h:=?_))))
 refine al_p rfl (st_loadB1 (row := nodX mk (.v (.slice none 0 0))) rfl rfl hmk0 ?_)
 refine al_p rfl (st_le (y := .agg (filA (dir.1, d.next))) (st_build (by repeat (first | exact FillA.nil _ | (apply FillA.cons; (focus exact rfl); (focus exact rfl); (focus exact rfl); (focus exact rfl); (focus exact rfl); (focus (repeat constructor))))) ⟨rfl, rfl⟩) (by repeat (first | exact LeA.refl _ | exact LeA.nil _ | exact LeL.refl _ | refine LeA.agg ?_ | refine LeA.tup ?_ | exact LeL.nil | refine LeL.cons ?_ ?_ | exact LeA.any _)) ?_)
 refine al_ (h:=s_ (h:=e_ (w_ (l_ (h:=?_)))))
 refine al_p rfl (s_callM [] rfl (.cons _ _ _ _ _ rfl (LeA.refl _) .nil) (by decide) .nil (PcopyFiles0 f q d hf hq (by omega)) ?_)
 rintro r bc tc ⟨rfl, rfl, rfl⟩
 rw [NF_NX hn0 hE]
 refine ⟨rfl, _, (back_copy0 (n := 8) rfl f q d i n0 f.length d.nodes.length : Back _ [] _ [_, _, _, _, _, _, _, _, _, _, _, _]), ?_⟩
 refine s_ (h:=e_ (q_ (yk_ ([(0, [.bs 10 0 2 f.length f.length]), (1, filA dir), (2, nodA n), (3, [.v (.slice none 0 0)]), (4, filA (entP f dir name).1), (5, dvcA d), (6, nodX mk (.v (.slice none 0 0))), (7, filA (dir.1, d.next))]) 7 (h:=dl_ 0 (h:=dl_ 1 (h:=dm_ 3 (h:=df_ 4 (h:=?_))))))))
 refine tk_ 5 rfl (fun _ hS => st_loadB1 (row := nodX mk (.v (.slice none 0 0))) rfl (kb hS rfl) hmk0 ⟨rfl, rfl⟩) ?_
 refine c_ 2 rfl (s_callM [10, 11] rfl (.cons _ _ _ _ _ rfl (LeA.refl _) (.cons _ _ _ _ _ rfl (LeA.refl _) .nil)) (by decide) (.cons _ _ _ _ _ rfl (ren_DB (by rfl) _ _ _ _ _) (.cons _ _ _ _ _ rfl (ren_NX (by rfl)) .nil)) (PfindB0 f q d i n0 dir hq hn0 hdq hino hfst (by omega) (by omega)) ?_)
 rintro r bc tc ⟨rfl, rfl, rfl⟩
 refine ⟨rfl, _, back_find0 rfl rfl, ?_⟩
 refine o_ (h:=?_)
 refine c_ 6 rfl (s_callM [11] rfl (.cons _ _ _ _ _ rfl (LeA.refl _) (.cons _ _ _ _ _ rfl (LeA.refl _) (.cons _ _ _ _ _ rfl (LeA.refl _) .nil))) (by decide) (.cons _ _ _ _ _ rfl (ren_NX (by rfl)) .nil) (Pput0 d.nodes i n0 name d.next hil) ?_)
 rintro r bc tc ⟨rfl, rfl, rfl⟩
 refine ⟨rfl, _, (back_put0 (Nat.le_of_ble_eq_true rfl) d.nodes i n0 _ d.nodes.length : Back _ [11] _ [_, _, _, _, _, _, _, _, _, _, _, _]), ?_⟩
 refine o_ (h:=z_ (h:=t_ (w_ (f_ (h:=l_ (h:=f_ (h:=l_ (h:=?_))))))))
 refine al_p rfl (st_indexS (m := q) rfl rfl hdq hql ?_)
 refine a_ (h:=e_ (q_ (yk_ ([(0, [.bs 10 0 2 f.length f.length]), (1, filA dir), (2, nodA n), (3, [.v (.slice none 0 0)]), (4, filA (entP f dir name).1), (5, dvcA d), (6, nodX mk (.v (.slice none 0 0))), (7, filA (dir.1, d.next)), (8, [.bs 10 0 2 f.length f.length]), (9, [.bs 10 0 2 f.length f.length]), (10, DB f q d 11 f.length d.nodes.length)]) 10 (h:=?_))))
 refine t2_ 0 rfl (fun h0 hS => st_move rfl ⟨rfl, rfl⟩) ?_
 refine t2_ 1 rfl (fun h0 hS => st_move rfl ⟨rfl, rfl⟩) ?_
 refine t2_ 2 rfl (fun h0 hS => st_nilB rfl ⟨rfl, rfl⟩) ?_
 refine t2_ 3 rfl (fun h0 hS => st_fieldB rfl ⟨rfl, rfl⟩) ?_
 refine t2_ 4 rfl (fun h0 hS => st_loadB1 (row := DB f q d 11 f.length d.nodes.length) rfl (kb hS rfl) hD0 ⟨rfl, rfl⟩) ?_
 first | refine t2_ 5 rfl (fun h0 hS => st_loadB1 (row := DB f q d 11 f.length d.nodes.length) rfl (kb hS rfl) hD0 ⟨rfl, rfl⟩) ?_ | refine t2_ 5 rfl (fun h0 hS => st_loadBW rfl (kb hS rfl) rfl ⟨rfl, rfl⟩) ?_
 refine t2_ 6 rfl (fun h0 hS => st_slit (by repeat (first | exact DenseA.nil _ | (apply DenseA.cons; (focus exact rfl); (focus exact rfl); (focus exact rfl); (focus exact rfl)) | (apply DenseA.consE; (focus exact rfl); (focus exact rfl); (focus exact rfl)))) rfl rfl rfl rfl ⟨rfl, rfl⟩) ?_
 refine c_ 7 rfl (st_appendB rfl rfl rfl (by rw [NX_len _ _ _ _ _ (Nat.le_refl _)]; omega) src1 (by omega) (by omega) ?_ ?_)
 ·intro hg
  exact absurd hg (by omega)
 rintro hg cap3 k bx2 hcp3 hs
 rw [NX_new hil hmke] at hs
 obtain ⟨rfl, rfl⟩ : k = 12 ∧ bx2 = [_, _, _, _, _, _, _, _, _, _, _, _, _] := hs.eq
 have hc : (d.nodes ++ [mk]).length ≤ cap3 := by simpa using hcp3
 refine o_ (h:=?_)
 refine t2_ 8 rfl (fun h0 hS => st_nilB rfl ⟨rfl, rfl⟩) ?_
 refine t2_ 9 rfl (fun h0 hS => st_fieldB rfl ⟨rfl, rfl⟩) ?_
 refine c0_ 10 rfl (s_store rfl rfl rfl rfl rfl rfl (DB_push mk hql) (by repeat constructor) ?_)
 refine o_ (h:=z_ (h:=t_ (w_ (m_ (h:=k_ (h:=f_ (h:=?_)))))))
 refine al_p rfl (st_loadB1 rfl rfl (DB_next hql) ?_)
 refine al_p rfl (st_add64 rfl rfl (by dsimp only; omega) ?_)
 refine k_ (h:=f_ (h:=?_))
 refine al_p0 (s_store rfl rfl rfl rfl rfl rfl (DB_set (d' := ⟨d.next + 1, d.nodes ++ [mk]⟩) (j' := 12) (cap1' := cap3) (k := 0) (cs := [.v (.int .i64 (d.next + 1))]) hql (by repeat constructor) (by simp)) (by repeat constructor) ?_)
 refine e_ (?_)
 refine aw_midI (fun t => t = ⟨look [(8, .bp 3 0), (9, .sl 7 [chgA (dir, name, (0, 0), (dir.1, d.next))] none), (10, .v (.int .i64 0))], ⟨[[.sl 2 (resD f q ⟨d.next + 1, d.nodes ++ [mk]⟩ (((d.nodes ++ [mk]).map nodF).set i (nodX n0 (.sl 2 ([(name, d.next)].map entA) none)))) none], filA dir, nodA n, [.sl 2 (resD f q ⟨d.next + 1, d.nodes ++ [mk]⟩ (((d.nodes ++ [mk]).map nodF).set i (nodX n0 (.sl 2 ([(name, d.next)].map entA) none)))) none]], []⟩⟩) ?_ ?_
 ·skip
  refine yk_ ([(0, [.bs 10 0 2 f.length f.length]), (1, filA dir), (2, nodA n), (4, filA (entP f dir name).1), (5, dvcA d), (6, nodX mk (.v (.slice none 0 0))), (7, filA (dir.1, d.next))]) 9 (h:=dl_ 0 (h:=dl_ 1 (h:=dm_ 2 (h:=dl_ 3 (h:=?_)))))
  refine tk_ 4 rfl (fun _ hS => st_le (y := .agg (chgA (dir, name, (0, 0), (dir.1, d.next)))) (st_build (by repeat (first | exact FillA.nil _ | (apply FillA.cons; (focus exact rfl); (focus exact rfl); (focus exact rfl); (focus exact rfl); (focus exact rfl); (focus (repeat constructor))))) ⟨rfl, rfl⟩) (by repeat (first | exact LeA.refl _ | exact LeA.nil _ | exact LeL.refl _ | refine LeA.agg ⟨rfl, rfl⟩ | refine LeA.tup ⟨rfl, rfl⟩ | exact LeL.nil | refine LeL.cons ⟨rfl, rfl⟩ ⟨rfl, rfl⟩ | exact LeA.any _)) ⟨rfl, rfl⟩) ?_
  refine dbs_ 5 (h:=?_)
  refine c0_ 6 rfl (s_store rfl rfl rfl rfl rfl rfl (by repeat constructor) (by repeat constructor) ?_)
  refine o_ (h:=da_ 7 (h:=da_ 8 (h:=z_ (h:=?_))))
  refine x_then ?_
  exact ⟨_, rfl, weak_fz 4 3 rfl (congrArg (fun x : List AV => [x, filA dir, nodA n, x]) (liv_NX (n := 4) (i0 := 10) (i1 := 12) (f := f) (q := q) (d := ⟨d.next + 1, d.nodes ++ [mk]⟩) (ns := d.nodes ++ [mk]) (i := i) (nI := n0) (cap := f.length) (cap0 := f.length) (cap1 := cap3) hql (Nat.le_refl _) hc rfl (Nat.le_of_ble_eq_true rfl) (Nat.le_of_ble_eq_true rfl) (by rfl) (by rfl) (by rfl))) (.cons _ _ _ _ rfl (LeA.refl _) (.cons _ _ _ _ rfl (LeA.refl _) (.cons _ _ _ _ rfl (LeA.refl _) .nil)))⟩
 rintro t rfl
 refine aw_ret (?_)
 refine rt_ (r := chgR (mkL f dir name n)) none (h5 := ?_) (h6 := ⟨rfl, rfl, rfl⟩)
 first
 | (rw [mkL, if_pos (show placeL f dir name ≠ 0 by rw [place_dir hc1]; exact hc1), place_dir hc1]; exact err_le _)
 | (rw [mkL, show placeL f dir name = 22 from place_nm (by omega) hc2, if_pos (by decide)]; exact err_le _)
 | (rw [mkL, if_neg (by rw [hpl]; simp), if_pos (by assumption)]; exact err_le _)
 | (rw [mkL, if_neg (by rw [hpl]; simp), if_neg hpn, if_pos (show (lookL f dir name).2 = 0 by rw [lkE_yes (by omega) (by assumption)])]; exact err_le _)
 | (rw [mkL, if_neg (by rw [hpl]; simp), if_neg hpn, if_neg hlk, hatI]; simp only; rw [if_pos (by first | exact .inl (by rw [List.length_map] at hc5; omega) | exact .inr (.inl (by omega)) | exact .inr (.inr (by assumption)))]; exact err_le _)
 | (rw [mkL, if_neg (by rw [hpl]; simp), if_neg hpn, if_neg hlk, hatI]; simp only; rw [if_neg hnf, hdq, Int.toNat_natCast, ← hino, ← entS_D (hv.vd d (List.mem_of_getElem? hq)) hn0, hino, ← hmk, show entS d.nodes i n0 name d.next ++ [mk] = (d.nodes ++ [mk]).set i { n0 with entries := [(name, d.next)] } by (unfold entS; rw [show entL n0.entries name d.next = [(name, d.next)] from entL_nil hE hino0]; rw [List.set_append_left _ _ hil]), ← hdq]; exact LeA.tup (.cons (fls_le (d := ⟨d.next + 1, d.nodes ++ [mk]⟩)) (.cons (LeA.refl _) (.cons (LeA.refl _) .nil))))
end
section
set_option maxRecDepth 10000
set_option maxHeartbeats 2000000
theorem Pnew (n : Int) : AFn Try.prog 15 [.v (.int .i64 n)] (fun r => r = .tup [.agg (flsA (newL n).1), .v (.int .i64 (newL n).2)]) := by
 refine enter Try.func15 rfl rfl rfl rfl rfl 0 rfl ?_
 refine w_ (al_ (h:=a_ (h:=e_ (q_ (w_ (m_ (h:=lt_ (h:=m_ (h:=?_)))))))))
 refine al_gs false rfl rfl (fun hb1 => ?_) (fun hb1 => ?_)
 ·have hc1 := bp hb1
  refine g0_ (h:=g0_ (h:=pt_ (h:=e_ (cy_ (h:=w_ (bd_ (h:=s_ (h:=a_ (h:=e_ (aw_ret (x_thenR (?_))))))))))))
  refine rt_ (r := .tup [.agg (flsA (newL n).1), .v (.int .i64 (newL n).2)]) none (h5 := ?_) (h6 := ⟨rfl, rfl, rfl⟩)
  rw [newL_bad (by omega)]
  exact (by repeat (first | exact LeA.refl _ | exact LeA.nil _ | exact LeL.refl _ | refine LeA.agg ?_ | refine LeA.tup ?_ | exact LeL.nil | refine LeL.cons ?_ ?_ | exact LeA.any _))
 have hc1 := bp hb1
 refine m_ (h:=gt_ (h:=pf_ (h:=e_ (?_))))
 refine aw_cond rfl (fun hb2 => ?_) (fun hb2 => ?_)
 ·have hc2 := bp hb2
  refine w_ (bd_ (h:=s_ (h:=a_ (h:=e_ (aw_ret (x_thenR (?_)))))))
  refine rt_ (r := .tup [.agg (flsA (newL n).1), .v (.int .i64 (newL n).2)]) none (h5 := ?_) (h6 := ⟨rfl, rfl, rfl⟩)
  rw [newL_bad (by omega)]
  exact (by repeat (first | exact LeA.refl _ | exact LeA.nil _ | exact LeL.refl _ | refine LeA.agg ?_ | refine LeA.tup ?_ | exact LeL.nil | refine LeL.cons ?_ ?_ | exact LeA.any _))
 have hc2 := bp hb2
 obtain ⟨k, rfl⟩ := Int.eq_ofNat_of_zero_le (show 0 ≤ n by omega)
 refine kt_ (w_ (al_ (h:=e_ (q_ (w_ (m_ (h:=m_ (h:=e_ (aw_block (?_))))))))))
 refine aw_nilTokB 1 0 79 2 rfl rfl (by repeat constructor) (by repeat constructor) (by repeat constructor) ?_
 refine aw_loopW (fun m s => ∃ j : Nat, j ≤ k ∧ m = k - j ∧ s = ⟨look [(2, .bp 0 0), (4, .bp 1 0), (13, .v (.int .i64 (k : Int))), (14, .v (.int .i64 (j : Int)))], ⟨[[.v (.slice none 0 0)], [.sl 2 ((List.replicate j rootDvc).map dvcA) (some 0)]], [(79, 2, (List.replicate j rootDvc).map dvcA)]⟩⟩) (k) ((wk 2 1)) (⟨0, by omega, rfl, rfl⟩) ?_
 rintro m s ⟨j, hj, rfl, rfl⟩
 refine w_ (lt_ (h:=e_ (q_ (?_))))
 refine aw_cond rfl (fun hb3 => ?_) (fun hb3 => ?_)
 ·have hc3 := bp hb3
  refine kt_ (q_ (aw_block (w_ (?_))))
  refine al_p rfl (st_le (y := .agg (nodA rootNod)) (st_build (by repeat (first | exact FillA.nil _ | (apply FillA.cons; (focus exact rfl); (focus exact rfl); (focus exact rfl); (focus exact rfl); (focus exact rfl); (focus (repeat constructor))))) ⟨rfl, rfl⟩) (by repeat (first | exact LeA.refl _ | exact LeA.nil _ | exact LeL.refl _ | refine LeA.agg ?_ | refine LeA.tup ?_ | exact LeL.nil | refine LeL.cons ?_ ?_ | exact LeA.any _)) ?_)
  refine al_ (h:=s_ (h:=e_ (aw_region (f_ (h:=l_ (h:=l_ (h:=bs_ (h:=bd_ (h:=bs_ (h:=?_))))))))))
  first | refine al_p rfl (s_append rfl rfl rfl (by simp; omega) (by repeat constructor) ?_) | refine al_p rfl (s_append0 rfl rfl (by simp; omega) (by repeat constructor) ?_)
  refine f_ (h:=s_ (h:=al_nil (x_blockN (t_ (aw_region (ad_ (h:=m_ (h:=al_nil (?_)))))))))
  refine x_then ?_
  refine ⟨_, _, ?_, ⟨j + 1, by omega, rfl, rfl⟩, (by rw [List.replicate_succ', List.map_append]; exact (wk 2 1))⟩
  omega
 have hc3 := bp hb3
 obtain rfl : j = k := by omega
 refine aw_exit (x_thenE (x_thenE (ABlock_out (t_ (w_ (l_ (h:=s_ (h:=a_ (h:=e_ (aw_ret (?_)))))))))))
 refine e_ret ?_
 rw [newL_ok hc1 hc2]
 rfl
end
def RowN (r : List AV) (n : Nod) : Prop := ∃ e, r = nodX n e ∧ (e = .sl 2 (n.entries.map entA) none ∨ (e = .v (.slice none 0 0) ∧ n.entries = []))
def RowsN (RN : List (List AV)) (ns : List Nod) : Prop := RN.length = ns.length ∧ ∀ (k : Nat) (r : List AV) (n : Nod), RN[k]? = some r → ns[k]? = some n → RowN r n
theorem rowN_A (n : Nod) : RowN (nodA n) n := ⟨_, rfl, .inl rfl⟩
theorem rowsN_A (ns : List Nod) : RowsN (ns.map nodA) ns := ⟨by simp, fun k r n h1 h2 => by rw [List.getElem?_map, h2] at h1; injection h1 with h1; subst h1; exact rowN_A n⟩
theorem RowsN.set {RN : List (List AV)} {ns : List Nod} (h : RowsN RN ns) (i : Nat) {r : List AV} {n : Nod} (hr : RowN r n) : RowsN (RN.set i r) (ns.set i n) := by
 refine ⟨by simp [h.1], fun k r' n' h1 h2 => ?_⟩
 rw [List.getElem?_set] at h1 h2
 have hl := h.1
 split at h1
 ·rename_i e
  rw [if_pos e] at h2
  split at h1
  ·rw [if_pos (by omega)] at h2
   injection h1 with h1
   injection h2 with h2
   subst h1 h2
   exact hr
  cases h1
 rename_i e
 rw [if_neg e] at h2
 exact h.2 k r' n' h1 h2
theorem RowN.le {r : List AV} {n : Nod} (h : RowN r n) : LeFL r (nodA n) := by
 obtain ⟨e, rfl, h⟩ := h
 refine ⟨rfl, fun i x y hx hy => ?_⟩
 match i, hx, hy with
 | 0, hx, hy => injection hx with hx; injection hy with hy; subst hx hy; exact LeF.refl _
 | 1, hx, hy => injection hx with hx; injection hy with hy; subst hx hy; exact LeF.refl _
 | 2, hx, hy => injection hx with hx; injection hy with hy; subst hx hy; exact LeF.refl _
 | 3, hx, hy => injection hx with hx; injection hy with hy; subst hx hy; exact LeF.refl _
 | 4, hx, hy => injection hx with hx; injection hy with hy; subst hx hy; exact LeF.refl _
 | 5, hx, hy => injection hx with hx; injection hy with hy; subst hx hy; exact LeF.refl _
 | 6, hx, hy => injection hx with hx; injection hy with hy; subst hx hy; exact LeF.refl _
 | 7, hx, hy =>
   injection hx with hx; injection hy with hy; subst hx hy
   rcases h with rfl | ⟨rfl, h⟩
   ·exact LeF.refl _
   rw [h]; exact LeF.nil _
 | i + 8, hx, hy => simp [nodX] at hx
def PlnR (RN : List (List AV)) : Prop := ∀ r ∈ RN, ∀ x ∈ r, (∃ v, x = .v v) ∨ ∃ sz rows, x = .sl sz rows none
theorem RowN.pln {r : List AV} {n : Nod} (h : RowN r n) : r.length = 8 ∧ ∀ x ∈ r, (∃ v, x = .v v) ∨ ∃ sz rows, x = .sl sz rows none := by
 obtain ⟨e, rfl, h⟩ := h
 refine ⟨rfl, fun x hx => ?_⟩
 simp only [nodX, List.mem_cons, List.not_mem_nil, or_false] at hx
 rcases hx with rfl | rfl | rfl | rfl | rfl | rfl | rfl | rfl
 all_goals first | exact .inl ⟨_, rfl⟩ | skip
 rcases h with rfl | ⟨rfl, _⟩
 ·exact .inr ⟨_, _, rfl⟩
 exact .inl ⟨_, rfl⟩
theorem RowsN.mem {RN : List (List AV)} {ns : List Nod} (h : RowsN RN ns) {r : List AV} (hr : r ∈ RN) : ∃ n ∈ ns, RowN r n := by
 obtain ⟨k, hk⟩ := List.getElem?_of_mem hr
 have hl := h.1
 have hkl := (List.getElem?_eq_some_iff.1 hk).1
 have hn : ns[k]? = some ns[k] := List.getElem?_eq_getElem (by omega)
 exact ⟨_, List.mem_of_getElem? hn, h.2 k r _ hk hn⟩
theorem RowsN.pln {RN : List (List AV)} {ns : List Nod} (h : RowsN RN ns) : PlnR RN := fun r hr => by
 obtain ⟨n, _, hn⟩ := h.mem hr
 exact hn.pln.2
theorem RowsN.eight {RN : List (List AV)} {ns : List Nod} (h : RowsN RN ns) : ∀ r ∈ RN, r.length = 8 := fun r hr => by
 obtain ⟨n, _, hn⟩ := h.mem hr
 exact hn.pln.1
theorem map_pln {F : AV → AV} (hany : F .any = .any) (hv : ∀ x, F (.v x) = .v x) (hs : ∀ sz rows, F (.sl sz rows none) = .sl sz rows none) {RN : List (List AV)} (h : PlnR RN) (sz cap : Nat) : (rowsB sz cap RN).map F = rowsB sz cap RN := by
 rw [rowsB_map F hany]
 congr 1
 conv => rhs; rw [← List.map_id RN]
 apply List.map_congr_left
 intro r hr
 conv => rhs; rw [id, ← List.map_id r]
 apply List.map_congr_left
 intro x hx
 rcases h r hr x hx with ⟨v, rfl⟩ | ⟨sz, rows, rfl⟩
 ·exact hv v
 exact hs sz rows
theorem low_pln (g : Nat → Option (List AV)) {RN : List (List AV)} (h : PlnR RN) (sz cap : Nat) : lowGL g (rowsB sz cap RN) = rowsB sz cap RN := by
 rw [lowGL_map]; exact map_pln rfl (fun _ => rfl) (fun _ _ => rfl) h sz cap
theorem frz_pln {n : Nat} {bx : List (List AV)} {k j sz cap : Nat} {RN : List (List AV)} (hn : n ≤ j) (hj : bx[j]? = some (rowsB sz cap RN)) (h : PlnR RN) : frzG n bx (k + 1) j = some (rowsB sz cap RN) := by
 have : Nat.blt j n = false := by rw [← Bool.not_eq_true, Nat.blt_eq]; omega
 simp only [frzG, this, hj, Option.map_some, low_pln _ h]
theorem low_rows {n : Nat} {bx : List (List AV)} {i0 i1 : Nat} {f : Fls} {q : Nat} {d : Dvc} {RN : List (List AV)} {cap cap0 cap1 : Nat} (hR : RowsN RN d.nodes) (hq : q < f.length) (hc : f.length ≤ cap) (hc1 : d.nodes.length ≤ cap1) (hn0 : n ≤ i0) (hn1 : n ≤ i1) (h0 : bx[i0]? = some (DB f q d i1 cap cap1)) (h1 : bx[i1]? = some (rowsB 8 cap1 RN)) :
    lowG (frzG n bx 3) (.bs i0 0 2 f.length cap0) = .sl 2 (resD f q d RN) none := by
 have b0 : Nat.blt i0 n = false := by rw [← Bool.not_eq_true, Nat.blt_eq]; omega
 have hl := hR.1
 have hb : lowG (frzG n bx 2) (.bs i1 0 8 d.nodes.length cap1) = .sl 8 RN none := lowG_rows (frz_pln hn1 h1 hR.pln) hR.eight hl.symm (by omega)
 have f0 : frzG n bx 3 i0 = some (rowsB 2 cap (resD f q d RN)) := by
  rw [frzG, b0]
  simp only [h0, Option.map_some]
  rw [lowGL_map]
  unfold DB devB resD
  rw [rowsB_map (lowG (frzG n bx 2)) rfl, List.map_set, map_dvcs rfl (fun _ => rfl) (fun _ _ => rfl)]
  congr 3
  simp only [devR, List.map_cons, List.map_nil, hb]
  rfl
 exact lowG_rows f0 (fun r hr => by
  unfold resD at hr
  rcases List.mem_or_eq_of_mem_set hr with h | h
  ·exact dvcs_two _ r h
  rw [h]; rfl) (by simp [resD]) (by simpa [resD] using hc)
theorem resD_leN {f : Fls} {q : Nat} {d : Dvc} {RN : List (List AV)} (hR : RowsN RN d.nodes) : LeA (.agg [.sl 2 (resD f q d RN) none]) (.agg (flsA (f.set q d))) :=
 resD_le rfl hR.1 fun k r m h1 h2 => (hR.2 k r m h1 h2).le
end Go.Proofs.Ythcbdkmhamhciaa
