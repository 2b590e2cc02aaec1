/-
  Part 8 of the proof of FilesUnlinkedP: what the statement's proof uses of the texts in wip/tpl.
-/
import Derived.Test.YthcbdkmhamhciaaQu7
namespace Go.Proofs.Ythcbdkmhamhciaa
open Go.RowKit

section
set_option maxRecDepth 10000
set_option maxHeartbeats 2000000
theorem plain_eq (n : Nod) : plainL n = if attrP n.mode n.uid n.gid = false then false else if n.kind = 1 then decide (n.target = ⟨#[]⟩) else if n.kind = 2 then decide (n.target = ⟨#[]⟩) else if n.kind = 3 then targetL n.target else false := by
  have ee : n.target.toList.isEmpty = decide (n.target = ⟨#[]⟩) := by
    rw [← str_eq n.target ⟨#[]⟩, show (⟨#[]⟩ : ByteArray).toList = [] by rw [ByteArray.toList_eq]]
    cases n.target.toList <;> rfl
  unfold plainL
  rw [ee]
  by_cases ha : attrP n.mode n.uid n.gid = false
  · rw [if_pos ha]
    unfold attrP at ha
    simp only [decide_eq_false_iff_not] at ha
    rw [if_pos (by omega)]
  rw [if_neg ha]
  unfold attrP at ha
  simp only [decide_eq_false_iff_not, Decidable.not_not] at ha
  by_cases h1 : n.kind = 1
  · rw [if_pos h1, if_neg (by omega), if_neg (by omega)]
  rw [if_neg h1]
  by_cases h2 : n.kind = 2
  · rw [if_pos h2, if_neg (by omega), if_neg (by omega)]
  rw [if_neg h2]
  by_cases h3 : n.kind = 3
  · rw [if_pos h3, if_neg (by omega), if_pos h3]
  rw [if_neg h3, if_neg h3, if_pos (by omega)]
theorem Pmakeable (n : Nod) (ht : n.target.size ≤ 100000) : AFn Try.prog 60 [.agg (nodA n)] (fun r => r = .v (.bool (plainL n))) := by
  refine enter Try.func60 rfl rfl rfl rfl rfl 0 rfl ?_
  refine w_ (b_ (h:=a_ (h:=e_ (q_ (w_ (f_ (h:=l_ (h:=f_ (h:=l_ (h:=f_ (h:=l_ (h:=?_))))))))))))
  refine al_p rfl (q_call (Pattr n.mode n.uid n.gid) ?_)
  rintro r rfl
  refine nt_ (h:=e_ (?_))
  refine aw_cond rfl (fun hb1 => ?_) (fun hb1 => ?_)
  · have hc1 := bp hb1
    refine w_ (a_ (h:=e_ (aw_ret (x_thenR (?_)))))
    refine e_ret ?_
    exact vb (by rw [plain_eq]; simp_all)
  have hc1 := bp hb1
  refine kt_ (q_ (w_ (f_ (h:=l_ (h:=e_ (aw_block (q_ (w_ (eq_ (h:=a_ (h:=e_ (?_))))))))))))
  refine aw_cond rfl (fun hb2 => ?_) (fun hb2 => ?_)
  · have hc2 := bp hb2
    refine kt_ (cy_ (h:=w_ (f_ (h:=l_ (h:=eq_ (h:=a_ (h:=e_ (aw_ret (x_blockR (x_thenR (?_)))))))))))
    refine e_ret ?_
    exact vb (by rw [plain_eq]; simp_all)
  have hc2 := bp hb2
  refine aw_region (eq_ (h:=a_ (h:=e_ (?_))))
  refine aw_cond rfl (fun hb3 => ?_) (fun hb3 => ?_)
  · have hc3 := bp hb3
    refine w_ (f_ (h:=l_ (h:=eq_ (h:=a_ (h:=e_ (aw_ret (x_blockR (x_thenR (?_)))))))))
    refine e_ret ?_
    exact vb (by rw [plain_eq]; simp_all)
  have hc3 := bp hb3
  refine w_ (eq_ (h:=a_ (h:=e_ (?_))))
  refine aw_cond rfl (fun hb4 => ?_) (fun hb4 => ?_)
  · have hc4 := bp hb4
    refine w_ (f_ (h:=l_ (h:=?_)))
    refine al_p rfl (q_call (Ptarget n.target ht) ?_)
    rintro r rfl
    refine a_ (h:=e_ (aw_ret (x_blockR (x_thenR (?_)))))
    refine e_ret ?_
    exact vb (by rw [plain_eq]; simp_all)
  have hc4 := bp hb4
  refine aw_skip (x_blockN (t_ (w_ (a_ (h:=e_ (aw_ret (?_)))))))
  refine e_ret ?_
  exact vb (by rw [plain_eq]; simp_all)

theorem NX_len (ns : List Nod) (i : Nat) (nI : Nod) (e : AV) (cap1 : Nat) (h : ns.length ≤ cap1) : (NX ns i nI e cap1).length = cap1 * 8 := rowsB_len (NX_eight _ _ _ _) (by simpa using h)
theorem NX_new {ns : List Nod} {i : Nat} {nI : Nod} {e : AV} {cap0 cap : Nat} {m : Nod} (hi : i < ns.length) (he : m.entries = []) : ((NX ns i nI e cap0).drop 0).take (ns.length * 8) ++ cellsA (.agg (nodX m (.v (.slice none 0 0)))) ++ List.replicate ((cap - (ns.length + 1)) * 8) .any = NX (ns ++ [m]) i nI e cap := by
  show _ ++ nodX m (.v (.slice none 0 0)) ++ _ = _
  unfold NX
  rw [rowsB_new (NX_eight _ _ _ _) (by simp)]
  congr 1
  rw [List.map_append, List.set_append_left _ _ (by simpa using hi)]
  simp [nodF, entX, he]
theorem Pmake0 (f : Fls) (dir : Fil) (name : Str) (n : Nod) (hv : FlsV f) (hns : n.target.size ≤ 100000) (hE0 : (nodG f dir).entries = []) : AFn Try.prog 24 [.agg (flsA f), .agg (filA dir), .v (.string name), .agg (nodA n)] (fun r => r = chgR (mkL f dir name n)) := by
  have hf := hv.b
  refine enter Try.func24 rfl rfl rfl rfl rfl 0 rfl ?_
  refine w_ (b_ (h:=b_ (h:=b_ (h:=al_ (h:=a_ (h:=a_ (h:=e_ (q_ (w_ (l_ (h:=l_ (h:=?_))))))))))))
  refine al_p rfl (q_call (PdirF f dir hf) ?_)
  rintro r rfl
  refine a_ (h:=e_ (w_ (m_ (h:=nq_ (h:=e_ (?_))))))
  refine aw_cond rfl (fun hb1 => ?_) (fun hb1 => ?_)
  · have hc1 := bp hb1
    refine w_ (bd_ (h:=m_ (h:=s_ (h:=a_ (h:=a_ (h:=e_ (aw_ret (x_thenR (?_)))))))))
    refine rt_ (r := chgR (mkL f dir name n)) none (h5 := ?_) (h6 := ⟨rfl, rfl, rfl⟩)
    first
    | (rw [mkL, if_pos (show placeL f dir name ≠ 0 by rw [place_dir hc1]; exact hc1), place_dir hc1]; exact err_le _)
    | (rw [mkL, show placeL f dir name = 22 from place_nm (by omega) hc2, if_pos (by decide)]; exact err_le _)
    | (rw [mkL, if_neg (by rw [hpl]; simp), if_pos (by assumption)]; exact err_le _)
    | (rw [mkL, if_neg (by rw [hpl]; simp), if_neg hpn, if_pos (show (lookL f dir name).2 = 0 by rw [lkE_yes (by omega) (by assumption)])]; exact err_le _)
    | (rw [mkL, if_neg (by rw [hpl]; simp), if_neg hpn, if_neg hlk, hatI]; simp only; rw [if_pos (by first | exact .inl (by rw [List.length_map] at hc5; omega) | exact .inr (.inl (by omega)) | exact .inr (.inr (by assumption)))]; exact err_le _)
    | (rw [mkL, if_neg (by rw [hpl]; simp), if_neg hpn, if_neg hlk, hatI]; simp only; rw [if_neg hnf, hdq, Int.toNat_natCast, ← hino, ← entS_D (hv.vd d (List.mem_of_getElem? hq)) hn0, hino, ← hmk, show entS d.nodes i n0 name d.next ++ [mk] = (d.nodes ++ [mk]).set i { n0 with entries := [(name, d.next)] } by (unfold entS; rw [show entL n0.entries name d.next = [(name, d.next)] from entL_nil hE hino0]; rw [List.set_append_left _ _ hil]), ← hdq]; exact LeA.tup (.cons (fls_le (d := ⟨d.next + 1, d.nodes ++ [mk]⟩)) (.cons (LeA.refl _) (.cons (LeA.refl _) .nil))))
  have hc1 := bp hb1
  refine kt_ (q_ (w_ (m_ (h:=?_))))
  refine al_p rfl (q_call (Pname name) ?_)
  rintro r rfl
  refine nt_ (h:=m_ (h:=?_))
  refine al_gs false rfl rfl (fun hb2 => ?_) (fun hb2 => ?_)
  · have hc2 := bp hb2
    refine g0_ (h:=g0_ (h:=g0_ (h:=pt_ (h:=e_ (cy_ (h:=w_ (bd_ (h:=s_ (h:=a_ (h:=a_ (h:=e_ (aw_ret (x_thenR (?_))))))))))))))
    refine rt_ (r := chgR (mkL f dir name n)) none (h5 := ?_) (h6 := ⟨rfl, rfl, rfl⟩)
    first
    | (rw [mkL, if_pos (show placeL f dir name ≠ 0 by rw [place_dir hc1]; exact hc1), place_dir hc1]; exact err_le _)
    | (rw [mkL, show placeL f dir name = 22 from place_nm (by omega) hc2, if_pos (by decide)]; exact err_le _)
    | (rw [mkL, if_neg (by rw [hpl]; simp), if_pos (by assumption)]; exact err_le _)
    | (rw [mkL, if_neg (by rw [hpl]; simp), if_neg hpn, if_pos (show (lookL f dir name).2 = 0 by rw [lkE_yes (by omega) (by assumption)])]; exact err_le _)
    | (rw [mkL, if_neg (by rw [hpl]; simp), if_neg hpn, if_neg hlk, hatI]; simp only; rw [if_pos (by first | exact .inl (by rw [List.length_map] at hc5; omega) | exact .inr (.inl (by omega)) | exact .inr (.inr (by assumption)))]; exact err_le _)
    | (rw [mkL, if_neg (by rw [hpl]; simp), if_neg hpn, if_neg hlk, hatI]; simp only; rw [if_neg hnf, hdq, Int.toNat_natCast, ← hino, ← entS_D (hv.vd d (List.mem_of_getElem? hq)) hn0, hino, ← hmk, show entS d.nodes i n0 name d.next ++ [mk] = (d.nodes ++ [mk]).set i { n0 with entries := [(name, d.next)] } by (unfold entS; rw [show entL n0.entries name d.next = [(name, d.next)] from entL_nil hE hino0]; rw [List.set_append_left _ _ hil]), ← hdq]; exact LeA.tup (.cons (fls_le (d := ⟨d.next + 1, d.nodes ++ [mk]⟩)) (.cons (LeA.refl _) (.cons (LeA.refl _) .nil))))
  have hc2 := bp hb2
  have hpl : placeL f dir name = 0 := place_zero (by omega) hc2
  refine l_ (h:=?_)
  refine g_y (q_call (Pmakeable n hns) ?_)
  rintro r rfl
  refine nt_ (h:=pf_ (h:=e_ (?_)))
  refine aw_cond rfl (fun hb3 => ?_) (fun hb3 => ?_)
  · have hc3 := bp hb3
    have hpn := hc3
    refine w_ (bd_ (h:=s_ (h:=a_ (h:=a_ (h:=e_ (aw_ret (x_thenR (?_))))))))
    refine rt_ (r := chgR (mkL f dir name n)) none (h5 := ?_) (h6 := ⟨rfl, rfl, rfl⟩)
    first
    | (rw [mkL, if_pos (show placeL f dir name ≠ 0 by rw [place_dir hc1]; exact hc1), place_dir hc1]; exact err_le _)
    | (rw [mkL, show placeL f dir name = 22 from place_nm (by omega) hc2, if_pos (by decide)]; exact err_le _)
    | (rw [mkL, if_neg (by rw [hpl]; simp), if_pos (by assumption)]; exact err_le _)
    | (rw [mkL, if_neg (by rw [hpl]; simp), if_neg hpn, if_pos (show (lookL f dir name).2 = 0 by rw [lkE_yes (by omega) (by assumption)])]; exact err_le _)
    | (rw [mkL, if_neg (by rw [hpl]; simp), if_neg hpn, if_neg hlk, hatI]; simp only; rw [if_pos (by first | exact .inl (by rw [List.length_map] at hc5; omega) | exact .inr (.inl (by omega)) | exact .inr (.inr (by assumption)))]; exact err_le _)
    | (rw [mkL, if_neg (by rw [hpl]; simp), if_neg hpn, if_neg hlk, hatI]; simp only; rw [if_neg hnf, hdq, Int.toNat_natCast, ← hino, ← entS_D (hv.vd d (List.mem_of_getElem? hq)) hn0, hino, ← hmk, show entS d.nodes i n0 name d.next ++ [mk] = (d.nodes ++ [mk]).set i { n0 with entries := [(name, d.next)] } by (unfold entS; rw [show entL n0.entries name d.next = [(name, d.next)] from entL_nil hE hino0]; rw [List.set_append_left _ _ hil]), ← hdq]; exact LeA.tup (.cons (fls_le (d := ⟨d.next + 1, d.nodes ++ [mk]⟩)) (.cons (LeA.refl _) (.cons (LeA.refl _) .nil))))
  have hc3 := bp hb3
  have hpn : ¬ plainL n = false := by simp [hc3]
  refine kt_ (q_ (w_ (l_ (h:=l_ (h:=m_ (h:=?_))))))
  refine al_p rfl (q_call (Pentry f dir name hf) ?_)
  rintro r rfl
  refine m_ (h:=x_ (h:=x_ (h:=al_ (h:=s_ (h:=a_ (h:=e_ (w_ (m_ (h:=e_ (?_))))))))))
  refine aw_cond rfl (fun hb4 => ?_) (fun hb4 => ?_)
  · have hc4 := bp hb4
    refine w_ (bd_ (h:=s_ (h:=a_ (h:=a_ (h:=e_ (aw_ret (x_thenR (?_))))))))
    refine rt_ (r := chgR (mkL f dir name n)) none (h5 := ?_) (h6 := ⟨rfl, rfl, rfl⟩)
    first
    | (rw [mkL, if_pos (show placeL f dir name ≠ 0 by rw [place_dir hc1]; exact hc1), place_dir hc1]; exact err_le _)
    | (rw [mkL, show placeL f dir name = 22 from place_nm (by omega) hc2, if_pos (by decide)]; exact err_le _)
    | (rw [mkL, if_neg (by rw [hpl]; simp), if_pos (by assumption)]; exact err_le _)
    | (rw [mkL, if_neg (by rw [hpl]; simp), if_neg hpn, if_pos (show (lookL f dir name).2 = 0 by rw [lkE_yes (by omega) (by assumption)])]; exact err_le _)
    | (rw [mkL, if_neg (by rw [hpl]; simp), if_neg hpn, if_neg hlk, hatI]; simp only; rw [if_pos (by first | exact .inl (by rw [List.length_map] at hc5; omega) | exact .inr (.inl (by omega)) | exact .inr (.inr (by assumption)))]; exact err_le _)
    | (rw [mkL, if_neg (by rw [hpl]; simp), if_neg hpn, if_neg hlk, hatI]; simp only; rw [if_neg hnf, hdq, Int.toNat_natCast, ← hino, ← entS_D (hv.vd d (List.mem_of_getElem? hq)) hn0, hino, ← hmk, show entS d.nodes i n0 name d.next ++ [mk] = (d.nodes ++ [mk]).set i { n0 with entries := [(name, d.next)] } by (unfold entS; rw [show entL n0.entries name d.next = [(name, d.next)] from entL_nil hE hino0]; rw [List.set_append_left _ _ hil]), ← hdq]; exact LeA.tup (.cons (fls_le (d := ⟨d.next + 1, d.nodes ++ [mk]⟩)) (.cons (LeA.refl _) (.cons (LeA.refl _) .nil))))
  have hc4 := bp hb4
  obtain ⟨q, i, d, n0, hdq, hq, hn0, hino, hidx, hnode, hk0, hnm⟩ := place_ok hpl
  have hil := (List.getElem?_eq_some_iff.1 hn0).1
  have hql := (List.getElem?_eq_some_iff.1 hq).1
  have hdn := hf.nodes d (List.mem_of_getElem? hq)
  have hen0 := hf.ents d (List.mem_of_getElem? hq) n0 (List.mem_of_getElem? hn0)
  have hfst := idx_first hdq hq hidx
  have hno := ent_none hnode hc4
  have hfew := hf.few
  have hvd := hv.vd d (List.mem_of_getElem? hq)
  have hatI : atI f dir.1 = some d := by rw [hdq, atI_nat, hq]
  have hD0 : (DB f q d 11 f.length d.nodes.length)[0 + q * 2 + 1]? = some (.bs 11 0 8 d.nodes.length d.nodes.length) := DB_nodes hql
  have hrow : (f.map dvcA)[q]? = some (dvcA d) := by rw [List.getElem?_map, hq]; rfl
  have hnx1 := hvd.next2
  have hnx2 := hvd.nextM
  have hdl := hvd.len
  have hino0 : d.next ≠ 0 := by omega
  have hlk : ¬ (lookL f dir name).2 = 0 := by rw [lkE_two (by omega) hc4]; decide
  have hE : n0.entries = [] := by simpa [nodG, hnode] using hE0
  obtain ⟨mk, hmk⟩ : ∃ mk, mk = mkNod n d.next dir.2 := ⟨_, rfl⟩
  refine kt_ (w_ (f_ (h:=l_ (h:=f_ (h:=l_ (h:=?_))))))
  refine al_p rfl (st_index (n := q) rfl rfl hdq hrow ?_)
  refine l_ (h:=al_ (h:=s_ (h:=e_ (q_ (w_ (f_ (h:=l_ (h:=n_ (h:=ge_ (h:=m_ (h:=?_)))))))))))
  refine al_gs false rfl rfl (fun hb5 => ?_) (fun hb5 => ?_)
  · have hc5 := bp hb5
    refine g0_ (h:=g0_ (h:=g0_ (h:=pt_ (h:=m_ (h:=g0_ (h:=g0_ (h:=g0_ (h:=pt_ (h:=e_ (cy_ (h:=w_ (bd_ (h:=s_ (h:=a_ (h:=a_ (h:=e_ (aw_ret (x_thenR (?_)))))))))))))))))))
    refine rt_ (r := chgR (mkL f dir name n)) none (h5 := ?_) (h6 := ⟨rfl, rfl, rfl⟩)
    first
    | (rw [mkL, if_pos (show placeL f dir name ≠ 0 by rw [place_dir hc1]; exact hc1), place_dir hc1]; exact err_le _)
    | (rw [mkL, show placeL f dir name = 22 from place_nm (by omega) hc2, if_pos (by decide)]; exact err_le _)
    | (rw [mkL, if_neg (by rw [hpl]; simp), if_pos (by assumption)]; exact err_le _)
    | (rw [mkL, if_neg (by rw [hpl]; simp), if_neg hpn, if_pos (show (lookL f dir name).2 = 0 by rw [lkE_yes (by omega) (by assumption)])]; exact err_le _)
    | (rw [mkL, if_neg (by rw [hpl]; simp), if_neg hpn, if_neg hlk, hatI]; simp only; rw [if_pos (by first | exact .inl (by rw [List.length_map] at hc5; omega) | exact .inr (.inl (by omega)) | exact .inr (.inr (by assumption)))]; exact err_le _)
    | (rw [mkL, if_neg (by rw [hpl]; simp), if_neg hpn, if_neg hlk, hatI]; simp only; rw [if_neg hnf, hdq, Int.toNat_natCast, ← hino, ← entS_D (hv.vd d (List.mem_of_getElem? hq)) hn0, hino, ← hmk, show entS d.nodes i n0 name d.next ++ [mk] = (d.nodes ++ [mk]).set i { n0 with entries := [(name, d.next)] } by (unfold entS; rw [show entL n0.entries name d.next = [(name, d.next)] from entL_nil hE hino0]; rw [List.set_append_left _ _ hil]), ← hdq]; exact LeA.tup (.cons (fls_le (d := ⟨d.next + 1, d.nodes ++ [mk]⟩)) (.cons (LeA.refl _) (.cons (LeA.refl _) .nil))))
  have hc5 := bp hb5
  refine f_ (h:=l_ (h:=ge_ (h:=pf_ (h:=m_ (h:=?_)))))
  refine al_gs false rfl rfl (fun hb6 => ?_) (fun hb6 => ?_)
  · have hc6 := bp hb6
    refine g0_ (h:=g0_ (h:=g0_ (h:=pt_ (h:=e_ (cy_ (h:=w_ (bd_ (h:=s_ (h:=a_ (h:=a_ (h:=e_ (aw_ret (x_thenR (?_))))))))))))))
    refine rt_ (r := chgR (mkL f dir name n)) none (h5 := ?_) (h6 := ⟨rfl, rfl, rfl⟩)
    first
    | (rw [mkL, if_pos (show placeL f dir name ≠ 0 by rw [place_dir hc1]; exact hc1), place_dir hc1]; exact err_le _)
    | (rw [mkL, show placeL f dir name = 22 from place_nm (by omega) hc2, if_pos (by decide)]; exact err_le _)
    | (rw [mkL, if_neg (by rw [hpl]; simp), if_pos (by assumption)]; exact err_le _)
    | (rw [mkL, if_neg (by rw [hpl]; simp), if_neg hpn, if_pos (show (lookL f dir name).2 = 0 by rw [lkE_yes (by omega) (by assumption)])]; exact err_le _)
    | (rw [mkL, if_neg (by rw [hpl]; simp), if_neg hpn, if_neg hlk, hatI]; simp only; rw [if_pos (by first | exact .inl (by rw [List.length_map] at hc5; omega) | exact .inr (.inl (by omega)) | exact .inr (.inr (by assumption)))]; exact err_le _)
    | (rw [mkL, if_neg (by rw [hpl]; simp), if_neg hpn, if_neg hlk, hatI]; simp only; rw [if_neg hnf, hdq, Int.toNat_natCast, ← hino, ← entS_D (hv.vd d (List.mem_of_getElem? hq)) hn0, hino, ← hmk, show entS d.nodes i n0 name d.next ++ [mk] = (d.nodes ++ [mk]).set i { n0 with entries := [(name, d.next)] } by (unfold entS; rw [show entL n0.entries name d.next = [(name, d.next)] from entL_nil hE hino0]; rw [List.set_append_left _ _ hil]), ← hdq]; exact LeA.tup (.cons (fls_le (d := ⟨d.next + 1, d.nodes ++ [mk]⟩)) (.cons (LeA.refl _) (.cons (LeA.refl _) .nil))))
  have hc6 := bp hb6
  refine l_ (h:=l_ (h:=?_))
  refine g_y (q_call (Pfull f dir hf) ?_)
  rintro r rfl
  refine pf_ (h:=e_ (?_))
  refine aw_cond rfl (fun hb7 => ?_) (fun hb7 => ?_)
  · have hc7 := bp hb7
    refine w_ (bd_ (h:=s_ (h:=a_ (h:=a_ (h:=e_ (aw_ret (x_thenR (?_))))))))
    refine rt_ (r := chgR (mkL f dir name n)) none (h5 := ?_) (h6 := ⟨rfl, rfl, rfl⟩)
    first
    | (rw [mkL, if_pos (show placeL f dir name ≠ 0 by rw [place_dir hc1]; exact hc1), place_dir hc1]; exact err_le _)
    | (rw [mkL, show placeL f dir name = 22 from place_nm (by omega) hc2, if_pos (by decide)]; exact err_le _)
    | (rw [mkL, if_neg (by rw [hpl]; simp), if_pos (by assumption)]; exact err_le _)
    | (rw [mkL, if_neg (by rw [hpl]; simp), if_neg hpn, if_pos (show (lookL f dir name).2 = 0 by rw [lkE_yes (by omega) (by assumption)])]; exact err_le _)
    | (rw [mkL, if_neg (by rw [hpl]; simp), if_neg hpn, if_neg hlk, hatI]; simp only; rw [if_pos (by first | exact .inl (by rw [List.length_map] at hc5; omega) | exact .inr (.inl (by omega)) | exact .inr (.inr (by assumption)))]; exact err_le _)
    | (rw [mkL, if_neg (by rw [hpl]; simp), if_neg hpn, if_neg hlk, hatI]; simp only; rw [if_neg hnf, hdq, Int.toNat_natCast, ← hino, ← entS_D (hv.vd d (List.mem_of_getElem? hq)) hn0, hino, ← hmk, show entS d.nodes i n0 name d.next ++ [mk] = (d.nodes ++ [mk]).set i { n0 with entries := [(name, d.next)] } by (unfold entS; rw [show entL n0.entries name d.next = [(name, d.next)] from entL_nil hE hino0]; rw [List.set_append_left _ _ hil]), ← hdq]; exact LeA.tup (.cons (fls_le (d := ⟨d.next + 1, d.nodes ++ [mk]⟩)) (.cons (LeA.refl _) (.cons (LeA.refl _) .nil))))
  have hc7 := bp hb7
  have hnf : ¬ (16 ≤ d.nodes.length ∨ d.next = 1073741824 ∨ fullL f dir = true) := by
    rw [List.length_map] at hc5
    rw [hc7]
    simp
    omega
  refine kt_ (w_ (f_ (h:=l_ (h:=f_ (h:=l_ (h:=f_ (h:=l_ (h:=f_ (h:=l_ (h:=f_ (h:=l_ (h:=f_ (h:=l_ (h:=bd_ (h:=al_ (h:=s_ (h:=e_ (?_))))))))))))))))))
  refine aw_midI (fun t => t = ⟨look [(2, .v (.string name)), (4, .bp 0 0), (5, .bp 1 0), (7, .bp 2 0), (8, .bp 3 0), (15, .bp 6 0)], ⟨[flsA f, filA dir, nodA n, [.v (.slice none 0 0)], filA (entP f dir name).1, dvcA d, nodX mk (.v (.slice none 0 0))], []⟩⟩) ?_ ?_
  · skip
    refine w_ (f_ (h:=l_ (h:=eq_ (h:=e_ (?_)))))
    refine aw_cond rfl (fun hb8 => ?_) (fun hb8 => ?_)
    · have hc8 := bp hb8
      have hmk2 : mk = ⟨d.next, n.kind, n.mode, n.uid, n.gid, dir.2, n.target, []⟩ := by rw [hmk]; unfold mkNod; rw [if_pos hc8]
      refine aw_region (f_ (h:=l_ (h:=f_ (h:=s_ (h:=al_nil (?_))))))
      refine x_then ?_
      refine ⟨_, rfl, ?_⟩
      rw [hmk2]
      exact (wk 7 0)
    have hc8 := bp hb8
    have hmk2 : mk = ⟨d.next, n.kind, n.mode, n.uid, n.gid, 0, n.target, []⟩ := by rw [hmk]; unfold mkNod; rw [if_neg hc8]
    refine aw_skip (?_)
    refine x_then ?_
    refine ⟨_, rfl, ?_⟩
    rw [hmk2]
    exact (wk 7 0)
  rintro t rfl
  have hmki : mk.ino = d.next := by rw [hmk]; rfl
  have hmk0 : (nodX mk (.v (.slice none 0 0)))[0 + 0]? = some (.v (.int .i64 d.next)) := by rw [hmk]; rfl
  have hmke : mk.entries = [] := by rw [hmk]; rfl
  refine w_ (f_ (h:=l_ (h:=f_ (h:=?_))))
  refine al_p rfl (st_loadB1 (row := nodX mk (.v (.slice none 0 0))) rfl rfl hmk0 ?_)
  refine al_p rfl (st_le (y := .agg (filA (dir.1, d.next))) (st_build (by repeat (first | exact FillA.nil _ | (apply FillA.cons; (focus exact rfl); (focus exact rfl); (focus exact rfl); (focus exact rfl); (focus exact rfl); (focus (repeat constructor))))) ⟨rfl, rfl⟩) (by repeat (first | exact LeA.refl _ | exact LeA.nil _ | exact LeL.refl _ | refine LeA.agg ?_ | refine LeA.tup ?_ | exact LeL.nil | refine LeL.cons ?_ ?_ | exact LeA.any _)) ?_)
  refine al_ (h:=s_ (h:=e_ (w_ (l_ (h:=?_)))))
  refine al_p rfl (s_callM [] rfl (.cons _ _ _ _ _ rfl (LeA.refl _) .nil) (by decide) .nil (PcopyFiles0 f q d hf hq (by omega)) ?_)
  rintro r bc tc ⟨rfl, rfl, rfl⟩
  rw [NF_NX hn0 hE]
  refine ⟨rfl, _, (back_copy0 (n := 8) rfl f q d i n0 f.length d.nodes.length : Back _ [] _ [_, _, _, _, _, _, _, _, _, _, _, _]), ?_⟩
  refine s_ (h:=e_ (q_ (yk_ ([(0, [.bs 10 0 2 f.length f.length]), (1, filA dir), (2, nodA n), (3, [.v (.slice none 0 0)]), (4, filA (entP f dir name).1), (5, dvcA d), (6, nodX mk (.v (.slice none 0 0))), (7, filA (dir.1, d.next))]) 7 (h:=dl_ 0 (h:=dl_ 1 (h:=dm_ 3 (h:=df_ 4 (h:=?_))))))))
  refine tk_ 5 rfl (fun _ hS => st_loadB1 (row := nodX mk (.v (.slice none 0 0))) rfl (kb hS rfl) hmk0 ⟨rfl, rfl⟩) ?_
  refine c_ 2 rfl (s_callM [10, 11] rfl (.cons _ _ _ _ _ rfl (LeA.refl _) (.cons _ _ _ _ _ rfl (LeA.refl _) .nil)) (by decide) (.cons _ _ _ _ _ rfl (ren_DB (by rfl) _ _ _ _ _) (.cons _ _ _ _ _ rfl (ren_NX (by rfl)) .nil)) (PfindB0 f q d i n0 dir hq hn0 hdq hino hfst (by omega) (by omega)) ?_)
  rintro r bc tc ⟨rfl, rfl, rfl⟩
  refine ⟨rfl, _, back_find0 rfl rfl, ?_⟩
  refine o_ (h:=?_)
  refine c_ 6 rfl (s_callM [11] rfl (.cons _ _ _ _ _ rfl (LeA.refl _) (.cons _ _ _ _ _ rfl (LeA.refl _) (.cons _ _ _ _ _ rfl (LeA.refl _) .nil))) (by decide) (.cons _ _ _ _ _ rfl (ren_NX (by rfl)) .nil) (Pput0 d.nodes i n0 name d.next hil) ?_)
  rintro r bc tc ⟨rfl, rfl, rfl⟩
  refine ⟨rfl, _, (back_put0 (Nat.le_of_ble_eq_true rfl) d.nodes i n0 _ d.nodes.length : Back _ [11] _ [_, _, _, _, _, _, _, _, _, _, _, _]), ?_⟩
  refine o_ (h:=z_ (h:=t_ (w_ (f_ (h:=l_ (h:=f_ (h:=l_ (h:=?_))))))))
  refine al_p rfl (st_indexS (m := q) rfl rfl hdq hql ?_)
  refine a_ (h:=e_ (q_ (yk_ ([(0, [.bs 10 0 2 f.length f.length]), (1, filA dir), (2, nodA n), (3, [.v (.slice none 0 0)]), (4, filA (entP f dir name).1), (5, dvcA d), (6, nodX mk (.v (.slice none 0 0))), (7, filA (dir.1, d.next)), (8, [.bs 10 0 2 f.length f.length]), (9, [.bs 10 0 2 f.length f.length]), (10, DB f q d 11 f.length d.nodes.length)]) 10 (h:=?_))))
  refine aa_t2 (i := 0) rfl rfl (by kernel_rfl) (by first | rfl | exact wan_y rfl rfl (beq_tt ‹_›) | exact wan_y rfl rfl (beq_ff ‹_›) | exact wan_y rfl rfl (by simp [*])) (fun h0 hS => st_move rfl ⟨rfl, rfl⟩) (by repeat (first | exact kb_n _ | refine kb_c rfl ?_)) ?_
  refine aa_t2 (i := 1) rfl rfl (by kernel_rfl) (by first | rfl | exact wan_y rfl rfl (beq_tt ‹_›) | exact wan_y rfl rfl (beq_ff ‹_›) | exact wan_y rfl rfl (by simp [*])) (fun h0 hS => st_move rfl ⟨rfl, rfl⟩) (by repeat (first | exact kb_n _ | refine kb_c rfl ?_)) ?_
  first | refine aa_t2 (i := 2) rfl rfl (by kernel_rfl) (by first | rfl | exact wan_y rfl rfl (beq_tt ‹_›) | exact wan_y rfl rfl (beq_ff ‹_›) | exact wan_y rfl rfl (by simp [*])) (fun h0 hS => st_nilB rfl ⟨rfl, rfl⟩) (by repeat (first | exact kb_n _ | refine kb_c rfl ?_)) ?_ | refine aa_t2 (i := 2) rfl rfl (by kernel_rfl) (by first | rfl | exact wan_y rfl rfl (beq_tt ‹_›) | exact wan_y rfl rfl (beq_ff ‹_›) | exact wan_y rfl rfl (by simp [*])) (fun h0 hS => st_nilF rfl ⟨rfl, rfl⟩) (by repeat (first | exact kb_n _ | refine kb_c rfl ?_)) ?_
  first | refine aa_t2 (i := 3) rfl rfl (by kernel_rfl) (by first | rfl | exact wan_y rfl rfl (beq_tt ‹_›) | exact wan_y rfl rfl (beq_ff ‹_›) | exact wan_y rfl rfl (by simp [*])) (fun h0 hS => st_fieldB rfl ⟨rfl, rfl⟩) (by repeat (first | exact kb_n _ | refine kb_c rfl ?_)) ?_ | refine aa_t2 (i := 3) rfl rfl (by kernel_rfl) (by first | rfl | exact wan_y rfl rfl (beq_tt ‹_›) | exact wan_y rfl rfl (beq_ff ‹_›) | exact wan_y rfl rfl (by simp [*])) (fun h0 hS => st_fieldF rfl ⟨rfl, rfl⟩) (by repeat (first | exact kb_n _ | refine kb_c rfl ?_)) ?_
  first | refine aa_t2 (i := 4) rfl rfl (by kernel_rfl) (by first | rfl | exact wan_y rfl rfl (beq_tt ‹_›) | exact wan_y rfl rfl (beq_ff ‹_›) | exact wan_y rfl rfl (by simp [*])) (fun h0 hS => st_loadB1 (row := DB f q d 11 f.length d.nodes.length) rfl (kb hS rfl) hD0 ⟨rfl, rfl⟩) (by repeat (first | exact kb_n _ | refine kb_c rfl ?_)) ?_ | refine aa_t2 (i := 4) rfl rfl (by kernel_rfl) (by first | rfl | exact wan_y rfl rfl (beq_tt ‹_›) | exact wan_y rfl rfl (beq_ff ‹_›) | exact wan_y rfl rfl (by simp [*])) (fun h0 hS => st_loadB1 rfl (kb hS rfl) rfl ⟨rfl, rfl⟩) (by repeat (first | exact kb_n _ | refine kb_c rfl ?_)) ?_ | refine aa_t2 (i := 4) rfl rfl (by kernel_rfl) (by first | rfl | exact wan_y rfl rfl (beq_tt ‹_›) | exact wan_y rfl rfl (beq_ff ‹_›) | exact wan_y rfl rfl (by simp [*])) (fun h0 hS => st_loadBW rfl (kb hS rfl) rfl ⟨rfl, rfl⟩) (by repeat (first | exact kb_n _ | refine kb_c rfl ?_)) ?_ | refine aa_t2 (i := 4) rfl rfl (by kernel_rfl) (by first | rfl | exact wan_y rfl rfl (beq_tt ‹_›) | exact wan_y rfl rfl (beq_ff ‹_›) | exact wan_y rfl rfl (by simp [*])) (fun h0 hS => st_loadF1 rfl rfl ⟨rfl, rfl⟩) (by repeat (first | exact kb_n _ | refine kb_c rfl ?_)) ?_ | refine aa_t2 (i := 4) rfl rfl (by kernel_rfl) (by first | rfl | exact wan_y rfl rfl (beq_tt ‹_›) | exact wan_y rfl rfl (beq_ff ‹_›) | exact wan_y rfl rfl (by simp [*])) (fun h0 hS => st_loadFW rfl rfl ⟨rfl, rfl⟩) (by repeat (first | exact kb_n _ | refine kb_c rfl ?_)) ?_ | refine aa_t2 (i := 4) rfl rfl (by kernel_rfl) (by first | rfl | exact wan_y rfl rfl (beq_tt ‹_›) | exact wan_y rfl rfl (beq_ff ‹_›) | exact wan_y rfl rfl (by simp [*])) (fun h0 hS => st_loadBN rfl (kb hS rfl) rfl ⟨rfl, rfl⟩) (by repeat (first | exact kb_n _ | refine kb_c rfl ?_)) ?_ | refine aa_t2 (i := 4) rfl rfl (by kernel_rfl) (by first | rfl | exact wan_y rfl rfl (beq_tt ‹_›) | exact wan_y rfl rfl (beq_ff ‹_›) | exact wan_y rfl rfl (by simp [*])) (fun h0 hS => st_loadFN rfl rfl ⟨rfl, rfl⟩) (by repeat (first | exact kb_n _ | refine kb_c rfl ?_)) ?_
  first | refine aa_t2 (i := 5) rfl rfl (by kernel_rfl) (by first | rfl | exact wan_y rfl rfl (beq_tt ‹_›) | exact wan_y rfl rfl (beq_ff ‹_›) | exact wan_y rfl rfl (by simp [*])) (fun h0 hS => st_loadB1 (row := DB f q d 11 f.length d.nodes.length) rfl (kb hS rfl) hD0 ⟨rfl, rfl⟩) (by repeat (first | exact kb_n _ | refine kb_c rfl ?_)) ?_ | refine aa_t2 (i := 5) rfl rfl (by kernel_rfl) (by first | rfl | exact wan_y rfl rfl (beq_tt ‹_›) | exact wan_y rfl rfl (beq_ff ‹_›) | exact wan_y rfl rfl (by simp [*])) (fun h0 hS => st_loadBW rfl (kb hS rfl) rfl ⟨rfl, rfl⟩) (by repeat (first | exact kb_n _ | refine kb_c rfl ?_)) ?_
  refine aa_t2 (i := 6) rfl rfl (by kernel_rfl) (by first | rfl | exact wan_y rfl rfl (beq_tt ‹_›) | exact wan_y rfl rfl (beq_ff ‹_›) | exact wan_y rfl rfl (by simp [*])) (fun h0 hS => st_slit (by repeat (first | exact DenseA.nil _ | (apply DenseA.cons; (focus exact rfl); (focus exact rfl); (focus exact rfl); (focus exact rfl)) | (apply DenseA.consE; (focus exact rfl); (focus exact rfl); (focus exact rfl)))) rfl rfl rfl rfl ⟨rfl, rfl⟩) (by repeat (first | exact kb_n _ | refine kb_c rfl ?_)) ?_
  refine c_ 7 rfl (st_appendB rfl rfl rfl (by rw [NX_len _ _ _ _ _ (Nat.le_refl _)]; omega) src1 (by omega) (by omega) ?_ ?_)
  · intro hg
    exact absurd hg (by omega)
  rintro hg cap3 k bx2 hcp3 hs
  rw [NX_new hil hmke] at hs
  obtain ⟨rfl, rfl⟩ : k = 12 ∧ bx2 = [_, _, _, _, _, _, _, _, _, _, _, _, _] := hs.eq
  have hc : (d.nodes ++ [mk]).length ≤ cap3 := by simpa using hcp3
  refine o_ (h:=?_)
  first | refine aa_t2 (i := 8) rfl rfl (by kernel_rfl) (by first | rfl | exact wan_y rfl rfl (beq_tt ‹_›) | exact wan_y rfl rfl (beq_ff ‹_›) | exact wan_y rfl rfl (by simp [*])) (fun h0 hS => st_nilB rfl ⟨rfl, rfl⟩) (by repeat (first | exact kb_n _ | refine kb_c rfl ?_)) ?_ | refine aa_t2 (i := 8) rfl rfl (by kernel_rfl) (by first | rfl | exact wan_y rfl rfl (beq_tt ‹_›) | exact wan_y rfl rfl (beq_ff ‹_›) | exact wan_y rfl rfl (by simp [*])) (fun h0 hS => st_nilF rfl ⟨rfl, rfl⟩) (by repeat (first | exact kb_n _ | refine kb_c rfl ?_)) ?_
  first | refine aa_t2 (i := 9) rfl rfl (by kernel_rfl) (by first | rfl | exact wan_y rfl rfl (beq_tt ‹_›) | exact wan_y rfl rfl (beq_ff ‹_›) | exact wan_y rfl rfl (by simp [*])) (fun h0 hS => st_fieldB rfl ⟨rfl, rfl⟩) (by repeat (first | exact kb_n _ | refine kb_c rfl ?_)) ?_ | refine aa_t2 (i := 9) rfl rfl (by kernel_rfl) (by first | rfl | exact wan_y rfl rfl (beq_tt ‹_›) | exact wan_y rfl rfl (beq_ff ‹_›) | exact wan_y rfl rfl (by simp [*])) (fun h0 hS => st_fieldF rfl ⟨rfl, rfl⟩) (by repeat (first | exact kb_n _ | refine kb_c rfl ?_)) ?_
  refine c0_ 10 rfl (s_store rfl rfl rfl rfl rfl rfl (DB_push mk hql) (by repeat constructor) ?_)
  refine o_ (h:=z_ (h:=t_ (w_ (m_ (h:=k_ (h:=f_ (h:=?_)))))))
  refine al_p rfl (st_loadB1 rfl rfl (DB_next hql) ?_)
  refine al_p rfl (st_add64 rfl rfl (by dsimp only; omega) ?_)
  refine k_ (h:=f_ (h:=?_))
  refine al_p0 (s_store rfl rfl rfl rfl rfl rfl (DB_set (d' := ⟨d.next + 1, d.nodes ++ [mk]⟩) (j' := 12) (cap1' := cap3) (k := 0) (cs := [.v (.int .i64 (d.next + 1))]) hql (by repeat constructor) (by simp)) (by repeat constructor) ?_)
  refine e_ (?_)
  refine aw_midI (fun t => t = ⟨look [(8, .bp 3 0), (9, .sl 7 [chgA (dir, name, (0, 0), (dir.1, d.next))] none), (10, .v (.int .i64 0))], ⟨[[.sl 2 (resD f q ⟨d.next + 1, d.nodes ++ [mk]⟩ (((d.nodes ++ [mk]).map nodF).set i (nodX n0 (.sl 2 ([(name, d.next)].map entA) none)))) none], filA dir, nodA n, [.sl 2 (resD f q ⟨d.next + 1, d.nodes ++ [mk]⟩ (((d.nodes ++ [mk]).map nodF).set i (nodX n0 (.sl 2 ([(name, d.next)].map entA) none)))) none]], []⟩⟩) ?_ ?_
  · skip
    refine yk_ ([(0, [.bs 10 0 2 f.length f.length]), (1, filA dir), (2, nodA n), (4, filA (entP f dir name).1), (5, dvcA d), (6, nodX mk (.v (.slice none 0 0))), (7, filA (dir.1, d.next))]) 9 (h:=dl_ 0 (h:=dl_ 1 (h:=dm_ 2 (h:=dl_ 3 (h:=?_)))))
    refine tk_ 4 rfl (fun _ hS => st_le (y := .agg (chgA (dir, name, (0, 0), (dir.1, d.next)))) (st_build (by repeat (first | exact FillA.nil _ | (apply FillA.cons; (focus exact rfl); (focus exact rfl); (focus exact rfl); (focus exact rfl); (focus exact rfl); (focus (repeat constructor))))) ⟨rfl, rfl⟩) (by repeat (first | exact LeA.refl _ | exact LeA.nil _ | exact LeL.refl _ | refine LeA.agg ⟨rfl, rfl⟩ | refine LeA.tup ⟨rfl, rfl⟩ | exact LeL.nil | refine LeL.cons ⟨rfl, rfl⟩ ⟨rfl, rfl⟩ | exact LeA.any _)) ⟨rfl, rfl⟩) ?_
    refine dbs_ 5 (h:=?_)
    refine c0_ 6 rfl (s_store rfl rfl rfl rfl rfl rfl (by repeat constructor) (by repeat constructor) ?_)
    refine o_ (h:=da_ 7 (h:=da_ 8 (h:=z_ (h:=?_))))
    refine x_then ?_
    exact ⟨_, rfl, weak_fz 4 3 rfl (congrArg (fun x : List AV => [x, filA dir, nodA n, x]) (liv_NX (n := 4) (i0 := 10) (i1 := 12) (f := f) (q := q) (d := ⟨d.next + 1, d.nodes ++ [mk]⟩) (ns := d.nodes ++ [mk]) (i := i) (nI := n0) (cap := f.length) (cap0 := f.length) (cap1 := cap3) hql (Nat.le_refl _) hc rfl (Nat.le_of_ble_eq_true rfl) (Nat.le_of_ble_eq_true rfl) (by rfl) (by rfl) (by rfl))) (.cons _ _ _ _ rfl (LeA.refl _) (.cons _ _ _ _ rfl (LeA.refl _) (.cons _ _ _ _ rfl (LeA.refl _) .nil)))⟩
  rintro t rfl
  refine aw_ret (?_)
  refine rt_ (r := chgR (mkL f dir name n)) none (h5 := ?_) (h6 := ⟨rfl, rfl, rfl⟩)
  first
  | (rw [mkL, if_pos (show placeL f dir name ≠ 0 by rw [place_dir hc1]; exact hc1), place_dir hc1]; exact err_le _)
  | (rw [mkL, show placeL f dir name = 22 from place_nm (by omega) hc2, if_pos (by decide)]; exact err_le _)
  | (rw [mkL, if_neg (by rw [hpl]; simp), if_pos (by assumption)]; exact err_le _)
  | (rw [mkL, if_neg (by rw [hpl]; simp), if_neg hpn, if_pos (show (lookL f dir name).2 = 0 by rw [lkE_yes (by omega) (by assumption)])]; exact err_le _)
  | (rw [mkL, if_neg (by rw [hpl]; simp), if_neg hpn, if_neg hlk, hatI]; simp only; rw [if_pos (by first | exact .inl (by rw [List.length_map] at hc5; omega) | exact .inr (.inl (by omega)) | exact .inr (.inr (by assumption)))]; exact err_le _)
  | (rw [mkL, if_neg (by rw [hpl]; simp), if_neg hpn, if_neg hlk, hatI]; simp only; rw [if_neg hnf, hdq, Int.toNat_natCast, ← hino, ← entS_D (hv.vd d (List.mem_of_getElem? hq)) hn0, hino, ← hmk, show entS d.nodes i n0 name d.next ++ [mk] = (d.nodes ++ [mk]).set i { n0 with entries := [(name, d.next)] } by (unfold entS; rw [show entL n0.entries name d.next = [(name, d.next)] from entL_nil hE hino0]; rw [List.set_append_left _ _ hil]), ← hdq]; exact LeA.tup (.cons (fls_le (d := ⟨d.next + 1, d.nodes ++ [mk]⟩)) (.cons (LeA.refl _) (.cons (LeA.refl _) .nil))))

end
end Go.Proofs.Ythcbdkmhamhciaa
namespace Go.Proofs.Ythcbdkmhamhciaa
open Go.RowKit

theorem Plink (f : Fls) (dir : Fil) (name : Str) (a : Fil) (hv : FlsV f) : AFn Try.prog 27 [.agg (flsA f), .agg (filA dir), .v (.string name), .agg (filA a)] (fun r => r = chgR (linkL f dir name a)) := by
  by_cases h : (nodG f dir).entries = []
  · exact Plink0 f dir name a hv h
  exact PlinkG f dir name a hv (List.length_pos_iff.2 h)
section
set_option maxRecDepth 10000
set_option maxHeartbeats 2000000
theorem Pnew (n : Int) : AFn Try.prog 15 [.v (.int .i64 n)] (fun r => r = .tup [.agg (flsA (newL n).1), .v (.int .i64 (newL n).2)]) := by
  refine enter Try.func15 rfl rfl rfl rfl rfl 0 rfl ?_
  refine w_ (al_ (h:=a_ (h:=e_ (q_ (w_ (m_ (h:=lt_ (h:=m_ (h:=?_)))))))))
  refine al_gs false rfl rfl (fun hb1 => ?_) (fun hb1 => ?_)
  · have hc1 := bp hb1
    refine g0_ (h:=g0_ (h:=pt_ (h:=e_ (cy_ (h:=w_ (bd_ (h:=s_ (h:=a_ (h:=e_ (aw_ret (x_thenR (?_))))))))))))
    refine rt_ (r := .tup [.agg (flsA (newL n).1), .v (.int .i64 (newL n).2)]) none (h5 := ?_) (h6 := ⟨rfl, rfl, rfl⟩)
    rw [newL_bad (by omega)]
    exact (by repeat (first | exact LeA.refl _ | exact LeA.nil _ | exact LeL.refl _ | refine LeA.agg ?_ | refine LeA.tup ?_ | exact LeL.nil | refine LeL.cons ?_ ?_ | exact LeA.any _))
  have hc1 := bp hb1
  refine m_ (h:=gt_ (h:=pf_ (h:=e_ (?_))))
  refine aw_cond rfl (fun hb2 => ?_) (fun hb2 => ?_)
  · have hc2 := bp hb2
    refine w_ (bd_ (h:=s_ (h:=a_ (h:=e_ (aw_ret (x_thenR (?_)))))))
    refine rt_ (r := .tup [.agg (flsA (newL n).1), .v (.int .i64 (newL n).2)]) none (h5 := ?_) (h6 := ⟨rfl, rfl, rfl⟩)
    rw [newL_bad (by omega)]
    exact (by repeat (first | exact LeA.refl _ | exact LeA.nil _ | exact LeL.refl _ | refine LeA.agg ?_ | refine LeA.tup ?_ | exact LeL.nil | refine LeL.cons ?_ ?_ | exact LeA.any _))
  have hc2 := bp hb2
  obtain ⟨k, rfl⟩ := Int.eq_ofNat_of_zero_le (show 0 ≤ n by omega)
  refine kt_ (w_ (al_ (h:=e_ (q_ (w_ (m_ (h:=m_ (h:=e_ (aw_block (?_))))))))))
  refine aw_nilTokB 1 0 79 2 rfl rfl (by repeat constructor) (by repeat constructor) (by repeat constructor) ?_
  refine aw_loopW (fun m s => ∃ j : Nat, j ≤ k ∧ m = k - j ∧ s = ⟨look [(2, .bp 0 0), (4, .bp 1 0), (13, .v (.int .i64 (k : Int))), (14, .v (.int .i64 (j : Int)))], ⟨[[.v (.slice none 0 0)], [.sl 2 ((List.replicate j rootDvc).map dvcA) (some 0)]], [(79, 2, (List.replicate j rootDvc).map dvcA)]⟩⟩) (k) ((wk 2 1)) (⟨0, by omega, rfl, rfl⟩) ?_
  rintro m s ⟨j, hj, rfl, rfl⟩
  refine w_ (lt_ (h:=e_ (q_ (?_))))
  refine aw_cond rfl (fun hb3 => ?_) (fun hb3 => ?_)
  · have hc3 := bp hb3
    refine kt_ (q_ (aw_block (w_ (?_))))
    refine al_p rfl (st_le (y := .agg (nodA rootNod)) (st_build (by repeat (first | exact FillA.nil _ | (apply FillA.cons; (focus exact rfl); (focus exact rfl); (focus exact rfl); (focus exact rfl); (focus exact rfl); (focus (repeat constructor))))) ⟨rfl, rfl⟩) (by repeat (first | exact LeA.refl _ | exact LeA.nil _ | exact LeL.refl _ | refine LeA.agg ?_ | refine LeA.tup ?_ | exact LeL.nil | refine LeL.cons ?_ ?_ | exact LeA.any _)) ?_)
    refine al_ (h:=s_ (h:=e_ (aw_region (f_ (h:=l_ (h:=l_ (h:=bs_ (h:=bd_ (h:=bs_ (h:=?_))))))))))
    first | refine al_p rfl (s_append rfl rfl rfl (by simp; omega) (by repeat constructor) ?_) | refine al_p rfl (s_append0 rfl rfl (by simp; omega) (by repeat constructor) ?_)
    refine f_ (h:=s_ (h:=al_nil (x_blockN (t_ (aw_region (ad_ (h:=m_ (h:=al_nil (?_)))))))))
    refine x_then ?_
    refine ⟨_, _, ?_, ⟨j + 1, by omega, rfl, rfl⟩, (by rw [List.replicate_succ', List.map_append]; exact (wk 2 1))⟩
    omega
  have hc3 := bp hb3
  obtain rfl : j = k := by omega
  refine aw_exit (x_thenE (x_thenE (ABlock_out (t_ (w_ (l_ (h:=s_ (h:=a_ (h:=e_ (aw_ret (?_)))))))))))
  refine e_ret ?_
  rw [newL_ok hc1 hc2]
  rfl

end
end Go.Proofs.Ythcbdkmhamhciaa
namespace Go.Proofs.Ythcbdkmhamhciaa
open Go.RowKit

section
set_option maxRecDepth 20000
set_option maxHeartbeats 4000000
theorem Plinks (f : Fls) (a : Fil) (hf : FlsB f) : AFn Try.prog 37 [.agg (flsA f), .agg (filA a)] (fun r => r = .v (.int .i64 (linksF f a : Int))) := by
  refine enter Try.func37 rfl rfl rfl rfl rfl 0 rfl ?_
  refine w_ (b_ (h:=b_ (h:=a_ (h:=e_ (q_ (w_ (l_ (h:=l_ (h:=?_)))))))))
  refine al_p rfl (q_call (Pfind f a hf) ?_)
  rintro r (⟨e, rfl⟩ | ⟨n, e, rfl⟩)
  · skip
    first | refine al_p rfl (st_eqPnil (by kernel_rfl) rfl rfl ?_) | refine al_p rfl (st_eqPfp (by kernel_rfl) rfl rfl ?_)
    refine e_ (?_)
    refine aw_cond rfl (fun hb1 => ?_) (fun hb1 => ?_)
    · have hc1 := bp hb1
      refine w_ (a_ (h:=e_ (aw_ret (x_thenR (?_)))))
      refine e_ret ?_
      exact vi (by simp [linksF, e])
    have hc1 := bp hb1
    exfalso; first | contradiction | omega
  skip
  first | refine al_p rfl (st_eqPnil (by kernel_rfl) rfl rfl ?_) | refine al_p rfl (st_eqPfp (by kernel_rfl) rfl rfl ?_)
  refine e_ (?_)
  refine aw_cond rfl (fun hb2 => ?_) (fun hb2 => ?_)
  · have hc2 := bp hb2
    exfalso; first | contradiction | omega
  have hc2 := bp hb2
  obtain ⟨k, i0, d, n1, g1, g2, g3, g4, g5, g6⟩ := (index_node f a).resolve_left (fun h => by rw [h.2] at e; cases e)
  have hr1 : (f.map dvcA)[k]? = some (dvcA d) := by rw [List.getElem?_map, g2]; rfl
  have hdn := hf.nodes d (List.mem_of_getElem? g2)
  refine kt_ (w_ (a_ (h:=e_ (q_ (w_ (f_ (h:=l_ (h:=f_ (h:=l_ (h:=?_))))))))))
  refine al_p rfl (st_index (n := k) rfl rfl g1 hr1 ?_)
  refine f_ (h:=l_ (h:=n_ (h:=m_ (h:=e_ (aw_block (?_))))))
  refine aw_loopW (fun m s => ∃ j c : Nat, j ≤ d.nodes.length ∧ m = d.nodes.length - j ∧ c = cntN a.2 (d.nodes.take j) ∧ c ≤ 1000 * j ∧ s = ⟨look [(3, .bp 1 0), (5, .v (.int .i64 (c : Int))), (20, .sl 8 (d.nodes.map nodA) none), (21, .v (.int .i64 ((d.nodes.map nodA).length : Int))), (22, .v (.int .i64 (j : Int)))], ⟨[flsA f, filA a], []⟩⟩) (d.nodes.length) ((wk 2 0)) (⟨0, 0, by omega, rfl, rfl, by omega, rfl⟩) ?_
  rintro m s ⟨j, c, hj, rfl, hcn, hcb, rfl⟩
  refine w_ (lt_ (h:=e_ (q_ (?_))))
  refine aw_cond rfl (fun hb3 => ?_) (fun hb3 => ?_)
  · have hc3 := bp hb3
    obtain ⟨hlt, x, hx, hrow, -⟩ := row_at nodA hc3
    have hen := hf.ents d (List.mem_of_getElem? g2) x (List.mem_of_getElem? hx)
    refine kt_ (q_ (aw_block (w_ (?_))))
    refine al_p rfl (st_index (n := j) rfl rfl rfl hrow ?_)
    refine l_ (h:=al_ (h:=s_ (h:=e_ (w_ (f_ (h:=l_ (h:=n_ (h:=m_ (h:=e_ (aw_block (?_)))))))))))
    refine aw_loopW (fun m s => ∃ i c2 : Nat, i ≤ x.entries.length ∧ m = x.entries.length - i ∧ c2 = c + cntE a.2 (x.entries.take i) ∧ c2 ≤ c + i ∧ s = ⟨look [(3, .bp 1 0), (5, .v (.int .i64 (c2 : Int))), (20, .sl 8 (d.nodes.map nodA) none), (21, .v (.int .i64 ((d.nodes.map nodA).length : Int))), (22, .v (.int .i64 (j : Int))), (27, .sl 2 (x.entries.map entA) none), (28, .v (.int .i64 ((x.entries.map entA).length : Int))), (29, .v (.int .i64 (i : Int)))], ⟨[flsA f, filA a], []⟩⟩) (x.entries.length) ((wk 2 0)) (⟨0, c, by omega, rfl, rfl, by omega, rfl⟩) ?_
    rintro m s ⟨i, c2, hi, rfl, hc2n, hc2b, rfl⟩
    refine w_ (lt_ (h:=e_ (q_ (?_))))
    refine aw_cond rfl (fun hb4 => ?_) (fun hb4 => ?_)
    · have hc4 := bp hb4
      obtain ⟨hlt3, y, hy, hrow3, -⟩ := row_at entA hc4
      refine kt_ (q_ (aw_block (w_ (?_))))
      refine al_p rfl (st_index (n := i) rfl rfl rfl hrow3 ?_)
      refine l_ (h:=al_ (h:=s_ (h:=e_ (w_ (f_ (h:=l_ (h:=f_ (h:=l_ (h:=eq_ (h:=e_ (?_)))))))))))
      refine aw_cond rfl (fun hb5 => ?_) (fun hb5 => ?_)
      · have hc5 := bp hb5
        refine aw_region (m_ (h:=ad_ (h:=a_ (h:=al_nil (x_blockN (t_ (aw_region (ad_ (h:=m_ (h:=al_nil (?_)))))))))))
        refine x_then ?_
        first | (refine ⟨_, _, ?_, ⟨i + 1, c2 + 1, by omega, rfl, ?_, by omega, rfl⟩, (wk 2 0)⟩ <;> first | omega | (rw [cntE_snoc hy]; simp [hc5]; omega)) | (refine ⟨_, _, ?_, ⟨i + 1, c2, by omega, rfl, ?_, by omega, rfl⟩, (wk 2 0)⟩ <;> first | omega | (rw [cntE_snoc hy]; simp [hc5]; omega))
      have hc5 := bp hb5
      refine aw_skip (x_blockN (t_ (aw_region (ad_ (h:=m_ (h:=al_nil (?_)))))))
      refine x_then ?_
      first | (refine ⟨_, _, ?_, ⟨i + 1, c2 + 1, by omega, rfl, ?_, by omega, rfl⟩, (wk 2 0)⟩ <;> first | omega | (rw [cntE_snoc hy]; simp [hc5]; omega)) | (refine ⟨_, _, ?_, ⟨i + 1, c2, by omega, rfl, ?_, by omega, rfl⟩, (wk 2 0)⟩ <;> first | omega | (rw [cntE_snoc hy]; simp [hc5]; omega))
    have hc4 := bp hb4
    have e3 := row_no entA hi hc4
    subst e3
    refine aw_exit (x_thenE (x_thenE (ABlock_out (x_blockN (t_ (aw_region (ad_ (h:=m_ (h:=al_nil (?_))))))))))
    refine x_then ?_
    refine ⟨_, _, ?_, ⟨j + 1, c2, by omega, rfl, ?_, ?_, rfl⟩, (wk 2 0)⟩
    · omega
    · rw [hc2n, cntN_snoc hx, List.take_length]; omega
    have := cntE_le a.2 (x.entries.take x.entries.length); simp at this; omega
  have hc3 := bp hb3
  have e2 := row_no nodA hj hc3
  subst e2
  refine aw_exit (x_thenE (x_thenE (ABlock_out (t_ (w_ (m_ (h:=a_ (h:=e_ (aw_ret (?_))))))))))
  refine e_ret ?_
  exact vi (by rw [linksF_at g1 g2 g6, hcn, List.take_length])

end
end Go.Proofs.Ythcbdkmhamhciaa
namespace Go.Proofs.Ythcbdkmhamhciaa
open Go.RowKit

theorem new_valid5 : FlsV (newL 1).1 := (new_valid (by decide) (by decide)).1
def aw5N : Nod := ⟨0, 1, 420, 0, 0, 0, ⟨#[]⟩, []⟩
def aw5F1 : Fls := (mkL (newL 1).1 (0, 1) ⟨#[97]⟩ aw5N).1
def aw5F2 : Fls := (linkL aw5F1 (0, 1) ⟨#[98]⟩ (0, 2)).1
set_option maxRecDepth 100000 in
theorem aw5_make : (mkL (newL 1).1 (0, 1) ⟨#[97]⟩ aw5N).2.2 = 0 ∧ (mkL (newL 1).1 (0, 1) ⟨#[97]⟩ aw5N).2.1 = [((0, 1), ⟨#[97]⟩, (0, 0), (0, 2))] := by decide +kernel
set_option maxRecDepth 100000 in
theorem aw5_link : (linkL aw5F1 (0, 1) ⟨#[98]⟩ (0, 2)).2.2 = 0 := by decide +kernel
set_option maxRecDepth 100000 in
theorem aw5_links : linksF aw5F2 (0, 2) = 2 := by decide +kernel
set_option maxRecDepth 100000 in
theorem aw5_e1 : (nodG (newL 1).1 (0, 1)).entries = [] := by decide +kernel
set_option maxRecDepth 100000 in
theorem aw5_e2 : 0 < (nodG aw5F1 (0, 1)).entries.length := by decide +kernel
theorem aw5_valid : FlsV aw5F1 ∧ FlsV aw5F2 := by
  have h1 : FlsV aw5F1 := (make_okay new_valid5 _ _ _ aw5_make.1).1
  exact ⟨h1, (link_okay h1 _ _ _ aw5_link).1⟩
section
set_option maxRecDepth 10000
set_option maxHeartbeats 1000000
theorem Lawake5 : AFn Try.prog 18 [] (fun r => r = .v (.bool true)) := by
  have hnew : AFn Try.prog 15 [.v (.int .i64 1)] (fun r => r = .tup [.agg (flsA (newL 1).1), .v (.int .i64 0)]) := Pnew 1
  have hmk : AFn Try.prog 24 [.agg (flsA (newL 1).1), .agg [.v (.int .i64 0), .v (.int .i64 1)], .v (.string ⟨#[97]⟩), .agg (nodA aw5N)] (fun r => r = .tup [.agg (flsA aw5F1), .sl 7 [chgA ((0, 1), ⟨#[97]⟩, (0, 0), (0, 2))] none, .v (.int .i64 0)]) :=
    (Pmake0 (newL 1).1 (0, 1) ⟨#[97]⟩ aw5N new_valid5 (by decide) aw5_e1).mono fun r hr => by rw [hr]; unfold chgR; rw [aw5_make.1, aw5_make.2]; rfl
  obtain ⟨c2, hlk⟩ : ∃ c2, AFn Try.prog 27 [.agg (flsA aw5F1), .agg [.v (.int .i64 0), .v (.int .i64 1)], .v (.string ⟨#[98]⟩), .agg [.v (.int .i64 0), .v (.int .i64 2)]] (fun r => r = .tup [.agg (flsA aw5F2), .sl 7 (List.map chgA c2) none, .v (.int .i64 0)]) :=
    ⟨_, (PlinkG aw5F1 (0, 1) ⟨#[98]⟩ (0, 2) aw5_valid.1 aw5_e2).mono fun r hr => by rw [hr]; unfold chgR; rw [aw5_link]; rfl⟩
  have hls : AFn Try.prog 37 [.agg (flsA aw5F2), .agg [.v (.int .i64 0), .v (.int .i64 2)]] (fun r => r = .v (.int .i64 2)) :=
    (Plinks aw5F2 (0, 2) aw5_valid.2.b).mono fun r hr => by rw [hr, aw5_links]; rfl
  refine enter Try.func18 rfl rfl rfl rfl rfl 0 rfl ?_
  refine w_ (a_ (h:=e_ (w_ (?_))))
  refine al_p rfl (q_call (hnew) ?_)
  rintro r rfl
  refine m_ (h:=x_ (h:=x_ (h:=al_ (h:=s_ (h:=a_ (h:=e_ (w_ (bd_ (h:=al_ (h:=s_ (h:=e_ (w_ (l_ (h:=l_ (h:=?_)))))))))))))))
  refine al_p rfl (st_le (y := .agg (nodA aw5N)) (st_build (by repeat (first | exact FillA.nil _ | (apply FillA.cons; (focus exact rfl); (focus exact rfl); (focus exact rfl); (focus exact rfl); (focus exact rfl); (focus (repeat constructor))))) ⟨rfl, rfl⟩) (by repeat (first | exact LeA.refl _ | exact LeA.nil _ | exact LeL.refl _ | refine LeA.agg ?_ | refine LeA.tup ?_ | exact LeL.nil | refine LeL.cons ?_ ?_ | exact LeA.any _)) ?_)
  refine al_p rfl (q_call (hmk) ?_)
  rintro r rfl
  refine m_ (h:=x_ (h:=x_ (h:=x_ (h:=s_ (h:=a_ (h:=a_ (h:=e_ (q_ (w_ (m_ (h:=nq_ (h:=m_ (h:=?_)))))))))))))
  refine al_gs false rfl rfl (fun hb1 => ?_) (fun hb1 => ?_)
  · have hc1 := bp hb1
    refine g0_ (h:=g0_ (h:=pt_ (h:=m_ (h:=g0_ (h:=g0_ (h:=g0_ (h:=pt_ (h:=e_ (cy_ (h:=w_ (a_ (h:=e_ (aw_ret (x_thenR (?_)))))))))))))))
    refine e_ret ?_
    first | rfl | (exfalso; simp_all)
  have hc1 := bp hb1
  refine m_ (h:=nq_ (h:=pf_ (h:=m_ (h:=?_))))
  refine al_gs false rfl rfl (fun hb2 => ?_) (fun hb2 => ?_)
  · have hc2 := bp hb2
    refine g0_ (h:=g0_ (h:=g0_ (h:=pt_ (h:=e_ (cy_ (h:=w_ (a_ (h:=e_ (aw_ret (x_thenR (?_)))))))))))
    refine e_ret ?_
    first | rfl | (exfalso; simp_all)
  have hc2 := bp hb2
  refine m_ (h:=n_ (h:=nq_ (h:=pf_ (h:=e_ (?_)))))
  refine aw_cond rfl (fun hb3 => ?_) (fun hb3 => ?_)
  · have hc3 := bp hb3
    refine w_ (a_ (h:=e_ (aw_ret (x_thenR (?_)))))
    refine e_ret ?_
    first | rfl | (exfalso; simp_all)
  have hc3 := bp hb3
  refine kt_ (q_ (yk_ ([(1, [.v (.int .i64 0), .v (.int .i64 1)])]) 14 (h:=dl_ 1 (h:=dm_ 2 (h:=di_ 3 (h:=df_ 4 (h:=dl_ 5 (h:=?_))))))))
  refine c_ 0 rfl (st_loadBW rfl rfl rfl ?_)
  refine o_ (h:=?_)
  refine c_ 6 rfl (q_call (hlk) ?_)
  rintro r rfl
  refine o_ (h:=dm_ 7 (h:=dx_ 8 (h:=dx_ 9 (h:=dx_ 10 (h:=?_)))))
  refine c0_ 11 rfl (s_store rfl rfl rfl rfl rfl rfl (by repeat constructor) (by repeat constructor) ?_)
  refine o_ (h:=da_ 12 (h:=da_ 13 (h:=z_ (h:=t_ (q_ (yr_ 12 (h:=dm_ 0 (h:=deq_ 1 (h:=dm_ 2 (h:=?_))))))))))
  refine aa_both (j := 2) rfl (fun hb4 => ?_) (fun hb4 => ?_)
  · have hc4 := bp hb4
    refine dl_ 3 (h:=dm_ 4 (h:=di_ 5 (h:=df_ 6 (h:=dl_ 7 (h:=?_)))))
    refine c_ 8 rfl (q_call (hls) ?_)
    rintro r rfl
    refine o_ (h:=deq_ 9 (h:=dpt_ 10 (h:=da_ 11 (h:=z_ (h:=t_ (aw_ret (?_)))))))
    refine e_ret ?_
    first | rfl | (exfalso; simp_all)
  have hc4 := bp hb4
  refine d0_ 3 (h:=d0_ 4 (h:=d0_ 5 (h:=d0_ 6 (h:=d0_ 7 (h:=d0_ 8 (h:=d0_ 9 (h:=dpf_ 10 (h:=da_ 11 (h:=z_ (h:=t_ (aw_ret (?_))))))))))))
  refine e_ret ?_
  first | rfl | (exfalso; simp_all)

end
end Go.Proofs.Ythcbdkmhamhciaa
namespace Go.Proofs.Ythcbdkmhamhciaa
open Go.RowKit

section
variable {P : Program} {ev : Operand → Option AV} {h : AH} {R : AV → AH → Prop} {d : Option Tmp} {ty : TypeId} {pos : String} {af : Array Edge} {gd : Option (Nat × Bool)}
theorem st_sliceEnd {T : TypeId} {x lo : Operand} {E sz bytes i off n cap : Nat} {iv : Int} [hE : Elm P T E sz bytes] (hx : ev x = some (.bs i off sz n cap)) (hl : ev lo = some (.v (.int .i64 iv))) (hl' : iv = (n : Int)) (hR : R (.sl sz [] none) h) : AStep P ⟨d, .slice T x (some lo) none none, ty, pos, af, gd⟩ ev h R := by
  refine st_val (fun _ G w ec _ he => ?_) hR
  have k1 := he x (by simp [Op.operands]) _ hx
  have k2 := he lo (by simp [Op.operands]) _ hl
  simp only [rep] at k1 k2
  obtain ⟨b, e1, e2, e3, e4⟩ := k1
  obtain ⟨hu, inf, z, hinf, hz, hzs, hs, hby, hp⟩ := elm_spec hE.eq
  subst hl'
  refine ⟨.slice (if cap = n then some ⟨b, off, none⟩ else Option.map (fun y : Addr => y.add (n * sz)) (some ⟨b, off, none⟩)) 0 (cap - n), ?_, ?_⟩
  · simp [execOp, e2, k2, Instr.sliceAt, Instr.slice, Instr.sliceBounds, Instr.sliceBound, asIntOf, run_underlying hu, sizeOf, typeInfo, hinf, hs, e3]
  simp only [rep, fro]
  exact ⟨trivial, _, _, rfl, Nat.zero_le _, by omega, .inl trivial⟩
theorem st_appendE {T : TypeId} {s y : Operand} {T' sz bytes i off n cap : Nat} [hE : Elm P T T' sz bytes] (hs : ev s = some (.bs i off sz n cap)) (hy : ev y = some (.sl sz [] none)) (hR : R (.bs i off sz n cap) h) : AStep P ⟨d, .call { callee := .builtin .append, args := #[s, y], argTypes := #[T, T] }, ty, pos, af, gd⟩ ev h R := by
  intro E G w ec hr he
  have k1 := he s (by simp [Op.operands, Call.operands]) _ hs
  have k2 := he y (by simp [Op.operands, Call.operands]) _ hy
  obtain ⟨hu, inf, z, hinf, hz, hzs, hsz, hbts, hp⟩ := elm_spec hE.eq
  simp only [rep, fro] at k1 k2
  obtain ⟨b, k3, k4, k5, k6⟩ := k1
  obtain ⟨_, A, c, j1, j2, j3, j4⟩ := k2
  have hrun : (Builtin.append_ #[T, T] ty #[.slice (some ⟨b, off, none⟩) n cap, .slice A 0 c]).run P w = .ok (.slice (some ⟨b, off, none⟩) n cap) w := by
    cases A with
    | none => simp [Builtin.append_, run_underlying hu, sizeOf, typeInfo, hinf, Builtin.lenOf, Builtin.firstCells, k5, storeCells]
    | some a =>
      have := run_append_room_cells (P := P) w T ty T' inf hu hinf b off n cap a 0 c [] (by simp) (fun j u hj => by simp at hj) (fun u hu => by cases hu) (by omega) (fun j hj => by simp at hj) (fun j hj => by simp at hj)
      simpa [World.setCells] using this
  simp only [List.length_nil] at j1
  simp only [execOp, resolve, invoke, builtin, Sem.run_bind, Sem.run_pure, Result.andThen_ok, List.map_toArray, List.map_cons, List.map_nil, k4, j1, hrun]
  exact ⟨_, _, G, hR, hr, Ext.refl _ _, by simp only [rep]; exact ⟨b, k3, rfl, k5, k6⟩⟩
end
end Go.Proofs.Ythcbdkmhamhciaa
namespace Go.Proofs.Ythcbdkmhamhciaa
open Go.RowKit

theorem EB_delete (es : List Ent) (k cap : Nat) (hk : k + 1 < es.length) (hc : es.length ≤ cap) : ∃ row, SetAt (EB es cap) (0 + k * 2) (((EB es cap).drop (0 + (k + 1) * 2)).take ((es.length - (k + 1)) * 2)) row ∧ row.length = cap * 2 ∧ row.take (0 + (es.length - 1) * 2) ++ List.replicate (cap * 2 - (0 + (es.length - 1) * 2)) .any = EB (es.eraseIdx k) cap := by
  rw [ent_flat2 es cap (k + 1) (by omega)]
  have lA : ((es.take k).map entA).flatten.length = k * 2 := by rw [flat_len (ent_two _)]; simp; omega
  have lM : (((es.drop k).take (es.length - 1 - k)).map entA).flatten.length = (es.length - 1 - k) * 2 := by rw [flat_len (ent_two _)]; simp; omega
  have lX : ((es.drop (k + 1)).map entA).flatten.length = (es.length - 1 - k) * 2 := by rw [flat_len (ent_two _)]; simp; omega
  have lZ : ((es.drop (es.length - 1)).map entA).flatten.length = 2 := by rw [flat_len (ent_two _)]; simp; omega
  have hs : es = es.take k ++ ((es.drop k).take (es.length - 1 - k) ++ es.drop (es.length - 1)) := by
    conv => lhs; rw [← List.take_append_drop k es, ← List.take_append_drop (es.length - 1 - k) (es.drop k)]
    rw [List.drop_drop, show k + (es.length - 1 - k) = es.length - 1 by omega]
  have hE : EB es cap = ((es.take k).map entA).flatten ++ ((((es.drop k).take (es.length - 1 - k)).map entA).flatten ++ (((es.drop (es.length - 1)).map entA).flatten ++ List.replicate ((cap - es.length) * 2) .any)) := by
    unfold EB rowsB
    rw [List.length_map]
    conv => lhs; arg 1; rw [hs]
    simp only [List.map_append, List.flatten_append, List.append_assoc]
  refine ⟨((es.take k).map entA).flatten ++ (((es.drop (k + 1)).map entA).flatten ++ (((es.drop (es.length - 1)).map entA).flatten ++ List.replicate ((cap - es.length) * 2) .any)), ?_, ?_, ?_⟩
  · rw [hE]
    have key := SetAt.right (SetAt.whole (xs := ((es.drop (k + 1)).map entA).flatten) (l := (((es.drop k).take (es.length - 1 - k)).map entA).flatten) (b := ((es.drop (es.length - 1)).map entA).flatten ++ List.replicate ((cap - es.length) * 2) .any) (by rw [lX, lM])) ((es.take k).map entA).flatten (fun h => by rw [h, List.length_nil] at lX; omega)
    rw [lA, Nat.add_zero] at key
    rw [Nat.zero_add]
    exact key
  · simp only [List.length_append, lA, lX, lZ, List.length_replicate, Nat.sub_mul]
    omega
  rw [← List.append_assoc, List.take_left' (by rw [List.length_append, lA, lX]; omega)]
  unfold EB rowsB
  rw [List.eraseIdx_eq_take_drop_succ, List.map_append, List.flatten_append]
  congr 2
  simp only [List.length_append, List.length_map, List.length_take, List.length_drop]
  rw [Nat.min_eq_left (by omega)]
  omega
theorem EB_deleteL (es : List Ent) (k cap : Nat) (hk : k + 1 = es.length) (hc : es.length ≤ cap) : (EB es cap).take (0 + k * 2) ++ List.replicate ((EB es cap).length - (0 + k * 2)) .any = EB (es.eraseIdx k) cap := by
  have h := EB_take es cap cap k (by omega)
  rw [List.drop_zero] at h
  rw [EB_len _ _ hc, Nat.zero_add, List.eraseIdx_eq_take_drop_succ, List.drop_of_length_le (by omega), List.append_nil, ← Nat.sub_mul, h]
theorem back_E (a : List AV) (es es' : List Ent) (cap cap' : Nat) : Back [a, EB es cap] [1] [EB es' cap'] [a, EB es' cap'] := by
  have := back_F (bx := [a, EB es cap]) (is := [1]) (bc := [EB es' cap']) (by decide) (by simp) (by simp)
  simpa [backF, ren_EB] using this
section
set_option maxRecDepth 10000
set_option maxHeartbeats 1000000
theorem PdelE1 (es : List Ent) (k cap : Nat) (hk : k + 1 < es.length) (hes : es.length ≤ 1000) (hc : es.length ≤ cap) : ACall Try.prog 103 [.bs 0 0 2 es.length cap, .v (.int .i64 (k : Int)), .v (.int .i64 ((k : Int) + 1))] [EB es cap] (fun r b t => t = [] ∧ r = .bs 0 0 2 (es.length - 1) cap ∧ b = [EB (es.eraseIdx k) cap]) := by
  obtain ⟨row, hrow, hrl, hrt⟩ := EB_delete es k cap hk hc
  have hfit : 0 + cap * 2 ≤ (EB es cap).length := by rw [EB_len es _ hc]; omega
  refine enter Try.func103 rfl rfl rfl rfl rfl 1 rfl ?_
  refine w_ (a_ (h:=e_ (w_ (m_ (h:=m_ (h:=m_ (h:=m_ (h:=?_))))))))
  refine al_p rfl (st_lenB rfl ?_)
  refine al_p rfl (st_slice3B (l := k) (k := k + 1) (q := es.length) rfl rfl rfl rfl rfl (by omega) rfl (by omega) (by omega) (by omega) (by omega) ?_)
  refine e_ (q_ (w_ (m_ (h:=m_ (h:=eq_ (h:=e_ (?_)))))))
  refine aw_cond rfl (fun hb1 => ?_) (fun hb1 => ?_)
  · have hc1 := bp hb1
    exfalso; omega
  have hc1 := bp hb1
  refine kt_ (w_ (m_ (h:=?_)))
  refine al_p rfl (st_lenB rfl ?_)
  refine a_ (h:=e_ (q_ (yk_ ([]) 8 (h:=dm_ 0 (h:=dm_ 1 (h:=?_))))))
  refine tk_ 2 rfl (fun _ hS => st_sliceHiB (k := k) rfl rfl rfl (by omega) ⟨rfl, rfl⟩) ?_
  refine dm_ 3 (h:=dm_ 4 (h:=?_))
  refine tk_ 5 rfl (fun _ hS => st_sliceLoB (l := k + 1) rfl rfl (by omega) (by omega) ⟨rfl, rfl⟩) ?_
  refine c_ 6 rfl (st_appendB rfl rfl rfl hfit (SrcA.bs 0 (0 + (k + 1) * 2) (es.length - (k + 1)) (cap - (k + 1)) _ rfl (by rw [EB_len es _ hc]; omega)) (by omega) (by omega) ?_ (fun h => absurd h (by omega)))
  intro _ row2 bx2 hs1 hs2
  obtain rfl : row2 = row := hs1.det hrow
  obtain rfl := (SetAt.one hs2).2
  refine o_ (h:=da_ 7 (h:=z_ (h:=t_ (w_ (m_ (h:=m_ (h:=?_)))))))
  refine al_p rfl (st_lenB rfl ?_)
  refine m_ (h:=?_)
  refine al_p rfl (st_slice2B (l := k + (es.length - (k + 1))) (k := es.length) rfl rfl rfl rfl rfl (by omega) (by omega) (by omega) ?_)
  refine al_p0 (st_clearB rfl rfl (by omega) (by rw [hrl]; omega) (by repeat constructor) ?_)
  refine e_ (w_ (m_ (h:=a_ (h:=e_ (aw_ret (?_))))))
  have e9 : k + (es.length - (k + 1)) = es.length - 1 := by omega
  rw [e9]
  refine abody_ret (r := .bs 0 0 2 (es.length - 1) cap) none (by repeat (first | exact ResA.nil | (apply ResA.tmp; (focus exact rfl)) | (apply ResA.cellN; (focus exact inferInstance); (focus exact rfl); (focus exact rfl); (focus exact rfl)) | (apply ResA.cell1; (focus exact inferInstance); (focus exact rfl); (focus exact rfl); (focus exact rfl)))) rfl rfl (by rw [hrl, hrt]; show (bpLtL 1 0 (EB (es.eraseIdx k) cap) && true) = true; rw [bp_EB]; rfl) (LeA.refl _) ⟨rfl, rfl, by rw [hrl, hrt]; rfl⟩

theorem PdelE2 (es : List Ent) (k cap : Nat) (hk : k + 1 = es.length) (hes : es.length ≤ 1000) (hc : es.length ≤ cap) : ACall Try.prog 103 [.bs 0 0 2 es.length cap, .v (.int .i64 (k : Int)), .v (.int .i64 ((k : Int) + 1))] [EB es cap] (fun r b t => t = [] ∧ r = .bs 0 0 2 k cap ∧ b = [EB (es.eraseIdx k) cap]) := by
  have hrt := EB_deleteL es k cap hk hc
  have hrl := EB_len es _ hc
  refine enter Try.func103 rfl rfl rfl rfl rfl 1 rfl ?_
  refine w_ (a_ (h:=e_ (w_ (m_ (h:=m_ (h:=m_ (h:=m_ (h:=?_))))))))
  refine al_p rfl (st_lenB rfl ?_)
  refine al_p rfl (st_slice3B (l := k) (k := k + 1) (q := es.length) rfl rfl rfl rfl rfl (by omega) rfl (by omega) (by omega) (by omega) (by omega) ?_)
  refine e_ (q_ (w_ (m_ (h:=m_ (h:=eq_ (h:=e_ (?_)))))))
  refine aw_cond rfl (fun hb1 => ?_) (fun hb1 => ?_)
  · have hc1 := bp hb1
    exfalso; omega
  have hc1 := bp hb1
  refine kt_ (w_ (m_ (h:=?_)))
  refine al_p rfl (st_lenB rfl ?_)
  refine a_ (h:=e_ (q_ (yk_ ([]) 8 (h:=dm_ 0 (h:=dm_ 1 (h:=?_))))))
  refine tk_ 2 rfl (fun _ hS => st_sliceHiB (k := k) rfl rfl rfl (by omega) ⟨rfl, rfl⟩) ?_
  refine dm_ 3 (h:=dm_ 4 (h:=?_))
  refine tk_ 5 rfl (fun _ hS => st_sliceEnd rfl rfl (by omega) ⟨rfl, rfl⟩) ?_
  refine c_ 6 rfl (st_appendE rfl rfl ?_)
  refine o_ (h:=da_ 7 (h:=z_ (h:=t_ (w_ (m_ (h:=m_ (h:=?_)))))))
  refine al_p rfl (st_lenB rfl ?_)
  refine m_ (h:=?_)
  refine al_p rfl (st_slice2B (l := k) (k := es.length) rfl rfl rfl rfl rfl (by omega) (by omega) (by omega) ?_)
  refine al_p0 (st_clearB rfl rfl (by omega) (by rw [hrl]; omega) (by repeat constructor) ?_)
  refine e_ (w_ (m_ (h:=a_ (h:=e_ (aw_ret (?_))))))
  refine abody_ret (r := .bs 0 0 2 k cap) none (by repeat (first | exact ResA.nil | (apply ResA.tmp; (focus exact rfl)) | (apply ResA.cellN; (focus exact inferInstance); (focus exact rfl); (focus exact rfl); (focus exact rfl)) | (apply ResA.cell1; (focus exact inferInstance); (focus exact rfl); (focus exact rfl); (focus exact rfl)))) rfl rfl (by rw [hrt]; show (bpLtL 1 0 (EB (es.eraseIdx k) cap) && true) = true; rw [bp_EB]; rfl) (LeA.refl _) ⟨rfl, rfl, by rw [hrt]; rfl⟩

theorem PdelE (es : List Ent) (k cap : Nat) (hk : k < es.length) (hes : es.length ≤ 1000) (hc : es.length ≤ cap) : ACall Try.prog 103 [.bs 0 0 2 es.length cap, .v (.int .i64 (k : Int)), .v (.int .i64 ((k : Int) + 1))] [EB es cap] (fun r b t => t = [] ∧ r = .bs 0 0 2 (es.length - 1) cap ∧ b = [EB (es.eraseIdx k) cap]) := by
  by_cases h : k + 1 = es.length
  · have := PdelE2 es k cap h hes hc
    rw [show es.length - 1 = k by omega]
    exact this
  exact PdelE1 es k cap (by omega) hes hc
theorem Pdrop (ns : List Nod) (i : Nat) (nI : Nod) (name : Str) (p : Nat) (cap m : Nat) (hil : i < ns.length) (hp : ∃ e, nI.entries[p]? = some e ∧ e.1 = name) (hfst : ∀ k e, k < p → nI.entries[k]? = some e → e.1 ≠ name) (hEn : nI.entries.length ≤ 1000) (hcap : nI.entries.length ≤ cap) : ACall Try.prog 86 [.bp 0 (0 + i * 8), .v (.string name)] [NX ns i nI (.bs 1 0 2 nI.entries.length cap) m, EB nI.entries cap] (fun r b t => t = [] ∧ r = .tup [] ∧ b = [NX ns i nI (.bs 1 0 2 (nI.entries.length - 1) cap) m, EB (nI.entries.eraseIdx p) cap]) := by
  obtain ⟨ep, hpe, hpn⟩ := hp
  have hpl := (List.getElem?_eq_some_iff.1 hpe).1
  have h7 : (NX ns i nI (.bs 1 0 2 nI.entries.length cap) m)[0 + i * 8 + 7]? = some (.bs 1 0 2 nI.entries.length cap) := NX_get hil rfl
  have hbp : bpLtL 2 0 (NX ns i nI (.bs 1 0 2 nI.entries.length cap) m) = true := bp_NX rfl
  have hbp2 : bpLtL 2 0 (NX ns i nI (.bs 1 0 2 (nI.entries.length - 1) cap) m) = true := bp_NX rfl
  refine enter Try.func86 rfl rfl rfl rfl rfl 2 rfl ?_
  refine w_ (m_ (h:=k_ (h:=f_ (h:=?_))))
  refine al_p rfl (st_loadB1 rfl rfl h7 ?_)
  refine al_p rfl (st_lenB rfl ?_)
  refine m_ (h:=e_ (aw_block (?_)))
  refine aw_loopW (fun n t => ∃ j : Nat, j ≤ nI.entries.length ∧ n = nI.entries.length - j ∧ (∀ k x, k < j → nI.entries[k]? = some x → x.1 ≠ name) ∧ t = ⟨look [(0, .bp 0 (0 + i * 8)), (1, .v (.string name)), (9, .v (.int .i64 (nI.entries.length : Int))), (10, .v (.int .i64 (j : Int)))], ⟨[NX ns i nI (.bs 1 0 2 nI.entries.length cap) m, EB nI.entries cap], []⟩⟩) (nI.entries.length) (weak_of 2 0 rfl rfl rfl (by simp [bpLtB, bp_EB, hbp]) (by repeat (first | exact Sub.nil | refine Sub.cons _ _ _ rfl rfl ?_ | refine Sub.any _ _ ?_ | refine Sub.sl _ _ _ _ _ rfl ?_ | refine Sub.slnil _ _ _ rfl ?_))) (⟨0, Nat.zero_le _, rfl, fun k x hk => by omega, rfl⟩) ?_
  rintro n t ⟨j, hj, rfl, hnot, rfl⟩
  refine w_ (lt_ (h:=e_ (q_ (?_))))
  refine aw_cond rfl (fun hb1 => ?_) (fun hb1 => ?_)
  · have hc1 := bp hb1
    have hjl : j < nI.entries.length := by omega
    obtain ⟨y, hy⟩ : ∃ y, nI.entries[j]? = some y := ⟨_, List.getElem?_eq_getElem hjl⟩
    refine kt_ (q_ (aw_block (w_ (m_ (h:=a_ (h:=e_ (w_ (m_ (h:=k_ (h:=f_ (h:=?_)))))))))))
    refine al_p rfl (st_loadB1 rfl rfl h7 ?_)
    refine m_ (h:=?_)
    refine al_p rfl (st_indexS (m := j) rfl rfl rfl hjl ?_)
    refine f_ (h:=?_)
    refine al_p rfl (st_loadB1 rfl rfl (EB_get hy rfl) ?_)
    refine m_ (h:=eq_ (h:=e_ (?_)))
    refine aw_cond rfl (fun hb2 => ?_) (fun hb2 => ?_)
    · have hc2 := bp hb2
      obtain rfl : j = p := by
        rcases Nat.lt_trichotomy j p with h | h | h
        · exact absurd hc2 (hfst j y h hy)
        · exact h
        exact absurd hpn (hnot p ep h hpe)
      refine w_ (m_ (h:=m_ (h:=k_ (h:=f_ (h:=?_)))))
      refine al_p rfl (st_loadB1 rfl rfl h7 ?_)
      refine m_ (h:=m_ (h:=?_))
      refine al_p rfl (st_add64 rfl rfl (by omega) ?_)
      refine al_p rfl (s_callM [1] rfl (.cons _ _ _ _ _ rfl (LeA.refl _) (.cons _ _ _ _ _ rfl (LeA.refl _) (.cons _ _ _ _ _ rfl (LeA.refl _) .nil))) (by decide) (.cons _ _ _ _ _ rfl (ren_EB _ _ _) .nil) (PdelE nI.entries j cap hjl hEn hcap) ?_)
      rintro r bc tc ⟨rfl, rfl, rfl⟩
      refine ⟨rfl, _, (back_E _ _ _ _ _ : Back _ [1] _ [_, _]), ?_⟩
      refine k_ (h:=f_ (h:=?_))
      refine al_p0 (s_store rfl rfl rfl rfl rfl rfl (NX_set hil) (by repeat constructor) ?_)
      refine e_ (aw_ret (x_blockR (x_thenR (x_thenR (x_blockR (?_))))))
      refine abody_ret (r := .tup []) none (by repeat (first | exact ResA.nil | (apply ResA.tmp; (focus exact rfl)) | (apply ResA.cellN; (focus exact inferInstance); (focus exact rfl); (focus exact rfl); (focus exact rfl)) | (apply ResA.cell1; (focus exact inferInstance); (focus exact rfl); (focus exact rfl); (focus exact rfl)))) rfl rfl (by simp [bpLtB, bp_EB]; exact hbp2) (LeA.refl _) ⟨rfl, rfl, rfl⟩
    have hc2 := bp hb2
    refine aw_skip (x_blockN (t_ (aw_region (ad_ (h:=m_ (h:=al_nil (?_)))))))
    refine x_then ?_
    refine ⟨nI.entries.length - (j + 1), _, by omega, ⟨j + 1, by omega, rfl, fun k x hk hk2 => ?_, rfl⟩, weak_of 2 0 rfl rfl rfl (by simp [bpLtB, bp_EB, hbp]) (by repeat (first | exact Sub.nil | refine Sub.cons _ _ _ rfl rfl ?_ | refine Sub.any _ _ ?_ | refine Sub.sl _ _ _ _ _ rfl ?_ | refine Sub.slnil _ _ _ rfl ?_))⟩
    rcases Nat.lt_succ_iff_lt_or_eq.1 hk with h | rfl
    · exact hnot k x h hk2
    rw [hy] at hk2; injection hk2 with hk2; subst hk2; assumption
  have hc1 := bp hb1
  exact absurd hpn (hnot p ep (by omega) hpe)

end
end Go.Proofs.Ythcbdkmhamhciaa
namespace Go.Proofs.Ythcbdkmhamhciaa
open Go.RowKit

def RowN (r : List AV) (n : Nod) : Prop := ∃ e, r = nodX n e ∧ (e = .sl 2 (n.entries.map entA) none ∨ (e = .v (.slice none 0 0) ∧ n.entries = []))
def RowsN (RN : List (List AV)) (ns : List Nod) : Prop := RN.length = ns.length ∧ ∀ (k : Nat) (r : List AV) (n : Nod), RN[k]? = some r → ns[k]? = some n → RowN r n
theorem rowN_A (n : Nod) : RowN (nodA n) n := ⟨_, rfl, .inl rfl⟩
theorem rowN_F (n : Nod) : RowN (nodF n) n := by
  refine ⟨entX n.entries, rfl, ?_⟩
  unfold entX
  split
  · rename_i h; exact .inr ⟨rfl, h⟩
  exact .inl rfl
theorem rowsN_F (ns : List Nod) : RowsN (ns.map nodF) ns := ⟨by simp, fun k r n h1 h2 => by rw [List.getElem?_map, h2] at h1; injection h1 with h1; subst h1; exact rowN_F n⟩
theorem RowsN.set {RN : List (List AV)} {ns : List Nod} (h : RowsN RN ns) (i : Nat) {r : List AV} {n : Nod} (hr : RowN r n) : RowsN (RN.set i r) (ns.set i n) := by
  refine ⟨by simp [h.1], fun k r' n' h1 h2 => ?_⟩
  rw [List.getElem?_set] at h1 h2
  have hl := h.1
  split at h1
  · rename_i e
    rw [if_pos e] at h2
    split at h1
    · rw [if_pos (by omega)] at h2
      injection h1 with h1
      injection h2 with h2
      subst h1 h2
      exact hr
    cases h1
  rename_i e
  rw [if_neg e] at h2
  exact h.2 k r' n' h1 h2
theorem RowsN.erase {RN : List (List AV)} {ns : List Nod} (h : RowsN RN ns) (i : Nat) : RowsN (RN.eraseIdx i) (ns.eraseIdx i) := by
  have hl := h.1
  refine ⟨by rw [List.length_eraseIdx, List.length_eraseIdx, hl], fun k r n h1 h2 => ?_⟩
  rw [List.getElem?_eraseIdx] at h1 h2
  split at h1
  · rename_i e
    rw [if_pos e] at h2
    exact h.2 k r n h1 h2
  rename_i e
  rw [if_neg e] at h2
  exact h.2 _ r n h1 h2
theorem RowN.le {r : List AV} {n : Nod} (h : RowN r n) : LeFL r (nodA n) := by
  obtain ⟨e, rfl, h⟩ := h
  refine ⟨rfl, fun i x y hx hy => ?_⟩
  match i, hx, hy with
  | 0, hx, hy => injection hx with hx; injection hy with hy; subst hx hy; exact LeF.refl _
  | 1, hx, hy => injection hx with hx; injection hy with hy; subst hx hy; exact LeF.refl _
  | 2, hx, hy => injection hx with hx; injection hy with hy; subst hx hy; exact LeF.refl _
  | 3, hx, hy => injection hx with hx; injection hy with hy; subst hx hy; exact LeF.refl _
  | 4, hx, hy => injection hx with hx; injection hy with hy; subst hx hy; exact LeF.refl _
  | 5, hx, hy => injection hx with hx; injection hy with hy; subst hx hy; exact LeF.refl _
  | 6, hx, hy => injection hx with hx; injection hy with hy; subst hx hy; exact LeF.refl _
  | 7, hx, hy =>
    injection hx with hx; injection hy with hy; subst hx hy
    rcases h with rfl | ⟨rfl, h⟩
    · exact LeF.refl _
    rw [h]; exact LeF.nil _
  | i + 8, hx, hy => simp [nodX] at hx
def PlnR (RN : List (List AV)) : Prop := ∀ r ∈ RN, ∀ x ∈ r, (∃ v, x = .v v) ∨ ∃ sz rows, x = .sl sz rows none
theorem RowN.pln {r : List AV} {n : Nod} (h : RowN r n) : r.length = 8 ∧ ∀ x ∈ r, (∃ v, x = .v v) ∨ ∃ sz rows, x = .sl sz rows none := by
  obtain ⟨e, rfl, h⟩ := h
  refine ⟨rfl, fun x hx => ?_⟩
  simp only [nodX, List.mem_cons, List.not_mem_nil, or_false] at hx
  rcases hx with rfl | rfl | rfl | rfl | rfl | rfl | rfl | rfl
  all_goals first | exact .inl ⟨_, rfl⟩ | skip
  rcases h with rfl | ⟨rfl, _⟩
  · exact .inr ⟨_, _, rfl⟩
  exact .inl ⟨_, rfl⟩
theorem RowsN.mem {RN : List (List AV)} {ns : List Nod} (h : RowsN RN ns) {r : List AV} (hr : r ∈ RN) : ∃ n ∈ ns, RowN r n := by
  obtain ⟨k, hk⟩ := List.getElem?_of_mem hr
  have hl := h.1
  have hkl := (List.getElem?_eq_some_iff.1 hk).1
  have hn : ns[k]? = some ns[k] := List.getElem?_eq_getElem (by omega)
  exact ⟨_, List.mem_of_getElem? hn, h.2 k r _ hk hn⟩
theorem RowsN.pln {RN : List (List AV)} {ns : List Nod} (h : RowsN RN ns) : PlnR RN := fun r hr => by
  obtain ⟨n, _, hn⟩ := h.mem hr
  exact hn.pln.2
theorem RowsN.eight {RN : List (List AV)} {ns : List Nod} (h : RowsN RN ns) : ∀ r ∈ RN, r.length = 8 := fun r hr => by
  obtain ⟨n, _, hn⟩ := h.mem hr
  exact hn.pln.1
theorem RowsN.ino {RN : List (List AV)} {ns : List Nod} (h : RowsN RN ns) {cap : Nat} (j : Nat) (x : Nod) (hx : ns[j]? = some x) : (rowsB 8 cap RN)[0 + j * 8 + 0]? = some (.v (.int .i64 x.ino)) := by
  have hl := h.1
  have hjl := (List.getElem?_eq_some_iff.1 hx).1
  have hr : RN[j]? = some RN[j] := List.getElem?_eq_getElem (by omega)
  obtain ⟨e, he, _⟩ := h.2 j _ x hr hx
  exact rowsB_get h.eight hr (by rw [he]; rfl)
theorem map_pln {F : AV → AV} (hany : F .any = .any) (hv : ∀ x, F (.v x) = .v x) (hs : ∀ sz rows, F (.sl sz rows none) = .sl sz rows none) {RN : List (List AV)} (h : PlnR RN) (sz cap : Nat) : (rowsB sz cap RN).map F = rowsB sz cap RN := by
  rw [rowsB_map F hany]
  congr 1
  conv => rhs; rw [← List.map_id RN]
  apply List.map_congr_left
  intro r hr
  conv => rhs; rw [id, ← List.map_id r]
  apply List.map_congr_left
  intro x hx
  rcases h r hr x hx with ⟨v, rfl⟩ | ⟨sz, rows, rfl⟩
  · exact hv v
  exact hs sz rows
theorem ren_pln (g : Nat → Option Nat) {RN : List (List AV)} (h : PlnR RN) (sz cap : Nat) : renL g (rowsB sz cap RN) = rowsB sz cap RN := by
  rw [renL_map]; exact map_pln rfl (fun _ => rfl) (fun _ _ => rfl) h sz cap
theorem liv_pln (n : Nat) (g : Nat → Option (List AV)) {RN : List (List AV)} (h : PlnR RN) (sz cap : Nat) : livL n g (rowsB sz cap RN) = rowsB sz cap RN := by
  rw [livL_map]; exact map_pln rfl (fun _ => rfl) (fun _ _ => rfl) h sz cap
theorem low_pln (g : Nat → Option (List AV)) {RN : List (List AV)} (h : PlnR RN) (sz cap : Nat) : lowGL g (rowsB sz cap RN) = rowsB sz cap RN := by
  rw [lowGL_map]; exact map_pln rfl (fun _ => rfl) (fun _ _ => rfl) h sz cap
theorem bp_pln {n m : Nat} {RN : List (List AV)} (h : PlnR RN) (sz cap : Nat) : bpLtL n m (rowsB sz cap RN) = true := by
  refine bpLt_rowsB fun r hr => bpLtL_all.2 fun x hx => ?_
  rcases h r hr x hx with ⟨v, rfl⟩ | ⟨sz, rows, rfl⟩ <;> rfl
theorem liv_DB {n : Nat} {g : Nat → Option (List AV)} {j : Nat} (hj : Nat.blt j n = true) (f : Fls) (K : Nat) (d : Dvc) (cap cap1 : Nat) : livL n g (DB f K d j cap cap1) = DB f K d j cap cap1 := by
  rw [livL_map]
  exact map_DB rfl (fun _ => rfl) (fun _ _ => rfl) f K d cap cap1 (by simp [liv, hj])
theorem frz_pln {n : Nat} {bx : List (List AV)} {k j sz cap : Nat} {RN : List (List AV)} (hn : n ≤ j) (hj : bx[j]? = some (rowsB sz cap RN)) (h : PlnR RN) : frzG n bx (k + 1) j = some (rowsB sz cap RN) := by
  have : Nat.blt j n = false := by rw [← Bool.not_eq_true, Nat.blt_eq]; omega
  simp only [frzG, this, hj, Option.map_some, low_pln _ h]
theorem low_rows {n : Nat} {bx : List (List AV)} {i0 i1 : Nat} {f : Fls} {q : Nat} {d : Dvc} {RN : List (List AV)} {cap cap0 cap1 : Nat} (hR : RowsN RN d.nodes) (hq : q < f.length) (hc : f.length ≤ cap) (hc1 : d.nodes.length ≤ cap1) (hn0 : n ≤ i0) (hn1 : n ≤ i1) (h0 : bx[i0]? = some (DB f q d i1 cap cap1)) (h1 : bx[i1]? = some (rowsB 8 cap1 RN)) :
    lowG (frzG n bx 3) (.bs i0 0 2 f.length cap0) = .sl 2 (resD f q d RN) none := by
  have b0 : Nat.blt i0 n = false := by rw [← Bool.not_eq_true, Nat.blt_eq]; omega
  have hl := hR.1
  have hb : lowG (frzG n bx 2) (.bs i1 0 8 d.nodes.length cap1) = .sl 8 RN none := lowG_rows (frz_pln hn1 h1 hR.pln) hR.eight hl.symm (by omega)
  have f0 : frzG n bx 3 i0 = some (rowsB 2 cap (resD f q d RN)) := by
    rw [frzG, b0]
    simp only [h0, Option.map_some]
    rw [lowGL_map]
    unfold DB devB resD
    rw [rowsB_map (lowG (frzG n bx 2)) rfl, List.map_set, map_dvcs rfl (fun _ => rfl) (fun _ _ => rfl)]
    congr 3
    simp only [devR, List.map_cons, List.map_nil, hb]
    rfl
  exact lowG_rows f0 (fun r hr => by
    unfold resD at hr
    rcases List.mem_or_eq_of_mem_set hr with h | h
    · exact dvcs_two _ r h
    rw [h]; rfl) (by simp [resD]) (by simpa [resD] using hc)
theorem liv_rowsN {n : Nat} {bx : List (List AV)} {i0 i1 : Nat} {f : Fls} {q : Nat} {d : Dvc} {RN : List (List AV)} {cap cap0 cap1 : Nat} (hR : RowsN RN d.nodes) (hq : q < f.length) (hc : f.length ≤ cap) (hc1 : d.nodes.length ≤ cap1) (hn0 : n ≤ i0) (hn1 : n ≤ i1) (h0 : bx[i0]? = some (DB f q d i1 cap cap1)) (h1 : bx[i1]? = some (rowsB 8 cap1 RN)) :
    livL n (frzG n bx 3) [.bs i0 0 2 f.length cap0] = [.sl 2 (resD f q d RN) none] := by
  have b0 : Nat.blt i0 n = false := by rw [← Bool.not_eq_true, Nat.blt_eq]; omega
  simp only [livL, liv, b0, low_rows hR hq hc hc1 hn0 hn1 h0 h1]
theorem resD_leN {f : Fls} {q : Nat} {d : Dvc} {RN : List (List AV)} (hR : RowsN RN d.nodes) : LeA (.agg [.sl 2 (resD f q d RN) none]) (.agg (flsA (f.set q d))) :=
  resD_le rfl hR.1 fun k r m h1 h2 => (hR.2 k r m h1 h2).le
section
variable {P : Program} {ev : Operand → Option AV} {h : AH} {R : AV → AH → Prop} {d : Option Tmp} {ty : TypeId} {pos : String} {af : Array Edge} {gd : Option (Nat × Bool)}
theorem st_eqPbp {T yT : TypeId} {x y : Operand} {i o : Nat} (hp : P.underlying T = some (.pointer (P.pointee T))) (hx : ev x = some (.bp i o)) (hy : ev y = some (.v (.pointer none))) (hR : R (.v (.bool false)) h) : AStep P ⟨d, .binOp .eql T x y yT, ty, pos, af, gd⟩ ev h R := by
  refine st_val (fun _ G w ec _ he => ?_) hR
  have h1 := he x (by simp [Op.operands]) _ hx
  have h2 := he y (by simp [Op.operands]) _ hy
  simp only [rep] at h1 h2
  obtain ⟨b, h3, h4⟩ := h1
  refine ⟨.bool false, ?_, by simp only [rep]⟩
  simp [execOp, h2, h4, eqGuard, run_eql_pointer_nil (P := P) (w := w) T (some ⟨b, o, none⟩) hp]
end
theorem rows_put {rows : List (List AV)} {cap i : Nat} {y x : List AV} (h8 : ∀ r ∈ rows, r.length = 8) (hx : x.length = 8) (h : rows[i]? = some y) : SetAt (rowsB 8 cap rows) (0 + i * 8) x (rowsB 8 cap (rows.set i x)) := by
  have hy := h8 y (List.mem_of_getElem? h)
  have hw : SetAt y 0 x x := by
    have := SetAt.whole (xs := x) (l := y) (b := []) (by omega)
    simpa using this
  exact rowsB_set (k := 0) h8 h hw (fun e => by rw [e] at hx; cases hx)
theorem rows_cut {rows : List (List AV)} {cap i : Nat} (h8 : ∀ r ∈ rows, r.length = 8) (hi : i ≤ rows.length) (hc : rows.length ≤ cap) : (rowsB 8 cap rows).take (0 + i * 8) ++ List.replicate ((rowsB 8 cap rows).length - (0 + i * 8)) .any = rowsB 8 cap (rows.take i) := by
  rw [rowsB_len h8 hc]
  have h1 : (rowsB 8 cap rows).take (0 + i * 8) = (rows.take i).flatten := by
    unfold rowsB
    rw [Nat.zero_add, List.take_append_of_le_length (by rw [flat_len h8]; omega)]
    conv => lhs; rw [← List.take_append_drop i rows, List.flatten_append]
    rw [List.take_left' (by rw [flat_len (fun r hr => h8 r (List.mem_of_mem_take hr))]; simp [hi])]
  rw [h1]
  unfold rowsB
  congr 1
  congr 1
  simp [Nat.sub_mul, hi]
theorem take_setN {α : Type} {l : List α} {i : Nat} {x : α} (h : i < l.length) : (l.set i x).take (i + 1) = l.take i ++ [x] := by
  rw [List.take_succ_eq_append_getElem (by simpa using h), List.getElem_set_self]
  congr 1
  apply List.ext_getElem?
  intro k
  rw [List.getElem?_take, List.getElem?_take]
  split
  · rw [List.getElem?_set_ne (by omega)]
  rfl
theorem drop_setN {α : Type} {l : List α} {i j : Nat} {x : α} (h : i < j) : (l.set i x).drop j = l.drop j := by
  apply List.ext_getElem?
  intro k
  rw [List.getElem?_drop, List.getElem?_drop, List.getElem?_set_ne (by omega)]
theorem drop_getN {α : Type} {l l' : List α} {j : Nat} (h : l.drop j = l'.drop j) : l[j]? = l'[j]? ∧ l.drop (j + 1) = l'.drop (j + 1) := by
  have h1 := congrArg (fun x => x[0]?) h
  simp only [List.getElem?_drop, Nat.add_zero] at h1
  refine ⟨h1, ?_⟩
  rw [← List.drop_drop, ← List.drop_drop, h]
theorem pln_set {RN rows : List (List AV)} (hR : PlnR RN) (hm : ∀ r ∈ rows, r ∈ RN) {i j : Nat} {r : List AV} (hr : RN[j]? = some r) : PlnR (rows.set i r) := fun s hs => by
  rcases List.mem_or_eq_of_mem_set hs with h | h
  · exact hR s (hm s h)
  rw [h]; exact hR r (List.mem_of_getElem? hr)
theorem erase_take {α : Type} {l : List α} {k j : Nat} {x : α} (hk : k ≤ j) (hx : l[j + 1]? = some x) : (l.eraseIdx k).take (j + 1) = (l.eraseIdx k).take j ++ [x] := by
  rw [List.take_add_one, List.getElem?_eraseIdx, if_neg (by omega), hx]
  rfl
section
set_option maxRecDepth 10000
set_option maxHeartbeats 1000000
theorem PrelF1 (n : Nod) (a : Fil) : AFn Try.prog 105 [.agg (nodA n), .fp (filA a)] (fun r => r = .v (.bool (decide (n.ino = a.2)))) := by
  refine enter Try.func105 rfl rfl rfl rfl rfl 0 rfl ?_
  refine w_ (b_ (h:=a_ (h:=e_ (w_ (f_ (h:=l_ (h:=f_ (h:=l_ (h:=eq_ (h:=a_ (h:=e_ (aw_ret (?_)))))))))))))
  refine e_ret ?_
  rfl

theorem PrelF2 (n : Nod) (a : Fil) : AFn Try.prog 105 [.agg (nodX n (.v (.slice none 0 0))), .fp (filA a)] (fun r => r = .v (.bool (decide (n.ino = a.2)))) := by
  refine enter Try.func105 rfl rfl rfl rfl rfl 0 rfl ?_
  refine w_ (b_ (h:=a_ (h:=e_ (w_ (f_ (h:=l_ (h:=f_ (h:=l_ (h:=eq_ (h:=a_ (h:=e_ (aw_ret (?_)))))))))))))
  refine e_ret ?_
  rfl

theorem PidxN (ns : List Nod) (a : Fil) (hm : ns.length ≤ 1000) : AFn Try.prog 113 [.sl 8 (ns.map nodA) none, .fn 105 [.fp (filA a)]] (fun r => r = .v (.int .i64 (idxBy (fun m : Nod => decide (m.ino = a.2)) ns))) := by
  refine enter Try.func113 rfl rfl rfl rfl rfl 0 rfl ?_
  refine w_ (a_ (h:=e_ (q_ (w_ (m_ (h:=n_ (h:=m_ (h:=e_ (aw_block (?_))))))))))
  refine aw_loopW (fun m t => ∃ j : Nat, j ≤ ns.length ∧ m = ns.length - j ∧ (∀ i y, i < j → ns[i]? = some y → decide (y.ino = a.2) = false) ∧ t = ⟨look [(0, .sl 8 (ns.map nodA) none), (1, .fn 105 [.fp (filA a)]), (7, .v (.int .i64 ((ns.map nodA).length : Int))), (8, .v (.int .i64 (j : Int)))], ⟨[], []⟩⟩) (ns.length) ((wk 0 0)) (⟨0, by omega, rfl, fun i y hi => by omega, rfl⟩) ?_
  rintro m t ⟨j, hj, rfl, ha, rfl⟩
  refine w_ (lt_ (h:=e_ (q_ (?_))))
  refine aw_cond rfl (fun hb1 => ?_) (fun hb1 => ?_)
  · have hc1 := bp hb1
    obtain ⟨hlt, x, hy, hrow, -⟩ := row_at nodA hc1
    refine kt_ (q_ (aw_block (w_ (m_ (h:=a_ (h:=e_ (w_ (m_ (h:=m_ (h:=m_ (h:=i_ (h:=l_ (h:=?_)))))))))))))
    refine al_p rfl (st_callC (cy := []) (ys := [.agg (nodA x)]) rfl (by repeat (first | exact Args.nil | refine Args.cons _ _ _ _ _ rfl (argOk_clean rfl) ?_ | refine Args.cons _ _ _ _ _ rfl (argOk_nil _) ?_ | refine Args.cons _ _ _ _ _ rfl (argOk_era _) ?_ | refine Args.cons _ _ _ _ _ rfl (argOk_le rfl (by repeat (first | exact LeA.refl _ | exact LeA.nil _ | exact LeL.refl _ | refine LeA.agg ?_ | refine LeA.tup ?_ | exact LeL.nil | refine LeL.cons ?_ ?_ | exact LeA.any _))) ?_)) rfl rfl (PrelF1 x a) ?_)
    rintro r rfl
    refine e_ (?_)
    refine aw_cond rfl (fun hb2 => ?_) (fun hb2 => ?_)
    · have hc2 := bp hb2
      refine w_ (m_ (h:=a_ (h:=e_ (aw_ret (x_blockR (x_thenR (x_thenR (x_blockR (x_thenR (?_))))))))))
      refine e_ret ?_
      exact vi (idxBy_first hy (decide_eq_true hc2) ha).symm
    have hc2 := bp hb2
    refine aw_skip (x_blockN (t_ (aw_region (ad_ (h:=m_ (h:=al_nil (?_)))))))
    refine x_then ?_
    refine ⟨_, _, ?_, ⟨j + 1, by omega, rfl, upto_snoc hy ha (decide_eq_false hc2), rfl⟩, (wk 0 0)⟩
    omega
  have hc1 := bp hb1
  have e3 := row_no nodA hj hc1
  subst e3
  refine aw_exit (x_thenE (x_thenE (ABlock_out (t_ (w_ (a_ (h:=e_ (aw_ret (?_)))))))))
  refine e_ret ?_
  exact vi (idxBy_none ha).symm

theorem PdelN (ns : List Nod) (RN : List (List AV)) (a : Fil) (k cap : Nat) (hR : RowsN RN ns) (hm : ns.length ≤ 1000) (hcap : ns.length ≤ cap) (hk : ∃ n, ns[k]? = some n ∧ n.ino = a.2) (hun : ∀ i n, ns[i]? = some n → i ≠ k → n.ino ≠ a.2) : ACall Try.prog 104 [.bs 0 0 8 ns.length cap, .fn 105 [.fp (filA a)]] [rowsB 8 cap RN] (fun r b t => t = [] ∧ r = .bs 0 0 8 (ns.length - 1) cap ∧ b = [rowsB 8 cap (RN.eraseIdx k)]) := by
  obtain ⟨nk, hnk, hnki⟩ := hk
  have hkl := (List.getElem?_eq_some_iff.1 hnk).1
  have hRl := hR.1
  have hidx : idxBy (fun m : Nod => decide (m.ino = a.2)) ns = (k : Int) := idxBy_first hnk (decide_eq_true hnki) fun i n hi hn => decide_eq_false (hun i n hn (by omega))
  have hle : LeA (lowG (frzG 0 [rowsB 8 cap RN] 1) (.bs 0 0 8 ns.length cap)) (.sl 8 (ns.map nodA) none) := by
    rw [lowG_rows (rows := RN) (frz_pln (n := 0) (k := 0) (j := 0) (Nat.zero_le _) rfl hR.pln) hR.eight hRl.symm (by omega)]
    exact LeF.toA (LeF.rows (by simp [hRl]) fun i r r' h1 h2 => by
      rw [List.getElem?_map] at h2
      cases hn : ns[i]? with
      | none => rw [hn] at h2; cases h2
      | some n =>
        rw [hn] at h2
        injection h2 with h2
        subst h2
        exact (hR.2 i r n h1 hn).le)
  refine enter Try.func104 rfl rfl rfl rfl rfl 1 rfl ?_
  refine w_ (a_ (h:=e_ (w_ (m_ (h:=m_ (h:=?_))))))
  refine al_p rfl (s_callR 1 rfl (.cons _ _ _ _ _ rfl hle (.cons _ _ _ _ _ rfl (LeA.refl _) .nil)) (PidxN ns a hm) ?_)
  rintro r rfl
  refine ⟨rfl, ?_⟩
  rw [hidx]
  refine a_ (h:=e_ (q_ (w_ (m_ (h:=eq_ (h:=e_ (?_)))))))
  refine aw_cond rfl (fun hb1 => ?_) (fun hb1 => ?_)
  · have hc1 := bp hb1
    exfalso
    omega
  have hc1 := bp hb1
  refine kt_ (q_ (w_ (m_ (h:=?_))))
  refine al_p rfl (st_add64 rfl rfl (by omega) ?_)
  refine a_ (h:=e_ (aw_block (?_)))
  refine aw_loopW (fun m t => ∃ (i : Nat) (rows : List (List AV)), k ≤ i ∧ i + 1 ≤ ns.length ∧ m = ns.length - (i + 1) ∧ rows.length = ns.length ∧ (∀ r ∈ rows, r ∈ RN) ∧ rows.take i = (RN.eraseIdx k).take i ∧ rows.drop (i + 1) = RN.drop (i + 1) ∧ t = ⟨look [(0, .bs 0 0 8 ns.length cap), (1, .fn 105 [.fp (filA a)]), (5, .v (.int .i64 (i : Int))), (6, .v (.int .i64 ((i + 1 : Nat) : Int)))], ⟨[rowsB 8 cap rows], []⟩⟩) (ns.length - (k + 1)) (weak_of 1 0 rfl rfl rfl (by simp [bpLtB, bp_pln hR.pln]) (by repeat (first | exact Sub.nil | refine Sub.cons _ _ _ rfl rfl ?_ | refine Sub.any _ _ ?_ | refine Sub.sl _ _ _ _ _ rfl ?_ | refine Sub.slnil _ _ _ rfl ?_))) (⟨k, RN, Nat.le_refl _, by omega, rfl, hRl, fun r hr => hr, (by rw [List.eraseIdx_eq_take_drop_succ, List.take_append_of_le_length (by simp; omega), List.take_take, Nat.min_self]), rfl, rfl⟩) ?_
  rintro m t ⟨i, rows, hki, hi, rfl, hrl, hmem, htk, hdr, rfl⟩
  have h8 : ∀ r ∈ rows, r.length = 8 := fun r hr => hR.eight r (hmem r hr)
  refine q_ (w_ (m_ (h:=m_ (h:=?_))))
  refine al_p rfl (st_lenB rfl ?_)
  refine lt_ (h:=e_ (?_))
  refine aw_cond rfl (fun hb2 => ?_) (fun hb2 => ?_)
  · have hc2 := bp hb2
    have hjl : i + 1 < ns.length := by omega
    obtain ⟨x, hx⟩ : ∃ x, ns[i + 1]? = some x := ⟨_, List.getElem?_eq_getElem hjl⟩
    obtain ⟨rx, hrx0⟩ : ∃ r, RN[i + 1]? = some r := ⟨_, List.getElem?_eq_getElem (by omega)⟩
    obtain ⟨e, rfl, he⟩ := hR.2 (i + 1) rx x hrx0 hx
    obtain ⟨hd1, hd2⟩ := drop_getN hdr
    have hrx : rows[i + 1]? = some (nodX x e) := hd1.trans hrx0
    obtain ⟨z, hz⟩ : ∃ z, rows[i]? = some z := ⟨_, List.getElem?_eq_getElem (by omega)⟩
    have hne := hun (i + 1) x hx (by omega)
    refine kt_ (q_ (aw_block (w_ (m_ (h:=m_ (h:=?_))))))
    refine al_p rfl (st_indexS (m := i + 1) rfl rfl rfl hjl ?_)
    refine al_p rfl (st_loadBE rfl rfl (by rw [rowsB_len h8 (by omega)]; omega) (rowsB_row h8 hrx) ?_)
    rcases he with rfl | ⟨rfl, -⟩
    · skip
      refine al_ (h:=s_ (h:=e_ (w_ (m_ (h:=l_ (h:=?_))))))
      refine al_p rfl (st_callC (cy := []) (ys := [.agg (nodA x)]) rfl (by repeat (first | exact Args.nil | refine Args.cons _ _ _ _ _ rfl (argOk_clean rfl) ?_ | refine Args.cons _ _ _ _ _ rfl (argOk_nil _) ?_ | refine Args.cons _ _ _ _ _ rfl (argOk_era _) ?_ | refine Args.cons _ _ _ _ _ rfl (argOk_le rfl (by repeat (first | exact LeA.refl _ | exact LeA.nil _ | exact LeL.refl _ | refine LeA.agg ?_ | refine LeA.tup ?_ | exact LeL.nil | refine LeL.cons ?_ ?_ | exact LeA.any _))) ?_)) rfl rfl (PrelF1 x a) ?_)
      rintro r rfl
      refine nt_ (h:=e_ (?_))
      refine aw_cond rfl (fun hb3 => ?_) (fun hb3 => ?_)
      · have hc3 := bp hb3
        refine w_ (m_ (h:=m_ (h:=l_ (h:=?_))))
        refine al_p rfl (st_indexS (m := i) rfl rfl rfl (by omega) ?_)
        refine al_p0 (s_store rfl rfl rfl rfl rfl rfl (rows_put h8 rfl hz) (by repeat constructor) ?_)
        refine e_ (aw_region (m_ (h:=?_)))
        refine al_p rfl (st_add64 rfl rfl (by omega) ?_)
        refine a_ (h:=al_nil (x_blockN (t_ (aw_region (m_ (h:=?_))))))
        refine al_p rfl (st_add64 rfl rfl (by omega) ?_)
        refine a_ (h:=al_nil (?_))
        refine x_then ?_
        refine ⟨ns.length - (i + 1 + 1), _, by omega, ⟨i + 1, rows.set i (nodX x _), by omega, by omega, rfl, by simpa using hrl, ?_, ?_, (by rw [drop_setN (by omega)]; exact hd2), rfl⟩, weak_of 1 0 rfl rfl rfl (by show (bpLtL 1 0 (rowsB 8 cap (rows.set i (nodX x _))) && true) = true; rw [bp_pln (pln_set hR.pln hmem hrx0)]; rfl) ((by repeat (first | exact Sub.nil | refine Sub.cons _ _ _ rfl rfl ?_ | refine Sub.any _ _ ?_ | refine Sub.sl _ _ _ _ _ rfl ?_ | refine Sub.slnil _ _ _ rfl ?_)))⟩
        · intro r hr
          rcases List.mem_or_eq_of_mem_set hr with h | h
          · exact hmem r h
          rw [h]; exact List.mem_of_getElem? hrx0
        rw [take_setN (by omega), htk, erase_take (by omega) hrx0]
      have hc3 := bp hb3
      exact absurd (by assumption) hne
    skip
    refine al_ (h:=s_ (h:=e_ (w_ (m_ (h:=l_ (h:=?_))))))
    refine al_p rfl (st_callC (cy := []) (ys := [.agg (nodX x (.v (.slice none 0 0)))]) rfl (by repeat (first | exact Args.nil | refine Args.cons _ _ _ _ _ rfl (argOk_clean rfl) ?_ | refine Args.cons _ _ _ _ _ rfl (argOk_nil _) ?_ | refine Args.cons _ _ _ _ _ rfl (argOk_era _) ?_ | refine Args.cons _ _ _ _ _ rfl (argOk_le rfl (by repeat (first | exact LeA.refl _ | exact LeA.nil _ | exact LeL.refl _ | refine LeA.agg ?_ | refine LeA.tup ?_ | exact LeL.nil | refine LeL.cons ?_ ?_ | exact LeA.any _))) ?_)) rfl rfl (PrelF2 x a) ?_)
    rintro r rfl
    refine nt_ (h:=e_ (?_))
    refine aw_cond rfl (fun hb4 => ?_) (fun hb4 => ?_)
    · have hc4 := bp hb4
      refine w_ (m_ (h:=m_ (h:=l_ (h:=?_))))
      refine al_p rfl (st_indexS (m := i) rfl rfl rfl (by omega) ?_)
      refine al_p0 (s_store rfl rfl rfl rfl rfl rfl (rows_put h8 rfl hz) (by repeat constructor) ?_)
      refine e_ (aw_region (m_ (h:=?_)))
      refine al_p rfl (st_add64 rfl rfl (by omega) ?_)
      refine a_ (h:=al_nil (x_blockN (t_ (aw_region (m_ (h:=?_))))))
      refine al_p rfl (st_add64 rfl rfl (by omega) ?_)
      refine a_ (h:=al_nil (?_))
      refine x_then ?_
      refine ⟨ns.length - (i + 1 + 1), _, by omega, ⟨i + 1, rows.set i (nodX x _), by omega, by omega, rfl, by simpa using hrl, ?_, ?_, (by rw [drop_setN (by omega)]; exact hd2), rfl⟩, weak_of 1 0 rfl rfl rfl (by show (bpLtL 1 0 (rowsB 8 cap (rows.set i (nodX x _))) && true) = true; rw [bp_pln (pln_set hR.pln hmem hrx0)]; rfl) ((by repeat (first | exact Sub.nil | refine Sub.cons _ _ _ rfl rfl ?_ | refine Sub.any _ _ ?_ | refine Sub.sl _ _ _ _ _ rfl ?_ | refine Sub.slnil _ _ _ rfl ?_)))⟩
      · intro r hr
        rcases List.mem_or_eq_of_mem_set hr with h | h
        · exact hmem r h
        rw [h]; exact List.mem_of_getElem? hrx0
      rw [take_setN (by omega), htk, erase_take (by omega) hrx0]
    have hc4 := bp hb4
    exact absurd (by assumption) hne
  have hc2 := bp hb2
  obtain rfl : i = ns.length - 1 := by omega
  refine aw_exit (x_thenE (x_thenE (ABlock_out (t_ (w_ (m_ (h:=m_ (h:=?_))))))))
  refine al_p rfl (st_sliceLoB (l := ns.length - 1) rfl rfl rfl (by omega) ?_)
  refine al_p0 (st_clearB rfl rfl (by omega) (by rw [rowsB_len h8 (by omega)]; omega) (by repeat constructor) ?_)
  refine e_ (w_ (m_ (h:=m_ (h:=?_))))
  refine al_p rfl (st_sliceHiB (k := ns.length - 1) rfl rfl rfl (by omega) ?_)
  refine a_ (h:=e_ (aw_ret (?_)))
  have hcut := rows_cut (cap := cap) h8 (i := ns.length - 1) (by omega) (by omega)
  have hrows : rows.take (ns.length - 1) = RN.eraseIdx k := by rw [htk, List.take_of_length_le (by rw [List.length_eraseIdx, if_pos (by omega)]; omega)]
  rw [hrows] at hcut
  refine abody_ret (r := .bs 0 0 8 (ns.length - 1) cap) none (by repeat (first | exact ResA.nil | (apply ResA.tmp; (focus exact rfl)) | (apply ResA.cellN; (focus exact inferInstance); (focus exact rfl); (focus exact rfl); (focus exact rfl)) | (apply ResA.cell1; (focus exact inferInstance); (focus exact rfl); (focus exact rfl); (focus exact rfl)))) rfl rfl (by rw [hcut]; show (bpLtL 1 0 (rowsB 8 cap (RN.eraseIdx k)) && true) = true; rw [bp_pln (hR.erase k).pln]; rfl) (LeA.refl _) ⟨rfl, rfl, by rw [hcut]; rfl⟩

end
end Go.Proofs.Ythcbdkmhamhciaa
namespace Go.Proofs.Ythcbdkmhamhciaa
open Go.RowKit

theorem keepNot_erase {ns : List Nod} {k : Nat} {n : Nod} {x : Int} (hk : ns[k]? = some n) (hn : n.ino = x) (hun : ∀ i m, ns[i]? = some m → i ≠ k → m.ino ≠ x) : keepNot x ns = ns.eraseIdx k := by
  obtain ⟨hl, he⟩ := List.getElem?_eq_some_iff.1 hk
  unfold keepNot
  have hs : ns = ns.take k ++ n :: ns.drop (k + 1) := by
    conv => lhs; rw [← List.take_append_drop k ns, List.drop_eq_getElem_cons hl, he]
  have h1 : (ns.take k).filter (fun m : Nod => m.ino != x) = ns.take k := by
    rw [List.filter_eq_self]
    intro m hm
    obtain ⟨i, hi⟩ := List.getElem?_of_mem hm
    rw [List.getElem?_take] at hi
    split at hi
    · simpa using hun i m hi (by omega)
    cases hi
  have h2 : (ns.drop (k + 1)).filter (fun m : Nod => m.ino != x) = ns.drop (k + 1) := by
    rw [List.filter_eq_self]
    intro m hm
    obtain ⟨i, hi⟩ := List.getElem?_of_mem hm
    rw [List.getElem?_drop] at hi
    simpa using hun _ m hi (by omega)
  rw [List.eraseIdx_eq_take_drop_succ]
  conv => lhs; rw [hs]
  rw [List.filter_append, h1, List.filter_cons]
  simp only [hn, bne_self_eq_false, Bool.false_eq_true, if_false, h2]
theorem back_oneN {bx : List (List AV)} {i0 : Nat} (h0 : i0 < bx.length) {r : List AV} (hr : renL (backS [i0] bx.length) r = r) : Back bx [i0] [r] (bx.set i0 r) := by
  have := back_F (bx := bx) (is := [i0]) (bc := [r]) (by simp) (by simp [h0]) (by simp)
  simpa [backF, hr] using this
section
set_option maxRecDepth 10000
set_option maxHeartbeats 1000000
theorem Prelease (f : Fls) (K : Nat) (dK : Dvc) (RN : List (List AV)) (a : Fil) (k : Nat) (hR : RowsN RN dK.nodes) (hK : K < f.length) (hak : a.1 = (K : Int)) (hk : ∃ n, dK.nodes[k]? = some n ∧ n.ino = a.2) (hun : ∀ i n, dK.nodes[i]? = some n → i ≠ k → n.ino ≠ a.2) (hB : FlsB (f.set K dK)) : ACall Try.prog 87 [.agg [.bs 0 0 2 f.length f.length], .agg (filA a)] [DB f K dK 1 f.length dK.nodes.length, rowsB 8 dK.nodes.length RN] (fun r b t => t = [] ∧ r = .tup [] ∧ ∃ RN', RowsN RN' (dropI dK.nodes a.2) ∧ b = [DB f K ⟨dK.next, dropI dK.nodes a.2⟩ 1 f.length dK.nodes.length, rowsB 8 dK.nodes.length RN']) := by
  obtain ⟨nk, hnk, hnki⟩ := hk
  have hfew : f.length ≤ 1000 := by have := hB.few; simpa using this
  have hset : (f.set K dK)[K]? = some dK := List.getElem?_set_self hK
  have hdn : dK.nodes.length ≤ 1000 := hB.nodes dK (List.mem_of_getElem? hset)
  have hkl := (List.getElem?_eq_some_iff.1 hnk).1
  have hle : LeA (lowG (frzG 0 [DB f K dK 1 f.length dK.nodes.length, rowsB 8 dK.nodes.length RN, [.bs 0 0 2 f.length f.length], filA a] 3) (.agg [.bs 0 0 2 f.length f.length])) (.agg (flsA (f.set K dK))) := by
    show LeA (.agg [lowG _ _]) _
    rw [low_rows (n := 0) (i0 := 0) (i1 := 1) hR hK (Nat.le_refl _) (Nat.le_refl _) (Nat.le_refl _) (Nat.zero_le _) rfl rfl]
    exact resD_leN hR
  have hlk := links_at hak hset
  have hany : (dK.nodes.any fun n => n.ino == a.2) = true := List.any_eq_true.2 ⟨nk, List.mem_of_getElem? hnk, by simpa using hnki⟩
  refine enter Try.func87 rfl rfl rfl rfl rfl 2 rfl ?_
  refine w_ (b_ (h:=b_ (h:=e_ (q_ (w_ (l_ (h:=l_ (h:=?_))))))))
  refine al_p rfl (s_callM [0, 1] rfl (.cons _ _ _ _ _ rfl (LeA.refl _) (.cons _ _ _ _ _ rfl (LeA.refl _) .nil)) (by decide) (.cons _ _ _ _ _ rfl (ren_DB (by rfl) _ _ _ _ _) (.cons _ _ _ _ _ rfl (ren_pln _ hR.pln _ _) .nil)) (PfindR0 f K dK k nk a (rowsB 8 dK.nodes.length RN) (fun j x hx => hR.ino j x hx) (fun _ _ => bp_pln hR.pln _ _) hK hnk hak hnki (fun i n hi hn => hun i n hn (by omega)) hfew hdn) ?_)
  rintro r bc tc ⟨rfl, rfl, rfl⟩
  refine ⟨rfl, _, back_findR0 rfl rfl (ren_pln _ hR.pln _ _), ?_⟩
  refine al_p rfl (st_eqPbp (by kernel_rfl) rfl rfl ?_)
  refine m_ (h:=?_)
  refine al_gs false rfl rfl (fun hb1 => ?_) (fun hb1 => ?_)
  · have hc1 := bp hb1
    exfalso; first | contradiction | omega
  have hc1 := bp hb1
  refine l_ (h:=l_ (h:=?_))
  refine g_y (s_callR 3 rfl (.cons _ _ _ _ _ rfl hle (.cons _ _ _ _ _ rfl (LeA.refl _) .nil)) (Plinks (f.set K dK) a hB) ?_)
  rintro r rfl
  refine ⟨rfl, ?_⟩
  refine gt_ (h:=pf_ (h:=e_ (?_)))
  refine aw_cond rfl (fun hb2 => ?_) (fun hb2 => ?_)
  · have hc2 := bp hb2
    refine aw_ret (x_thenR (?_))
    have hp : 0 < linksF (f.set K dK) a := by omega
    refine abody_ret (r := .tup []) none (by repeat (first | exact ResA.nil | (apply ResA.tmp; (focus exact rfl)) | (apply ResA.cellN; (focus exact inferInstance); (focus exact rfl); (focus exact rfl); (focus exact rfl)) | (apply ResA.cell1; (focus exact inferInstance); (focus exact rfl); (focus exact rfl); (focus exact rfl)))) rfl rfl (by show (bpLtL 2 0 (DB f K dK 1 f.length dK.nodes.length) && (bpLtL 2 0 (rowsB 8 dK.nodes.length RN) && true)) = true; rw [bp_DB (by decide), bp_pln hR.pln]; rfl) (LeA.refl _) ⟨rfl, rfl, RN, (by rw [drop_pos hak hset hp]; exact hR), (by rw [drop_pos hak hset hp]; rfl)⟩
  have hc2 := bp hb2
  have hz : linksF (f.set K dK) a = 0 := by omega
  have hdr : dropI dK.nodes a.2 = dK.nodes.eraseIdx k := (drop_zero hak hset hz).trans (keepNot_erase hnk hnki hun)
  have hsd : SetAt (devR dK 1 dK.nodes.length) 1 [.bs 1 0 8 (dK.nodes.length - 1) dK.nodes.length] (devR ⟨dK.next, dropI dK.nodes a.2⟩ 1 dK.nodes.length) := by
    simp only [devR, hdr, List.length_eraseIdx, if_pos hkl]
    repeat constructor
  refine kt_ (?_)
  refine aw_midI (fun t => t = ⟨look [(3, .fp (filA a)), (4, .bp 0 (0 + K * 2))], ⟨[DB f K dK 1 f.length dK.nodes.length, rowsB 8 dK.nodes.length RN, [.bs 0 0 2 f.length f.length]], []⟩⟩) ?_ ?_
  · skip
    refine aw_region (f_ (h:=l_ (h:=f_ (h:=l_ (h:=?_)))))
    refine al_p rfl (st_indexS (m := K) rfl rfl hak hK ?_)
    refine a_ (h:=al_nil (?_))
    refine x_then ?_
    exact ⟨_, rfl, weak_fz 3 1 rfl (by show [livL _ _ (DB f K dK 1 f.length dK.nodes.length), livL _ _ (rowsB 8 dK.nodes.length RN), livL _ _ [.bs 0 0 2 f.length f.length]] = _; rw [liv_DB rfl, liv_pln _ _ hR.pln]; rfl) (.cons _ _ _ _ rfl (LeA.refl _) (.cons _ _ _ _ rfl (LeA.refl _) .nil))⟩
  rintro t rfl
  refine aw_region (m_ (h:=m_ (h:=k_ (h:=f_ (h:=?_)))))
  refine al_p rfl (st_loadB1 rfl rfl (DB_nodes hK) ?_)
  refine mf_ (h:=?_)
  refine al_p rfl (s_callM [1] rfl (.cons _ _ _ _ _ rfl (LeA.refl _) (.cons _ _ _ _ _ rfl (LeA.refl _) .nil)) (by decide) (.cons _ _ _ _ _ rfl (ren_pln _ hR.pln _ _) .nil) (PdelN dK.nodes RN a k dK.nodes.length hR hdn (Nat.le_refl _) ⟨nk, hnk, hnki⟩ hun) ?_)
  rintro r bc tc ⟨rfl, rfl, rfl⟩
  refine ⟨rfl, _, (back_oneN (Nat.le_of_ble_eq_true rfl) (ren_pln _ (hR.erase k).pln _ _) : Back _ [1] _ [_, _, _]), ?_⟩
  refine k_ (h:=f_ (h:=?_))
  refine al_p0 (s_store rfl rfl rfl rfl rfl rfl (DB_set (d' := ⟨dK.next, dropI dK.nodes a.2⟩) (j' := 1) (cap1' := dK.nodes.length) (k := 1) hK hsd (List.cons_ne_nil _ _)) (by repeat constructor) ?_)
  refine al_nil (?_)
  refine abody_end (r := .tup []) none (by repeat (first | exact ResA.nil | (apply ResA.tmp; (focus exact rfl)) | (apply ResA.cellN; (focus exact inferInstance); (focus exact rfl); (focus exact rfl); (focus exact rfl)) | (apply ResA.cell1; (focus exact inferInstance); (focus exact rfl); (focus exact rfl); (focus exact rfl)))) rfl rfl (by show (bpLtL 2 0 (DB f K ⟨dK.next, dropI dK.nodes a.2⟩ 1 f.length dK.nodes.length) && (bpLtL 2 0 (rowsB 8 dK.nodes.length (RN.eraseIdx k)) && true)) = true; rw [bp_DB (by decide), bp_pln (hR.erase k).pln]; rfl) (LeA.refl _) ⟨rfl, rfl, RN.eraseIdx k, (by rw [hdr]; exact hR.erase k), rfl⟩

end
end Go.Proofs.Ythcbdkmhamhciaa
