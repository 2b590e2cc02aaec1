/-
  Part 9 of the proof of FilesUnlinkedP: what the statement's proof uses of the texts in wip/tpl.
-/
import Derived.OpenShut
import Derived.ChangeArms
import Derived.ChangeOld
import Derived.DataReads
import Derived.DataElems
import Derived.Test.YthcbdkmhamhciaaQu8
namespace Go.Proofs.Ythcbdkmhamhciaa
open Go.RowKit

theorem asc_un {ns : List Nod} (h : Asc ns) {k : Nat} {m : Nod} (hk : ns[k]? = some m) : ∀ i n, ns[i]? = some n → i ≠ k → n.ino ≠ m.ino := by
  intro i n hi hne e
  have h1 := List.pairwise_iff_getElem.1 h
  obtain ⟨l1, e1⟩ := List.getElem?_eq_some_iff.1 hk
  obtain ⟨l2, e2⟩ := List.getElem?_eq_some_iff.1 hi
  rcases Nat.lt_trichotomy i k with hl | hl | hl
  · have := h1 i k l2 l1 hl; rw [e1, e2] at this; omega
  · exact hne hl
  have := h1 k i l1 l2 hl; rw [e1, e2] at this; omega
theorem without_erase {es : List Ent} {p : Nat} {e : Ent} {name : Str} (hp : es[p]? = some e) (hn : e.1 = name) (hun : ∀ i x, es[i]? = some x → i ≠ p → x.1 ≠ name) : without name es = es.eraseIdx p := by
  obtain ⟨hl, he⟩ := List.getElem?_eq_some_iff.1 hp
  unfold without
  have hs : es = es.take p ++ e :: es.drop (p + 1) := by
    conv => lhs; rw [← List.take_append_drop p es, List.drop_eq_getElem_cons hl, he]
  have h1 : (es.take p).filter (fun x : Ent => decide (x.1 ≠ name)) = es.take p := by
    rw [List.filter_eq_self]
    intro m hm
    obtain ⟨i, hi⟩ := List.getElem?_of_mem hm
    rw [List.getElem?_take] at hi
    split at hi
    · simpa using hun i m hi (by omega)
    cases hi
  have h2 : (es.drop (p + 1)).filter (fun x : Ent => decide (x.1 ≠ name)) = es.drop (p + 1) := by
    rw [List.filter_eq_self]
    intro m hm
    obtain ⟨i, hi⟩ := List.getElem?_of_mem hm
    rw [List.getElem?_drop] at hi
    simpa using hun _ m hi (by omega)
  rw [List.eraseIdx_eq_take_drop_succ]
  conv => lhs; rw [hs]
  rw [List.filter_append, h1, List.filter_cons]
  simp only [hn, ne_eq, not_true, decide_false, Bool.false_eq_true, if_false, h2]
theorem sorted_un {es : List Ent} (h : Sorted es) {k : Nat} {m : Ent} (hk : es[k]? = some m) : ∀ i x, es[i]? = some x → i ≠ k → x.1 ≠ m.1 := by
  intro i n hi hne e
  have h1 := List.pairwise_iff_getElem.1 h
  obtain ⟨l1, e1⟩ := List.getElem?_eq_some_iff.1 hk
  obtain ⟨l2, e2⟩ := List.getElem?_eq_some_iff.1 hi
  rcases Nat.lt_trichotomy i k with hl | hl | hl
  · have := h1 i k l2 l1 hl; rw [e1, e2, e] at this; exact absurd this (by simp [lt_irr])
  · exact hne hl
  have := h1 k i l1 l2 hl; rw [e1, e2, e] at this; exact absurd this (by simp [lt_irr])
theorem DB_same {f : Fls} {q : Nat} {d d' : Dvc} (hn : d'.next = d.next) (hl : d'.nodes.length = d.nodes.length) (j cap cap1 : Nat) : DB f q d j cap cap1 = DB f q d' j cap cap1 := by
  unfold DB devB devR
  rw [hn, hl]
theorem back_drop {bx : List (List AV)} {i1 i2 : Nat} (h1 : i1 < bx.length) (h2 : i2 < bx.length) (hne : i1 ≠ i2) (ns : List Nod) (i : Nat) (nI : Nod) (l cap m : Nat) (es : List Ent) : Back bx [i1, i2] [NX ns i nI (.bs 1 0 2 l cap) m, EB es cap] ((bx.set i1 (NX ns i nI (.bs i2 0 2 l cap) m)).set i2 (EB es cap)) := by
  have := back_F (bx := bx) (is := [i1, i2]) (bc := [NX ns i nI (.bs 1 0 2 l cap) m, EB es cap]) (by simpa using hne) (by simp [h1, h2]) (by simp)
  have e1 : renL (backS [i1, i2] bx.length) (NX ns i nI (.bs 1 0 2 l cap) m) = NX ns i nI (.bs i2 0 2 l cap) m := ren_NX (by simp [ren, backS])
  simpa [backF, ren_EB, e1] using this
theorem back_rel {bx : List (List AV)} {i0 i1 : Nat} (h0 : i0 < bx.length) (h1 : i1 < bx.length) (hne : i0 ≠ i1) (f : Fls) (q : Nat) (d : Dvc) (cap cap1 cap2 : Nat) {RN : List (List AV)} (hR : PlnR RN) : Back bx [i0, i1] [DB f q d 1 cap cap1, rowsB 8 cap2 RN] ((bx.set i0 (DB f q d i1 cap cap1)).set i1 (rowsB 8 cap2 RN)) := by
  have := back_F (bx := bx) (is := [i0, i1]) (bc := [DB f q d 1 cap cap1, rowsB 8 cap2 RN]) (by simpa using hne) (by simp [h0, h1]) (by simp)
  have e1 : renL (backS [i0, i1] bx.length) (DB f q d 1 cap cap1) = DB f q d i1 cap cap1 := ren_DB (by simp [backS]) _ _ _ _ _
  simpa [backF, ren_pln _ hR, e1] using this
theorem renK_NX {g : Nat → Option Nat} {ns : List Nod} {i : Nat} {nI : Nod} {e e' : AV} {cap1 : Nat} (h : renK g e = e') : renKL g (NX ns i nI e cap1) = NX ns i nI e' cap1 := by
  rw [renKL_map]
  unfold NX
  rw [rowsB_map (renK g) rfl, List.map_set]
  congr 1
  have e1 : ((ns.map nodF).map fun r => r.map (renK g)) = ns.map nodF := by
    rw [List.map_map]
    apply List.map_congr_left
    intro n _
    exact map_nodF (fun _ => rfl) (fun _ _ => rfl) n
  rw [e1]
  congr 1
  simp [nodX, renK, h]
theorem livL_NX {n : Nat} {g : Nat → Option (List AV)} {ns : List Nod} {i : Nat} {nI : Nod} {e e' : AV} {cap1 : Nat} (h : liv n g e = e') : livL n g (NX ns i nI e cap1) = NX ns i nI e' cap1 := by
  rw [livL_map]
  unfold NX
  rw [rowsB_map (liv n g) rfl, List.map_set]
  congr 1
  have e1 : ((ns.map nodF).map fun r => r.map (liv n g)) = ns.map nodF := by
    rw [List.map_map]
    apply List.map_congr_left
    intro n _
    exact map_nodF (fun _ => rfl) (fun _ _ => rfl) n
  rw [e1]
  congr 1
  simp [nodX, liv, h]
theorem rowsN_set (ns : List Nod) (i : Nat) (nI : Nod) (es : List Ent) : RowsN ((ns.map nodF).set i (nodX nI (.sl 2 (es.map entA) none))) (ns.set i { nI with entries := es }) := (rowsN_F ns).set i (rowN_A { nI with entries := es })
def namedL (f : Fls) (dir : Fil) (name : Str) : Fil × Int := if placeL f dir name ≠ 0 then ((0, 0), placeL f dir name) else lookL f dir name
section
set_option maxRecDepth 10000
set_option maxHeartbeats 2000000
theorem Pnamed (f : Fls) (dir : Fil) (name : Str) (hf : FlsB f) : AFn Try.prog 79 [.agg (flsA f), .agg (filA dir), .v (.string name)] (fun r => r = .tup [.agg (filA (namedL f dir name).1), .v (.int .i64 (namedL f dir name).2)]) := by
  refine enter Try.func79 rfl rfl rfl rfl rfl 0 rfl ?_
  refine w_ (b_ (h:=b_ (h:=al_ (h:=a_ (h:=e_ (q_ (w_ (l_ (h:=l_ (h:=?_))))))))))
  refine al_p rfl (q_call (PdirF f dir hf) ?_)
  rintro r rfl
  refine a_ (h:=e_ (w_ (m_ (h:=nq_ (h:=e_ (?_))))))
  refine aw_cond rfl (fun hb1 => ?_) (fun hb1 => ?_)
  · have hc1 := bp hb1
    refine w_ (bd_ (h:=m_ (h:=s_ (h:=a_ (h:=e_ (aw_ret (x_thenR (?_))))))))
    refine e_ret ?_
    rw [show namedL f dir name = ((0, 0), dirE f dir) by rw [namedL, place_dir hc1, if_pos hc1]]
    rfl
  have hc1 := bp hb1
  refine kt_ (q_ (w_ (m_ (h:=?_))))
  refine al_p rfl (q_call (Pname name) ?_)
  rintro r rfl
  refine nt_ (h:=e_ (?_))
  refine aw_cond rfl (fun hb2 => ?_) (fun hb2 => ?_)
  · have hc2 := bp hb2
    refine w_ (bd_ (h:=s_ (h:=a_ (h:=e_ (aw_ret (x_thenR (?_)))))))
    refine e_ret ?_
    rw [show namedL f dir name = ((0, 0), 22) by rw [namedL, place_nm (by omega) (by simpa using hc2)]; rfl]
    rfl
  have hc2 := bp hb2
  refine kt_ (w_ (l_ (h:=l_ (h:=m_ (h:=?_)))))
  refine al_p rfl (q_call (Pentry f dir name hf) ?_)
  rintro r rfl
  refine m_ (h:=x_ (h:=x_ (h:=al_ (h:=s_ (h:=a_ (h:=e_ (q_ (w_ (m_ (h:=nt_ (h:=e_ (?_))))))))))))
  refine aw_cond rfl (fun hb3 => ?_) (fun hb3 => ?_)
  · have hc3 := bp hb3
    refine w_ (bd_ (h:=s_ (h:=a_ (h:=e_ (aw_ret (x_thenR (?_)))))))
    refine e_ret ?_
    rw [show namedL f dir name = ((0, 0), 2) by rw [namedL, if_neg (by rw [place_zero (by omega) (by simpa using hc2)]; simp), lkE_two (by omega) (by simpa using hc3)]]
    rfl
  have hc3 := bp hb3
  refine kt_ (w_ (l_ (h:=s_ (h:=a_ (h:=e_ (aw_ret (?_)))))))
  refine e_ret ?_
  rw [show namedL f dir name = ((entP f dir name).1, 0) by rw [namedL, if_neg (by rw [place_zero (by omega) (by simpa using hc2)]; simp), lkE_yes (by omega) (by simpa using hc3)]]
  rfl

theorem Prm5 (f : Fls) (q : Nat) (d : Dvc) (i : Nat) (n0 : Nod) (dir a : Fil) (name : Str) (p k : Nat) (hv : FlsV f) (hdq : dir.1 = (q : Int)) (hq : f[q]? = some d) (hn0 : d.nodes[i]? = some n0) (hino : n0.ino = dir.2) (hp : ∃ e, n0.entries[p]? = some e ∧ e.1 = name) (ha : a.1 = (q : Int)) (hk : ∃ m, d.nodes[k]? = some m ∧ m.ino = a.2) : AFn Try.prog 81 [.agg (flsA f), .agg (filA dir), .v (.string name), .agg (filA a)] (fun r => r = .tup [.agg (flsA (f.set q ⟨d.next, dropI (entS d.nodes i n0 name 0) a.2⟩)), .sl 7 [chgA (dir, name, a, (0, 0))] none]) := by
  have hf := hv.b
  have hvd := hv.vd d (List.mem_of_getElem? hq)
  have hil := (List.getElem?_eq_some_iff.1 hn0).1
  have hql := (List.getElem?_eq_some_iff.1 hq).1
  have hfew := hf.few
  have hdn := hf.nodes d (List.mem_of_getElem? hq)
  have hen0 := hf.ents d (List.mem_of_getElem? hq) n0 (List.mem_of_getElem? hn0)
  obtain ⟨ep, hpe, hpn⟩ := hp
  have hE : 0 < n0.entries.length := by have := (List.getElem?_eq_some_iff.1 hpe).1; omega
  have hfst : ∀ j x, j < i → d.nodes[j]? = some x → x.ino ≠ dir.2 := fun j x hj hx => by rw [← hino]; exact asc_un hvd.asc hn0 j x hx (by omega)
  have hsu := sorted_un (hvd.sorted n0 (List.mem_of_getElem? hn0)) hpe
  have hee : n0.entries.eraseIdx p = entL n0.entries name 0 := by rw [entL_zero]; exact (without_erase hpe hpn (fun j x hj hne => by rw [← hpn]; exact hsu j x hj hne)).symm
  have hns : d.nodes.set i { n0 with entries := n0.entries.eraseIdx p } = entS d.nodes i n0 name 0 := by unfold entS; rw [hee]
  obtain ⟨D, hD⟩ : ∃ D : Dvc, D = ⟨d.next, entS d.nodes i n0 name 0⟩ := ⟨_, rfl⟩
  have hDn : D.next = d.next := by rw [hD]
  have hDl : D.nodes.length = d.nodes.length := by rw [hD]; exact entS_len _ _ _ _ _
  obtain ⟨RN, hRN⟩ : ∃ RN, RN = (d.nodes.map nodF).set i (nodX n0 (.sl 2 ((n0.entries.eraseIdx p).map entA) none)) := ⟨_, rfl⟩
  have hR : RowsN RN D.nodes := by rw [hRN, hD]; show RowsN _ (entS d.nodes i n0 name 0); rw [← hns]; exact rowsN_set _ _ _ _
  have hB : FlsB (f.set q D) := by rw [hD]; exact hv.entS hq hn0 name 0
  obtain ⟨mk, hmk, hmki⟩ := hk
  obtain ⟨m', hm', hmi, -⟩ := entS_get hn0 hmk name 0
  have hkD : ∃ n, D.nodes[k]? = some n ∧ n.ino = a.2 := ⟨m', by rw [hD]; exact hm', by rw [hmi, hmki]⟩
  have hunD : ∀ j n, D.nodes[j]? = some n → j ≠ k → n.ino ≠ a.2 := fun j n hj hne => by
    rw [hD] at hj
    rw [← hmki, ← hmi]
    exact asc_un (entS_isAsc hvd.asc hn0 name 0) hm' j n hj hne
  have hfin : f.set q ⟨d.next, dropI (entS d.nodes i n0 name 0) a.2⟩ = f.set q ⟨D.next, dropI D.nodes a.2⟩ := by rw [hD]
  have hdl : (dropI D.nodes a.2).length ≤ D.nodes.length := List.length_filter_le _ _
  rw [hfin]
  refine enter Try.func81 rfl rfl rfl rfl rfl 0 rfl ?_
  refine w_ (b_ (h:=b_ (h:=b_ (h:=al_ (h:=a_ (h:=e_ (w_ (l_ (h:=?_)))))))))
  refine al_p rfl (s_callM [] rfl (.cons _ _ _ _ _ rfl (LeA.refl _) .nil) (by decide) .nil (PcopyFilesG f q d i n0 hf hq hn0 hE) ?_)
  rintro r bc tc ⟨rfl, rfl, rfl⟩
  refine ⟨rfl, _, (back_copyG (n := 4) rfl f q d i n0 f.length d.nodes.length n0.entries.length : Back _ [] _ [_, _, _, _, _, _, _, _, _]), ?_⟩
  refine s_ (h:=e_ (?_))
  refine aw_midI (fun t => t = ⟨look [(2, .v (.string name)), (4, .bp 0 0), (5, .bp 1 0), (7, .bp 2 0), (8, .bp 3 0)], ⟨[[.bs 4 0 2 f.length f.length], filA dir, filA a, [.v (.slice none 0 0)], DB f q D 5 f.length D.nodes.length, rowsB 8 D.nodes.length RN], []⟩⟩) ?_ ?_
  · skip
    refine aw_region (l_ (h:=l_ (h:=?_)))
    refine al_p rfl (s_callM [6, 7, 8] rfl (.cons _ _ _ _ _ rfl (LeA.refl _) (.cons _ _ _ _ _ rfl (LeA.refl _) .nil)) (by decide) (.cons _ _ _ _ _ rfl (ren_DB (by rfl) _ _ _ _ _) (.cons _ _ _ _ _ rfl (ren_NX (by rfl)) (.cons _ _ _ _ _ rfl (ren_EB _ _ _) .nil))) (PfindBG f q d i n0 dir hq hn0 hdq hino hfst (by omega) (by omega)) ?_)
    rintro r bc tc ⟨rfl, rfl, rfl⟩
    refine ⟨rfl, _, back_find rfl rfl rfl, ?_⟩
    refine m_ (h:=?_)
    refine al_p rfl (s_callM [7, 8] rfl (.cons _ _ _ _ _ rfl (LeA.refl _) (.cons _ _ _ _ _ rfl (LeA.refl _) .nil)) (by decide) (.cons _ _ _ _ _ rfl (ren_NX (by rfl)) (.cons _ _ _ _ _ rfl (ren_EB _ _ _) .nil)) (Pdrop d.nodes i n0 name p n0.entries.length d.nodes.length hil ⟨ep, hpe, hpn⟩ (fun j x hj hx => by rw [← hpn]; exact hsu j x hx (by omega)) (by omega) (Nat.le_refl _)) ?_)
    rintro r bc tc ⟨rfl, rfl, rfl⟩
    refine ⟨rfl, _, (back_drop (Nat.le_of_ble_eq_true rfl) (Nat.le_of_ble_eq_true rfl) (by decide) d.nodes i n0 (n0.entries.length - 1) n0.entries.length d.nodes.length (n0.entries.eraseIdx p) : Back _ [7, 8] _ [_, _, _, _, _, _, _, _, _]), ?_⟩
    refine al_nil (?_)
    refine x_then ?_
    refine ⟨_, rfl, Weak.trans (s' := ⟨look [(2, .v (.string name)), (4, .bp 0 0), (5, .bp 1 0), (7, .bp 2 0), (8, .bp 3 0)], ⟨[[.bs 4 0 2 f.length f.length], filA dir, filA a, [.v (.slice none 0 0)], DB f q d 5 f.length d.nodes.length, NX d.nodes i n0 (.bs 6 0 2 (n0.entries.length - 1) n0.entries.length) d.nodes.length, EB (n0.entries.eraseIdx p) n0.entries.length], []⟩⟩) ?_ ?_⟩
    · exact weak_ren [0, 1, 2, 3, 6, 7, 8] (fun i hi => absurd hi (Nat.not_lt_zero i)) (by decide) (.cons _ _ _ _ _ rfl rfl (.cons _ _ _ _ _ rfl rfl (.cons _ _ _ _ _ rfl rfl (.cons _ _ _ _ _ rfl rfl (.cons _ _ _ _ _ rfl (renK_DB (by rfl) _ _ _ _ _) (.cons _ _ _ _ _ rfl (renK_NX (by rfl)) (.cons _ _ _ _ _ rfl (renK_EB _ _ _) .nil))))))) (by repeat (first | exact SubK.nil | refine SubK.cons _ _ _ _ rfl (LeA.refl _) ?_))
    refine weak_fz 6 1 rfl ?_ (.cons _ _ _ _ rfl (LeA.refl _) (.cons _ _ _ _ rfl (LeA.refl _) (.cons _ _ _ _ rfl (LeA.refl _) (.cons _ _ _ _ rfl (LeA.refl _) (.cons _ _ _ _ rfl (LeA.refl _) .nil)))))
    show [livL _ _ [.bs 4 0 2 f.length f.length], livL _ _ (filA dir), livL _ _ (filA a), livL _ _ [.v (.slice none 0 0)], livL _ _ (DB f q d 5 f.length d.nodes.length), livL _ _ (NX d.nodes i n0 (.bs 6 0 2 (n0.entries.length - 1) n0.entries.length) d.nodes.length)] = _
    rw [liv_DB rfl, livL_NX (e' := .sl 2 ((n0.entries.eraseIdx p).map entA) none) (liv_rows (n := 6) (Nat.le_refl _) (frz_plain (n := 6) (k := 0) (j := 6) (Nat.le_refl _) rfl (ent_plain _)) (ent_two _) (by rw [List.length_map, List.length_eraseIdx, if_pos (List.getElem?_eq_some_iff.1 hpe).1]) (by rw [List.length_map, List.length_eraseIdx]; split <;> omega)), hRN, DB_same hDn hDl, hDl]
    rfl
  rintro t rfl
  refine w_ (l_ (h:=l_ (h:=?_)))
  refine al_p rfl (s_callM [4, 5] rfl (.cons _ _ _ _ _ rfl (LeA.refl _) (.cons _ _ _ _ _ rfl (LeA.refl _) .nil)) (by decide) (.cons _ _ _ _ _ rfl (ren_DB (by rfl) _ _ _ _ _) (.cons _ _ _ _ _ rfl (ren_pln _ hR.pln _ _) .nil)) (Prelease f q D RN a k hR hql ha hkD hunD hB) ?_)
  rintro r bc tc ⟨rfl, rfl, RM, hRM, rfl⟩
  refine ⟨rfl, _, (back_rel (Nat.le_of_ble_eq_true rfl) (Nat.le_of_ble_eq_true rfl) (by decide) f q ⟨D.next, dropI D.nodes a.2⟩ f.length D.nodes.length D.nodes.length hRM.pln : Back _ [4, 5] _ [_, _, _, _, _, _]), ?_⟩
  refine e_ (?_)
  refine aw_midI (fun t => t = ⟨look [(8, .bp 3 0), (9, .sl 7 [chgA (dir, name, a, (0, 0))] none)], ⟨[[.sl 2 (resD f q ⟨D.next, dropI D.nodes a.2⟩ RM) none], filA dir, filA a, [.sl 2 (resD f q ⟨D.next, dropI D.nodes a.2⟩ RM) none]], []⟩⟩) ?_ ?_
  · skip
    refine yk_ ([(0, [.bs 4 0 2 f.length f.length]), (1, filA dir), (2, filA a)]) 8 (h:=dl_ 0 (h:=dl_ 1 (h:=dm_ 2 (h:=dl_ 3 (h:=?_)))))
    refine tk_ 4 rfl (fun _ hS => st_le (y := .agg (chgA (dir, name, a, (0, 0)))) (st_build (by repeat (first | exact FillA.nil _ | (apply FillA.cons; (focus exact rfl); (focus exact rfl); (focus exact rfl); (focus exact rfl); (focus exact rfl); (focus (repeat constructor))))) ⟨rfl, rfl⟩) (by repeat (first | exact LeA.refl _ | exact LeA.nil _ | exact LeL.refl _ | refine LeA.agg ⟨rfl, rfl⟩ | refine LeA.tup ⟨rfl, rfl⟩ | exact LeL.nil | refine LeL.cons ⟨rfl, rfl⟩ ⟨rfl, rfl⟩ | exact LeA.any _)) ⟨rfl, rfl⟩) ?_
    refine dbs_ 5 (h:=?_)
    refine c0_ 6 rfl (s_store rfl rfl rfl rfl rfl rfl (by repeat constructor) (by repeat constructor) ?_)
    refine o_ (h:=da_ 7 (h:=z_ (h:=?_)))
    refine x_then ?_
    exact ⟨_, rfl, weak_fz 4 3 rfl (congrArg (fun x : List AV => [x, filA dir, filA a, x]) (liv_rowsN (n := 4) (i0 := 4) (i1 := 5) (f := f) (q := q) (d := ⟨D.next, dropI D.nodes a.2⟩) (cap := f.length) (cap0 := f.length) (cap1 := D.nodes.length) hRM hql (Nat.le_refl _) hdl (Nat.le_of_ble_eq_true rfl) (Nat.le_of_ble_eq_true rfl) (by rfl) (by rfl))) (.cons _ _ _ _ rfl (LeA.refl _) (.cons _ _ _ _ rfl (LeA.refl _) .nil))⟩
  rintro t rfl
  refine aw_ret (?_)
  refine rt_ (r := .tup [.agg (flsA (f.set q ⟨D.next, dropI D.nodes a.2⟩)), .sl 7 [chgA (dir, name, a, (0, 0))] none]) none (h5 := ?_) (h6 := ⟨rfl, rfl, rfl⟩)
  exact LeA.tup (.cons (resD_leN hRM) (.cons (LeA.refl _) .nil))

end
end Go.Proofs.Ythcbdkmhamhciaa
namespace Go.Proofs.Ythcbdkmhamhciaa
open Go.RowKit

theorem named_ok {f : Fls} (hv : FlsV f) {dir : Fil} {name : Str} (h : (namedL f dir name).2 = 0) : placeL f dir name = 0 ∧ (lookL f dir name).2 = 0 ∧ namedL f dir name = lookL f dir name ∧
    ∃ (q i : Nat) (d : Dvc) (n0 : Nod) (p k : Nat) (m : Nod), dir.1 = (q : Int) ∧ f[q]? = some d ∧ d.nodes[i]? = some n0 ∧ n0.ino = dir.2 ∧ (∃ e, n0.entries[p]? = some e ∧ e.1 = name) ∧ (lookL f dir name).1.1 = (q : Int) ∧ d.nodes[k]? = some m ∧ m.ino = (lookL f dir name).1.2 ∧ nodeL f (lookL f dir name).1 = some m := by
  unfold namedL at h ⊢
  by_cases hp : placeL f dir name = 0
  · rw [if_neg (not_not_intro hp)] at h ⊢
    obtain ⟨q, i, d, n0, hdq, hq, hn0, hino, hidx, hnode, hk0, hnm⟩ := place_ok hp
    obtain ⟨e, m, he, hle, hm, hem, he1, hnm⟩ := look_node hv hdq hq hn0 hnode hk0 h
    obtain ⟨hemem, hen⟩ := entF_some he
    obtain ⟨p, hpe⟩ := List.getElem?_of_mem hemem
    obtain ⟨k, hmk⟩ := List.getElem?_of_mem hm
    exact ⟨hp, h, rfl, q, i, d, n0, p, k, m, hdq, hq, hn0, hino, ⟨e, hpe, hen⟩, by rw [hle]; exact hdq, hmk, by rw [hle]; exact hem.symm, hnm⟩
  rw [if_pos hp] at h
  exact absurd h hp
theorem named_err {f : Fls} {dir : Fil} {name : Str} (h : ¬ (namedL f dir name).2 = 0) : unlinkL f dir name = ([], [], (namedL f dir name).2) ∧ rmdirL f dir name = ([], [], (namedL f dir name).2) := by
  unfold namedL at h ⊢
  unfold unlinkL rmdirL
  by_cases hp : placeL f dir name = 0
  · rw [if_neg (not_not_intro hp)] at h ⊢
    simp only [ne_eq, hp, not_true, if_false, h, not_false_eq_true, if_true, and_self]
  rw [if_pos hp] at h ⊢
  simp only [ne_eq, hp, not_false_eq_true, if_true, and_self]
section
set_option maxRecDepth 10000
set_option maxHeartbeats 2000000
theorem Punlink (f : Fls) (dir : Fil) (name : Str) (hv : FlsV f) : AFn Try.prog 43 [.agg (flsA f), .agg (filA dir), .v (.string name)] (fun r => r = chgR (unlinkL f dir name)) := by
  have hf := hv.b
  refine enter Try.func43 rfl rfl rfl rfl rfl 0 rfl ?_
  refine w_ (b_ (h:=b_ (h:=al_ (h:=a_ (h:=a_ (h:=e_ (w_ (l_ (h:=l_ (h:=m_ (h:=?_)))))))))))
  refine al_p rfl (q_call (Pnamed f dir name hf) ?_)
  rintro r rfl
  refine m_ (h:=x_ (h:=x_ (h:=al_ (h:=s_ (h:=a_ (h:=e_ (q_ (w_ (m_ (h:=nq_ (h:=e_ (?_))))))))))))
  refine aw_cond rfl (fun hb1 => ?_) (fun hb1 => ?_)
  · have hc1 := bp hb1
    refine w_ (bd_ (h:=m_ (h:=s_ (h:=a_ (h:=a_ (h:=e_ (aw_ret (x_thenR (?_)))))))))
    refine rt_ (r := chgR (unlinkL f dir name)) none (h5 := ?_) (h6 := ⟨rfl, rfl, rfl⟩)
    rw [(named_err hc1).1]
    exact err_le _
  have hc1 := bp hb1
  obtain ⟨hpl, hlk, hnl, q, i, d, n0, p, k, m, hdq, hq, hn0, hino, hpe, ha1, hmk, hmi, hnm⟩ := named_ok hv (show (namedL f dir name).2 = 0 by omega)
  refine kt_ (q_ (w_ (l_ (h:=l_ (h:=?_)))))
  refine al_p rfl (q_call (PisDir f (namedL f dir name).1 hf) ?_)
  rintro r rfl
  refine e_ (?_)
  refine aw_cond rfl (fun hb2 => ?_) (fun hb2 => ?_)
  · have hc2 := bp hb2
    refine w_ (bd_ (h:=s_ (h:=a_ (h:=a_ (h:=e_ (aw_ret (x_thenR (?_))))))))
    refine rt_ (r := chgR (unlinkL f dir name)) none (h5 := ?_) (h6 := ⟨rfl, rfl, rfl⟩)
    rw [unlinkL, if_neg (by simp [hpl]), if_neg (by simp [hlk]), if_pos (by rw [← hnl]; exact hc2)]
    exact err_le _
  have hc2 := bp hb2
  refine kt_ (w_ (l_ (h:=l_ (h:=m_ (h:=l_ (h:=?_))))))
  refine al_p rfl (q_call (Prm5 f q d i n0 dir (namedL f dir name).1 name p k hv hdq hq hn0 hino hpe (by rw [hnl]; exact ha1) ⟨m, hmk, by rw [hnl]; exact hmi⟩) ?_)
  rintro r rfl
  refine m_ (h:=x_ (h:=x_ (h:=s_ (h:=a_ (h:=e_ (w_ (l_ (h:=m_ (h:=s_ (h:=a_ (h:=a_ (h:=e_ (aw_ret (?_))))))))))))))
  refine rt_ (r := chgR (unlinkL f dir name)) none (h5 := ?_) (h6 := ⟨rfl, rfl, rfl⟩)
  rw [unlinkL, if_neg (by simp [hpl]), if_neg (by simp [hlk]), if_neg (by rw [← hnl, hc2]; simp), hdq, Int.toNat_natCast, onD_set hq, ← hino, ← entS_D (hv.vd d (List.mem_of_getElem? hq)) hn0, ← hnl]
  exact LeA.refl _

end
end Go.Proofs.Ythcbdkmhamhciaa
namespace Go.Proofs.Ythcbdkmhamhciaa
open Go.RowKit

instance decNod : DecidableEq Nod := fun a b =>
  if h : a.ino = b.ino ∧ a.kind = b.kind ∧ a.mode = b.mode ∧ a.uid = b.uid ∧ a.gid = b.gid ∧ a.parent = b.parent ∧ a.target = b.target ∧ a.entries = b.entries then .isTrue (by cases a; cases b; simp_all) else .isFalse (by rintro rfl; simp at h)
instance decDvc : DecidableEq Dvc := fun a b =>
  if h : a.next = b.next ∧ a.nodes = b.nodes then .isTrue (by cases a; cases b; simp_all) else .isFalse (by rintro rfl; simp at h)
instance decChgs : DecidableEq (List Chg) := inferInstance
instance decChgI : DecidableEq (List Chg × Int) := instDecidableEqProd
instance decChgRes : DecidableEq ChgRes := instDecidableEqProd
def nmU (i : Nat) : Str := ⟨#[(97 + i).toUInt8]⟩
def ulN : Nod := ⟨0, 1, 0, 0, 0, 0, ⟨#[]⟩, []⟩
def fUl (bs : List Bool) : Fls := [⟨3, { rootNod with entries := (List.range 6).filterMap fun i => if bs[i]? = some true then some (nmU i, 2) else none } :: if bs.any id then [{ ulN with ino := 2 }] else []⟩]
def upU (j : Nat) : List Bool := (List.range 6).map fun i => decide (i ≤ j)
set_option maxRecDepth 100000 in
theorem ul_make : mkL (newL 1).1 (0, 1) ⟨#[97]⟩ ulN = (fUl (upU 0), [((0, 1), ⟨#[97]⟩, (0, 0), (0, 2))], 0) := by decide +kernel
set_option maxRecDepth 100000 in
theorem ul_link : ∀ j < 5, linkL (fUl (upU j)) (0, 1) (nmU (j + 1)) (0, 2) = (fUl (upU (j + 1)), [((0, 1), nmU (j + 1), (0, 0), (0, 2))], 0) := by decide +kernel
set_option maxRecDepth 100000 in
theorem ul_unlink : ∀ a b c d e f : Bool, ∀ i < 6, [a, b, c, d, e, f][i]? = some true → (unlinkL (fUl [a, b, c, d, e, f]) (0, 1) (nmU i)).1 = fUl ([a, b, c, d, e, f].set i false) ∧ (unlinkL (fUl [a, b, c, d, e, f]) (0, 1) (nmU i)).2.2 = 0 := by decide +kernel
set_option maxRecDepth 100000 in
theorem ul_has : ∀ a b c d e f : Bool, hasG (fUl [a, b, c, d, e, f]) (0, 2) = decide (0 < [a, b, c, d, e, f].count true) ∧ linksF (fUl [a, b, c, d, e, f]) (0, 2) = [a, b, c, d, e, f].count true := by decide +kernel
theorem ul_count : ∀ a b c d e f : Bool, ∀ i < 6, [a, b, c, d, e, f][i]? = some true → ([a, b, c, d, e, f].set i false).count true + 1 = [a, b, c, d, e, f].count true := by decide +kernel
theorem six {bs : List Bool} (h : bs.length = 6) : ∃ a b c d e f, bs = [a, b, c, d, e, f] := by
  match bs, h with
  | [a, b, c, d, e, f], _ => exact ⟨a, b, c, d, e, f, rfl⟩
structure OrdU (L : List Nat) (bs : List Bool) : Prop where
  len : bs.length = 6
  nd : L.Nodup
  mem : ∀ i, i ∈ L ↔ bs[i]? = some true
  cnt : bs.count true = L.length
  ok : FlsV (fUl bs)
theorem OrdU.lt {L : List Nat} {bs : List Bool} (h : OrdU L bs) {i : Nat} (hi : i ∈ L) : i < 6 := by
  have := (List.getElem?_eq_some_iff.1 ((h.mem i).1 hi)).1
  rw [h.len] at this; exact this
theorem OrdU.out {L : List Nat} {bs : List Bool} (h : OrdU L bs) {s v : Nat} (hv : L[s]? = some v) : OrdU (L.take s ++ L.drop (s + 1)) (bs.set v false) ∧ (unlinkL (fUl bs) (0, 1) (nmU v)).1 = fUl (bs.set v false) ∧ (unlinkL (fUl bs) (0, 1) (nmU v)).2.2 = 0 := by
  obtain ⟨hl, he⟩ := List.getElem?_eq_some_iff.1 hv
  have hin : v ∈ L := List.mem_of_getElem? hv
  have hv6 := h.lt hin
  have hsp : L.Perm (v :: (L.take s ++ L.drop (s + 1))) := by
    have e : L = L.take s ++ v :: L.drop (s + 1) := by rw [← he, ← List.drop_eq_getElem_cons hl, List.take_append_drop]
    calc L.Perm (L.take s ++ v :: L.drop (s + 1)) := by rw [← e]
      _ |>.Perm (v :: (L.take s ++ L.drop (s + 1))) := List.perm_middle
  have hnd := hsp.nodup_iff.1 h.nd
  rw [List.nodup_cons] at hnd
  have hbv := (h.mem v).1 hin
  obtain ⟨a, b, c, d, e, f, rfl⟩ := six h.len
  have hu := ul_unlink a b c d e f v hv6 hbv
  refine ⟨⟨by simp, hnd.2, fun i => ?_, ?_, ?_⟩, hu⟩
  · rw [List.getElem?_set]
    by_cases hi : v = i
    · subst hi
      simp [hnd.1, hv6]
    rw [if_neg hi, ← h.mem i, hsp.mem_iff]
    simp [show i ≠ v from fun e => hi e.symm]
  · have := ul_count a b c d e f v hv6 hbv
    have := h.cnt
    have := hsp.length_eq
    rw [List.length_cons] at this
    omega
  have := (unlink_okay h.ok (0, 1) (nmU v) hu.2).1
  rwa [hu.1] at this
theorem ulU_valid (j : Nat) (hj : j ≤ 5) : FlsV (fUl (upU j)) := by
  induction j with
  | zero =>
    have := make_okay new_valid5 (0, 1) ⟨#[97]⟩ ulN
    rw [ul_make] at this
    exact (this rfl).1
  | succ j ih =>
    have := link_okay (ih (by omega)) (0, 1) (nmU (j + 1)) (0, 2)
    rw [ul_link j (by omega)] at this
    exact (this rfl).1
theorem ord_start (k : Nat) (hk : k ≤ 5) : OrdU (List.range (k + 1)) (upU k) := by
  refine ⟨by simp [upU], List.nodup_range, fun i => ?_, ?_, ulU_valid k hk⟩
  · simp only [List.mem_range, upU, List.getElem?_map, Option.map_eq_some_iff, List.getElem?_range]
    by_cases h6 : i < 6
    · rw [List.getElem?_range h6]
      simp; omega
    rw [List.getElem?_eq_none (by simp; omega)]
    simp; omega
  have : ∀ k ≤ 5, (upU k).count true = (List.range (k + 1)).length := by decide +kernel
  exact this k hk
theorem OrdU.has {L : List Nat} {bs : List Bool} (h : OrdU L bs) : hasG (fUl bs) (0, 2) = decide (0 < L.length) ∧ linksF (fUl bs) (0, 2) = L.length := by
  have hc := h.cnt
  obtain ⟨a, b, c, d, e, f, rfl⟩ := six h.len
  rw [← hc]
  exact ul_has a b c d e f
end Go.Proofs.Ythcbdkmhamhciaa
namespace Go.Proofs.Ythcbdkmhamhciaa
open Go.RowKit

def nmA (i : Nat) : List AV := [.v (.string (nmU i))]
def ulNames : List (List AV) := [[.v (.string ⟨#[98]⟩)], [.v (.string ⟨#[99]⟩)], [.v (.string ⟨#[100]⟩)], [.v (.string ⟨#[101]⟩)], [.v (.string ⟨#[102]⟩)], [.v (.string ⟨#[103]⟩)]]
theorem ul_row : ∀ {j : Nat}, j < 5 → ulNames[j]? = some [.v (.string (nmU (j + 1)))]
  | 0, _ => rfl
  | 1, _ => rfl
  | 2, _ => rfl
  | 3, _ => rfl
  | 4, _ => rfl
  | n + 5, h => by omega
theorem ul_order : ∀ {k : Nat}, k ≤ 5 → [[AV.v (.string ⟨#[97]⟩)]] ++ ulNames.take k = (List.range (k + 1)).map nmA
  | 0, _ => rfl
  | 1, _ => rfl
  | 2, _ => rfl
  | 3, _ => rfl
  | 4, _ => rfl
  | 5, _ => rfl
  | n + 6, h => by omega
theorem UlMake : AFn Try.prog 24 [.agg (flsA (newL 1).1), .agg (filA (0, 1)), .v (.string ⟨#[97]⟩), .agg (nodA ulN)] (fun r => r = .tup [.agg (flsA (fUl (upU 0))), .sl 7 [chgA ((0, 1), ⟨#[97]⟩, (0, 0), (0, 2))] none, .v (.int .i64 0)]) :=
  (Pmake0 (newL 1).1 (0, 1) ⟨#[97]⟩ ulN new_valid5 (by decide) aw5_e1).mono fun r hr => by rw [hr]; unfold chgR; rw [ul_make]; rfl
theorem UlLink {j : Nat} (hj : j < 5) : AFn Try.prog 27 [.agg (flsA (fUl (upU j))), .agg (filA (0, 1)), .v (.string (nmU (j + 1))), .agg (filA (0, 2))] (fun r => r = .tup [.agg (flsA (fUl (upU (j + 1)))), .sl 7 [chgA ((0, 1), nmU (j + 1), (0, 0), (0, 2))] none, .v (.int .i64 0)]) :=
  (Plink (fUl (upU j)) (0, 1) (nmU (j + 1)) (0, 2) (ulU_valid j (by omega))).mono fun r hr => by rw [hr]; unfold chgR; rw [ul_link j hj]; rfl
theorem UlNode {L : List Nat} {bs : List Bool} (h : OrdU L bs) : AFn Try.prog 32 [.agg (flsA (fUl bs)), .agg (filA (0, 2))] (fun r => ∃ n, r = .tup [.agg (nodA n), .v (.bool (decide (0 < L.length)))]) :=
  (Pnode (fUl bs) (0, 2) h.ok.b).mono fun r hr => ⟨nodG (fUl bs) (0, 2), by rw [hr, h.has.1]⟩
theorem UlLinks {L : List Nat} {bs : List Bool} (h : OrdU L bs) : AFn Try.prog 37 [.agg (flsA (fUl bs)), .agg (filA (0, 2))] (fun r => r = .v (.int .i64 (L.length : Int))) :=
  (Plinks (fUl bs) (0, 2) h.ok.b).mono fun r hr => by rw [hr, h.has.2]
theorem UlUnlink {L : List Nat} {bs : List Bool} (h : OrdU L bs) {s v : Nat} (hv : L[s]? = some v) : AFn Try.prog 43 [.agg (flsA (fUl bs)), .agg (filA (0, 1)), .v (.string (nmU v))] (fun r => ∃ c, r = .tup [.agg (flsA (fUl (bs.set v false))), .sl 7 c none, .v (.int .i64 0)]) :=
  (Punlink (fUl bs) (0, 1) (nmU v) h.ok).mono fun r hr => ⟨(unlinkL (fUl bs) (0, 1) (nmU v)).2.1.map chgA, by rw [hr]; unfold chgR; rw [(h.out hv).2.1, (h.out hv).2.2]⟩
theorem st_sliceHk {P : Program} {ev : Operand → Option AV} {h : AH} {R : AV → AH → Prop} {d : Option Tmp} {ty : TypeId} {pos : String} {af : Array Edge} {gd : Option (Nat × Bool)} {T : TypeId} {x hi : Operand} {E sz bytes k : Nat} {kn : IntKind} {i : Int} {rows : List (List AV)} {tok : Option Nat} [hE : Elm P T E sz bytes] (hx : ev x = some (.sl sz rows tok)) (hh : ev hi = some (.v (.int kn i))) (hi' : i = (k : Int)) (hk : k ≤ rows.length) (hR : R (.sl sz (rows.take k) none) h) :
    AStep P ⟨d, .slice T x none (some hi) none, ty, pos, af, gd⟩ ev h R := by
  refine st_val (fun _ G w ec _ he => ?_) hR
  have k1 := fro_era _ _ (he x (by simp [Op.operands]) _ hx)
  have k2 := he hi (by simp [Op.operands]) _ hh
  simp only [era] at k1
  simp only [rep] at k2
  obtain ⟨hu, inf, z, hinf, hz, hzs, hs, hby, hp⟩ := elm_spec hE.eq
  obtain ⟨A, cap, e1, e2, e3⟩ := fro_part k1 (l := 0) hk (Nat.zero_le _)
  subst hi'
  have hle : k ≤ cap := by omega
  refine ⟨_, ?_, by simp only [rep]; simpa using e3⟩
  simp [execOp, e1, k2, Instr.sliceAt, Instr.slice, Instr.sliceBounds, Instr.sliceBound, asIntOf, run_underlying hu, sizeOf, typeInfo, hinf, hs, hle]
section
set_option maxRecDepth 20000
set_option maxHeartbeats 2000000
theorem Lunlinked (n : Int) (hn : 0 ≤ n) (l : List Int) : AFn Try.prog 9 [.v (.int .u8 n), .sl 1 (l.map intA) none] (fun r => r = .v (.bool true)) := by
  obtain ⟨k, hk, hk5⟩ : ∃ k : Nat, n.tmod 6 = (k : Int) ∧ k ≤ 5 := ⟨(n.tmod 6).toNat, by have := Int.tmod_nonneg 6 hn; omega, by have := Int.tmod_lt_of_pos n (show (0 : Int) < 6 by decide); have := Int.tmod_nonneg 6 hn; omega⟩
  have hw : IntKind.i64.wrap (k : Int) = (k : Int) := by
    have : ∀ k : Nat, k ≤ 5 → IntKind.i64.wrap (k : Int) = (k : Int) := by decide
    exact this k hk5
  refine enter Try.func9 rfl rfl rfl rfl rfl 0 rfl ?_
  refine w_ (a_ (h:=e_ (w_ (?_))))
  refine al_p rfl (q_call ((Pnew 1)) ?_)
  rintro r rfl
  refine m_ (h:=x_ (h:=x_ (h:=al_ (h:=s_ (h:=a_ (h:=e_ (w_ (bd_ (h:=al_ (h:=s_ (h:=e_ (w_ (l_ (h:=l_ (h:=bd_ (h:=?_))))))))))))))))
  refine al_p rfl (q_call (UlMake) ?_)
  rintro r rfl
  refine m_ (h:=x_ (h:=x_ (h:=x_ (h:=s_ (h:=a_ (h:=a_ (h:=e_ (q_ (w_ (m_ (h:=nq_ (h:=m_ (h:=?_)))))))))))))
  refine al_gs false rfl rfl (fun hb1 => ?_) (fun hb1 => ?_)
  · have hc1 := bp hb1
    exfalso; first | contradiction | omega
  have hc1 := bp hb1
  refine m_ (h:=nq_ (h:=pf_ (h:=m_ (h:=?_))))
  refine al_gs false rfl rfl (fun hb2 => ?_) (fun hb2 => ?_)
  · have hc2 := bp hb2
    exfalso; first | contradiction | omega
  have hc2 := bp hb2
  refine m_ (h:=n_ (h:=nq_ (h:=pf_ (h:=e_ (?_)))))
  refine aw_cond rfl (fun hb3 => ?_) (fun hb3 => ?_)
  · have hc3 := bp hb3
    exfalso; first | contradiction | omega
  have hc3 := bp hb3
  refine kt_ (w_ (m_ (h:=i_ (h:=f_ (h:=l_ (h:=al_ (h:=s_ (h:=e_ (w_ (bs_ (h:=a_ (h:=e_ (q_ (w_ (a_ (h:=e_ (aw_block (?_))))))))))))))))))
  refine aw_loopW (fun m t => ∃ j : Nat, j ≤ k ∧ m = k - j ∧ t = ⟨look [(0, .v (.int .u8 n)), (1, .sl 1 (l.map intA) none), (5, .bp 0 0), (7, .bp 1 0), (10, .bp 2 0), (11, .sl 1 ulNames none), (12, .v (.int .i64 (j : Int)))], ⟨[flsA (fUl (upU j)), filA (0, 1), filA (0, 2)], []⟩⟩) (k) (wk 3 0) (⟨0, by omega, rfl, rfl⟩) ?_
  rintro m t ⟨j, hj, rfl, rfl⟩
  refine q_ (w_ (m_ (h:=m_ (h:=?_))))
  refine al_p rfl (st_rem rfl rfl (by decide) ?_)
  rw [hk]
  refine al_p rfl (st_conv rfl Try.underlying5 Try.underlying3 ?_)
  rw [hw]
  refine lt_ (h:=e_ (?_))
  refine aw_cond rfl (fun hb4 => ?_) (fun hb4 => ?_)
  · have hc4 := bp hb4
    have hrow := ul_row (j := j) (by omega)
    refine kt_ (q_ (aw_block (q_ (yk_ ([(1, filA (0, 1)), (2, filA (0, 2))]) 14 (h:=dl_ 1 (h:=dm_ 2 (h:=dm_ 3 (h:=di_ 4 (h:=dl_ 5 (h:=dl_ 6 (h:=?_)))))))))))
    refine c_ 0 rfl (st_loadBW rfl rfl rfl ?_)
    refine o_ (h:=?_)
    refine c_ 7 rfl (q_call (UlLink (j := j) (by omega)) ?_)
    rintro r rfl
    refine o_ (h:=dm_ 8 (h:=dx_ 9 (h:=dx_ 10 (h:=dx_ 11 (h:=?_)))))
    refine c0_ 12 rfl (s_store rfl rfl rfl rfl rfl rfl (by repeat constructor) (by repeat constructor) ?_)
    refine o_ (h:=da_ 13 (h:=z_ (h:=t_ (w_ (m_ (h:=nq_ (h:=e_ (?_))))))))
    refine aw_cond rfl (fun hb5 => ?_) (fun hb5 => ?_)
    · have hc5 := bp hb5
      exfalso; first | contradiction | omega
    have hc5 := bp hb5
    refine aw_skip (x_blockN (t_ (aw_region (m_ (h:=ad_ (h:=a_ (h:=al_nil (?_))))))))
    refine x_then ?_
    refine ⟨_, _, ?_, ⟨j + 1, by omega, rfl, rfl⟩, wk 3 0⟩
    omega
  have hc4 := bp hb4
  obtain rfl : k = j := by omega
  refine aw_exit (x_thenE (x_thenE (ABlock_out (t_ (w_ (m_ (h:=?_)))))))
  refine al_p rfl (st_rem rfl rfl (by decide) ?_)
  rw [hk]
  refine al_p rfl (st_conv rfl Try.underlying5 Try.underlying3 ?_)
  rw [hw]
  refine al_p rfl (st_add64 rfl rfl (by omega) ?_)
  rw [show (1 : Int) + (k : Int) = ((List.range (k + 1)).length : Int) from by rw [List.length_range]; omega]
  refine a_ (h:=e_ (w_ (m_ (h:=?_))))
  refine al_p rfl (s_callN rfl (by repeat (first | exact Args.nil | refine Args.cons _ _ _ _ _ rfl (argOk_clean rfl) ?_ | refine Args.cons _ _ _ _ _ rfl (argOk_nil _) ?_ | refine Args.cons _ _ _ _ _ rfl (argOk_era _) ?_ | refine Args.cons _ _ _ _ _ rfl (argOk_le rfl (by repeat (first | exact LeA.refl _ | exact LeA.nil _ | exact LeL.refl _ | refine LeA.agg ?_ | refine LeA.tup ?_ | exact LeL.nil | refine LeL.cons ?_ ?_ | exact LeA.any _))) ?_)) rfl (Gnew l) (by repeat constructor) ?_)
  skip
  refine a_ (h:=e_ (w_ (?_)))
  refine al_p rfl (st_slitT (by repeat (first | exact DenseA.nil _ | (apply DenseA.cons; (focus exact rfl); (focus exact rfl); (focus exact rfl); (focus exact rfl)))) rfl rfl rfl rfl (by repeat constructor) ?_)
  refine m_ (h:=m_ (h:=?_))
  refine al_p rfl (st_rem rfl rfl (by decide) ?_)
  rw [hk]
  refine al_p rfl (st_sliceHk (rows := ulNames) (k := k) rfl rfl rfl (by show k ≤ 6; omega) ?_)
  refine al_p rfl (s_append rfl rfl rfl (by simp; omega) (by repeat constructor) ?_)
  rw [show [cellsA (AV.v (.string ⟨#[97]⟩))] ++ ulNames.take k = (List.range (k + 1)).map nmA from ul_order hk5]
  refine a_ (h:=e_ (q_ (aw_block (?_))))
  refine aw_loopW (fun m t => ∃ (L : List Nat) (bs : List Bool) (b : Nat), OrdU L bs ∧ L.length ≤ 6 ∧ m = L.length ∧ b ≤ 10 - L.length ∧ t = ⟨look [(5, .bp 0 0), (7, .bp 1 0), (10, .bp 2 0), (13, .v (.int .i64 (L.length : Int))), (14, .bp 3 0), (15, .sl 1 (L.map nmA) none)], ⟨[flsA (fUl bs), filA (0, 1), filA (0, 2), srcA l b], []⟩⟩) ((k + 1)) (wk 4 0) (⟨List.range (k + 1), upU k, 0, ord_start k hk5, by rw [List.length_range]; omega, by rw [List.length_range], Nat.zero_le _, rfl⟩) ?_
  rintro m t ⟨L, bs, b, hO, hL6, rfl, hb, rfl⟩
  have hlm : (L.map nmA).length = L.length := List.length_map ..
  refine q_ (w_ (m_ (h:=n_ (h:=gt_ (h:=e_ (?_))))))
  refine aw_cond rfl (fun hb6 => ?_) (fun hb6 => ?_)
  · have hc6 := bp hb6
    refine kt_ (aw_block (w_ (m_ (h:=m_ (h:=n_ (h:=?_))))))
    refine al_p rfl (s_gen 3 (hc := Gn l _ _ (by omega) (by omega)) (hR := ?_))
    rintro r a1 ha1 ⟨z, rfl, hz0, hz1, -⟩
    refine ⟨rfl, _, (by repeat constructor), ?_⟩
    obtain ⟨s, rfl⟩ := Int.eq_ofNat_of_zero_le hz0
    have hs : s < L.length := by have := hz1 (by omega); omega
    obtain ⟨v, hv⟩ : ∃ v, L[s]? = some v := ⟨_, List.getElem?_eq_getElem hs⟩
    have hrow : (L.map nmA)[s]? = some [.v (.string (nmU v))] := by rw [List.getElem?_map, hv]; rfl
    refine a_ (h:=e_ (q_ (w_ (l_ (h:=l_ (h:=?_))))))
    refine al_p rfl (q_call (UlNode hO) ?_)
    rintro r ⟨nd, rfl⟩
    refine m_ (h:=x_ (h:=x_ (h:=al_ (h:=s_ (h:=a_ (h:=e_ (w_ (m_ (h:=nt_ (h:=m_ (h:=?_)))))))))))
    refine al_gs false rfl rfl (fun hb7 => ?_) (fun hb7 => ?_)
    · have hc7 := bp hb7
      exfalso; first | contradiction | omega
    have hc7 := bp hb7
    refine l_ (h:=l_ (h:=?_))
    refine g_y (q_call (UlLinks hO) ?_)
    rintro r rfl
    refine m_ (h:=nq_ (h:=pf_ (h:=e_ (?_))))
    refine aw_cond rfl (fun hb8 => ?_) (fun hb8 => ?_)
    · have hc8 := bp hb8
      exfalso; first | contradiction | omega
    have hc8 := bp hb8
    refine kt_ (q_ (q_ (yk_ ([(1, filA (0, 1))]) 13 (h:=dl_ 1 (h:=dm_ 2 (h:=dm_ 3 (h:=di_ 4 (h:=dl_ 5 (h:=?_)))))))))
    refine c_ 0 rfl (st_loadBW rfl rfl rfl ?_)
    refine o_ (h:=?_)
    refine c_ 6 rfl (q_call (UlUnlink hO hv) ?_)
    rintro r ⟨c, rfl⟩
    refine o_ (h:=dm_ 7 (h:=dx_ 8 (h:=dx_ 9 (h:=dx_ 10 (h:=?_)))))
    refine c0_ 11 rfl (s_store rfl rfl rfl rfl rfl rfl (by repeat constructor) (by repeat constructor) ?_)
    refine o_ (h:=da_ 12 (h:=z_ (h:=t_ (w_ (m_ (h:=nq_ (h:=e_ (?_))))))))
    refine aw_cond rfl (fun hb9 => ?_) (fun hb9 => ?_)
    · have hc9 := bp hb9
      exfalso; first | contradiction | omega
    have hc9 := bp hb9
    refine kt_ (q_ (yk_ ([]) 10 (h:=dm_ 0 (h:=dm_ 1 (h:=?_)))))
    refine tk_ 2 rfl (fun _ hS => st_sliceHi (k := s) rfl rfl rfl (by omega) ⟨rfl, rfl⟩) ?_
    refine dm_ 4 (h:=dm_ 5 (h:=dad_ 6 (h:=?_)))
    refine tk_ 7 rfl (fun _ hS => st_sliceLo (l := s + 1) rfl rfl rfl (by omega) ⟨rfl, rfl⟩) ?_
    first | refine c_ 3 rfl (s_append rfl rfl rfl (by simp <;> omega) (by repeat constructor) ?_) | refine c_ 3 rfl (s_append0 rfl rfl (by simp <;> omega) (by repeat constructor) ?_)
    refine o_ (h:=?_)
    refine c_ 8 rfl (s_append rfl rfl rfl (by simp; omega) (by repeat constructor) ?_)
    rw [← List.map_take, ← List.map_drop, ← List.map_append]
    refine o_ (h:=da_ 9 (h:=z_ (h:=t_ (aw_region (m_ (h:=?_))))))
    refine al_p rfl (st_sub64 rfl rfl (by omega) ?_)
    rw [show (L.length : Int) - 1 = ((L.take s ++ L.drop (s + 1)).length : Int) from by rw [List.length_append, List.length_take, List.length_drop]; omega]
    refine a_ (h:=al_nil (x_blockN (?_)))
    refine x_then ?_
    have hlen : (L.take s ++ L.drop (s + 1)).length = L.length - 1 := by rw [List.length_append, List.length_take, List.length_drop]; omega
    refine ⟨_, _, ?_, ⟨L.take s ++ L.drop (s + 1), bs.set v false, _, (hO.out hv).1, ?_, rfl, ?_, rfl⟩, wk 4 0⟩ <;> omega
  have hc6 := bp hb6
  refine aw_exit (x_thenE (x_thenE (ABlock_out (t_ (w_ (l_ (h:=l_ (h:=?_))))))))
  refine al_p rfl (q_call (UlNode hO) ?_)
  rintro r ⟨nd, rfl⟩
  refine m_ (h:=x_ (h:=x_ (h:=al_ (h:=s_ (h:=a_ (h:=e_ (w_ (m_ (h:=nt_ (h:=m_ (h:=?_)))))))))))
  refine al_gs true rfl rfl (fun hb10 => ?_) (fun hb10 => ?_)
  · have hc10 := bp hb10
    refine l_ (h:=l_ (h:=?_))
    refine g_y (q_call (UlLinks hO) ?_)
    rintro r rfl
    refine eq_ (h:=pt_ (h:=m_ (h:=?_)))
    refine al_gs true rfl rfl (fun hb11 => ?_) (fun hb11 => ?_)
    · have hc11 := bp hb11
      refine g_y (q_call (Lawake5) ?_)
      rintro r rfl
      refine pt_ (h:=a_ (h:=e_ (aw_ret (?_))))
      refine e_ret ?_
      first | rfl | (exfalso; simp_all; done)
    have hc11 := bp hb11
    refine g0_ (h:=pf_ (h:=a_ (h:=e_ (aw_ret (?_)))))
    refine e_ret ?_
    first | rfl | (exfalso; simp_all; done)
  have hc10 := bp hb10
  refine g0_ (h:=g0_ (h:=g0_ (h:=g0_ (h:=pf_ (h:=m_ (h:=g0_ (h:=pf_ (h:=a_ (h:=e_ (aw_ret (?_)))))))))))
  refine e_ret ?_
  first | rfl | (exfalso; simp_all; done)

end
end Go.Proofs.Ythcbdkmhamhciaa
namespace Go.Proofs.Ythcbdkmhamhciaa
open Go.RowKit

def StAll (w : World) : Nat → Nat → Prop := fun b _ => b < w.heap.size
def Opens (P : Program) (t : TypeId) (R : List AV → Prop) : Prop :=
  ∀ (H : Type) (enc : TypeId × Value → H) (w : World) (base : Nat) (spare : Nat → Bool) (held : Bool) (fuel : Nat) (cs : List Value) (x : DataW H × List MemPlace), DataW.trod enc P w base spare held fuel t cs = some x →
    ∃ row, R row ∧ froL (StAll w) w row cs ∧ ∀ u ∈ cs, u.oneCell' = true
section
variable {P : Program} {t : TypeId}
theorem Opens.mono {R R' : List AV → Prop} (h : Opens P t R) (hR : ∀ r, R r → R' r) : Opens P t R' := by
  intro H enc w base spare held fuel cs x hx
  obtain ⟨row, h1, h2⟩ := h H enc w base spare held fuel cs x hx
  exact ⟨row, hR _ h1, h2⟩
theorem opens_int {k : IntKind} (ht : P.underlying t = some (.int k)) : Opens P t fun r => ∃ n, r = [.v (.int k n)] ∧ (Lit.int k n).wf = true := by
  intro H enc w base spare held fuel cs x hx
  obtain ⟨b, rfl, _, hw⟩ := DataW.trod_int ht hx
  exact ⟨_, ⟨b, rfl, hw⟩, ⟨_, _, rfl, by simp only [fro], by simp only [froL]⟩, by simp [Value.oneCell']⟩
theorem cell_lt' {w : World} {b o : Nat} {v : Value} (h : w.cell? ⟨b, o, none⟩ = some v) : b < w.heap.size := by
  rcases Nat.lt_or_ge b w.heap.size with hlt | hge
  · exact hlt
  simp [World.cell?, Array.getElem?_eq_none hge] at h
theorem froL_length' {St : Nat → Nat → Prop} {w : World} {xs : List AV} {ys : List Value} (h : froL St w xs ys) : ys.length = xs.length := repL_length (G := ⟨St, [], []⟩) (repL_fro (G := ⟨St, [], []⟩) _ _ h)
theorem opens_slice {e : TypeId} {n : Nat} {R : List AV → Prop} (ht : P.underlying t = some (.slice e)) (hc : P.cellsOf e = n) (hn : 0 < n) (h : Opens P e R) : Opens P t fun r => ∃ rows, r = [.sl n rows none] ∧ rows.length ≤ maxLen ∧ ∀ x ∈ rows, R x := by
  intro H enc w base spare held fuel cs x hx
  rcases DataW.trod_slice ht hx with ⟨rfl, _⟩ | ⟨⟨b, off, spot⟩, len, cap, elems, rest, m, rfl, rfl, _, hb, hl, hm, hlen, hel, _, _⟩
  · exact ⟨_, ⟨[], rfl, Nat.zero_le _, by simp⟩, ⟨_, _, rfl, by simp only [fro]; exact ⟨trivial, none, 0, rfl, Nat.le_refl _, Nat.zero_le _, .inl trivial⟩, by simp only [froL]⟩, by simp [Value.oneCell']⟩
  have each : ∀ i, i < len → ∃ row cs', R row ∧ row.length = n ∧ froL (StAll w) w row cs' ∧ (∀ u ∈ cs', u.oneCell' = true) ∧ cs'.length = n ∧ ∀ j, j < n → w.cell? (Addr.add ⟨b, off, spot⟩ (i * n + j)) = cs'[j]? := by
    intro i hi
    have h1 := hel i hi
    rw [hc, List.getElem?_eq_getElem (by omega), Option.bind_eq_some_iff] at h1
    obtain ⟨cs', h2, h3⟩ := h1
    obtain ⟨row, r1, r2, r3⟩ := h _ _ _ _ _ _ _ _ _ h3
    obtain ⟨_, c1, c2⟩ := World.cells?_some h2
    refine ⟨row, cs', r1, by rw [← froL_length' r2, c1], r2, r3, c1, fun j hj => ?_⟩
    have := c2 j hj
    rwa [Addr.add_add] at this
  have hrows : ∃ rows : List (List AV), rows.length = len ∧ (∀ i, i < len → ∃ row cs', rows[i]? = some row ∧ R row ∧ row.length = n ∧ froL (StAll w) w row cs' ∧ (∀ u ∈ cs', u.oneCell' = true) ∧ cs'.length = n ∧ ∀ j, j < n → w.cell? (Addr.add ⟨b, off, spot⟩ (i * n + j)) = cs'[j]?) := by
    clear hel
    have : ∀ k, k ≤ len → ∃ rows : List (List AV), rows.length = k ∧ (∀ i, i < k → ∃ row cs', rows[i]? = some row ∧ R row ∧ row.length = n ∧ froL (StAll w) w row cs' ∧ (∀ u ∈ cs', u.oneCell' = true) ∧ cs'.length = n ∧ ∀ j, j < n → w.cell? (Addr.add ⟨b, off, spot⟩ (i * n + j)) = cs'[j]?) := by
      intro k
      induction k with
      | zero => intro _; exact ⟨[], rfl, fun i hi => by omega⟩
      | succ k ih =>
        intro hk
        obtain ⟨rows, e1, e2⟩ := ih (by omega)
        obtain ⟨row, cs', q⟩ := each k (by omega)
        refine ⟨rows ++ [row], by simp [e1], fun i hi => ?_⟩
        rcases Nat.lt_or_ge i k with hlt | hge
        · obtain ⟨row', cs'', q1, q2⟩ := e2 i hlt
          exact ⟨row', cs'', by rw [List.getElem?_append_left (by omega)]; exact q1, q2⟩
        obtain rfl : i = k := by omega
        exact ⟨row, cs', by rw [List.getElem?_append_right (by omega), e1]; simp, q⟩
    exact this len (Nat.le_refl _)
  obtain ⟨rows, e1, e2⟩ := hrows
  refine ⟨_, ⟨rows, rfl, by omega, fun x hx => ?_⟩, ⟨_, _, rfl, ?_, by simp only [froL]⟩, by simp [Value.oneCell']⟩
  · obtain ⟨i, hi⟩ := List.getElem?_of_mem hx
    obtain ⟨row, _, q1, q2, _⟩ := e2 i (by rw [← e1]; exact (List.getElem?_eq_some_iff.1 hi).1)
    rw [hi] at q1
    injection q1 with q1
    subst q1
    exact q2
  simp only [fro]
  refine ⟨trivial, some ⟨b, off, spot⟩, cap, by rw [e1], by omega, hm, ?_⟩
  rcases Nat.eq_zero_or_pos len with h0 | h0
  · left; exact List.eq_nil_of_length_eq_zero (by omega)
  right
  have hspot : spot = none := by
    obtain ⟨_, cs', _, _, _, _, _, c3, c4⟩ := e2 0 h0
    have := c4 0 hn
    rw [List.getElem?_eq_getElem (by omega)] at this
    simpa [Addr.add] using World.cell?_spot this
  subst hspot
  refine ⟨b, off, rfl, ?_⟩
  have : ∀ (rs : List (List AV)) (k : Nat), (∀ i r, rs[i]? = some r → rows[k + i]? = some r) → froR (StAll w) w b n rs (off + k * n) := by
    intro rs
    induction rs with
    | nil => intro k _; simp only [froR]
    | cons r rs ih =>
      intro k hk
      simp only [froR]
      have h1 := hk 0 r rfl
      rw [Nat.add_zero] at h1
      obtain ⟨row, cs', q1, _, q3, q4, q5, q6, q7⟩ := e2 k (by rw [← e1]; exact (List.getElem?_eq_some_iff.1 h1).1)
      rw [h1] at q1
      injection q1 with q1
      subst q1
      refine ⟨⟨q3, froC_of fun i x hi => ?_⟩, ?_⟩
      · obtain ⟨u, u1, u2⟩ := froL_get q4 hi
        have hin : i < n := by rw [← q3]; exact (List.getElem?_eq_some_iff.1 hi).1
        have hc := q7 i hin
        rw [u1] at hc
        have hc' : w.cell? ⟨b, off + k * n + i, none⟩ = some u := by rw [Addr.add_mid] at hc; rwa [Nat.add_assoc]
        exact ⟨cell_lt' hc', u, hc', q5 u (List.mem_of_getElem? u1), u2⟩
      have := ih (k + 1) (fun i r' hi => by
        have := hk (i + 1) r' (by simpa using hi)
        rwa [show k + 1 + i = k + (i + 1) by omega])
      rwa [show off + (k + 1) * n = off + k * n + n by rw [Nat.add_mul]; omega] at this
  simpa using this rows 0 (fun i r hi => by simpa using hi)
theorem rows_map {α : Type} {enc : α → List AV} {Q : α → Prop} : ∀ {rows : List (List AV)}, (∀ x ∈ rows, ∃ a, x = enc a ∧ Q a) → ∃ l : List α, rows = l.map enc ∧ ∀ a ∈ l, Q a
  | [], _ => ⟨[], rfl, by simp⟩
  | r :: rs, h => by
    obtain ⟨a, rfl, ha⟩ := h r (by simp)
    obtain ⟨l, rfl, hl⟩ := rows_map (rows := rs) fun x hx => h x (by simp [hx])
    exact ⟨a :: l, rfl, by simpa using ⟨ha, hl⟩⟩
theorem Opens.one {R : List AV → Prop} (h : Opens P t R) {H : Type} {enc : TypeId × Value → H} {w : World} {base : Nat} {spare : Nat → Bool} {held : Bool} {v : Value} {d : DataW H} {ps : List MemPlace} (hv : v.cells = #[v]) (hd : DataW.Trod enc P w base spare held t v d ps) :
    ∃ row, R row ∧ froL (StAll w) w row [v] := by
  obtain ⟨fuel, hf⟩ := hd
  rw [hv] at hf
  obtain ⟨row, h1, h2, _⟩ := h _ _ _ _ _ _ _ _ _ hf
  exact ⟨row, h1, h2⟩
end
end Go.Proofs.Ythcbdkmhamhciaa
namespace Go.Proofs.Ythcbdkmhamhciaa
open Go.RowKit

theorem opInts : Opens Try.prog 31 (fun r => ∃ l : List Int, r = [.sl 1 (l.map intA) none]) :=
  (opens_slice (n := 1) Try.underlying31 (by kernel_rfl) (by omega) (opens_int Try.underlying3)).mono (by
    rintro r ⟨rows, rfl, _, hr⟩
    obtain ⟨l, rfl, _⟩ := rows_map (enc := intA) (Q := fun _ => True) (fun x hx => by obtain ⟨t, rfl, _⟩ := hr x hx; exact ⟨t, rfl, trivial⟩)
    exact ⟨l, rfl⟩)
theorem ints_one {H : Type} {enc : TypeId × Value → H} {sp : Nat → Bool} {held : Bool} {base : Nat} {w : World} {a : Option Addr} {n c : Nat} {d : DataW H} {p : List MemPlace} (h : DataW.Trod enc Try.prog w base sp held 31 (.slice a n c) d p) :
    ∃ l : List Int, rep ⟨StAll w, [], []⟩ w (.sl 1 (l.map intA) none) (.slice a n c) := by
  obtain ⟨r0, ⟨l, rfl⟩, k0⟩ := opInts.one rfl h
  simp only [froL] at k0
  obtain ⟨_, _, e0, k0, rfl⟩ := k0
  injection e0 with e0
  subst e0
  exact ⟨l, rep_fro (G := ⟨StAll w, [], []⟩) _ _ k0⟩
end Go.Proofs.Ythcbdkmhamhciaa
namespace Go.Proofs.Ythcbdkmhamhciaa
open Go.RowKit
theorem FilesUnlinked_walk {H : Type} {enc : TypeId × Value → H} {sp : Nat → Bool} {held : Bool} {base : Nat} (k : Int) (a : Option Addr) (n c : Nat) (w : World) {d : DataW H} {p : List MemPlace} (hk : 0 ≤ k) (_ : k ≤ 255) (h : DataW.Trod enc Try.prog w base sp held 31 (.slice a n c) d p) :
    Calls Try.prog 9 #[.int .u8 k, .slice a n c] w fun e w' => e = .returned (.bool true) ∧ Below w.heap.size w w' := by
  obtain ⟨l, k1⟩ := ints_one h
  refine calls_of (vs := [.int .u8 k, .slice a n c]) (Lunlinked k hk l) (StAll w) (fun b o h => h) ?_
  simp only [repL]
  exact ⟨_, _, rfl, (by simp only [rep]), _, _, rfl, k1, rfl⟩
end Go.Proofs.Ythcbdkmhamhciaa
