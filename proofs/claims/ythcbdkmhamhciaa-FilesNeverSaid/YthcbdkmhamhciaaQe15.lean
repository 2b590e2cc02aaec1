/-
  Part 15 of the proof of FilesNeverP: what the statement's proof uses of the texts in wip/tpl.
-/
import Derived.Test.YthcbdkmhamhciaaQe14
namespace Go.Proofs.Ythcbdkmhamhciaa
open Go.RowKit

theorem asc_mp {ns ns' : List Nod} (h : ns'.map (·.ino) = ns.map (·.ino)) (ha : Asc ns) : Asc ns' := by
  unfold Asc at ha ⊢
  rw [← List.pairwise_map (f := fun n : Nod => n.ino) (R := fun a b : Int => a < b)] at ha ⊢
  rw [h]; exact ha
theorem inos_at {ns ns' : List Nod} (h : ns'.map (·.ino) = ns.map (·.ino)) {l : Nat} {o : Nod} (ho : ns[l]? = some o) : ∃ o', ns'[l]? = some o' ∧ o'.ino = o.ino := by
  have h1 := congrArg (fun x : List Int => x[l]?) h
  simp only [List.getElem?_map, ho, Option.map_some] at h1
  cases h2 : ns'[l]? with
  | none => rw [h2] at h1; cases h1
  | some o' => rw [h2] at h1; injection h1 with h1; exact ⟨o', rfl, h1⟩
theorem inos_len {ns ns' : List Nod} (h : ns'.map (·.ino) = ns.map (·.ino)) : ns'.length = ns.length := by
  have := congrArg List.length h
  simpa using this
theorem set_inos {ns : List Nod} {i : Nat} {n n' : Nod} (hn : ns[i]? = some n) (h : n'.ino = n.ino) : (ns.set i n').map (·.ino) = ns.map (·.ino) := by
  rw [List.map_set]
  apply List.ext_getElem?
  intro k
  rw [List.getElem?_set]
  split
  · rename_i e
    subst e
    rw [List.getElem?_map, hn]
    simp [(List.getElem?_eq_some_iff.1 hn).1, h]
  rfl
structure Ren (f : Fls) (src : Fil) (name : Str) (to : Fil) (name2 : Str) (q : Nat) (d : Dvc) (i : Nat) (n1 : Nod) (j : Nat) (n2 : Nod) (p k : Nat) (m : Nod) (A : Fil) : Prop where
  sq : src.1 = (q : Int)
  tq : to.1 = (q : Int)
  hq : f[q]? = some d
  hi : d.nodes[i]? = some n1
  hii : n1.ino = src.2
  hj : d.nodes[j]? = some n2
  hjj : n2.ino = to.2
  k2 : n2.kind = 2
  hp : ∃ e, n1.entries[p]? = some e ∧ e.1 = name
  hA : lookL f src name = (A, 0)
  aq : A.1 = (q : Int)
  hk : d.nodes[k]? = some m
  hm : m.ino = A.2
  hnA : nodeL f A = some m
  a0 : A.2 ≠ 0
  nm2 : nameL name2 = true
  ord : ordL (placeL f src name) (placeL f to name2) = 0
  dev : ¬ src.1 ≠ to.1
  bel : ¬ (dirL f A = true ∧ belowF f to A = true)
  n2o : nodeL f to = some n2
theorem ren_of {f : Fls} (hv : FlsV f) {src : Fil} {name : Str} {to : Fil} {name2 : Str} (h : (srcL f src name to name2).2 = 0) : ∃ q d i n1 j n2 p k m, Ren f src name to name2 q d i n1 j n2 p k m (srcL f src name to name2).1 := by
  unfold srcL at h ⊢
  split at h
  · exact absurd h (by assumption)
  rename_i hord
  split at h
  · exact absurd h (by assumption)
  rename_i hl1
  split at h
  · exact absurd h (by decide)
  rename_i hdev
  split at h
  · exact absurd h (by decide)
  rename_i hbel
  rw [if_neg hord, if_neg hl1, if_neg hdev, if_neg hbel]
  obtain ⟨hpl1, hpl2⟩ := ord_zero (f := f) (x := src) (y := to) (name := name) (name2 := name2) (by omega)
  obtain ⟨q, i, d, n1, hsq, hq, hn1, hn1i, hidx, hnode, hk1, hnm1⟩ := place_ok hpl1
  obtain ⟨q', j, d', n2, htq, hq', hn2, hn2i, -, hnode2, hk2, hnm2⟩ := place_ok hpl2
  obtain rfl : q = q' := by omega
  obtain rfl : d = d' := Option.some.inj (hq.symm.trans hq')
  obtain ⟨e, m, he, hle, hm, hem, he1, hmn⟩ := look_node hv hsq hq hn1 hnode hk1 (name := name) (by omega)
  obtain ⟨hemem, hen⟩ := entF_some he
  obtain ⟨p, hpe⟩ := List.getElem?_of_mem hemem
  obtain ⟨k, hmk⟩ := List.getElem?_of_mem hm
  have hpos := (hv.vd d (List.mem_of_getElem? hq)).pos hm
  exact ⟨q, d, i, n1, j, n2, p, k, m, hsq, htq, hq, hn1, hn1i, hn2, hn2i, hk2, ⟨e, hpe, hen⟩, Prod.ext rfl (by show (lookL f src name).2 = 0; omega), by rw [hle]; exact hsq, hmk, by rw [hle]; exact hem.symm, hmn, by rw [hle]; show e.2 ≠ 0; omega, hnm2, by omega, hdev, hbel, hnode2⟩
theorem ren_err {f : Fls} {src : Fil} {name : Str} {to : Fil} {name2 : Str} (h : ¬ (srcL f src name to name2).2 = 0) : renameL f src name to name2 = ([], [], (srcL f src name to name2).2) := by
  unfold srcL at h ⊢
  unfold renameL
  split
  · rfl
  rename_i hord
  rw [if_neg hord] at h
  split
  · rfl
  rename_i hl1
  rw [if_neg hl1] at h
  split
  · rfl
  rename_i hdev
  rw [if_neg hdev] at h
  split
  · rfl
  rename_i hbel
  rw [if_neg hbel] at h
  exact absurd rfl h
section
variable {f : Fls} {src : Fil} {name : Str} {to : Fil} {name2 : Str} {q : Nat} {d : Dvc} {i : Nat} {n1 : Nod} {j : Nat} {n2 : Nod} {p k : Nat} {m : Nod} {A : Fil}
theorem Ren.look2 (h : Ren f src name to name2 q d i n1 j n2 p k m A) : lookL f to name2 = ((entP f to name2).1, if (entP f to name2).2 = true then 0 else 2) := by
  have hd : dirE f to = 0 := by unfold dirE; rw [h.n2o]; simp [h.k2]
  cases hb : (entP f to name2).2 with
  | true => rw [lkE_yes hd hb]; rfl
  | false =>
    rw [lkE_two hd hb]
    have : (entP f to name2).1 = (0, 0) := by
      unfold entP at hb ⊢
      rw [h.n2o] at hb ⊢
      simp only at hb ⊢
      split at hb
      · rfl
      cases hb
    rw [this]; rfl
theorem if_zero {b : Bool} (h : (if b = true then (0 : Int) else 2) = 0) : b = true := by
  cases b with
  | true => rfl
  | false => cases h
theorem Ren.same (h : Ren f src name to name2 q d i n1 j n2 p k m A) (h2 : (entP f to name2).2 = true) (h3 : (entP f to name2).1 = A) : renameL f src name to name2 = (f, [], 0) := by
  have hl := h.look2
  rw [renameL, h.ord, if_neg (not_not_intro rfl), h.hA, if_neg (not_not_intro rfl), if_neg h.dev, if_neg h.bel, hl, if_pos ⟨by rw [if_pos h2], h3⟩]
theorem Ren.two (h : Ren f src name to name2 q d i n1 j n2 p k m A) (h2 : ¬ ((entP f to name2).2 = true ∧ (entP f to name2).1 = A)) (h3 : ren2L f src to A (entP f to name2).1 (if (entP f to name2).2 = true then 0 else 2) ≠ 0) : renameL f src name to name2 = ([], [], ren2L f src to A (entP f to name2).1 (if (entP f to name2).2 = true then 0 else 2)) := by
  have hl := h.look2
  rw [renameL, h.ord, if_neg (not_not_intro rfl), h.hA, if_neg (not_not_intro rfl), if_neg h.dev, if_neg h.bel, hl, if_neg (fun hh => h2 ⟨if_zero hh.1, hh.2⟩), if_pos h3]
theorem Ren.done (h : Ren f src name to name2 q d i n1 j n2 p k m A) (hv : FlsV f) (h2 : ¬ ((entP f to name2).2 = true ∧ (entP f to name2).1 = A)) (h3 : ren2L f src to A (entP f to name2).1 (if (entP f to name2).2 = true then 0 else 2) = 0) {X : List Nod} (hX : X = entD (entD d.nodes src.2 name 0) to.2 name2 A.2) : renameL f src name to name2 = (f.set q ⟨d.next, if (entP f to name2).2 = true then dropI (renPar X A.2 to.2 (dirL f A)) (entP f to name2).1.2 else renPar X A.2 to.2 (dirL f A)⟩, [(src, name, A, (0, 0)), (to, name2, (entP f to name2).1, A)], 0) := by
  have hl := h.look2
  rw [renameL, h.ord, if_neg (not_not_intro rfl), h.hA, if_neg (not_not_intro rfl), if_neg h.dev, if_neg h.bel, hl, if_neg (fun hh => h2 ⟨if_zero hh.1, hh.2⟩), if_neg (not_not_intro h3), h.tq, Int.toNat_natCast, onD_set h.hq]
  congr 3
  congr 1
  unfold renNs
  by_cases hb : (entP f to name2).2 = true
  · rw [if_pos hb, if_pos rfl, if_pos hb, ← hX]
    unfold renPar
    split
    · exact (dropI_updI (g := fun n : Nod => { n with parent := to.2 }) (fun _ => rfl) (fun _ => rfl)).symm
    rfl
  rw [if_neg hb, if_neg (show ¬ (2 : Int) = 0 by decide), if_neg hb, ← hX]
structure RenX (f : Fls) (src : Fil) (name : Str) (to : Fil) (name2 : Str) (q : Nat) (d : Dvc) (A : Fil) (X : List Nod) : Prop where
  inos : X.map (·.ino) = d.nodes.map (·.ino)
  kinds : ∀ (l : Nat) (o : Nod), d.nodes[l]? = some o → ∃ o' : Nod, X[l]? = some o' ∧ o'.ino = o.ino ∧ o'.kind = o.kind
  fb : FlsB (f.set q ⟨d.next, X⟩)
  eq : X = entD (entD d.nodes src.2 name 0) to.2 name2 A.2
theorem Ren.x (h : Ren f src name to name2 q d i n1 j n2 p k m A) (hv : FlsV f) {m2 : Nod} (hm2 : (entS d.nodes i n1 name 0)[j]? = some m2) (hmi : m2.ino = n2.ino) : RenX f src name to name2 q d A (entS (entS d.nodes i n1 name 0) j m2 name2 A.2) := by
  have hd := hv.vd d (List.mem_of_getElem? h.hq)
  have e1 := entS_asc hd.asc h.hi name 0
  have a1 := entS_isAsc hd.asc h.hi name 0
  have e2 := entS_asc (d := ⟨0, entS d.nodes i n1 name 0⟩) a1 hm2 name2 A.2
  simp only at e2
  refine ⟨?_, ?_, ?_, ?_⟩
  · exact (set_inos (n' := { m2 with entries := entL m2.entries name2 A.2 }) hm2 rfl).trans (set_inos (n' := { n1 with entries := entL n1.entries name 0 }) h.hi rfl)
  · intro l o ho
    have k1 : ∀ {ns : List Nod} {i : Nat} {n0 : Nod} {nm : Str} {x : Int} {l : Nat} {o : Nod}, ns[i]? = some n0 → ns[l]? = some o → ∃ o', (entS ns i n0 nm x)[l]? = some o' ∧ o'.ino = o.ino ∧ o'.kind = o.kind := by
      intro ns i n0 nm x l o hi ho
      unfold entS
      rw [List.getElem?_set]
      split
      · rename_i e
        subst e
        rw [hi] at ho
        injection ho with ho
        subst ho
        exact ⟨{ n0 with entries := entL n0.entries nm x }, by rw [if_pos (List.getElem?_eq_some_iff.1 hi).1], rfl, rfl⟩
      exact ⟨o, ho, rfl, rfl⟩
    obtain ⟨o1, h1, h2, h3⟩ := k1 (nm := name) (x := 0) h.hi ho
    obtain ⟨o2, h4, h5, h6⟩ := k1 (nm := name2) (x := A.2) hm2 h1
    exact ⟨o2, h4, h5.trans h2, h6.trans h3⟩
  · refine hv.b.set_ ?_ fun mm hmm => ?_
    · show (entS _ _ _ _ _).length ≤ 1000
      rw [entS_len, entS_len]
      have := hd.len
      omega
    obtain ⟨m', h1, _, h2⟩ := entS_mem hm2 hmm
    obtain ⟨m'', h3, _, h4⟩ := entS_mem h.hi h1
    have := hd.many m'' h3
    omega
  rw [e2, e1, h.hii, hmi, h.hjj]
theorem RenX.asc {X : List Nod} (x : RenX f src name to name2 q d A X) (hv : FlsV f) (hq : f[q]? = some d) : Asc X := asc_mp x.inos (hv.vd d (List.mem_of_getElem? hq)).asc
theorem RenX.dir {X : List Nod} (x : RenX f src name to name2 q d A X) (h : Ren f src name to name2 q d i n1 j n2 p k m A) (hv : FlsV f) : dirL (f.set q ⟨d.next, X⟩) A = dirL f A := by
  obtain ⟨o', h1, h2, h3⟩ := x.kinds k m h.hk
  have hql := (List.getElem?_eq_some_iff.1 h.hq).1
  rw [dirL_some h.hnA, dirL_some (node_asc (d := ⟨d.next, X⟩) h.aq (List.getElem?_set_self hql) (x.asc hv h.hq) (List.mem_of_getElem? h1) (by rw [h2, h.hm])), h3]
theorem par_rows {RN : List (List AV)} {X : List Nod} (hR : RowsN RN X) {k : Nat} {mk : Nod} (hk : X[k]? = some mk) (x : Int) {cap : Nat} : ∃ RN', RowsN RN' (X.set k { mk with parent := x }) ∧ SetAt (rowsB 8 cap RN) (0 + k * 8 + 5) [.v (.int .i64 x)] (rowsB 8 cap RN') := by
  have hl := hR.1
  have hkl := (List.getElem?_eq_some_iff.1 hk).1
  have hr : RN[k]? = some RN[k] := List.getElem?_eq_getElem (by omega)
  obtain ⟨e, he, ho⟩ := hR.2 k _ mk hr hk
  refine ⟨RN.set k (nodX { mk with parent := x } e), hR.set k ⟨e, rfl, ho⟩, ?_⟩
  rw [he] at hr
  exact rowsB_set (k := 5) hR.eight hr (by repeat constructor) (List.cons_ne_nil _ _)
end
section
set_option maxRecDepth 10000
set_option maxHeartbeats 2000000
theorem PcopiedDA (f : Fls) (hf : FlsB f) : AFn Try.prog 91 [.sl 2 (f.map dvcA) none, .fn 92 []] (fun r => r = .sl 2 (f.map dvcA) none) := by
  have hml : (f.map dvcA).length = f.length := by simp
  have hfew := hf.few
  refine enter Try.func91 rfl rfl rfl rfl rfl 0 rfl ?_
  refine w_ (a_ (h:=e_ (q_ (w_ (m_ (h:=n_ (h:=eq_ (h:=e_ (?_)))))))))
  refine aw_cond rfl (fun hb1 => ?_) (fun hb1 => ?_)
  · have hc1 := bp hb1
    refine w_ (a_ (h:=e_ (aw_ret (x_thenR (?_)))))
    refine rt_ (r := .sl 2 (f.map dvcA) none) none (h5 := ?_) (h6 := ⟨rfl, rfl, rfl⟩)
    rw [show f = [] from List.eq_nil_of_length_eq_zero (by omega)]
    exact LeA.nil _
  have hc1 := bp hb1
  refine kt_ (w_ (m_ (h:=n_ (h:=ms_ (h:=a_ (h:=e_ (q_ (w_ (m_ (h:=n_ (h:=m_ (h:=e_ (aw_block (?_))))))))))))))
  refine aw_loopW (fun m s => ∃ j : Nat, j ≤ f.length ∧ m = f.length - j ∧ s = ⟨look [(1, .fn 92 []), (5, .sl 2 ((f.take j).map dvcA) (some 0)), (14, .sl 2 (f.map dvcA) none), (15, .v (.int .i64 ((f.map dvcA).length : Int))), (16, .v (.int .i64 (j : Int)))], ⟨[], [(79, 2, (f.take j).map dvcA)]⟩⟩) (f.length) ((wk 0 1)) (⟨0, by omega, rfl, rfl⟩) ?_
  rintro m s ⟨j, hj, rfl, rfl⟩
  refine w_ (lt_ (h:=e_ (q_ (?_))))
  refine aw_cond rfl (fun hb2 => ?_) (fun hb2 => ?_)
  · have hc2 := bp hb2
    obtain ⟨hlt, x, hy, hrow, e⟩ := row_at dvcA hc2
    have hxd := List.mem_of_getElem? hy
    refine kt_ (q_ (aw_block (w_ (i_ (h:=l_ (h:=al_ (h:=s_ (h:=e_ (aw_region (m_ (h:=m_ (h:=l_ (h:=?_)))))))))))))
    refine al_p rfl (st_callC (cy := []) (ys := [.agg (dvcA x)]) rfl (by repeat (first | exact Args.nil | refine Args.cons _ _ _ _ _ rfl (argOk_clean rfl) ?_ | refine Args.cons _ _ _ _ _ rfl (argOk_nil _) ?_ | refine Args.cons _ _ _ _ _ rfl (argOk_era _) ?_ | refine Args.cons _ _ _ _ _ rfl (argOk_le rfl (by repeat (first | exact LeA.refl _ | exact LeA.nil _ | exact LeL.refl _ | refine LeA.agg ?_ | refine LeA.tup ?_ | exact LeL.nil | refine LeL.cons ?_ ?_ | exact LeA.any _))) ?_)) rfl rfl (PcopyDevA x (hf.nodes x hxd) (hf.ents x hxd)) ?_)
    rintro r rfl
    refine bs_ (h:=?_)
    first | refine al_p rfl (s_append rfl rfl rfl (by simp; omega) (by repeat constructor) ?_) | refine al_p rfl (s_append0 rfl rfl (by simp; omega) (by repeat constructor) ?_)
    refine a_ (h:=al_nil (x_blockN (t_ (aw_region (ad_ (h:=m_ (h:=al_nil (?_))))))))
    refine x_then ?_
    refine ⟨_, _, ?_, ⟨j + 1, by omega, rfl, rfl⟩, (by rw [e]; exact (wk 0 1))⟩
    omega
  have hc2 := bp hb2
  have e := row_no dvcA hj hc2
  subst e
  rw [List.take_length]
  refine aw_exit (x_thenE (x_thenE (ABlock_out (t_ (w_ (m_ (h:=a_ (h:=e_ (aw_ret (?_))))))))))
  refine e_ret ?_
  rfl

theorem PcopyFilesA (f : Fls) (hf : FlsB f) : AFn Try.prog 63 [.agg (flsA f)] (fun r => r = .agg (flsA f)) := by
  refine enter Try.func63 rfl rfl rfl rfl rfl 0 rfl ?_
  refine w_ (b_ (h:=al_ (h:=e_ (w_ (f_ (h:=l_ (h:=?_)))))))
  refine al_p rfl (q_call (PcopiedDA f hf) ?_)
  rintro r rfl
  refine f_ (h:=s_ (h:=e_ (w_ (l_ (h:=s_ (h:=e_ (aw_ret (?_))))))))
  refine e_ret ?_
  rfl

theorem PcopyFilesG2 (f : Fls) (K : Nat) (dK : Dvc) (i : Nat) (nI : Nod) (j : Nat) (nJ : Nod) (hf : FlsB f) (hK : f[K]? = some dK) (hij : i < j) (hi : dK.nodes[i]? = some nI) (hj : dK.nodes[j]? = some nJ) (hE : 0 < nI.entries.length) (hF : 0 < nJ.entries.length) : ACall Try.prog 63 [.agg (flsA f)] [] (fun r b t => t = [] ∧ r = .agg [.bs 2 0 2 f.length f.length] ∧ b = [[.bs 2 0 2 f.length f.length], [.bs 2 0 2 f.length f.length], DB f K dK 3 f.length dK.nodes.length, NGG dK.nodes i nI 5 nI.entries.length j nJ 4 nJ.entries.length dK.nodes.length, EB nJ.entries nJ.entries.length, EB nI.entries nI.entries.length]) := by
  refine enter Try.func63 rfl rfl rfl rfl rfl 6 rfl ?_
  refine w_ (b_ (h:=al_ (h:=e_ (?_))))
  refine aw_midI (fun t => t = ⟨look [(1, .bp 0 0), (2, .bp 1 0)], ⟨[[.bs 2 0 2 f.length f.length], [.v (.slice none 0 0)], DB f K dK 3 f.length dK.nodes.length, NGG dK.nodes i nI 5 nI.entries.length j nJ 4 nJ.entries.length dK.nodes.length, EB nJ.entries nJ.entries.length, EB nI.entries nI.entries.length], []⟩⟩) ?_ ?_
  · skip
    refine aw_region (f_ (h:=l_ (h:=?_)))
    refine al_p rfl (s_callM [] rfl (.cons _ _ _ _ _ rfl (LeA.refl _) (.cons _ _ _ _ _ rfl (LeA.refl _) .nil)) (by decide) .nil (PcopiedDGG f K dK i nI j nJ hf hK hij hi hj hE hF) ?_)
    rintro r bc tc ⟨rfl, rfl, rfl⟩
    refine ⟨rfl, _, (back_devsGG (n := 2) rfl f K dK f.length dK.nodes.length dK.nodes i nI nI.entries.length j nJ nJ.entries.length dK.nodes.length nI.entries nI.entries.length nJ.entries nJ.entries.length : Back _ [] _ [_, _, _, _, _, _]), ?_⟩
    refine f_ (h:=s_ (h:=al_nil (?_)))
    refine x_then ?_
    exact ⟨_, rfl, weak_ren [0, 1, 2, 3, 5, 4] (fun i hi => absurd hi (Nat.not_lt_zero i)) (by decide) (.cons _ _ _ _ _ rfl rfl (.cons _ _ _ _ _ rfl rfl (.cons _ _ _ _ _ rfl (renK_DB (by rfl) _ _ _ _ _) (.cons _ _ _ _ _ rfl (renK_NGG (by rfl) (by rfl) _ _ _ _ _ _ _ _) (.cons _ _ _ _ _ rfl (renK_EB _ _ _) (.cons _ _ _ _ _ rfl (renK_EB _ _ _) .nil)))))) (by repeat (first | exact SubK.nil | refine SubK.cons _ _ _ _ rfl (LeA.refl _) ?_))⟩
  rintro t rfl
  refine w_ (l_ (h:=s_ (h:=e_ (aw_ret (?_)))))
  refine abody_ret none (by repeat (first | exact ResA.nil | (apply ResA.tmp; (focus exact rfl)) | (apply ResA.cellN; (focus exact inferInstance); (focus exact rfl); (focus exact rfl); (focus exact rfl)) | (apply ResA.cell1; (focus exact inferInstance); (focus exact rfl); (focus exact rfl); (focus exact rfl)))) rfl rfl (by simp [bpLtB, bpLtL, bpLt, flsA, bp_DB, bp_NGG, bp_EB, ren, backS]) (LeA.refl _) ⟨rfl, rfl, rfl⟩

theorem PcopyFilesT (f : Fls) (K : Nat) (dK : Dvc) (i : Nat) (nI : Nod) (j : Nat) (nJ : Nod) (hf : FlsB f) (hK : f[K]? = some dK) (hij : i ≠ j) (hi : dK.nodes[i]? = some nI) (hj : dK.nodes[j]? = some nJ) (hE : 0 < nI.entries.length) (hF : 0 < nJ.entries.length) : ACall Try.prog 63 [.agg (flsA f)] [] (fun r b t => t = [] ∧ r = .agg [.bs 2 0 2 f.length f.length] ∧ b = [[.bs 2 0 2 f.length f.length], [.bs 2 0 2 f.length f.length], DB f K dK 3 f.length dK.nodes.length, NY dK.nodes i nI (.bs 5 0 2 nI.entries.length nI.entries.length) j nJ (.bs 4 0 2 nJ.entries.length nJ.entries.length) dK.nodes.length, EB nJ.entries nJ.entries.length, EB nI.entries nI.entries.length]) := by
  rcases Nat.lt_or_gt_of_ne hij with h | h
  · exact PcopyFilesG2 f K dK i nI j nJ hf hK h hi hj hE hF
  rw [NY_comm hij]
  exact PcopyFilesGG f K dK j nJ i nI hf hK h hj hi hF hE
end
end Go.Proofs.Ythcbdkmhamhciaa
namespace Go.Proofs.Ythcbdkmhamhciaa
open Go.RowKit

section
set_option maxRecDepth 10000
set_option maxHeartbeats 2000000
theorem Pren_err (f : Fls) (src : Fil) (name : Str) (to : Fil) (name2 : Str) (hv : FlsV f) (hS : ¬ (srcL f src name to name2).2 = 0) : AFn Try.prog 47 [.agg (flsA f), .agg (filA src), .v (.string name), .agg (filA to), .v (.string name2)] (fun r => r = chgR (renameL f src name to name2)) := by
  have hf := hv.b
  refine enter Try.func47 rfl rfl rfl rfl rfl 0 rfl ?_
  refine w_ (b_ (h:=b_ (h:=b_ (h:=al_ (h:=a_ (h:=a_ (h:=e_ (w_ (l_ (h:=l_ (h:=m_ (h:=l_ (h:=m_ (h:=?_))))))))))))))
  refine al_p rfl (q_call (Psource f src name to name2 hv) ?_)
  rintro r rfl
  refine m_ (h:=x_ (h:=x_ (h:=al_ (h:=s_ (h:=a_ (h:=e_ (q_ (w_ (m_ (h:=nq_ (h:=e_ (?_))))))))))))
  refine aw_cond rfl (fun hb1 => ?_) (fun hb1 => ?_)
  · have hc1 := bp hb1
    refine w_ (bd_ (h:=m_ (h:=s_ (h:=a_ (h:=a_ (h:=e_ (aw_ret (x_thenR (?_)))))))))
    refine rt_ (r := chgR (renameL f src name to name2)) none (h5 := ?_) (h6 := ⟨rfl, rfl, rfl⟩)
    rw [ren_err hS]
    exact err_le _
  have hc1 := bp hb1
  exact absurd hc1 hS

theorem Pren_two (f : Fls) (src : Fil) (name : Str) (to : Fil) (name2 : Str) {q : Nat} {d : Dvc} {i : Nat} {n1 : Nod} {j : Nat} {n2 : Nod} {p k : Nat} {m : Nod} {A O : Fil} {rep : Bool} (hv : FlsV f) (hS : srcL f src name to name2 = (A, 0)) (h : Ren f src name to name2 q d i n1 j n2 p k m A) (hO : entP f to name2 = (O, rep)) (hbad : (rep = true ∧ O = A) ∨ ¬ (rep = true ∧ O = A) ∧ ren2L f src to A O (if rep = true then 0 else 2) ≠ 0) : AFn Try.prog 47 [.agg (flsA f), .agg (filA src), .v (.string name), .agg (filA to), .v (.string name2)] (fun r => r = chgR (renameL f src name to name2)) := by
  have hf := hv.b
  have hsrc : AFn Try.prog 85 [.agg (flsA f), .agg (filA src), .v (.string name), .agg (filA to), .v (.string name2)] (fun r => r = .tup [.agg (filA A), .v (.int .i64 0)]) := (Psource f src name to name2 hv).mono fun r hr => by rw [hr, hS]
  have hent : AFn Try.prog 61 [.agg (flsA f), .agg (filA to), .v (.string name2)] (fun r => r = .tup [.agg (filA O), .v (.bool rep)]) := (Pentry f to name2 hf).mono fun r hr => by rw [hr, hO]
  have hsm : rep = true → O = A → renameL f src name to name2 = (f, [], 0) := fun a b => h.same (by rw [hO]; exact a) (by rw [hO]; exact b)
  have htw : ∀ x : Int, x ≠ 0 → ¬ (rep = true ∧ O = A) → ren2L f src to A O (if rep = true then 0 else 2) = x → renameL f src name to name2 = ([], [], x) := fun x hx a b => by
    have := h.two (by rw [hO]; exact a) (by rw [hO, b]; exact hx)
    rw [hO] at this
    rw [this, b]
  refine enter Try.func47 rfl rfl rfl rfl rfl 0 rfl ?_
  refine w_ (b_ (h:=b_ (h:=b_ (h:=al_ (h:=a_ (h:=a_ (h:=e_ (w_ (l_ (h:=l_ (h:=m_ (h:=l_ (h:=m_ (h:=?_))))))))))))))
  refine al_p rfl (q_call (hsrc) ?_)
  rintro r rfl
  refine m_ (h:=x_ (h:=x_ (h:=al_ (h:=s_ (h:=a_ (h:=e_ (q_ (w_ (m_ (h:=nq_ (h:=e_ (?_))))))))))))
  refine aw_cond rfl (fun hb1 => ?_) (fun hb1 => ?_)
  · have hc1 := bp hb1
    exact absurd rfl hc1
  have hc1 := bp hb1
  refine kt_ (w_ (l_ (h:=l_ (h:=m_ (h:=?_)))))
  refine al_p rfl (q_call (hent) ?_)
  rintro r rfl
  refine m_ (h:=x_ (h:=x_ (h:=al_ (h:=s_ (h:=a_ (h:=e_ (q_ (w_ (m_ (h:=m_ (h:=?_)))))))))))
  refine al_gs true rfl rfl (fun hb2 => ?_) (fun hb2 => ?_)
  · have hc2 := bp hb2
    refine l_ (h:=l_ (h:=?_))
    refine g_y (st_binA rfl rfl (by repeat constructor) (by repeat constructor) (fun w => eqlFil _ _ _ _ w) (by kernel_rfl) ?_)
    refine pt_ (h:=e_ (?_))
    refine aw_cond rfl (fun hb3 => ?_) (fun hb3 => ?_)
    · have hc3 := bp hb3
      refine w_ (l_ (h:=?_))
      refine al_p rfl (q_call (PcopyFilesA f hf) ?_)
      rintro r rfl
      refine s_ (h:=a_ (h:=a_ (h:=e_ (aw_ret (x_thenR (?_))))))
      refine rt_ (r := chgR (renameL f src name to name2)) none (h5 := ?_) (h6 := ⟨rfl, rfl, rfl⟩)
      rw [hsm hc2 hc3]
      exact keepE_le f
    have hc3 := bp hb3
    refine kt_ (q_ (aw_block (w_ (m_ (h:=m_ (h:=l_ (h:=l_ (h:=?_))))))))
    refine g_y (q_call (PisDir f O hf) ?_)
    rintro r rfl
    refine pt_ (h:=m_ (h:=?_))
    refine al_gs true rfl rfl (fun hb4 => ?_) (fun hb4 => ?_)
    · have hc4 := bp hb4
      refine l_ (h:=l_ (h:=?_))
      refine g_y (q_call (PisDir f A hf) ?_)
      rintro r rfl
      refine nt_ (h:=pt_ (h:=a_ (h:=e_ (?_))))
      refine aw_cond rfl (fun hb5 => ?_) (fun hb5 => ?_)
      · have hc5 := bp hb5
        refine w_ (bd_ (h:=s_ (h:=a_ (h:=a_ (h:=e_ (aw_ret (x_blockR (x_thenR (?_)))))))))
        refine rt_ (r := chgR (renameL f src name to name2)) none (h5 := ?_) (h6 := ⟨rfl, rfl, rfl⟩)
        rw [htw 21 (by decide) (fun h => hc3 h.2) (by simp [ren2L, hc2, hc4, hc5])]
        exact err_le _
      have hc5 := bp hb5
      refine w_ (m_ (h:=m_ (h:=l_ (h:=l_ (h:=?_)))))
      refine g_y (q_call (PisDir f O hf) ?_)
      rintro r rfl
      refine nt_ (h:=pt_ (h:=m_ (h:=g0_ (h:=g0_ (h:=g0_ (h:=pf_ (h:=a_ (h:=e_ (cn_ (h:=w_ (m_ (h:=m_ (h:=l_ (h:=l_ (h:=?_)))))))))))))))
      refine g_y (q_call (PisDir f O hf) ?_)
      rintro r rfl
      refine pt_ (h:=m_ (h:=l_ (h:=l_ (h:=?_))))
      refine g_y (q_call (Pfind f O hf) ?_)
      rintro r (⟨e, rfl⟩ | ⟨n, e, rfl⟩)
      · rw [dirL_eq] at hc4; simp [hasG, e] at hc4
      skip
      refine k_ (h:=f_ (h:=l_ (h:=n_ (h:=gt_ (h:=pt_ (h:=a_ (h:=e_ (?_))))))))
      refine aw_cond rfl (fun hb6 => ?_) (fun hb6 => ?_)
      · have hc6 := bp hb6
        refine w_ (bd_ (h:=s_ (h:=a_ (h:=a_ (h:=e_ (aw_ret (x_blockR (x_thenR (?_)))))))))
        have hem : emptyL f O = false := by rw [emptyL_eq, show nodG f O = n by simp [nodG, e]]; simp only [List.length_map] at hc6; simp; intro hh; rw [hh] at hc6; simp at hc6
        refine rt_ (r := chgR (renameL f src name to name2)) none (h5 := ?_) (h6 := ⟨rfl, rfl, rfl⟩)
        rw [htw 39 (by decide) (fun h => hc3 h.2) (by simp [ren2L, hc2, hc4, hc5, hem])]
        exact err_le _
      have hc6 := bp hb6
      exfalso
      have hem : emptyL f O = true := by rw [emptyL_eq, show nodG f O = n by simp [nodG, e]]; simp only [List.length_map] at hc6; simp; exact List.length_eq_zero_iff.1 (by omega)
      rcases hbad with hb | ⟨-, hb⟩
      · exact hc3 hb.2
      exact hb (by simp [ren2L, hc2, hc4, hc5, hem])
    have hc4 := bp hb4
    refine g0_ (h:=g0_ (h:=g0_ (h:=g0_ (h:=pf_ (h:=a_ (h:=e_ (cn_ (h:=w_ (m_ (h:=m_ (h:=l_ (h:=l_ (h:=?_)))))))))))))
    refine g_y (q_call (PisDir f O hf) ?_)
    rintro r rfl
    refine nt_ (h:=pt_ (h:=m_ (h:=l_ (h:=l_ (h:=?_)))))
    refine g_y (q_call (PisDir f A hf) ?_)
    rintro r rfl
    refine pt_ (h:=a_ (h:=e_ (?_)))
    refine aw_cond rfl (fun hb7 => ?_) (fun hb7 => ?_)
    · have hc7 := bp hb7
      refine w_ (bd_ (h:=s_ (h:=a_ (h:=a_ (h:=e_ (aw_ret (x_blockR (x_thenR (?_)))))))))
      refine rt_ (r := chgR (renameL f src name to name2)) none (h5 := ?_) (h6 := ⟨rfl, rfl, rfl⟩)
      rw [htw 20 (by decide) (fun h => hc3 h.2) (by simp [ren2L, hc2, hc4, hc7])]
      exact err_le _
    have hc7 := bp hb7
    exfalso
    rcases hbad with hb | ⟨-, hb⟩
    · exact hc3 hb.2
    exact hb (by simp [ren2L, hc2, hc4, hc7])
  have hc2 := bp hb2
  refine g0_ (h:=g0_ (h:=g0_ (h:=pf_ (h:=e_ (cn_ (h:=kt_ (q_ (aw_block (w_ (m_ (h:=m_ (h:=g0_ (h:=g0_ (h:=g0_ (h:=pf_ (h:=m_ (h:=g0_ (h:=g0_ (h:=g0_ (h:=g0_ (h:=pf_ (h:=a_ (h:=e_ (?_))))))))))))))))))))))))
  refine cn_ (h:=w_ (m_ (h:=m_ (h:=g0_ (h:=g0_ (h:=g0_ (h:=g0_ (h:=pf_ (h:=m_ (h:=g0_ (h:=g0_ (h:=g0_ (h:=pf_ (h:=a_ (h:=e_ (cn_ (h:=w_ (m_ (h:=m_ (h:=g0_ (h:=g0_ (h:=g0_ (h:=pf_ (h:=?_))))))))))))))))))))))))
  refine m_ (h:=g0_ (h:=g0_ (h:=g0_ (h:=g0_ (h:=g0_ (h:=g0_ (h:=g0_ (h:=g0_ (h:=pf_ (h:=a_ (h:=e_ (cn_ (h:=w_ (m_ (h:=nt_ (h:=m_ (h:=l_ (h:=l_ (h:=?_)))))))))))))))))))
  refine g_y (q_call (Pfull f to hf) ?_)
  rintro r rfl
  refine pt_ (h:=m_ (h:=?_))
  refine al_gs true rfl rfl (fun hb8 => ?_) (fun hb8 => ?_)
  · have hc8 := bp hb8
    refine l_ (h:=l_ (h:=?_))
    refine g_y (st_binA rfl rfl (by repeat constructor) (by repeat constructor) (fun w => neqlFil _ _ _ _ w) (by kernel_rfl) ?_)
    refine pt_ (h:=a_ (h:=e_ (?_)))
    refine aw_cond rfl (fun hb9 => ?_) (fun hb9 => ?_)
    · have hc9 := bp hb9
      refine w_ (bd_ (h:=s_ (h:=a_ (h:=a_ (h:=e_ (aw_ret (x_blockR (x_thenR (?_)))))))))
      refine rt_ (r := chgR (renameL f src name to name2)) none (h5 := ?_) (h6 := ⟨rfl, rfl, rfl⟩)
      rw [htw 28 (by decide) (fun h => by rw [h.1] at hc2; cases hc2) (by simp [ren2L, hc2, hc8]; intro hh; exact hc9 hh)]
      exact err_le _
    have hc9 := bp hb9
    exfalso
    rcases hbad with hb | ⟨-, hb⟩
    · rw [hb.1] at hc2; cases hc2
    exact hb (by simp [ren2L, hc2, hc8]; exact hc9)
  have hc8 := bp hb8
  exfalso
  rcases hbad with hb | ⟨-, hb⟩
  · rw [hb.1] at hc2; cases hc2
  exact hb (by simp [ren2L, hc2, hc8])

end
end Go.Proofs.Ythcbdkmhamhciaa
