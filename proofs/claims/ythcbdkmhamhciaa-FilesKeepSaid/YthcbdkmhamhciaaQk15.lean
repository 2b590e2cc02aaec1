/-
  Part 15 of the proof of FilesKeepP: what the statement's proof uses of the texts in wip/tpl.
-/
import Derived.Test.YthcbdkmhamhciaaQk14
namespace Go.Proofs.Ythcbdkmhamhciaa
open Go.RowKit
theorem wq_ {f : Nat → Option AV} {bx rows : List (List AV)} {tk : List Tok} {l : List (Nat × AV)} {k : Nat} (is : List Nat) (hh : HandK bx (fun j => plcOf' j is 0) is rows) (hnd : is.Nodup := by decide) (hl : SubK (fun j => plcOf' j is 0) f l := by repeat (first | exact SubK.nil | refine SubK.cons _ _ _ _ rfl (LeA.refl _) ?_)) : Weak ⟨k, 0⟩ ⟨f, ⟨bx, tk⟩⟩ ⟨look l, ⟨rows, tk⟩⟩ := weak_ren is (fun _ hi => absurd hi (Nat.not_lt_zero _)) hnd hh hl
theorem wf_ {f : Nat → Option AV} {bx bx' : List (List AV)} {tk : List Tok} {l : List (Nat × AV)} {N : Dim} (n k : Nat) (hb : (bx.take n).map (livL n (frzG n bx k)) = bx') (hn : Nat.ble N.ni n = true := by rfl) (hl : SubF n (frzG n bx k) f l := by repeat (first | exact SubF.nil | refine SubF.cons _ _ _ _ rfl (LeA.refl _) ?_)) : Weak N ⟨f, ⟨bx, tk⟩⟩ ⟨look l, ⟨bx', tk⟩⟩ := weak_fz n k hn hb hl
theorem back_copyT {bx : List (List AV)} {n : Nat} (hn : bx.length = n) (f : Fls) (K : Nat) (d : Dvc) (i : Nat) (nI : Nod) (j : Nat) (nJ : Nod) (L m l l' : Nat) : Back bx [] [[.bs 2 0 2 L L], [.bs 2 0 2 L L], DB f K d 3 L m, NY d.nodes i nI (.bs 5 0 2 l l) j nJ (.bs 4 0 2 l' l') m, EB nJ.entries l', EB nI.entries l] (bx ++ [[.bs (n + 2) 0 2 L L], [.bs (n + 2) 0 2 L L], DB f K d (n + 3) L m, NY d.nodes i nI (.bs (n + 5) 0 2 l l) j nJ (.bs (n + 4) 0 2 l' l') m, EB nJ.entries l', EB nI.entries l]) := by
 subst hn
 have := back_F (bx := bx) (is := []) (bc := [[.bs 2 0 2 L L], [.bs 2 0 2 L L], DB f K d 3 L m, NY d.nodes i nI (.bs 5 0 2 l l) j nJ (.bs 4 0 2 l' l') m, EB nJ.entries l', EB nI.entries l]) List.nodup_nil (by simp) (by simp)
 have e1 : renL (backS [] bx.length) (DB f K d 3 L m) = DB f K d (bx.length + 3) L m := ren_DB (by simp [backS]) _ _ _ _ _
 have e2 : renL (backS [] bx.length) (NY d.nodes i nI (.bs 5 0 2 l l) j nJ (.bs 4 0 2 l' l') m) = NY d.nodes i nI (.bs (bx.length + 5) 0 2 l l) j nJ (.bs (bx.length + 4) 0 2 l' l') m := ren_NY (by simp [ren, backS]) (by simp [ren, backS])
 have e3 : renL (backS [] bx.length) [.bs 2 0 2 L L] = [.bs (bx.length + 2) 0 2 L L] := by simp [renL, ren, backS]
 simpa [backF, ren_EB, e1, e2, e3] using this
theorem back_dropY {bx : List (List AV)} {i1 i2 i3 : Nat} (h1 : i1 < bx.length) (h2 : i2 < bx.length) (h3 : i3 < bx.length) (h12 : i1 ≠ i2) (h13 : i1 ≠ i3) (h23 : i2 ≠ i3) {ns : List Nod} {i : Nat} {nI : Nod} {l c : Nat} {j : Nat} {nJ : Nod} {l' c' m : Nat} {es es' : List Ent} {c2 c3 : Nat} : Back bx [i1, i2, i3] [NY ns i nI (.bs 2 0 2 l c) j nJ (.bs 1 0 2 l' c') m, EB es c2, EB es' c3] (((bx.set i1 (NY ns i nI (.bs i3 0 2 l c) j nJ (.bs i2 0 2 l' c') m)).set i2 (EB es c2)).set i3 (EB es' c3)) := by
 have := back_F (bx := bx) (is := [i1, i2, i3]) (bc := [NY ns i nI (.bs 2 0 2 l c) j nJ (.bs 1 0 2 l' c') m, EB es c2, EB es' c3]) (by simp [h12, h13, h23]) (by simp [h1, h2, h3]) (by simp)
 have e1 : renL (backS [i1, i2, i3] bx.length) (NY ns i nI (.bs 2 0 2 l c) j nJ (.bs 1 0 2 l' c') m) = NY ns i nI (.bs i3 0 2 l c) j nJ (.bs i2 0 2 l' c') m := ren_NY (by simp [ren, backS]) (by simp [ren, backS])
 simpa [backF, ren_EB, e1] using this
theorem back_putY {bx : List (List AV)} {i1 i2 : Nat} (h1 : i1 < bx.length) (h2 : i2 < bx.length) (hne : i1 ≠ i2) {ns : List Nod} {i : Nat} {nI : Nod} {sz : Nat} {rows : List (List AV)} {j : Nat} {nJ : Nod} {l c m : Nat} {es : List Ent} {c2 : Nat} : Back bx [i1, i2] [NY ns i nI (.sl sz rows none) j nJ (.bs 1 0 2 l c) m, EB es c2] ((bx.set i1 (NY ns i nI (.sl sz rows none) j nJ (.bs i2 0 2 l c) m)).set i2 (EB es c2)) := by
 have := back_F (bx := bx) (is := [i1, i2]) (bc := [NY ns i nI (.sl sz rows none) j nJ (.bs 1 0 2 l c) m, EB es c2]) (by simpa using hne) (by simp [h1, h2]) (by simp)
 have e1 : renL (backS [i1, i2] bx.length) (NY ns i nI (.sl sz rows none) j nJ (.bs 1 0 2 l c) m) = NY ns i nI (.sl sz rows none) j nJ (.bs i2 0 2 l c) m := ren_NY rfl (by simp [ren, backS])
 simpa [backF, ren_EB, e1] using this
theorem back_putB {bx : List (List AV)} {n i1 i2 : Nat} (hn : bx.length = n) (h1 : i1 < n) (h2 : i2 < n) (hne : i1 ≠ i2) {ns : List Nod} {i : Nat} {nI : Nod} {sz : Nat} {rows : List (List AV)} {j : Nat} {nJ : Nod} {l c m : Nat} {es : List Ent} {c2 : Nat} {es' : List Ent} {c3 : Nat} : Back bx [i1, i2] [NY ns i nI (.sl sz rows none) j nJ (.bs 2 0 2 l c) m, EB es c2, EB es' c3] (((bx.set i1 (NY ns i nI (.sl sz rows none) j nJ (.bs n 0 2 l c) m)).set i2 (EB es c2)) ++ [EB es' c3]) := by
 subst hn
 have := back_F (bx := bx) (is := [i1, i2]) (bc := [NY ns i nI (.sl sz rows none) j nJ (.bs 2 0 2 l c) m, EB es c2, EB es' c3]) (by simpa using hne) (by simp [h1, h2]) (by simp)
 have e1 : renL (backS [i1, i2] bx.length) (NY ns i nI (.sl sz rows none) j nJ (.bs 2 0 2 l c) m) = NY ns i nI (.sl sz rows none) j nJ (.bs bx.length 0 2 l c) m := ren_NY rfl (by simp [ren, backS])
 simpa [backF, ren_EB, e1] using this
theorem livL_EB (n : Nat) (g : Nat → Option (List AV)) (es : List Ent) (cap : Nat) : livL n g (EB es cap) = EB es cap := by
 rw [livL_map]
 exact map_plain rfl (fun _ => rfl) (ent_plain es)
theorem NX_NY {ns : List Nod} {i : Nat} {nI : Nod} {e : AV} {j : Nat} {nJ : Nod} {m : Nat} (hij : i ≠ j) (hj : ns[j]? = some nJ) (h0 : nJ.entries = []) : NX ns i nI e m = NY ns i nI e j nJ (.v (.slice none 0 0)) m := by
 unfold NX NY
 congr 1
 have e9 : nodX nJ (.v (.slice none 0 0)) = nodF nJ := by unfold nodF entX; rw [if_pos h0]
 rw [e9]
 apply List.ext_getElem?
 intro k
 conv => rhs; rw [List.getElem?_set]
 split
 ·rename_i hk
  subst hk
  rw [List.getElem?_set_ne hij, List.getElem?_map, hj]
  simp [(List.getElem?_eq_some_iff.1 hj).1]
 rfl
theorem par_inos (X : List Nod) (a p : Int) (b : Bool) : (renPar X a p b).map (·.ino) = X.map (·.ino) := by
 unfold renPar
 split
 ·unfold updI
  rw [List.map_map]
  apply List.map_congr_left
  intro n _
  simp only [Function.comp]
  split <;> rfl
 rfl
theorem par_fb {f : Fls} {q : Nat} {x : Int} {X : List Nod} {a p : Int} {b : Bool} (h : FlsB (f.set q ⟨x, X⟩)) : FlsB (f.set q ⟨x, renPar X a p b⟩) := by
 by_cases hq : q < f.length
 ·have hm : (⟨x, X⟩ : Dvc) ∈ f.set q ⟨x, X⟩ := List.mem_of_getElem? (List.getElem?_set_self hq)
  have h1 := h.nodes _ hm
  have h2 := h.ents _ hm
  have key := h.set_ (q := q) (d' := ⟨x, renPar X a p b⟩) (by show (renPar X a p b).length ≤ 1000; rw [inos_len (par_inos X a p b)]; exact h1) (by
   intro n hn
   change n ∈ renPar X a p b at hn
   unfold renPar at hn
   split at hn
   ·unfold updI at hn
    obtain ⟨y, hy, rfl⟩ := List.mem_map.1 hn
    have := h2 y hy
    split <;> exact this
   exact h2 n hn)
  rw [List.set_set] at key
  exact key
 rw [List.set_eq_of_length_le (by omega)] at h ⊢
 exact h
theorem ren_DB3 {g : Nat → Option Nat} {j j' : Nat} {f : Fls} {q : Nat} {d d' D : Dvc} {cap cap1 : Nat} (hn : d'.next = d.next) (hl : d'.nodes.length = d.nodes.length) (h : g j = some j') (hDn : D.next = d.next := by assumption) (hDl : D.nodes.length = d.nodes.length := by assumption) : renL g (DB f q D j cap cap1) = DB f q d' j' cap cap1 := by
 rw [ren_DB h, DB_same (d' := d') (by rw [hn, hDn]) (by rw [hl, hDl])]
section
set_option maxRecDepth 10000
set_option maxHeartbeats 4000000
theorem Pren_SA (f : Fls) (src : Fil) (name : Str) (to : Fil) (name2 : Str) {q : Nat} {d : Dvc} {i : Nat} {n1 : Nod} {p k : Nat} {m : Nod} {A O : Fil} (hv : FlsV f) (hS : srcL f src name to name2 = (A, 0)) (h : Ren f src name to name2 q d i n1 i n1 p k m A) (hO : entP f to name2 = (O, true)) (hns : ¬ O = A) (h2 : ren2L f src to A O 0 = 0)  : AFn Try.prog 47 [.agg (flsA f), .agg (filA src), .v (.string name), .agg (filA to), .v (.string name2)] (fun r => r = chgR (renameL f src name to name2)) := by
 have hf := hv.b
 have hsrc : AFn Try.prog 85 [.agg (flsA f), .agg (filA src), .v (.string name), .agg (filA to), .v (.string name2)] (fun r => r = .tup [.agg (filA A), .v (.int .i64 0)]) := (Psource f src name to name2 hv).mono fun r hr => by rw [hr, hS]
 have hent : AFn Try.prog 61 [.agg (flsA f), .agg (filA to), .v (.string name2)] (fun r => r = .tup [.agg (filA O), .v (.bool true)]) := (Pentry f to name2 hf).mono fun r hr => by rw [hr, hO]
 have hvd := hv.vd d (List.mem_of_getElem? h.hq)
 have hil := (List.getElem?_eq_some_iff.1 h.hi).1
 have hjl := (List.getElem?_eq_some_iff.1 h.hj).1
 have hql := (List.getElem?_eq_some_iff.1 h.hq).1
 have hfew := hf.few
 have hdn := hf.nodes d (List.mem_of_getElem? h.hq)
 have hen1 := hf.ents d (List.mem_of_getElem? h.hq) n1 (List.mem_of_getElem? h.hi)
 have hen2 := hf.ents d (List.mem_of_getElem? h.hq) n1 (List.mem_of_getElem? h.hj)
 obtain ⟨ep, hpe, hpn⟩ := h.hp
 have hpl := (List.getElem?_eq_some_iff.1 hpe).1
 have hE : 0 < n1.entries.length := by omega
 have hlen1 : (n1.entries.eraseIdx p).length = n1.entries.length - 1 := by rw [List.length_eraseIdx, if_pos hpl]
 have hfst1 : ∀ l x, l < i → d.nodes[l]? = some x → x.ino ≠ src.2 := fun l x hl hx => by rw [← h.hii]; exact asc_un hvd.asc h.hi l x hx (by omega)
 have hfst2 : ∀ l x, l < i → d.nodes[l]? = some x → x.ino ≠ to.2 := fun l x hl hx => by rw [← h.hjj]; exact asc_un hvd.asc h.hj l x hx (by omega)
 have hso := hvd.sorted n1 (List.mem_of_getElem? h.hi)
 have hsu := sorted_un hso hpe
 have hfsp : ∀ k e, k < p → n1.entries[k]? = some e → e.1 ≠ name := fun l x hl hx => by rw [← hpn]; exact hsu l x hx (by omega)
 have hee : n1.entries.eraseIdx p = entL n1.entries name 0 := by rw [entL_zero]; exact (without_erase hpe hpn (fun j x hj hne => by rw [← hpn]; exact hsu j x hj hne)).symm
 have hso1 : Sorted (n1.entries.eraseIdx p) := by rw [hee]; exact entL_sorted hso _ _
 have hm2 : (entS d.nodes i n1 name 0)[i]? = some { n1 with entries := entL n1.entries name 0 } := by unfold entS; rw [List.getElem?_set_self hil]
 have hx := h.x hv hm2 rfl
 obtain ⟨X, hX⟩ : ∃ X, X = entS (entS d.nodes i n1 name 0) i { n1 with entries := entL n1.entries name 0 } name2 A.2 := ⟨_, rfl⟩
 rw [← hX] at hx
 have hXe : X = d.nodes.set i { n1 with entries := entL (n1.entries.eraseIdx p) name2 A.2 } := by rw [hX]; unfold entS; rw [List.set_set, hee]
 obtain ⟨eo, o, heo, hleo, hom, heoi, heo1, hon⟩ := look_node hv h.tq h.hq h.hj h.n2o h.k2 (name := name2) (by rw [h.look2, hO]; rfl)
 have hOe : O = (to.1, eo.2) := by rw [h.look2, hO] at hleo; exact congrArg Prod.fst hleo
 obtain ⟨heom, heon⟩ := entF_some heo
 have hne : name ≠ name2 := by
  rintro rfl
  have hts : to = src := Prod.ext (by rw [h.tq, h.sq]) (by rw [← h.hjj, ← h.hii])
  have hA := h.hA
  have hl2 := h.look2
  rw [hts] at hl2 hO
  rw [hA, hO] at hl2
  exact hns (congrArg Prod.fst hl2).symm
 obtain ⟨p2, hpe2⟩ : ∃ p2 : Nat, (n1.entries.eraseIdx p)[p2]? = some eo := List.getElem?_of_mem (by rw [hee, entL_zero]; exact List.mem_filter.2 ⟨heom, decide_eq_true (by rw [heon]; exact fun hh => hne hh.symm)⟩)
 obtain ⟨e2, he2⟩ : ∃ e2 : Ent, e2 = eo := ⟨_, rfl⟩
 rw [← he2] at hpe2
 have hpn2 : e2.1 = name2 := by rw [he2]; exact heon
 have hsu2 := sorted_un hso1 hpe2
 have hrepl := entL_repl (ino := A.2) h.a0 hso1 hpe2 hpn2
 have hfsp2 : ∀ k e, k < p2 → (n1.entries.eraseIdx p)[k]? = some e → e.1 ≠ name2 := fun l x hl hx => by rw [← hpn2]; exact hsu2 l x hx (by omega)
 obtain ⟨D, hD⟩ : ∃ D : Dvc, D = ⟨d.next, X⟩ := ⟨_, rfl⟩
 have hDn : D.next = d.next := by rw [hD]
 have hDX : D.nodes = X := by rw [hD]
 have hDl : D.nodes.length = d.nodes.length := by rw [hDX]; exact inos_len hx.inos
 obtain ⟨RN, hRN⟩ : ∃ RN, RN = (d.nodes.map nodF).set i (nodX n1 (.sl 2 (((n1.entries.eraseIdx p).set p2 (name2, A.2)).map entA) none)) := ⟨_, rfl⟩
 have hR : RowsN RN D.nodes := by rw [hRN, hD]; show RowsN _ X; rw [hXe, hrepl]; exact rowsN_set _ _ _ _
 have hB : FlsB (f.set q D) := by rw [hD]; exact hx.fb
 have hdir : dirL (f.set q D) A = dirL f A := by rw [hD]; exact hx.dir h hv
 have hascX := hx.asc hv h.hq
 obtain ⟨mk, hmk, hmki, hmkk⟩ := hx.kinds k m h.hk
 have hmkD : D.nodes[k]? = some mk := by rw [hDX]; exact hmk
 have hmkA : mk.ino = A.2 := by rw [hmki, h.hm]
 obtain ⟨RP, hRP, hsetP⟩ := par_rows hR hmkD to.2 (cap := d.nodes.length)
 obtain ⟨D3, hD3⟩ : ∃ D3 : Dvc, D3 = ⟨d.next, renPar X A.2 to.2 (dirL f A)⟩ := ⟨_, rfl⟩
 have hparT : dirL f A = true → RowsN RP D3.nodes := fun hb => by
  rw [hD3, hb]
  show RowsN RP (renPar X A.2 to.2 true)
  unfold renPar
  rw [if_pos rfl, ← hmkA, ← set_updI hascX hmk (fun n => { n with parent := to.2 }), ← hDX]
  exact hRP
 have hparF : dirL f A = false → RowsN RN D3.nodes := fun hb => by
  rw [hD3, hb]
  show RowsN RN (renPar X A.2 to.2 false)
  unfold renPar
  rw [if_neg (by decide), ← hDX]
  exact hR
 have hi3 : D3.nodes.map (·.ino) = d.nodes.map (·.ino) := by rw [hD3]; exact (par_inos _ _ _ _).trans hx.inos
 have hD3l : D3.nodes.length = d.nodes.length := inos_len hi3
 have hD3n : D3.next = d.next := by rw [hD3]
 have hDB3 : DB f q D 7 f.length d.nodes.length = DB f q D3 7 f.length d.nodes.length := DB_same (by rw [hD3n, hDn]) (by rw [hD3l, hDl]) _ _ _
 have hle : LeA (lowG (frzG 0 [[.bs 6 0 2 f.length f.length], filA src, filA to, [.v (.slice none 0 0)], filA A, filA O, DB f q D 7 f.length d.nodes.length, rowsB 8 d.nodes.length RN] 3) (.agg [.bs 6 0 2 f.length f.length])) (.agg (flsA (f.set q D))) := by
  show LeA (.agg [lowG _ _]) _
  rw [low_rows (n := 0) (i0 := 6) (i1 := 7) hR hql (Nat.le_refl _) (Nat.le_of_eq hDl) (Nat.zero_le _) (Nat.zero_le _) rfl rfl]
  exact resD_leN hR
 have hfindA := PfindR0 f q D k mk A (rowsB 8 D.nodes.length RN) (fun j x hx => hR.ino j x hx) (fun _ _ => bp_pln hR.pln _ _) hql hmkD h.aq hmkA (fun l x hl hx => by rw [← hmkA]; exact asc_un (by rw [hDX]; exact hascX) hmkD l x hx (by omega)) hfew (by omega)
 rw [hDl] at hfindA
 obtain ⟨l, hl⟩ := List.getElem?_of_mem hom
 have hO2 : o.ino = O.2 := by rw [hOe]; exact heoi.symm
 obtain ⟨o3, ho3, ho3i⟩ := inos_at hi3 hl
 have hrel : ∀ RQ, RowsN RQ D3.nodes → ACall Try.prog 87 [.agg [.bs 0 0 2 f.length f.length], .agg (filA O)] [DB f q D3 1 f.length d.nodes.length, rowsB 8 d.nodes.length RQ] (fun r b t => t = [] ∧ r = .tup [] ∧ ∃ RN', RowsN RN' (dropI D3.nodes O.2) ∧ b = [DB f q ⟨d.next, dropI D3.nodes O.2⟩ 1 f.length d.nodes.length, rowsB 8 d.nodes.length RN']) := fun RQ hRQ => by
  have := Prelease f q D3 RQ O l hRQ hql (by rw [hOe]; exact h.tq) ⟨o3, ho3, by rw [ho3i, hO2]⟩ (fun a b hb hne => by rw [← hO2, ← ho3i]; exact asc_un (asc_mp hi3 hvd.asc) ho3 a b hb hne) (by rw [hD3]; exact par_fb hx.fb)
  rw [hD3l, hD3n] at this
  exact this
 have hdl4 : (dropI D3.nodes O.2).length ≤ d.nodes.length := Nat.le_trans (List.length_filter_le _ _) (Nat.le_of_eq hD3l)
 have hfin : renameL f src name to name2 = (f.set q ⟨d.next, dropI D3.nodes O.2⟩, [(src, name, A, (0, 0)), (to, name2, O, A)], 0) := by
  rw [h.done hv (by rw [hO]; exact fun hh => hns hh.2) (by rw [hO]; exact h2) hx.eq, hO, if_pos rfl, hD3]
 refine enter Try.func47 rfl rfl rfl rfl rfl 0 rfl ?_
 refine w_ (b_ (h:=b_ (h:=b_ (h:=al_ (h:=a_ (h:=a_ (h:=e_ (w_ (l_ (h:=l_ (h:=m_ (h:=l_ (h:=m_ (h:=?_))))))))))))))
 refine al_p rfl (q_call (hsrc) ?_)
 rintro r rfl
 refine m_ (h:=x_ (h:=x_ (h:=al_ (h:=s_ (h:=a_ (h:=e_ (q_ (w_ (m_ (h:=nq_ (h:=e_ (?_))))))))))))
 refine aw_cond rfl (fun hb1 => ?_) (fun hb1 => ?_)
 ·have hc1 := bp hb1
  exact absurd rfl hc1
 have hc1 := bp hb1
 refine kt_ (w_ (l_ (h:=l_ (h:=m_ (h:=?_)))))
 refine al_p rfl (q_call (hent) ?_)
 rintro r rfl
 refine m_ (h:=x_ (h:=x_ (h:=al_ (h:=s_ (h:=a_ (h:=e_ (q_ (w_ (m_ (h:=m_ (h:=?_)))))))))))
 refine al_gs true rfl rfl (fun hb2 => ?_) (fun hb2 => ?_)
 ·have hc2 := bp hb2
  refine l_ (h:=l_ (h:=?_))
  refine g_y (st_binA rfl rfl (by repeat constructor) (by repeat constructor) (fun w => eqlFil _ _ _ _ w) (by kernel_rfl) ?_)
  refine pt_ (h:=e_ (?_))
  refine aw_cond rfl (fun hb3 => ?_) (fun hb3 => ?_)
  ·have hc3 := bp hb3
   exact absurd hc3 hns
  have hc3 := bp hb3
  refine kt_ (?_)
  refine aw_midI (fun t => t = ⟨look [(2, .v (.string name)), (4, .v (.string name2)), (5, .bp 0 0), (6, .bp 1 0), (8, .bp 2 0), (10, .bp 3 0), (13, .bp 4 0), (15, .bp 5 0), (16, .v (.bool true))], ⟨[flsA f, filA src, filA to, [.v (.slice none 0 0)], filA A, filA O], []⟩⟩) ?_ ?_
  ·skip
   refine aw_block (w_ (m_ (h:=m_ (h:=l_ (h:=l_ (h:=?_))))))
   refine g_y (q_call (PisDir f O hf) ?_)
   rintro r rfl
   refine pt_ (h:=m_ (h:=?_))
   refine al_gs true rfl rfl (fun hb4 => ?_) (fun hb4 => ?_)
   ·have hc4 := bp hb4
    have hg4 : (!dirL f O) = false := by rw [hc4]; rfl
    refine l_ (h:=l_ (h:=?_))
    refine g_y (q_call (PisDir f A hf) ?_)
    rintro r rfl
    refine nt_ (h:=pt_ (h:=a_ (h:=e_ (?_))))
    refine aw_cond rfl (fun hb5 => ?_) (fun hb5 => ?_)
    ·have hc5 := bp hb5
     exact absurd h2 (by simp [ren2L, hc4, hc5])
    have hc5 := bp hb5
    refine w_ (m_ (h:=m_ (h:=l_ (h:=l_ (h:=?_)))))
    refine g_y (q_call (PisDir f O hf) ?_)
    rintro r rfl
    refine nt_ (h:=pt_ (h:=m_ (h:=g0_ (h:=g0_ (h:=g0_ (h:=pf_ (h:=a_ (h:=e_ (cn_ (h:=w_ (m_ (h:=m_ (h:=l_ (h:=l_ (h:=?_)))))))))))))))
    refine g_y (q_call (PisDir f O hf) ?_)
    rintro r rfl
    refine pt_ (h:=m_ (h:=l_ (h:=l_ (h:=?_))))
    refine g_y (q_call (Pfind f O hf) ?_)
    rintro r (⟨e, rfl⟩ | ⟨n, e, rfl⟩)
    ·exfalso; rw [dirL_eq] at hc4; simp [hasG, e] at hc4
    skip
    refine k_ (h:=f_ (h:=l_ (h:=n_ (h:=gt_ (h:=pt_ (h:=a_ (h:=e_ (?_))))))))
    refine aw_cond rfl (fun hb6 => ?_) (fun hb6 => ?_)
    ·have hc6 := bp hb6
     exfalso
     have hem : emptyL f O = false := by rw [emptyL_eq, show nodG f O = n by simp [nodG, e]]; simp only [List.length_map] at hc6; simp; intro hh; rw [hh] at hc6; simp at hc6
     exact absurd h2 (by simp [ren2L, hc4, hc5, hem])
    have hc6 := bp hb6
    refine w_ (m_ (h:=nt_ (h:=m_ (h:=g0_ (h:=g0_ (h:=g0_ (h:=pf_ (h:=m_ (h:=g0_ (h:=g0_ (h:=g0_ (h:=pf_ (h:=a_ (h:=e_ (cn_ (h:=aw_skip (x_blockN (?_))))))))))))))))))
    refine x_then ?_
    exact ⟨_, rfl, (wk 6 0)⟩
   have hc4 := bp hb4
   have hg4 : (!dirL f O) = true := by rw [hc4]; rfl
   refine g0_ (h:=g0_ (h:=g0_ (h:=g0_ (h:=pf_ (h:=a_ (h:=e_ (cn_ (h:=w_ (m_ (h:=m_ (h:=l_ (h:=l_ (h:=?_)))))))))))))
   refine g_y (q_call (PisDir f O hf) ?_)
   rintro r rfl
   refine nt_ (h:=pt_ (h:=m_ (h:=l_ (h:=l_ (h:=?_)))))
   refine g_y (q_call (PisDir f A hf) ?_)
   rintro r rfl
   refine pt_ (h:=a_ (h:=e_ (?_)))
   refine aw_cond rfl (fun hb7 => ?_) (fun hb7 => ?_)
   ·have hc7 := bp hb7
    exact absurd h2 (by simp [ren2L, hc4, hc7])
   have hc7 := bp hb7
   refine w_ (m_ (h:=m_ (h:=l_ (h:=l_ (h:=?_)))))
   refine g_y (q_call (PisDir f O hf) ?_)
   rintro r rfl
   refine pt_ (h:=m_ (h:=g0_ (h:=g0_ (h:=g0_ (h:=g0_ (h:=g0_ (h:=g0_ (h:=g0_ (h:=g0_ (h:=pf_ (h:=a_ (h:=e_ (cn_ (h:=w_ (m_ (h:=nt_ (h:=m_ (h:=g0_ (h:=g0_ (h:=g0_ (h:=pf_ (h:=m_ (h:=g0_ (h:=?_))))))))))))))))))))))))
   refine g0_ (h:=g0_ (h:=pf_ (h:=a_ (h:=e_ (cn_ (h:=aw_skip (x_blockN (?_))))))))
   refine x_then ?_
   exact ⟨_, rfl, (wk 6 0)⟩
  rintro t rfl
  refine aw_midI (fun t => t = ⟨look [(2, .v (.string name)), (4, .v (.string name2)), (5, .bp 0 0), (6, .bp 1 0), (8, .bp 2 0), (10, .bp 3 0), (13, .bp 4 0), (15, .bp 5 0), (16, .v (.bool true))], ⟨[[.bs 6 0 2 f.length f.length], filA src, filA to, [.v (.slice none 0 0)], filA A, filA O, DB f q d 7 f.length d.nodes.length, NX d.nodes i n1 (.bs 8 0 2 n1.entries.length n1.entries.length) d.nodes.length, EB n1.entries n1.entries.length], []⟩⟩) ?_ ?_
  ·skip
   refine aw_region (l_ (h:=?_))
   refine al_p rfl (s_callM [] rfl (.cons _ _ _ _ _ rfl (LeA.refl _) .nil) (by decide) .nil (PcopyFilesG f q d i n1 hf h.hq h.hi hE) ?_)
   rintro r bc tc ⟨rfl, rfl, rfl⟩
   refine ⟨rfl, _, (back_copyG (n := 6) rfl f q d i n1 f.length d.nodes.length n1.entries.length : Back _ [] _ [_, _, _, _, _, _, _, _, _, _, _]), ?_⟩
   refine s_ (h:=al_nil (?_))
   refine x_then ?_
   exact ⟨_, rfl, wq_ [0, 1, 2, 3, 4, 5, 8, 9, 10] (.cons _ _ _ _ _ rfl rfl (.cons _ _ _ _ _ rfl rfl (.cons _ _ _ _ _ rfl rfl (.cons _ _ _ _ _ rfl rfl (.cons _ _ _ _ _ rfl rfl (.cons _ _ _ _ _ rfl rfl (.cons _ _ _ _ _ rfl (renK_DB (by rfl) _ _ _ _ _) (.cons _ _ _ _ _ rfl (renK_NX (by rfl)) (.cons _ _ _ _ _ rfl (renK_EB _ _ _) .nil)))))))))⟩
  rintro t rfl
  refine aw_midI (fun t => t = ⟨look [(2, .v (.string name)), (4, .v (.string name2)), (5, .bp 0 0), (6, .bp 1 0), (8, .bp 2 0), (10, .bp 3 0), (13, .bp 4 0), (15, .bp 5 0), (16, .v (.bool true))], ⟨[[.bs 6 0 2 f.length f.length], filA src, filA to, [.v (.slice none 0 0)], filA A, filA O, DB f q d 7 f.length d.nodes.length, NX d.nodes i n1 (.bs 8 0 2 (n1.entries.eraseIdx p).length n1.entries.length) d.nodes.length, EB (n1.entries.eraseIdx p) n1.entries.length], []⟩⟩) ?_ ?_
  ·skip
   refine aw_region (l_ (h:=l_ (h:=?_)))
   refine al_p rfl (s_callM [6, 7, 8] rfl (.cons _ _ _ _ _ rfl (LeA.refl _) (.cons _ _ _ _ _ rfl (LeA.refl _) .nil)) (by decide) (.cons _ _ _ _ _ rfl (ren_DB (by rfl) _ _ _ _ _) (.cons _ _ _ _ _ rfl (ren_NX (by rfl)) (.cons _ _ _ _ _ rfl (ren_EB _ _ _) .nil))) (PfindBG f q d i n1 src h.hq h.hi h.sq h.hii hfst1 (by omega) (by omega)) ?_)
   rintro r bc tc ⟨rfl, rfl, rfl⟩
   refine ⟨rfl, _, back_find rfl rfl rfl, ?_⟩
   refine m_ (h:=?_)
   refine al_p rfl (s_callM [7, 8] rfl (.cons _ _ _ _ _ rfl (LeA.refl _) (.cons _ _ _ _ _ rfl (LeA.refl _) .nil)) (by decide) (.cons _ _ _ _ _ rfl (ren_NX (by rfl)) (.cons _ _ _ _ _ rfl (ren_EB _ _ _) .nil)) (Pdrop d.nodes i n1 name p n1.entries.length d.nodes.length hil ⟨ep, hpe, hpn⟩ hfsp (by omega) (Nat.le_refl _)) ?_)
   rintro r bc tc ⟨rfl, rfl, rfl⟩
   rw [← hlen1]
   refine ⟨rfl, _, (back_drop (Nat.le_of_ble_eq_true rfl) (Nat.le_of_ble_eq_true rfl) (by decide) d.nodes i n1 (n1.entries.eraseIdx p).length n1.entries.length d.nodes.length (n1.entries.eraseIdx p) : Back _ [7, 8] _ [_, _, _, _, _, _, _, _, _]), ?_⟩
   refine al_nil (?_)
   refine x_then ?_
   exact ⟨_, rfl, wq_ [0, 1, 2, 3, 4, 5, 6, 7, 8] (.cons _ _ _ _ _ rfl rfl (.cons _ _ _ _ _ rfl rfl (.cons _ _ _ _ _ rfl rfl (.cons _ _ _ _ _ rfl rfl (.cons _ _ _ _ _ rfl rfl (.cons _ _ _ _ _ rfl rfl (.cons _ _ _ _ _ rfl (renK_DB (by rfl) _ _ _ _ _) (.cons _ _ _ _ _ rfl (renK_NX (by rfl)) (.cons _ _ _ _ _ rfl (renK_EB _ _ _) .nil)))))))))⟩
  rintro t rfl
  refine aw_midI (fun t => t = ⟨look [(2, .v (.string name)), (4, .v (.string name2)), (5, .bp 0 0), (6, .bp 1 0), (8, .bp 2 0), (10, .bp 3 0), (13, .bp 4 0), (15, .bp 5 0), (16, .v (.bool true))], ⟨[[.bs 6 0 2 f.length f.length], filA src, filA to, [.v (.slice none 0 0)], filA A, filA O, DB f q D 7 f.length d.nodes.length, rowsB 8 d.nodes.length RN], []⟩⟩) ?_ ?_
  ·skip
   refine yk_ ([(0, [.bs 6 0 2 f.length f.length]), (1, filA src), (2, filA to), (4, filA A)]) 7 (h:=dl_ 0 (h:=dl_ 1 (h:=dm_ 3 (h:=df_ 4 (h:=dl_ 5 (h:=?_))))))
   refine c_ 2 rfl (s_callM [6, 7, 8] rfl (.cons _ _ _ _ _ rfl (LeA.refl _) (.cons _ _ _ _ _ rfl (LeA.refl _) .nil)) (by decide) (.cons _ _ _ _ _ rfl (ren_DB (by rfl) _ _ _ _ _) (.cons _ _ _ _ _ rfl (ren_NX (by rfl)) (.cons _ _ _ _ _ rfl (ren_EB _ _ _) .nil))) (PfindR1 f q d i n1 to (NX d.nodes i n1 (.bs 2 0 2 (n1.entries.eraseIdx p).length n1.entries.length) d.nodes.length) (EB (n1.entries.eraseIdx p) n1.entries.length) (fun _ _ hx => NX_ino h.hi hx) (fun _ hq2 => bp_NX (by simp [bpLt]; omega)) (fun _ _ => bp_EB _ _) hql h.hi h.tq h.hjj hfst2 hfew (by omega)) ?_)
   rintro r bc tc ⟨rfl, rfl, rfl⟩
   refine ⟨rfl, _, back_findR1 rfl rfl (ren_NX (by rfl)) rfl (fun g => ren_EB g _ _), ?_⟩
   refine o_ (h:=?_)
   refine c_ 6 rfl (s_callM [7, 8] rfl (.cons _ _ _ _ _ rfl (LeA.refl _) (.cons _ _ _ _ _ rfl (LeA.refl _) (.cons _ _ _ _ _ rfl (LeA.refl _) .nil))) (by decide) (.cons _ _ _ _ _ rfl (ren_NX (by rfl)) (.cons _ _ _ _ _ rfl (ren_EB _ _ _) .nil)) (PputA (NX d.nodes i n1 (.bs 1 0 2 (n1.entries.eraseIdx p).length n1.entries.length) d.nodes.length) i (n1.entries.eraseIdx p) name2 A.2 n1.entries.length p2 (NX_get hil rfl) (bp_NX rfl) ⟨e2, hpe2, hpn2⟩ hfsp2 (by omega)) ?_)
   rintro r bc tc ⟨rfl, rfl, rfl⟩
   refine ⟨rfl, _, (back_drop (Nat.le_of_ble_eq_true rfl) (Nat.le_of_ble_eq_true rfl) (by decide) d.nodes i n1 (n1.entries.eraseIdx p).length n1.entries.length d.nodes.length ((n1.entries.eraseIdx p).set p2 (name2, A.2)) : Back _ [7, 8] _ [_, _, _, _, _, _, _, _, _]), ?_⟩
   refine o_ (h:=z_ (h:=?_))
   refine x_then ?_
   refine ⟨_, rfl, wf_ 8 1 ?_⟩
   show [livL _ _ [.bs 6 0 2 f.length f.length], livL _ _ (filA src), livL _ _ (filA to), livL _ _ [.v (.slice none 0 0)], livL _ _ (filA A), livL _ _ (filA O), livL _ _ (DB f q d 7 f.length d.nodes.length), livL _ _ (NX d.nodes i n1 (.bs 8 0 2 (n1.entries.eraseIdx p).length n1.entries.length) d.nodes.length)] = _
   rw [liv_DB rfl, livL_NX (e' := .sl 2 (((n1.entries.eraseIdx p).set p2 (name2, A.2)).map entA) none) (liv_rows (n := 8) (Nat.le_refl _) (frz_plain (n := 8) (k := 0) (j := 8) (Nat.le_refl _) rfl (ent_plain _)) (ent_two _) (by simp) (by simp; omega)), hRN, DB_same hDn hDl]
   rfl
  rintro t rfl
  refine aw_midI (fun t => ∃ RQ, RowsN RQ D3.nodes ∧ t = ⟨look [(2, .v (.string name)), (4, .v (.string name2)), (5, .bp 0 0), (6, .bp 1 0), (8, .bp 2 0), (10, .bp 3 0), (13, .bp 4 0), (15, .bp 5 0), (16, .v (.bool true))], ⟨[[.bs 6 0 2 f.length f.length], filA src, filA to, [.v (.slice none 0 0)], filA A, filA O, DB f q D 7 f.length d.nodes.length, rowsB 8 d.nodes.length RQ], []⟩⟩) ?_ ?_
  ·skip
   refine w_ (l_ (h:=l_ (h:=?_)))
   refine al_p rfl (s_callR 3 rfl (.cons _ _ _ _ _ rfl hle (.cons _ _ _ _ _ rfl (LeA.refl _) .nil)) (PisDir (f.set q D) A hB) ?_)
   rintro r rfl
   refine ⟨rfl, ?_⟩
   rw [hdir]
   refine e_ (?_)
   refine aw_cond rfl (fun hb8 => ?_) (fun hb8 => ?_)
   ·have hc8 := bp hb8
    refine yk_ ([(0, [.bs 6 0 2 f.length f.length]), (1, filA src), (2, filA to), (4, filA A)]) 8 (h:=dl_ 0 (h:=dl_ 1 (h:=df_ 3 (h:=dl_ 4 (h:=?_)))))
    refine c_ 2 rfl (s_callM [6, 7] rfl (.cons _ _ _ _ _ rfl (LeA.refl _) (.cons _ _ _ _ _ rfl (LeA.refl _) .nil)) (by decide) (.cons _ _ _ _ _ rfl (ren_DB (by rfl) _ _ _ _ _) (.cons _ _ _ _ _ rfl (ren_pln _ hR.pln _ _) .nil)) (hfindA) ?_)
    rintro r bc tc ⟨rfl, rfl, rfl⟩
    refine ⟨rfl, _, back_findR0 rfl rfl (ren_pln _ hR.pln _ _), ?_⟩
    refine o_ (h:=dk_ 5 (h:=df_ 6 (h:=?_)))
    refine c0_ 7 rfl (s_store rfl rfl rfl rfl rfl rfl hsetP (by repeat constructor) ?_)
    refine o_ (h:=z_ (h:=?_))
    refine x_then ?_
    exact ⟨_, ⟨RP, hparT (by assumption), rfl⟩, wq_ [0, 1, 2, 3, 4, 5, 6, 7] (.cons _ _ _ _ _ rfl rfl (.cons _ _ _ _ _ rfl rfl (.cons _ _ _ _ _ rfl rfl (.cons _ _ _ _ _ rfl rfl (.cons _ _ _ _ _ rfl rfl (.cons _ _ _ _ _ rfl rfl (.cons _ _ _ _ _ rfl (renK_DB (by rfl) _ _ _ _ _) (.cons _ _ _ _ _ rfl (renK_pln _ hRP.pln _ _) .nil))))))))⟩
   have hc8 := bp hb8
   refine aw_skip (?_)
   refine x_then ?_
   first
   | exact ⟨_, ⟨RP, hparT (by assumption), rfl⟩, wq_ [0, 1, 2, 3, 4, 5, 6, 7] (.cons _ _ _ _ _ rfl rfl (.cons _ _ _ _ _ rfl rfl (.cons _ _ _ _ _ rfl rfl (.cons _ _ _ _ _ rfl rfl (.cons _ _ _ _ _ rfl rfl (.cons _ _ _ _ _ rfl rfl (.cons _ _ _ _ _ rfl (renK_DB (by rfl) _ _ _ _ _) (.cons _ _ _ _ _ rfl (renK_pln _ hRP.pln _ _) .nil))))))))⟩
   | exact ⟨_, ⟨RN, hparF (by assumption), rfl⟩, wq_ [0, 1, 2, 3, 4, 5, 6, 7] (.cons _ _ _ _ _ rfl rfl (.cons _ _ _ _ _ rfl rfl (.cons _ _ _ _ _ rfl rfl (.cons _ _ _ _ _ rfl rfl (.cons _ _ _ _ _ rfl rfl (.cons _ _ _ _ _ rfl rfl (.cons _ _ _ _ _ rfl (renK_DB (by rfl) _ _ _ _ _) (.cons _ _ _ _ _ rfl (renK_pln _ hR.pln _ _) .nil))))))))⟩
  rintro t ⟨RQ, hRQ, rfl⟩
  refine q_ (w_ (m_ (h:=e_ (?_))))
  refine aw_cond rfl (fun hb9 => ?_) (fun hb9 => ?_)
  ·have hc9 := bp hb9
   refine aw_region (l_ (h:=l_ (h:=?_)))
   refine al_p rfl (s_callM [6, 7] rfl (.cons _ _ _ _ _ rfl (LeA.refl _) (.cons _ _ _ _ _ rfl (LeA.refl _) .nil)) (by decide) (.cons _ _ _ _ _ rfl (ren_DB3 hD3n hD3l (by rfl)) (.cons _ _ _ _ _ rfl (ren_pln _ hRQ.pln _ _) .nil)) (hrel RQ hRQ) ?_)
   rintro r bc tc ⟨rfl, rfl, RM, hRM, rfl⟩
   refine ⟨rfl, _, (back_rel (Nat.le_of_ble_eq_true rfl) (Nat.le_of_ble_eq_true rfl) (by decide) f q ⟨d.next, dropI D3.nodes O.2⟩ f.length d.nodes.length d.nodes.length hRM.pln : Back _ [6, 7] _ [_, _, _, _, _, _, _, _]), ?_⟩
   refine e_ (?_)
   refine aw_midI (fun t => t = ⟨look [(10, .bp 3 0), (11, .sl 7 [chgA (src, name, A, (0, 0)), chgA (to, name2, O, A)] none), (12, .v (.int .i64 0))], ⟨[[.sl 2 (resD f q ⟨d.next, dropI D3.nodes O.2⟩ RM) none], filA src, filA to, [.sl 2 (resD f q ⟨d.next, dropI D3.nodes O.2⟩ RM) none]], []⟩⟩) ?_ ?_
   ·skip
    refine yk_ ([(0, [.bs 6 0 2 f.length f.length]), (1, filA src), (2, filA to), (4, filA A), (5, filA O)]) 14 (h:=dl_ 0 (h:=dl_ 1 (h:=dm_ 2 (h:=dl_ 3 (h:=?_)))))
    refine tk_ 4 rfl (fun _ hS => st_le (y := .agg (chgA (src, name, A, (0, 0)))) (st_build (by repeat (first | exact FillA.nil _ | (apply FillA.cons; (focus exact rfl); (focus exact rfl); (focus exact rfl); (focus exact rfl); (focus exact rfl); (focus (repeat constructor))))) ⟨rfl, rfl⟩) (by repeat (first | exact LeA.refl _ | exact LeA.nil _ | exact LeL.refl _ | refine LeA.agg ⟨rfl, rfl⟩ | refine LeA.tup ⟨rfl, rfl⟩ | exact LeL.nil | refine LeL.cons ⟨rfl, rfl⟩ ⟨rfl, rfl⟩ | exact LeA.any _)) ⟨rfl, rfl⟩) ?_
    refine dl_ 5 (h:=dm_ 6 (h:=dl_ 7 (h:=dl_ 8 (h:=?_))))
    refine tk_ 9 rfl (fun _ hS => st_le (y := .agg (chgA (to, name2, O, A))) (st_build (by repeat (first | exact FillA.nil _ | (apply FillA.cons; (focus exact rfl); (focus exact rfl); (focus exact rfl); (focus exact rfl); (focus exact rfl); (focus (repeat constructor))))) ⟨rfl, rfl⟩) (by repeat (first | exact LeA.refl _ | exact LeA.nil _ | exact LeL.refl _ | refine LeA.agg ⟨rfl, rfl⟩ | refine LeA.tup ⟨rfl, rfl⟩ | exact LeL.nil | refine LeL.cons ⟨rfl, rfl⟩ ⟨rfl, rfl⟩ | exact LeA.any _)) ⟨rfl, rfl⟩) ?_
    refine dbs_ 10 (h:=?_)
    refine c0_ 11 rfl (s_store rfl rfl rfl rfl rfl rfl (by repeat constructor) (by repeat constructor) ?_)
    refine o_ (h:=da_ 12 (h:=da_ 13 (h:=z_ (h:=?_))))
    refine x_then ?_
    exact ⟨_, rfl, wf_ 4 3 (congrArg (fun x : List AV => [x, filA src, filA to, x]) (liv_rowsN (n := 4) (i0 := 6) (i1 := 7) (f := f) (q := q) (d := ⟨d.next, dropI D3.nodes O.2⟩) (cap := f.length) (cap0 := f.length) (cap1 := d.nodes.length) hRM hql (Nat.le_refl _) hdl4 (Nat.le_of_ble_eq_true rfl) (Nat.le_of_ble_eq_true rfl) (by rfl) (by rfl)))⟩
   rintro t rfl
   refine aw_ret (?_)
   refine rt_ (r := chgR (renameL f src name to name2)) none (h5 := ?_) (h6 := ⟨rfl, rfl, rfl⟩)
   rw [hfin]
   exact LeA.tup (.cons (resD_leN hRM) (.cons (LeA.refl _) (.cons (LeA.refl _) .nil)))
  have hc9 := bp hb9
  exfalso; first | contradiction | omega
 have hc2 := bp hb2
 exfalso; first | contradiction | omega
theorem Pren_SC (f : Fls) (src : Fil) (name : Str) (to : Fil) (name2 : Str) {q : Nat} {d : Dvc} {i : Nat} {n1 : Nod} {p k : Nat} {m : Nod} {A O : Fil} (hv : FlsV f) (hS : srcL f src name to name2 = (A, 0)) (h : Ren f src name to name2 q d i n1 i n1 p k m A) (hO : entP f to name2 = (O, false)) (h2 : ren2L f src to A O 2 = 0)  : AFn Try.prog 47 [.agg (flsA f), .agg (filA src), .v (.string name), .agg (filA to), .v (.string name2)] (fun r => r = chgR (renameL f src name to name2)) := by
 have hf := hv.b
 have hsrc : AFn Try.prog 85 [.agg (flsA f), .agg (filA src), .v (.string name), .agg (filA to), .v (.string name2)] (fun r => r = .tup [.agg (filA A), .v (.int .i64 0)]) := (Psource f src name to name2 hv).mono fun r hr => by rw [hr, hS]
 have hent : AFn Try.prog 61 [.agg (flsA f), .agg (filA to), .v (.string name2)] (fun r => r = .tup [.agg (filA O), .v (.bool false)]) := (Pentry f to name2 hf).mono fun r hr => by rw [hr, hO]
 have hvd := hv.vd d (List.mem_of_getElem? h.hq)
 have hil := (List.getElem?_eq_some_iff.1 h.hi).1
 have hjl := (List.getElem?_eq_some_iff.1 h.hj).1
 have hql := (List.getElem?_eq_some_iff.1 h.hq).1
 have hfew := hf.few
 have hdn := hf.nodes d (List.mem_of_getElem? h.hq)
 have hen1 := hf.ents d (List.mem_of_getElem? h.hq) n1 (List.mem_of_getElem? h.hi)
 have hen2 := hf.ents d (List.mem_of_getElem? h.hq) n1 (List.mem_of_getElem? h.hj)
 obtain ⟨ep, hpe, hpn⟩ := h.hp
 have hpl := (List.getElem?_eq_some_iff.1 hpe).1
 have hE : 0 < n1.entries.length := by omega
 have hlen1 : (n1.entries.eraseIdx p).length = n1.entries.length - 1 := by rw [List.length_eraseIdx, if_pos hpl]
 have hfst1 : ∀ l x, l < i → d.nodes[l]? = some x → x.ino ≠ src.2 := fun l x hl hx => by rw [← h.hii]; exact asc_un hvd.asc h.hi l x hx (by omega)
 have hfst2 : ∀ l x, l < i → d.nodes[l]? = some x → x.ino ≠ to.2 := fun l x hl hx => by rw [← h.hjj]; exact asc_un hvd.asc h.hj l x hx (by omega)
 have hso := hvd.sorted n1 (List.mem_of_getElem? h.hi)
 have hsu := sorted_un hso hpe
 have hfsp : ∀ k e, k < p → n1.entries[k]? = some e → e.1 ≠ name := fun l x hl hx => by rw [← hpn]; exact hsu l x hx (by omega)
 have hee : n1.entries.eraseIdx p = entL n1.entries name 0 := by rw [entL_zero]; exact (without_erase hpe hpn (fun j x hj hne => by rw [← hpn]; exact hsu j x hj hne)).symm
 have hso1 : Sorted (n1.entries.eraseIdx p) := by rw [hee]; exact entL_sorted hso _ _
 have hm2 : (entS d.nodes i n1 name 0)[i]? = some { n1 with entries := entL n1.entries name 0 } := by unfold entS; rw [List.getElem?_set_self hil]
 have hx := h.x hv hm2 rfl
 obtain ⟨X, hX⟩ : ∃ X, X = entS (entS d.nodes i n1 name 0) i { n1 with entries := entL n1.entries name 0 } name2 A.2 := ⟨_, rfl⟩
 rw [← hX] at hx
 have hXe : X = d.nodes.set i { n1 with entries := entL (n1.entries.eraseIdx p) name2 A.2 } := by rw [hX]; unfold entS; rw [List.set_set, hee]
 have hno2 : ∀ e ∈ n1.entries.eraseIdx p, e.1 ≠ name2 := fun e he => ent_none h.n2o (by rw [hO]) e (List.mem_of_mem_eraseIdx he)
 have hentl : (entL (n1.entries.eraseIdx p) name2 A.2).length = (n1.entries.eraseIdx p).length + 1 := entL_new h.a0 hno2
 obtain ⟨D, hD⟩ : ∃ D : Dvc, D = ⟨d.next, X⟩ := ⟨_, rfl⟩
 have hDn : D.next = d.next := by rw [hD]
 have hDX : D.nodes = X := by rw [hD]
 have hDl : D.nodes.length = d.nodes.length := by rw [hDX]; exact inos_len hx.inos
 obtain ⟨RN, hRN⟩ : ∃ RN, RN = (d.nodes.map nodF).set i (nodX n1 (.sl 2 ((entL (n1.entries.eraseIdx p) name2 A.2).map entA) none)) := ⟨_, rfl⟩
 have hR : RowsN RN D.nodes := by rw [hRN, hD]; show RowsN _ X; rw [hXe]; exact rowsN_set _ _ _ _
 have hB : FlsB (f.set q D) := by rw [hD]; exact hx.fb
 have hdir : dirL (f.set q D) A = dirL f A := by rw [hD]; exact hx.dir h hv
 have hascX := hx.asc hv h.hq
 obtain ⟨mk, hmk, hmki, hmkk⟩ := hx.kinds k m h.hk
 have hmkD : D.nodes[k]? = some mk := by rw [hDX]; exact hmk
 have hmkA : mk.ino = A.2 := by rw [hmki, h.hm]
 obtain ⟨RP, hRP, hsetP⟩ := par_rows hR hmkD to.2 (cap := d.nodes.length)
 obtain ⟨D3, hD3⟩ : ∃ D3 : Dvc, D3 = ⟨d.next, renPar X A.2 to.2 (dirL f A)⟩ := ⟨_, rfl⟩
 have hparT : dirL f A = true → RowsN RP D3.nodes := fun hb => by
  rw [hD3, hb]
  show RowsN RP (renPar X A.2 to.2 true)
  unfold renPar
  rw [if_pos rfl, ← hmkA, ← set_updI hascX hmk (fun n => { n with parent := to.2 }), ← hDX]
  exact hRP
 have hparF : dirL f A = false → RowsN RN D3.nodes := fun hb => by
  rw [hD3, hb]
  show RowsN RN (renPar X A.2 to.2 false)
  unfold renPar
  rw [if_neg (by decide), ← hDX]
  exact hR
 have hi3 : D3.nodes.map (·.ino) = d.nodes.map (·.ino) := by rw [hD3]; exact (par_inos _ _ _ _).trans hx.inos
 have hD3l : D3.nodes.length = d.nodes.length := inos_len hi3
 have hD3n : D3.next = d.next := by rw [hD3]
 have hDB3 : DB f q D 7 f.length d.nodes.length = DB f q D3 7 f.length d.nodes.length := DB_same (by rw [hD3n, hDn]) (by rw [hD3l, hDl]) _ _ _
 have hle : LeA (lowG (frzG 0 [[.bs 6 0 2 f.length f.length], filA src, filA to, [.v (.slice none 0 0)], filA A, filA O, DB f q D 7 f.length d.nodes.length, rowsB 8 d.nodes.length RN] 3) (.agg [.bs 6 0 2 f.length f.length])) (.agg (flsA (f.set q D))) := by
  show LeA (.agg [lowG _ _]) _
  rw [low_rows (n := 0) (i0 := 6) (i1 := 7) hR hql (Nat.le_refl _) (Nat.le_of_eq hDl) (Nat.zero_le _) (Nat.zero_le _) rfl rfl]
  exact resD_leN hR
 have hfindA := PfindR0 f q D k mk A (rowsB 8 D.nodes.length RN) (fun j x hx => hR.ino j x hx) (fun _ _ => bp_pln hR.pln _ _) hql hmkD h.aq hmkA (fun l x hl hx => by rw [← hmkA]; exact asc_un (by rw [hDX]; exact hascX) hmkD l x hx (by omega)) hfew (by omega)
 rw [hDl] at hfindA
 have hfin : renameL f src name to name2 = (f.set q D3, [(src, name, A, (0, 0)), (to, name2, O, A)], 0) := by
  rw [h.done hv (by rw [hO]; exact fun hh => by cases hh.1) (by rw [hO]; exact h2) hx.eq, hO, if_neg (by simp), hD3]
 refine enter Try.func47 rfl rfl rfl rfl rfl 0 rfl ?_
 refine w_ (b_ (h:=b_ (h:=b_ (h:=al_ (h:=a_ (h:=a_ (h:=e_ (w_ (l_ (h:=l_ (h:=m_ (h:=l_ (h:=m_ (h:=?_))))))))))))))
 refine al_p rfl (q_call (hsrc) ?_)
 rintro r rfl
 refine m_ (h:=x_ (h:=x_ (h:=al_ (h:=s_ (h:=a_ (h:=e_ (q_ (w_ (m_ (h:=nq_ (h:=e_ (?_))))))))))))
 refine aw_cond rfl (fun hb1 => ?_) (fun hb1 => ?_)
 ·have hc1 := bp hb1
  exact absurd rfl hc1
 have hc1 := bp hb1
 refine kt_ (w_ (l_ (h:=l_ (h:=m_ (h:=?_)))))
 refine al_p rfl (q_call (hent) ?_)
 rintro r rfl
 refine m_ (h:=x_ (h:=x_ (h:=al_ (h:=s_ (h:=a_ (h:=e_ (q_ (w_ (m_ (h:=m_ (h:=?_)))))))))))
 refine al_gs true rfl rfl (fun hb2 => ?_) (fun hb2 => ?_)
 ·have hc2 := bp hb2
  exfalso; first | contradiction | omega
 have hc2 := bp hb2
 refine g0_ (h:=g0_ (h:=g0_ (h:=pf_ (h:=e_ (cn_ (h:=kt_ (?_)))))))
 refine aw_midI (fun t => t = ⟨look [(2, .v (.string name)), (4, .v (.string name2)), (5, .bp 0 0), (6, .bp 1 0), (8, .bp 2 0), (10, .bp 3 0), (13, .bp 4 0), (15, .bp 5 0), (16, .v (.bool false))], ⟨[flsA f, filA src, filA to, [.v (.slice none 0 0)], filA A, filA O], []⟩⟩) ?_ ?_
 ·skip
  refine aw_block (w_ (m_ (h:=m_ (h:=g0_ (h:=g0_ (h:=g0_ (h:=pf_ (h:=m_ (h:=g0_ (h:=g0_ (h:=g0_ (h:=g0_ (h:=pf_ (h:=a_ (h:=e_ (cn_ (h:=w_ (m_ (h:=m_ (h:=g0_ (h:=g0_ (h:=g0_ (h:=g0_ (h:=?_))))))))))))))))))))))))
  refine pf_ (h:=m_ (h:=g0_ (h:=g0_ (h:=g0_ (h:=pf_ (h:=a_ (h:=e_ (cn_ (h:=w_ (m_ (h:=m_ (h:=g0_ (h:=g0_ (h:=g0_ (h:=pf_ (h:=m_ (h:=g0_ (h:=g0_ (h:=g0_ (h:=g0_ (h:=g0_ (h:=g0_ (h:=g0_ (h:=?_))))))))))))))))))))))))
  refine g0_ (h:=pf_ (h:=a_ (h:=e_ (cn_ (h:=w_ (m_ (h:=nt_ (h:=m_ (h:=l_ (h:=l_ (h:=?_)))))))))))
  refine g_y (q_call (Pfull f to hf) ?_)
  rintro r rfl
  refine pt_ (h:=m_ (h:=?_))
  refine al_gs true rfl rfl (fun hb3 => ?_) (fun hb3 => ?_)
  ·have hc3 := bp hb3
   refine l_ (h:=l_ (h:=?_))
   refine g_y (st_binA rfl rfl (by repeat constructor) (by repeat constructor) (fun w => neqlFil _ _ _ _ w) (by kernel_rfl) ?_)
   refine pt_ (h:=a_ (h:=e_ (?_)))
   refine aw_cond rfl (fun hb4 => ?_) (fun hb4 => ?_)
   ·have hc4 := bp hb4
    exact absurd h2 (by simp [ren2L, hc3]; intro hh; exact hc4 hh)
   have hc4 := bp hb4
   refine aw_skip (x_blockN (?_))
   refine x_then ?_
   exact ⟨_, rfl, (wk 6 0)⟩
  have hc3 := bp hb3
  refine g0_ (h:=g0_ (h:=g0_ (h:=pf_ (h:=a_ (h:=e_ (cn_ (h:=aw_skip (x_blockN (?_)))))))))
  refine x_then ?_
  exact ⟨_, rfl, (wk 6 0)⟩
 rintro t rfl
 refine aw_midI (fun t => t = ⟨look [(2, .v (.string name)), (4, .v (.string name2)), (5, .bp 0 0), (6, .bp 1 0), (8, .bp 2 0), (10, .bp 3 0), (13, .bp 4 0), (15, .bp 5 0), (16, .v (.bool false))], ⟨[[.bs 6 0 2 f.length f.length], filA src, filA to, [.v (.slice none 0 0)], filA A, filA O, DB f q d 7 f.length d.nodes.length, NX d.nodes i n1 (.bs 8 0 2 n1.entries.length n1.entries.length) d.nodes.length, EB n1.entries n1.entries.length], []⟩⟩) ?_ ?_
 ·skip
  refine aw_region (l_ (h:=?_))
  refine al_p rfl (s_callM [] rfl (.cons _ _ _ _ _ rfl (LeA.refl _) .nil) (by decide) .nil (PcopyFilesG f q d i n1 hf h.hq h.hi hE) ?_)
  rintro r bc tc ⟨rfl, rfl, rfl⟩
  refine ⟨rfl, _, (back_copyG (n := 6) rfl f q d i n1 f.length d.nodes.length n1.entries.length : Back _ [] _ [_, _, _, _, _, _, _, _, _, _, _]), ?_⟩
  refine s_ (h:=al_nil (?_))
  refine x_then ?_
  exact ⟨_, rfl, wq_ [0, 1, 2, 3, 4, 5, 8, 9, 10] (.cons _ _ _ _ _ rfl rfl (.cons _ _ _ _ _ rfl rfl (.cons _ _ _ _ _ rfl rfl (.cons _ _ _ _ _ rfl rfl (.cons _ _ _ _ _ rfl rfl (.cons _ _ _ _ _ rfl rfl (.cons _ _ _ _ _ rfl (renK_DB (by rfl) _ _ _ _ _) (.cons _ _ _ _ _ rfl (renK_NX (by rfl)) (.cons _ _ _ _ _ rfl (renK_EB _ _ _) .nil)))))))))⟩
 rintro t rfl
 refine aw_midI (fun t => t = ⟨look [(2, .v (.string name)), (4, .v (.string name2)), (5, .bp 0 0), (6, .bp 1 0), (8, .bp 2 0), (10, .bp 3 0), (13, .bp 4 0), (15, .bp 5 0), (16, .v (.bool false))], ⟨[[.bs 6 0 2 f.length f.length], filA src, filA to, [.v (.slice none 0 0)], filA A, filA O, DB f q d 7 f.length d.nodes.length, NX d.nodes i n1 (.bs 8 0 2 (n1.entries.eraseIdx p).length n1.entries.length) d.nodes.length, EB (n1.entries.eraseIdx p) n1.entries.length], []⟩⟩) ?_ ?_
 ·skip
  refine aw_region (l_ (h:=l_ (h:=?_)))
  refine al_p rfl (s_callM [6, 7, 8] rfl (.cons _ _ _ _ _ rfl (LeA.refl _) (.cons _ _ _ _ _ rfl (LeA.refl _) .nil)) (by decide) (.cons _ _ _ _ _ rfl (ren_DB (by rfl) _ _ _ _ _) (.cons _ _ _ _ _ rfl (ren_NX (by rfl)) (.cons _ _ _ _ _ rfl (ren_EB _ _ _) .nil))) (PfindBG f q d i n1 src h.hq h.hi h.sq h.hii hfst1 (by omega) (by omega)) ?_)
  rintro r bc tc ⟨rfl, rfl, rfl⟩
  refine ⟨rfl, _, back_find rfl rfl rfl, ?_⟩
  refine m_ (h:=?_)
  refine al_p rfl (s_callM [7, 8] rfl (.cons _ _ _ _ _ rfl (LeA.refl _) (.cons _ _ _ _ _ rfl (LeA.refl _) .nil)) (by decide) (.cons _ _ _ _ _ rfl (ren_NX (by rfl)) (.cons _ _ _ _ _ rfl (ren_EB _ _ _) .nil)) (Pdrop d.nodes i n1 name p n1.entries.length d.nodes.length hil ⟨ep, hpe, hpn⟩ hfsp (by omega) (Nat.le_refl _)) ?_)
  rintro r bc tc ⟨rfl, rfl, rfl⟩
  rw [← hlen1]
  refine ⟨rfl, _, (back_drop (Nat.le_of_ble_eq_true rfl) (Nat.le_of_ble_eq_true rfl) (by decide) d.nodes i n1 (n1.entries.eraseIdx p).length n1.entries.length d.nodes.length (n1.entries.eraseIdx p) : Back _ [7, 8] _ [_, _, _, _, _, _, _, _, _]), ?_⟩
  refine al_nil (?_)
  refine x_then ?_
  exact ⟨_, rfl, wq_ [0, 1, 2, 3, 4, 5, 6, 7, 8] (.cons _ _ _ _ _ rfl rfl (.cons _ _ _ _ _ rfl rfl (.cons _ _ _ _ _ rfl rfl (.cons _ _ _ _ _ rfl rfl (.cons _ _ _ _ _ rfl rfl (.cons _ _ _ _ _ rfl rfl (.cons _ _ _ _ _ rfl (renK_DB (by rfl) _ _ _ _ _) (.cons _ _ _ _ _ rfl (renK_NX (by rfl)) (.cons _ _ _ _ _ rfl (renK_EB _ _ _) .nil)))))))))⟩
 rintro t rfl
 refine aw_midI (fun t => t = ⟨look [(2, .v (.string name)), (4, .v (.string name2)), (5, .bp 0 0), (6, .bp 1 0), (8, .bp 2 0), (10, .bp 3 0), (13, .bp 4 0), (15, .bp 5 0), (16, .v (.bool false))], ⟨[[.bs 6 0 2 f.length f.length], filA src, filA to, [.v (.slice none 0 0)], filA A, filA O, DB f q D 7 f.length d.nodes.length, rowsB 8 d.nodes.length RN], []⟩⟩) ?_ ?_
 ·skip
  refine yk_ ([(0, [.bs 6 0 2 f.length f.length]), (1, filA src), (2, filA to), (4, filA A)]) 7 (h:=dl_ 0 (h:=dl_ 1 (h:=dm_ 3 (h:=df_ 4 (h:=dl_ 5 (h:=?_))))))
  refine c_ 2 rfl (s_callM [6, 7, 8] rfl (.cons _ _ _ _ _ rfl (LeA.refl _) (.cons _ _ _ _ _ rfl (LeA.refl _) .nil)) (by decide) (.cons _ _ _ _ _ rfl (ren_DB (by rfl) _ _ _ _ _) (.cons _ _ _ _ _ rfl (ren_NX (by rfl)) (.cons _ _ _ _ _ rfl (ren_EB _ _ _) .nil))) (PfindR1 f q d i n1 to (NX d.nodes i n1 (.bs 2 0 2 (n1.entries.eraseIdx p).length n1.entries.length) d.nodes.length) (EB (n1.entries.eraseIdx p) n1.entries.length) (fun _ _ hx => NX_ino h.hi hx) (fun _ hq2 => bp_NX (by simp [bpLt]; omega)) (fun _ _ => bp_EB _ _) hql h.hi h.tq h.hjj hfst2 hfew (by omega)) ?_)
  rintro r bc tc ⟨rfl, rfl, rfl⟩
  refine ⟨rfl, _, back_findR1 rfl rfl (ren_NX (by rfl)) rfl (fun g => ren_EB g _ _), ?_⟩
  refine o_ (h:=?_)
  refine c_ 6 rfl (s_callM [7, 8] rfl (.cons _ _ _ _ _ rfl (LeA.refl _) (.cons _ _ _ _ _ rfl (LeA.refl _) (.cons _ _ _ _ _ rfl (LeA.refl _) .nil))) (by decide) (.cons _ _ _ _ _ rfl (ren_NX (by rfl)) (.cons _ _ _ _ _ rfl (ren_EB _ _ _) .nil)) (PputC (NX d.nodes i n1 (.bs 1 0 2 (n1.entries.eraseIdx p).length n1.entries.length) d.nodes.length) (fun x => NX d.nodes i n1 x d.nodes.length) i (n1.entries.eraseIdx p) name2 A.2 n1.entries.length (NX_get hil rfl) (fun x => NX_set hil) (bp_NX rfl) (bp_NX rfl) (by omega) (by omega) h.a0 hno2) ?_)
  rintro r bc tc ⟨rfl, rfl, rfl⟩
  refine ⟨rfl, _, (back_drop (Nat.le_of_ble_eq_true rfl) (Nat.le_of_ble_eq_true rfl) (by decide) d.nodes i n1 ((n1.entries.eraseIdx p).length + 1) n1.entries.length d.nodes.length (entL (n1.entries.eraseIdx p) name2 A.2) : Back _ [7, 8] _ [_, _, _, _, _, _, _, _, _]), ?_⟩
  refine o_ (h:=z_ (h:=?_))
  refine x_then ?_
  refine ⟨_, rfl, wf_ 8 1 ?_⟩
  show [livL _ _ [.bs 6 0 2 f.length f.length], livL _ _ (filA src), livL _ _ (filA to), livL _ _ [.v (.slice none 0 0)], livL _ _ (filA A), livL _ _ (filA O), livL _ _ (DB f q d 7 f.length d.nodes.length), livL _ _ (NX d.nodes i n1 (.bs 8 0 2 ((n1.entries.eraseIdx p).length + 1) n1.entries.length) d.nodes.length)] = _
  rw [liv_DB rfl, livL_NX (e' := .sl 2 ((entL (n1.entries.eraseIdx p) name2 A.2).map entA) none) (liv_rows (n := 8) (Nat.le_refl _) (frz_plain (n := 8) (k := 0) (j := 8) (Nat.le_refl _) rfl (ent_plain _)) (ent_two _) (by rw [List.length_map, hentl]) (by rw [List.length_map, hentl]; omega)), hRN, DB_same hDn hDl]
  rfl
 rintro t rfl
 refine aw_midI (fun t => ∃ RQ, RowsN RQ D3.nodes ∧ t = ⟨look [(2, .v (.string name)), (4, .v (.string name2)), (5, .bp 0 0), (6, .bp 1 0), (8, .bp 2 0), (10, .bp 3 0), (13, .bp 4 0), (15, .bp 5 0), (16, .v (.bool false))], ⟨[[.bs 6 0 2 f.length f.length], filA src, filA to, [.v (.slice none 0 0)], filA A, filA O, DB f q D 7 f.length d.nodes.length, rowsB 8 d.nodes.length RQ], []⟩⟩) ?_ ?_
 ·skip
  refine w_ (l_ (h:=l_ (h:=?_)))
  refine al_p rfl (s_callR 3 rfl (.cons _ _ _ _ _ rfl hle (.cons _ _ _ _ _ rfl (LeA.refl _) .nil)) (PisDir (f.set q D) A hB) ?_)
  rintro r rfl
  refine ⟨rfl, ?_⟩
  rw [hdir]
  refine e_ (?_)
  refine aw_cond rfl (fun hb5 => ?_) (fun hb5 => ?_)
  ·have hc5 := bp hb5
   refine yk_ ([(0, [.bs 6 0 2 f.length f.length]), (1, filA src), (2, filA to), (4, filA A)]) 8 (h:=dl_ 0 (h:=dl_ 1 (h:=df_ 3 (h:=dl_ 4 (h:=?_)))))
   refine c_ 2 rfl (s_callM [6, 7] rfl (.cons _ _ _ _ _ rfl (LeA.refl _) (.cons _ _ _ _ _ rfl (LeA.refl _) .nil)) (by decide) (.cons _ _ _ _ _ rfl (ren_DB (by rfl) _ _ _ _ _) (.cons _ _ _ _ _ rfl (ren_pln _ hR.pln _ _) .nil)) (hfindA) ?_)
   rintro r bc tc ⟨rfl, rfl, rfl⟩
   refine ⟨rfl, _, back_findR0 rfl rfl (ren_pln _ hR.pln _ _), ?_⟩
   refine o_ (h:=dk_ 5 (h:=df_ 6 (h:=?_)))
   refine c0_ 7 rfl (s_store rfl rfl rfl rfl rfl rfl hsetP (by repeat constructor) ?_)
   refine o_ (h:=z_ (h:=?_))
   refine x_then ?_
   exact ⟨_, ⟨RP, hparT (by assumption), rfl⟩, wq_ [0, 1, 2, 3, 4, 5, 6, 7] (.cons _ _ _ _ _ rfl rfl (.cons _ _ _ _ _ rfl rfl (.cons _ _ _ _ _ rfl rfl (.cons _ _ _ _ _ rfl rfl (.cons _ _ _ _ _ rfl rfl (.cons _ _ _ _ _ rfl rfl (.cons _ _ _ _ _ rfl (renK_DB (by rfl) _ _ _ _ _) (.cons _ _ _ _ _ rfl (renK_pln _ hRP.pln _ _) .nil))))))))⟩
  have hc5 := bp hb5
  refine aw_skip (?_)
  refine x_then ?_
  first
  | exact ⟨_, ⟨RP, hparT (by assumption), rfl⟩, wq_ [0, 1, 2, 3, 4, 5, 6, 7] (.cons _ _ _ _ _ rfl rfl (.cons _ _ _ _ _ rfl rfl (.cons _ _ _ _ _ rfl rfl (.cons _ _ _ _ _ rfl rfl (.cons _ _ _ _ _ rfl rfl (.cons _ _ _ _ _ rfl rfl (.cons _ _ _ _ _ rfl (renK_DB (by rfl) _ _ _ _ _) (.cons _ _ _ _ _ rfl (renK_pln _ hRP.pln _ _) .nil))))))))⟩
  | exact ⟨_, ⟨RN, hparF (by assumption), rfl⟩, wq_ [0, 1, 2, 3, 4, 5, 6, 7] (.cons _ _ _ _ _ rfl rfl (.cons _ _ _ _ _ rfl rfl (.cons _ _ _ _ _ rfl rfl (.cons _ _ _ _ _ rfl rfl (.cons _ _ _ _ _ rfl rfl (.cons _ _ _ _ _ rfl rfl (.cons _ _ _ _ _ rfl (renK_DB (by rfl) _ _ _ _ _) (.cons _ _ _ _ _ rfl (renK_pln _ hR.pln _ _) .nil))))))))⟩
 rintro t ⟨RQ, hRQ, rfl⟩
 refine q_ (w_ (m_ (h:=e_ (?_))))
 refine aw_cond rfl (fun hb6 => ?_) (fun hb6 => ?_)
 ·have hc6 := bp hb6
  exfalso; first | contradiction | omega
 have hc6 := bp hb6
 refine kt_ (?_)
 refine aw_midI (fun t => t = ⟨look [(10, .bp 3 0), (11, .sl 7 [chgA (src, name, A, (0, 0)), chgA (to, name2, O, A)] none), (12, .v (.int .i64 0))], ⟨[[.sl 2 (resD f q D3 RQ) none], filA src, filA to, [.sl 2 (resD f q D3 RQ) none]], []⟩⟩) ?_ ?_
 ·skip
  refine yk_ ([(0, [.bs 6 0 2 f.length f.length]), (1, filA src), (2, filA to), (4, filA A), (5, filA O)]) 14 (h:=dl_ 0 (h:=dl_ 1 (h:=dm_ 2 (h:=dl_ 3 (h:=?_)))))
  refine tk_ 4 rfl (fun _ hS => st_le (y := .agg (chgA (src, name, A, (0, 0)))) (st_build (by repeat (first | exact FillA.nil _ | (apply FillA.cons; (focus exact rfl); (focus exact rfl); (focus exact rfl); (focus exact rfl); (focus exact rfl); (focus (repeat constructor))))) ⟨rfl, rfl⟩) (by repeat (first | exact LeA.refl _ | exact LeA.nil _ | exact LeL.refl _ | refine LeA.agg ⟨rfl, rfl⟩ | refine LeA.tup ⟨rfl, rfl⟩ | exact LeL.nil | refine LeL.cons ⟨rfl, rfl⟩ ⟨rfl, rfl⟩ | exact LeA.any _)) ⟨rfl, rfl⟩) ?_
  refine dl_ 5 (h:=dm_ 6 (h:=dl_ 7 (h:=dl_ 8 (h:=?_))))
  refine tk_ 9 rfl (fun _ hS => st_le (y := .agg (chgA (to, name2, O, A))) (st_build (by repeat (first | exact FillA.nil _ | (apply FillA.cons; (focus exact rfl); (focus exact rfl); (focus exact rfl); (focus exact rfl); (focus exact rfl); (focus (repeat constructor))))) ⟨rfl, rfl⟩) (by repeat (first | exact LeA.refl _ | exact LeA.nil _ | exact LeL.refl _ | refine LeA.agg ⟨rfl, rfl⟩ | refine LeA.tup ⟨rfl, rfl⟩ | exact LeL.nil | refine LeL.cons ⟨rfl, rfl⟩ ⟨rfl, rfl⟩ | exact LeA.any _)) ⟨rfl, rfl⟩) ?_
  refine dbs_ 10 (h:=?_)
  refine c0_ 11 rfl (s_store rfl rfl rfl rfl rfl rfl (by repeat constructor) (by repeat constructor) ?_)
  refine o_ (h:=da_ 12 (h:=da_ 13 (h:=z_ (h:=?_))))
  refine x_then ?_
  exact ⟨_, rfl, wf_ 4 3 (congrArg (fun x : List AV => [x, filA src, filA to, x]) (liv_rowsN (n := 4) (i0 := 6) (i1 := 7) (f := f) (q := q) (d := D3) (cap := f.length) (cap0 := f.length) (cap1 := d.nodes.length) hRQ hql (Nat.le_refl _) (Nat.le_of_eq hD3l) (Nat.le_of_ble_eq_true rfl) (Nat.le_of_ble_eq_true rfl) (by rw [← hDB3]; rfl) (by rfl)))⟩
 rintro t rfl
 refine aw_ret (?_)
 refine rt_ (r := chgR (renameL f src name to name2)) none (h5 := ?_) (h6 := ⟨rfl, rfl, rfl⟩)
 rw [hfin]
 exact LeA.tup (.cons (resD_leN hRQ) (.cons (LeA.refl _) (.cons (LeA.refl _) .nil)))
theorem Pren_D0 (f : Fls) (src : Fil) (name : Str) (to : Fil) (name2 : Str) {q : Nat} {d : Dvc} {i : Nat} {n1 : Nod} {j : Nat} {n2 : Nod} {p k : Nat} {m : Nod} {A O : Fil} (hv : FlsV f) (hS : srcL f src name to name2 = (A, 0)) (h : Ren f src name to name2 q d i n1 j n2 p k m A) (hO : entP f to name2 = (O, false)) (h2 : ren2L f src to A O 2 = 0) (hij : i ≠ j) (hF0 : n2.entries = []) : AFn Try.prog 47 [.agg (flsA f), .agg (filA src), .v (.string name), .agg (filA to), .v (.string name2)] (fun r => r = chgR (renameL f src name to name2)) := by
 have hf := hv.b
 have hsrc : AFn Try.prog 85 [.agg (flsA f), .agg (filA src), .v (.string name), .agg (filA to), .v (.string name2)] (fun r => r = .tup [.agg (filA A), .v (.int .i64 0)]) := (Psource f src name to name2 hv).mono fun r hr => by rw [hr, hS]
 have hent : AFn Try.prog 61 [.agg (flsA f), .agg (filA to), .v (.string name2)] (fun r => r = .tup [.agg (filA O), .v (.bool false)]) := (Pentry f to name2 hf).mono fun r hr => by rw [hr, hO]
 have hvd := hv.vd d (List.mem_of_getElem? h.hq)
 have hil := (List.getElem?_eq_some_iff.1 h.hi).1
 have hjl := (List.getElem?_eq_some_iff.1 h.hj).1
 have hql := (List.getElem?_eq_some_iff.1 h.hq).1
 have hfew := hf.few
 have hdn := hf.nodes d (List.mem_of_getElem? h.hq)
 have hen1 := hf.ents d (List.mem_of_getElem? h.hq) n1 (List.mem_of_getElem? h.hi)
 have hen2 := hf.ents d (List.mem_of_getElem? h.hq) n2 (List.mem_of_getElem? h.hj)
 obtain ⟨ep, hpe, hpn⟩ := h.hp
 have hpl := (List.getElem?_eq_some_iff.1 hpe).1
 have hE : 0 < n1.entries.length := by omega
 have hlen1 : (n1.entries.eraseIdx p).length = n1.entries.length - 1 := by rw [List.length_eraseIdx, if_pos hpl]
 have hfst1 : ∀ l x, l < i → d.nodes[l]? = some x → x.ino ≠ src.2 := fun l x hl hx => by rw [← h.hii]; exact asc_un hvd.asc h.hi l x hx (by omega)
 have hfst2 : ∀ l x, l < j → d.nodes[l]? = some x → x.ino ≠ to.2 := fun l x hl hx => by rw [← h.hjj]; exact asc_un hvd.asc h.hj l x hx (by omega)
 have hso := hvd.sorted n1 (List.mem_of_getElem? h.hi)
 have hsu := sorted_un hso hpe
 have hfsp : ∀ k e, k < p → n1.entries[k]? = some e → e.1 ≠ name := fun l x hl hx => by rw [← hpn]; exact hsu l x hx (by omega)
 have hee : n1.entries.eraseIdx p = entL n1.entries name 0 := by rw [entL_zero]; exact (without_erase hpe hpn (fun j x hj hne => by rw [← hpn]; exact hsu j x hj hne)).symm
 have hm2 : (entS d.nodes i n1 name 0)[j]? = some n2 := by unfold entS; rw [List.getElem?_set_ne hij]; exact h.hj
 have hx := h.x hv hm2 rfl
 obtain ⟨X, hX⟩ : ∃ X, X = entS (entS d.nodes i n1 name 0) j n2 name2 A.2 := ⟨_, rfl⟩
 rw [← hX] at hx
 have hXe : X = (d.nodes.set i { n1 with entries := n1.entries.eraseIdx p }).set j { n2 with entries := entL n2.entries name2 A.2 } := by rw [hX]; unfold entS; rw [hee]
 obtain ⟨D, hD⟩ : ∃ D : Dvc, D = ⟨d.next, X⟩ := ⟨_, rfl⟩
 have hDn : D.next = d.next := by rw [hD]
 have hDX : D.nodes = X := by rw [hD]
 have hDl : D.nodes.length = d.nodes.length := by rw [hDX]; exact inos_len hx.inos
 obtain ⟨RN, hRN⟩ : ∃ RN, RN = ((d.nodes.map nodF).set i (nodX n1 (.sl 2 ((n1.entries.eraseIdx p).map entA) none))).set j (nodX n2 (.sl 2 [entA (name2, A.2)] none)) := ⟨_, rfl⟩
 have hR : RowsN RN D.nodes := by rw [hRN, hD]; show RowsN _ X; rw [hXe, entL_nil hF0 h.a0]; exact rowsN_NY (es' := [(name2, A.2)])
 have hB : FlsB (f.set q D) := by rw [hD]; exact hx.fb
 have hdir : dirL (f.set q D) A = dirL f A := by rw [hD]; exact hx.dir h hv
 have hascX := hx.asc hv h.hq
 obtain ⟨mk, hmk, hmki, hmkk⟩ := hx.kinds k m h.hk
 have hmkD : D.nodes[k]? = some mk := by rw [hDX]; exact hmk
 have hmkA : mk.ino = A.2 := by rw [hmki, h.hm]
 obtain ⟨RP, hRP, hsetP⟩ := par_rows hR hmkD to.2 (cap := d.nodes.length)
 obtain ⟨D3, hD3⟩ : ∃ D3 : Dvc, D3 = ⟨d.next, renPar X A.2 to.2 (dirL f A)⟩ := ⟨_, rfl⟩
 have hparT : dirL f A = true → RowsN RP D3.nodes := fun hb => by
  rw [hD3, hb]
  show RowsN RP (renPar X A.2 to.2 true)
  unfold renPar
  rw [if_pos rfl, ← hmkA, ← set_updI hascX hmk (fun n => { n with parent := to.2 }), ← hDX]
  exact hRP
 have hparF : dirL f A = false → RowsN RN D3.nodes := fun hb => by
  rw [hD3, hb]
  show RowsN RN (renPar X A.2 to.2 false)
  unfold renPar
  rw [if_neg (by decide), ← hDX]
  exact hR
 have hi3 : D3.nodes.map (·.ino) = d.nodes.map (·.ino) := by rw [hD3]; exact (par_inos _ _ _ _).trans hx.inos
 have hD3l : D3.nodes.length = d.nodes.length := inos_len hi3
 have hD3n : D3.next = d.next := by rw [hD3]
 have hDB3 : DB f q D 7 f.length d.nodes.length = DB f q D3 7 f.length d.nodes.length := DB_same (by rw [hD3n, hDn]) (by rw [hD3l, hDl]) _ _ _
 have hle : LeA (lowG (frzG 0 [[.bs 6 0 2 f.length f.length], filA src, filA to, [.v (.slice none 0 0)], filA A, filA O, DB f q D 7 f.length d.nodes.length, rowsB 8 d.nodes.length RN] 3) (.agg [.bs 6 0 2 f.length f.length])) (.agg (flsA (f.set q D))) := by
  show LeA (.agg [lowG _ _]) _
  rw [low_rows (n := 0) (i0 := 6) (i1 := 7) hR hql (Nat.le_refl _) (Nat.le_of_eq hDl) (Nat.zero_le _) (Nat.zero_le _) rfl rfl]
  exact resD_leN hR
 have hfindA := PfindR0 f q D k mk A (rowsB 8 D.nodes.length RN) (fun j x hx => hR.ino j x hx) (fun _ _ => bp_pln hR.pln _ _) hql hmkD h.aq hmkA (fun l x hl hx => by rw [← hmkA]; exact asc_un (by rw [hDX]; exact hascX) hmkD l x hx (by omega)) hfew (by omega)
 rw [hDl] at hfindA
 have hfin : renameL f src name to name2 = (f.set q D3, [(src, name, A, (0, 0)), (to, name2, O, A)], 0) := by
  rw [h.done hv (by rw [hO]; exact fun hh => by cases hh.1) (by rw [hO]; exact h2) hx.eq, hO, if_neg (by simp), hD3]
 refine enter Try.func47 rfl rfl rfl rfl rfl 0 rfl ?_
 refine w_ (b_ (h:=b_ (h:=b_ (h:=al_ (h:=a_ (h:=a_ (h:=e_ (w_ (l_ (h:=l_ (h:=m_ (h:=l_ (h:=m_ (h:=?_))))))))))))))
 refine al_p rfl (q_call (hsrc) ?_)
 rintro r rfl
 refine m_ (h:=x_ (h:=x_ (h:=al_ (h:=s_ (h:=a_ (h:=e_ (q_ (w_ (m_ (h:=nq_ (h:=e_ (?_))))))))))))
 refine aw_cond rfl (fun hb1 => ?_) (fun hb1 => ?_)
 ·have hc1 := bp hb1
  exact absurd rfl hc1
 have hc1 := bp hb1
 refine kt_ (w_ (l_ (h:=l_ (h:=m_ (h:=?_)))))
 refine al_p rfl (q_call (hent) ?_)
 rintro r rfl
 refine m_ (h:=x_ (h:=x_ (h:=al_ (h:=s_ (h:=a_ (h:=e_ (q_ (w_ (m_ (h:=m_ (h:=?_)))))))))))
 refine al_gs true rfl rfl (fun hb2 => ?_) (fun hb2 => ?_)
 ·have hc2 := bp hb2
  exfalso; first | contradiction | omega
 have hc2 := bp hb2
 refine g0_ (h:=g0_ (h:=g0_ (h:=pf_ (h:=e_ (cn_ (h:=kt_ (?_)))))))
 refine aw_midI (fun t => t = ⟨look [(2, .v (.string name)), (4, .v (.string name2)), (5, .bp 0 0), (6, .bp 1 0), (8, .bp 2 0), (10, .bp 3 0), (13, .bp 4 0), (15, .bp 5 0), (16, .v (.bool false))], ⟨[flsA f, filA src, filA to, [.v (.slice none 0 0)], filA A, filA O], []⟩⟩) ?_ ?_
 ·skip
  refine aw_block (w_ (m_ (h:=m_ (h:=g0_ (h:=g0_ (h:=g0_ (h:=pf_ (h:=m_ (h:=g0_ (h:=g0_ (h:=g0_ (h:=g0_ (h:=pf_ (h:=a_ (h:=e_ (cn_ (h:=w_ (m_ (h:=m_ (h:=g0_ (h:=g0_ (h:=g0_ (h:=g0_ (h:=?_))))))))))))))))))))))))
  refine pf_ (h:=m_ (h:=g0_ (h:=g0_ (h:=g0_ (h:=pf_ (h:=a_ (h:=e_ (cn_ (h:=w_ (m_ (h:=m_ (h:=g0_ (h:=g0_ (h:=g0_ (h:=pf_ (h:=m_ (h:=g0_ (h:=g0_ (h:=g0_ (h:=g0_ (h:=g0_ (h:=g0_ (h:=g0_ (h:=?_))))))))))))))))))))))))
  refine g0_ (h:=pf_ (h:=a_ (h:=e_ (cn_ (h:=w_ (m_ (h:=nt_ (h:=m_ (h:=l_ (h:=l_ (h:=?_)))))))))))
  refine g_y (q_call (Pfull f to hf) ?_)
  rintro r rfl
  refine pt_ (h:=m_ (h:=?_))
  refine al_gs true rfl rfl (fun hb3 => ?_) (fun hb3 => ?_)
  ·have hc3 := bp hb3
   refine l_ (h:=l_ (h:=?_))
   refine g_y (st_binA rfl rfl (by repeat constructor) (by repeat constructor) (fun w => neqlFil _ _ _ _ w) (by kernel_rfl) ?_)
   refine pt_ (h:=a_ (h:=e_ (?_)))
   refine aw_cond rfl (fun hb4 => ?_) (fun hb4 => ?_)
   ·have hc4 := bp hb4
    exact absurd h2 (by simp [ren2L, hc3]; intro hh; exact hc4 hh)
   have hc4 := bp hb4
   refine aw_skip (x_blockN (?_))
   refine x_then ?_
   exact ⟨_, rfl, (wk 6 0)⟩
  have hc3 := bp hb3
  refine g0_ (h:=g0_ (h:=g0_ (h:=pf_ (h:=a_ (h:=e_ (cn_ (h:=aw_skip (x_blockN (?_)))))))))
  refine x_then ?_
  exact ⟨_, rfl, (wk 6 0)⟩
 rintro t rfl
 refine aw_midI (fun t => t = ⟨look [(2, .v (.string name)), (4, .v (.string name2)), (5, .bp 0 0), (6, .bp 1 0), (8, .bp 2 0), (10, .bp 3 0), (13, .bp 4 0), (15, .bp 5 0), (16, .v (.bool false))], ⟨[[.bs 6 0 2 f.length f.length], filA src, filA to, [.v (.slice none 0 0)], filA A, filA O, DB f q d 7 f.length d.nodes.length, NX d.nodes i n1 (.bs 8 0 2 n1.entries.length n1.entries.length) d.nodes.length, EB n1.entries n1.entries.length], []⟩⟩) ?_ ?_
 ·skip
  refine aw_region (l_ (h:=?_))
  refine al_p rfl (s_callM [] rfl (.cons _ _ _ _ _ rfl (LeA.refl _) .nil) (by decide) .nil (PcopyFilesG f q d i n1 hf h.hq h.hi hE) ?_)
  rintro r bc tc ⟨rfl, rfl, rfl⟩
  refine ⟨rfl, _, (back_copyG (n := 6) rfl f q d i n1 f.length d.nodes.length n1.entries.length : Back _ [] _ [_, _, _, _, _, _, _, _, _, _, _]), ?_⟩
  refine s_ (h:=al_nil (?_))
  refine x_then ?_
  exact ⟨_, rfl, wq_ [0, 1, 2, 3, 4, 5, 8, 9, 10] (.cons _ _ _ _ _ rfl rfl (.cons _ _ _ _ _ rfl rfl (.cons _ _ _ _ _ rfl rfl (.cons _ _ _ _ _ rfl rfl (.cons _ _ _ _ _ rfl rfl (.cons _ _ _ _ _ rfl rfl (.cons _ _ _ _ _ rfl (renK_DB (by rfl) _ _ _ _ _) (.cons _ _ _ _ _ rfl (renK_NX (by rfl)) (.cons _ _ _ _ _ rfl (renK_EB _ _ _) .nil)))))))))⟩
 rintro t rfl
 refine aw_midI (fun t => t = ⟨look [(2, .v (.string name)), (4, .v (.string name2)), (5, .bp 0 0), (6, .bp 1 0), (8, .bp 2 0), (10, .bp 3 0), (13, .bp 4 0), (15, .bp 5 0), (16, .v (.bool false))], ⟨[[.bs 6 0 2 f.length f.length], filA src, filA to, [.v (.slice none 0 0)], filA A, filA O, DB f q d 7 f.length d.nodes.length, NY d.nodes i n1 (.sl 2 ((n1.entries.eraseIdx p).map entA) none) j n2 (.v (.slice none 0 0)) d.nodes.length], []⟩⟩) ?_ ?_
 ·skip
  refine aw_region (l_ (h:=l_ (h:=?_)))
  refine al_p rfl (s_callM [6, 7, 8] rfl (.cons _ _ _ _ _ rfl (LeA.refl _) (.cons _ _ _ _ _ rfl (LeA.refl _) .nil)) (by decide) (.cons _ _ _ _ _ rfl (ren_DB (by rfl) _ _ _ _ _) (.cons _ _ _ _ _ rfl (ren_NX (by rfl)) (.cons _ _ _ _ _ rfl (ren_EB _ _ _) .nil))) (PfindBG f q d i n1 src h.hq h.hi h.sq h.hii hfst1 (by omega) (by omega)) ?_)
  rintro r bc tc ⟨rfl, rfl, rfl⟩
  refine ⟨rfl, _, back_find rfl rfl rfl, ?_⟩
  refine m_ (h:=?_)
  refine al_p rfl (s_callM [7, 8] rfl (.cons _ _ _ _ _ rfl (LeA.refl _) (.cons _ _ _ _ _ rfl (LeA.refl _) .nil)) (by decide) (.cons _ _ _ _ _ rfl (ren_NX (by rfl)) (.cons _ _ _ _ _ rfl (ren_EB _ _ _) .nil)) (Pdrop d.nodes i n1 name p n1.entries.length d.nodes.length hil ⟨ep, hpe, hpn⟩ hfsp (by omega) (Nat.le_refl _)) ?_)
  rintro r bc tc ⟨rfl, rfl, rfl⟩
  rw [← hlen1]
  refine ⟨rfl, _, (back_drop (Nat.le_of_ble_eq_true rfl) (Nat.le_of_ble_eq_true rfl) (by decide) d.nodes i n1 (n1.entries.eraseIdx p).length n1.entries.length d.nodes.length (n1.entries.eraseIdx p) : Back _ [7, 8] _ [_, _, _, _, _, _, _, _, _]), ?_⟩
  refine al_nil (?_)
  refine x_then ?_
  refine ⟨_, rfl, wf_ 8 1 ?_⟩
  show [livL _ _ [.bs 6 0 2 f.length f.length], livL _ _ (filA src), livL _ _ (filA to), livL _ _ [.v (.slice none 0 0)], livL _ _ (filA A), livL _ _ (filA O), livL _ _ (DB f q d 7 f.length d.nodes.length), livL _ _ (NX d.nodes i n1 (.bs 8 0 2 (n1.entries.eraseIdx p).length n1.entries.length) d.nodes.length)] = _
  rw [liv_DB rfl, livL_NX (e' := .sl 2 ((n1.entries.eraseIdx p).map entA) none) (liv_rows (n := 8) (Nat.le_refl _) (frz_plain (n := 8) (k := 0) (j := 8) (Nat.le_refl _) rfl (ent_plain _)) (ent_two _) (by simp) (by simp; omega)), NX_NY (e := .sl 2 ((n1.entries.eraseIdx p).map entA) none) hij h.hj hF0]
  rfl
 rintro t rfl
 refine aw_midI (fun t => t = ⟨look [(2, .v (.string name)), (4, .v (.string name2)), (5, .bp 0 0), (6, .bp 1 0), (8, .bp 2 0), (10, .bp 3 0), (13, .bp 4 0), (15, .bp 5 0), (16, .v (.bool false))], ⟨[[.bs 6 0 2 f.length f.length], filA src, filA to, [.v (.slice none 0 0)], filA A, filA O, DB f q D 7 f.length d.nodes.length, rowsB 8 d.nodes.length RN], []⟩⟩) ?_ ?_
 ·skip
  refine yk_ ([(0, [.bs 6 0 2 f.length f.length]), (1, filA src), (2, filA to), (4, filA A)]) 7 (h:=dl_ 0 (h:=dl_ 1 (h:=dm_ 3 (h:=df_ 4 (h:=dl_ 5 (h:=?_))))))
  refine c_ 2 rfl (s_callM [6, 7] rfl (.cons _ _ _ _ _ rfl (LeA.refl _) (.cons _ _ _ _ _ rfl (LeA.refl _) .nil)) (by decide) (.cons _ _ _ _ _ rfl (ren_DB (by rfl) _ _ _ _ _) (.cons _ _ _ _ _ rfl (ren_NY (by rfl) (by rfl)) .nil)) (PfindR0 f q d j n2 to (NY d.nodes i n1 (.sl 2 ((n1.entries.eraseIdx p).map entA) none) j n2 (.v (.slice none 0 0)) d.nodes.length) (fun _ _ hx => NY_ino h.hi h.hj hx) (fun _ _ => bp_NY rfl rfl) hql h.hj h.tq h.hjj hfst2 hfew (by omega)) ?_)
  rintro r bc tc ⟨rfl, rfl, rfl⟩
  refine ⟨rfl, _, back_findR0 rfl rfl (ren_NY (by rfl) (by rfl)), ?_⟩
  refine o_ (h:=?_)
  refine c_ 6 rfl (s_callM [7] rfl (.cons _ _ _ _ _ rfl (LeA.refl _) (.cons _ _ _ _ _ rfl (LeA.refl _) (.cons _ _ _ _ _ rfl (LeA.refl _) .nil))) (by decide) (.cons _ _ _ _ _ rfl (ren_NY (by rfl) (by rfl)) .nil) (Pput0Y (NY d.nodes i n1 (.sl 2 ((n1.entries.eraseIdx p).map entA) none) j n2 (.v (.slice none 0 0)) d.nodes.length) (fun x => NY d.nodes i n1 (.sl 2 ((n1.entries.eraseIdx p).map entA) none) j n2 x d.nodes.length) j name2 A.2 (NY_getj hjl rfl) (fun x => NY_setj hjl) (bp_NY rfl rfl) (bp_NY rfl rfl)) ?_)
  rintro r bc tc ⟨rfl, rfl, rfl⟩
  refine ⟨rfl, _, (back_oneN (Nat.le_of_ble_eq_true rfl) (ren_NY (by rfl) (by rfl)) : Back _ [7] _ [_, _, _, _, _, _, _, _]), ?_⟩
  refine o_ (h:=z_ (h:=?_))
  refine x_then ?_
  refine ⟨_, rfl, wf_ 8 1 ?_⟩
  show [livL _ _ [.bs 6 0 2 f.length f.length], livL _ _ (filA src), livL _ _ (filA to), livL _ _ [.v (.slice none 0 0)], livL _ _ (filA A), livL _ _ (filA O), livL _ _ (DB f q d 7 f.length d.nodes.length), livL _ _ (NY d.nodes i n1 (.sl 2 ((n1.entries.eraseIdx p).map entA) none) j n2 (.sl 2 [entA (name2, A.2)] none) d.nodes.length)] = _
  rw [liv_DB rfl, livL_NY (f := .sl 2 ((n1.entries.eraseIdx p).map entA) none) (f' := .sl 2 [entA (name2, A.2)] none) rfl rfl, hRN, DB_same hDn hDl]
  rfl
 rintro t rfl
 refine aw_midI (fun t => ∃ RQ, RowsN RQ D3.nodes ∧ t = ⟨look [(2, .v (.string name)), (4, .v (.string name2)), (5, .bp 0 0), (6, .bp 1 0), (8, .bp 2 0), (10, .bp 3 0), (13, .bp 4 0), (15, .bp 5 0), (16, .v (.bool false))], ⟨[[.bs 6 0 2 f.length f.length], filA src, filA to, [.v (.slice none 0 0)], filA A, filA O, DB f q D 7 f.length d.nodes.length, rowsB 8 d.nodes.length RQ], []⟩⟩) ?_ ?_
 ·skip
  refine w_ (l_ (h:=l_ (h:=?_)))
  refine al_p rfl (s_callR 3 rfl (.cons _ _ _ _ _ rfl hle (.cons _ _ _ _ _ rfl (LeA.refl _) .nil)) (PisDir (f.set q D) A hB) ?_)
  rintro r rfl
  refine ⟨rfl, ?_⟩
  rw [hdir]
  refine e_ (?_)
  refine aw_cond rfl (fun hb5 => ?_) (fun hb5 => ?_)
  ·have hc5 := bp hb5
   refine yk_ ([(0, [.bs 6 0 2 f.length f.length]), (1, filA src), (2, filA to), (4, filA A)]) 8 (h:=dl_ 0 (h:=dl_ 1 (h:=df_ 3 (h:=dl_ 4 (h:=?_)))))
   refine c_ 2 rfl (s_callM [6, 7] rfl (.cons _ _ _ _ _ rfl (LeA.refl _) (.cons _ _ _ _ _ rfl (LeA.refl _) .nil)) (by decide) (.cons _ _ _ _ _ rfl (ren_DB (by rfl) _ _ _ _ _) (.cons _ _ _ _ _ rfl (ren_pln _ hR.pln _ _) .nil)) (hfindA) ?_)
   rintro r bc tc ⟨rfl, rfl, rfl⟩
   refine ⟨rfl, _, back_findR0 rfl rfl (ren_pln _ hR.pln _ _), ?_⟩
   refine o_ (h:=dk_ 5 (h:=df_ 6 (h:=?_)))
   refine c0_ 7 rfl (s_store rfl rfl rfl rfl rfl rfl hsetP (by repeat constructor) ?_)
   refine o_ (h:=z_ (h:=?_))
   refine x_then ?_
   exact ⟨_, ⟨RP, hparT (by assumption), rfl⟩, wq_ [0, 1, 2, 3, 4, 5, 6, 7] (.cons _ _ _ _ _ rfl rfl (.cons _ _ _ _ _ rfl rfl (.cons _ _ _ _ _ rfl rfl (.cons _ _ _ _ _ rfl rfl (.cons _ _ _ _ _ rfl rfl (.cons _ _ _ _ _ rfl rfl (.cons _ _ _ _ _ rfl (renK_DB (by rfl) _ _ _ _ _) (.cons _ _ _ _ _ rfl (renK_pln _ hRP.pln _ _) .nil))))))))⟩
  have hc5 := bp hb5
  refine aw_skip (?_)
  refine x_then ?_
  first
  | exact ⟨_, ⟨RP, hparT (by assumption), rfl⟩, wq_ [0, 1, 2, 3, 4, 5, 6, 7] (.cons _ _ _ _ _ rfl rfl (.cons _ _ _ _ _ rfl rfl (.cons _ _ _ _ _ rfl rfl (.cons _ _ _ _ _ rfl rfl (.cons _ _ _ _ _ rfl rfl (.cons _ _ _ _ _ rfl rfl (.cons _ _ _ _ _ rfl (renK_DB (by rfl) _ _ _ _ _) (.cons _ _ _ _ _ rfl (renK_pln _ hRP.pln _ _) .nil))))))))⟩
  | exact ⟨_, ⟨RN, hparF (by assumption), rfl⟩, wq_ [0, 1, 2, 3, 4, 5, 6, 7] (.cons _ _ _ _ _ rfl rfl (.cons _ _ _ _ _ rfl rfl (.cons _ _ _ _ _ rfl rfl (.cons _ _ _ _ _ rfl rfl (.cons _ _ _ _ _ rfl rfl (.cons _ _ _ _ _ rfl rfl (.cons _ _ _ _ _ rfl (renK_DB (by rfl) _ _ _ _ _) (.cons _ _ _ _ _ rfl (renK_pln _ hR.pln _ _) .nil))))))))⟩
 rintro t ⟨RQ, hRQ, rfl⟩
 refine q_ (w_ (m_ (h:=e_ (?_))))
 refine aw_cond rfl (fun hb6 => ?_) (fun hb6 => ?_)
 ·have hc6 := bp hb6
  exfalso; first | contradiction | omega
 have hc6 := bp hb6
 refine kt_ (?_)
 refine aw_midI (fun t => t = ⟨look [(10, .bp 3 0), (11, .sl 7 [chgA (src, name, A, (0, 0)), chgA (to, name2, O, A)] none), (12, .v (.int .i64 0))], ⟨[[.sl 2 (resD f q D3 RQ) none], filA src, filA to, [.sl 2 (resD f q D3 RQ) none]], []⟩⟩) ?_ ?_
 ·skip
  refine yk_ ([(0, [.bs 6 0 2 f.length f.length]), (1, filA src), (2, filA to), (4, filA A), (5, filA O)]) 14 (h:=dl_ 0 (h:=dl_ 1 (h:=dm_ 2 (h:=dl_ 3 (h:=?_)))))
  refine tk_ 4 rfl (fun _ hS => st_le (y := .agg (chgA (src, name, A, (0, 0)))) (st_build (by repeat (first | exact FillA.nil _ | (apply FillA.cons; (focus exact rfl); (focus exact rfl); (focus exact rfl); (focus exact rfl); (focus exact rfl); (focus (repeat constructor))))) ⟨rfl, rfl⟩) (by repeat (first | exact LeA.refl _ | exact LeA.nil _ | exact LeL.refl _ | refine LeA.agg ⟨rfl, rfl⟩ | refine LeA.tup ⟨rfl, rfl⟩ | exact LeL.nil | refine LeL.cons ⟨rfl, rfl⟩ ⟨rfl, rfl⟩ | exact LeA.any _)) ⟨rfl, rfl⟩) ?_
  refine dl_ 5 (h:=dm_ 6 (h:=dl_ 7 (h:=dl_ 8 (h:=?_))))
  refine tk_ 9 rfl (fun _ hS => st_le (y := .agg (chgA (to, name2, O, A))) (st_build (by repeat (first | exact FillA.nil _ | (apply FillA.cons; (focus exact rfl); (focus exact rfl); (focus exact rfl); (focus exact rfl); (focus exact rfl); (focus (repeat constructor))))) ⟨rfl, rfl⟩) (by repeat (first | exact LeA.refl _ | exact LeA.nil _ | exact LeL.refl _ | refine LeA.agg ⟨rfl, rfl⟩ | refine LeA.tup ⟨rfl, rfl⟩ | exact LeL.nil | refine LeL.cons ⟨rfl, rfl⟩ ⟨rfl, rfl⟩ | exact LeA.any _)) ⟨rfl, rfl⟩) ?_
  refine dbs_ 10 (h:=?_)
  refine c0_ 11 rfl (s_store rfl rfl rfl rfl rfl rfl (by repeat constructor) (by repeat constructor) ?_)
  refine o_ (h:=da_ 12 (h:=da_ 13 (h:=z_ (h:=?_))))
  refine x_then ?_
  exact ⟨_, rfl, wf_ 4 3 (congrArg (fun x : List AV => [x, filA src, filA to, x]) (liv_rowsN (n := 4) (i0 := 6) (i1 := 7) (f := f) (q := q) (d := D3) (cap := f.length) (cap0 := f.length) (cap1 := d.nodes.length) hRQ hql (Nat.le_refl _) (Nat.le_of_eq hD3l) (Nat.le_of_ble_eq_true rfl) (Nat.le_of_ble_eq_true rfl) (by rw [← hDB3]; rfl) (by rfl)))⟩
 rintro t rfl
 refine aw_ret (?_)
 refine rt_ (r := chgR (renameL f src name to name2)) none (h5 := ?_) (h6 := ⟨rfl, rfl, rfl⟩)
 rw [hfin]
 exact LeA.tup (.cons (resD_leN hRQ) (.cons (LeA.refl _) (.cons (LeA.refl _) .nil)))
theorem Pren_DA (f : Fls) (src : Fil) (name : Str) (to : Fil) (name2 : Str) {q : Nat} {d : Dvc} {i : Nat} {n1 : Nod} {j : Nat} {n2 : Nod} {p k : Nat} {m : Nod} {A O : Fil} (hv : FlsV f) (hS : srcL f src name to name2 = (A, 0)) (h : Ren f src name to name2 q d i n1 j n2 p k m A) (hO : entP f to name2 = (O, true)) (hns : ¬ O = A) (h2 : ren2L f src to A O 0 = 0) (hij : i ≠ j) : AFn Try.prog 47 [.agg (flsA f), .agg (filA src), .v (.string name), .agg (filA to), .v (.string name2)] (fun r => r = chgR (renameL f src name to name2)) := by
 have hf := hv.b
 have hsrc : AFn Try.prog 85 [.agg (flsA f), .agg (filA src), .v (.string name), .agg (filA to), .v (.string name2)] (fun r => r = .tup [.agg (filA A), .v (.int .i64 0)]) := (Psource f src name to name2 hv).mono fun r hr => by rw [hr, hS]
 have hent : AFn Try.prog 61 [.agg (flsA f), .agg (filA to), .v (.string name2)] (fun r => r = .tup [.agg (filA O), .v (.bool true)]) := (Pentry f to name2 hf).mono fun r hr => by rw [hr, hO]
 have hvd := hv.vd d (List.mem_of_getElem? h.hq)
 have hil := (List.getElem?_eq_some_iff.1 h.hi).1
 have hjl := (List.getElem?_eq_some_iff.1 h.hj).1
 have hql := (List.getElem?_eq_some_iff.1 h.hq).1
 have hfew := hf.few
 have hdn := hf.nodes d (List.mem_of_getElem? h.hq)
 have hen1 := hf.ents d (List.mem_of_getElem? h.hq) n1 (List.mem_of_getElem? h.hi)
 have hen2 := hf.ents d (List.mem_of_getElem? h.hq) n2 (List.mem_of_getElem? h.hj)
 obtain ⟨ep, hpe, hpn⟩ := h.hp
 have hpl := (List.getElem?_eq_some_iff.1 hpe).1
 have hE : 0 < n1.entries.length := by omega
 have hlen1 : (n1.entries.eraseIdx p).length = n1.entries.length - 1 := by rw [List.length_eraseIdx, if_pos hpl]
 have hfst1 : ∀ l x, l < i → d.nodes[l]? = some x → x.ino ≠ src.2 := fun l x hl hx => by rw [← h.hii]; exact asc_un hvd.asc h.hi l x hx (by omega)
 have hfst2 : ∀ l x, l < j → d.nodes[l]? = some x → x.ino ≠ to.2 := fun l x hl hx => by rw [← h.hjj]; exact asc_un hvd.asc h.hj l x hx (by omega)
 have hso := hvd.sorted n1 (List.mem_of_getElem? h.hi)
 have hsu := sorted_un hso hpe
 have hfsp : ∀ k e, k < p → n1.entries[k]? = some e → e.1 ≠ name := fun l x hl hx => by rw [← hpn]; exact hsu l x hx (by omega)
 have hee : n1.entries.eraseIdx p = entL n1.entries name 0 := by rw [entL_zero]; exact (without_erase hpe hpn (fun j x hj hne => by rw [← hpn]; exact hsu j x hj hne)).symm
 have hm2 : (entS d.nodes i n1 name 0)[j]? = some n2 := by unfold entS; rw [List.getElem?_set_ne hij]; exact h.hj
 have hx := h.x hv hm2 rfl
 obtain ⟨X, hX⟩ : ∃ X, X = entS (entS d.nodes i n1 name 0) j n2 name2 A.2 := ⟨_, rfl⟩
 rw [← hX] at hx
 have hXe : X = (d.nodes.set i { n1 with entries := n1.entries.eraseIdx p }).set j { n2 with entries := entL n2.entries name2 A.2 } := by rw [hX]; unfold entS; rw [hee]
 obtain ⟨eo, o, heo, hleo, hom, heoi, heo1, hon⟩ := look_node hv h.tq h.hq h.hj h.n2o h.k2 (name := name2) (by rw [h.look2, hO]; rfl)
 have hOe : O = (to.1, eo.2) := by rw [h.look2, hO] at hleo; exact congrArg Prod.fst hleo
 obtain ⟨heom, heon⟩ := entF_some heo
 obtain ⟨p2, hpe2⟩ := List.getElem?_of_mem heom
 obtain ⟨e2, he2⟩ : ∃ e2 : Ent, e2 = eo := ⟨_, rfl⟩
 rw [← he2] at hpe2
 have hpn2 : e2.1 = name2 := by rw [he2]; exact heon
 have hF : 0 < n2.entries.length := by have := (List.getElem?_eq_some_iff.1 hpe2).1; omega
 have hso2 := hvd.sorted n2 (List.mem_of_getElem? h.hj)
 have hsu2 := sorted_un hso2 hpe2
 have hrepl := entL_repl (ino := A.2) h.a0 hso2 hpe2 hpn2
 have hfsp2 : ∀ k e, k < p2 → n2.entries[k]? = some e → e.1 ≠ name2 := fun l x hl hx => by rw [← hpn2]; exact hsu2 l x hx (by omega)
 obtain ⟨D, hD⟩ : ∃ D : Dvc, D = ⟨d.next, X⟩ := ⟨_, rfl⟩
 have hDn : D.next = d.next := by rw [hD]
 have hDX : D.nodes = X := by rw [hD]
 have hDl : D.nodes.length = d.nodes.length := by rw [hDX]; exact inos_len hx.inos
 obtain ⟨RN, hRN⟩ : ∃ RN, RN = ((d.nodes.map nodF).set i (nodX n1 (.sl 2 ((n1.entries.eraseIdx p).map entA) none))).set j (nodX n2 (.sl 2 ((n2.entries.set p2 (name2, A.2)).map entA) none)) := ⟨_, rfl⟩
 have hR : RowsN RN D.nodes := by rw [hRN, hD]; show RowsN _ X; rw [hXe, hrepl]; exact rowsN_NY
 have hB : FlsB (f.set q D) := by rw [hD]; exact hx.fb
 have hdir : dirL (f.set q D) A = dirL f A := by rw [hD]; exact hx.dir h hv
 have hascX := hx.asc hv h.hq
 obtain ⟨mk, hmk, hmki, hmkk⟩ := hx.kinds k m h.hk
 have hmkD : D.nodes[k]? = some mk := by rw [hDX]; exact hmk
 have hmkA : mk.ino = A.2 := by rw [hmki, h.hm]
 obtain ⟨RP, hRP, hsetP⟩ := par_rows hR hmkD to.2 (cap := d.nodes.length)
 obtain ⟨D3, hD3⟩ : ∃ D3 : Dvc, D3 = ⟨d.next, renPar X A.2 to.2 (dirL f A)⟩ := ⟨_, rfl⟩
 have hparT : dirL f A = true → RowsN RP D3.nodes := fun hb => by
  rw [hD3, hb]
  show RowsN RP (renPar X A.2 to.2 true)
  unfold renPar
  rw [if_pos rfl, ← hmkA, ← set_updI hascX hmk (fun n => { n with parent := to.2 }), ← hDX]
  exact hRP
 have hparF : dirL f A = false → RowsN RN D3.nodes := fun hb => by
  rw [hD3, hb]
  show RowsN RN (renPar X A.2 to.2 false)
  unfold renPar
  rw [if_neg (by decide), ← hDX]
  exact hR
 have hi3 : D3.nodes.map (·.ino) = d.nodes.map (·.ino) := by rw [hD3]; exact (par_inos _ _ _ _).trans hx.inos
 have hD3l : D3.nodes.length = d.nodes.length := inos_len hi3
 have hD3n : D3.next = d.next := by rw [hD3]
 have hDB3 : DB f q D 7 f.length d.nodes.length = DB f q D3 7 f.length d.nodes.length := DB_same (by rw [hD3n, hDn]) (by rw [hD3l, hDl]) _ _ _
 have hle : LeA (lowG (frzG 0 [[.bs 6 0 2 f.length f.length], filA src, filA to, [.v (.slice none 0 0)], filA A, filA O, DB f q D 7 f.length d.nodes.length, rowsB 8 d.nodes.length RN] 3) (.agg [.bs 6 0 2 f.length f.length])) (.agg (flsA (f.set q D))) := by
  show LeA (.agg [lowG _ _]) _
  rw [low_rows (n := 0) (i0 := 6) (i1 := 7) hR hql (Nat.le_refl _) (Nat.le_of_eq hDl) (Nat.zero_le _) (Nat.zero_le _) rfl rfl]
  exact resD_leN hR
 have hfindA := PfindR0 f q D k mk A (rowsB 8 D.nodes.length RN) (fun j x hx => hR.ino j x hx) (fun _ _ => bp_pln hR.pln _ _) hql hmkD h.aq hmkA (fun l x hl hx => by rw [← hmkA]; exact asc_un (by rw [hDX]; exact hascX) hmkD l x hx (by omega)) hfew (by omega)
 rw [hDl] at hfindA
 obtain ⟨l, hl⟩ := List.getElem?_of_mem hom
 have hO2 : o.ino = O.2 := by rw [hOe]; exact heoi.symm
 obtain ⟨o3, ho3, ho3i⟩ := inos_at hi3 hl
 have hrel : ∀ RQ, RowsN RQ D3.nodes → ACall Try.prog 87 [.agg [.bs 0 0 2 f.length f.length], .agg (filA O)] [DB f q D3 1 f.length d.nodes.length, rowsB 8 d.nodes.length RQ] (fun r b t => t = [] ∧ r = .tup [] ∧ ∃ RN', RowsN RN' (dropI D3.nodes O.2) ∧ b = [DB f q ⟨d.next, dropI D3.nodes O.2⟩ 1 f.length d.nodes.length, rowsB 8 d.nodes.length RN']) := fun RQ hRQ => by
  have := Prelease f q D3 RQ O l hRQ hql (by rw [hOe]; exact h.tq) ⟨o3, ho3, by rw [ho3i, hO2]⟩ (fun a b hb hne => by rw [← hO2, ← ho3i]; exact asc_un (asc_mp hi3 hvd.asc) ho3 a b hb hne) (by rw [hD3]; exact par_fb hx.fb)
  rw [hD3l, hD3n] at this
  exact this
 have hdl4 : (dropI D3.nodes O.2).length ≤ d.nodes.length := Nat.le_trans (List.length_filter_le _ _) (Nat.le_of_eq hD3l)
 have hfin : renameL f src name to name2 = (f.set q ⟨d.next, dropI D3.nodes O.2⟩, [(src, name, A, (0, 0)), (to, name2, O, A)], 0) := by
  rw [h.done hv (by rw [hO]; exact fun hh => hns hh.2) (by rw [hO]; exact h2) hx.eq, hO, if_pos rfl, hD3]
 refine enter Try.func47 rfl rfl rfl rfl rfl 0 rfl ?_
 refine w_ (b_ (h:=b_ (h:=b_ (h:=al_ (h:=a_ (h:=a_ (h:=e_ (w_ (l_ (h:=l_ (h:=m_ (h:=l_ (h:=m_ (h:=?_))))))))))))))
 refine al_p rfl (q_call (hsrc) ?_)
 rintro r rfl
 refine m_ (h:=x_ (h:=x_ (h:=al_ (h:=s_ (h:=a_ (h:=e_ (q_ (w_ (m_ (h:=nq_ (h:=e_ (?_))))))))))))
 refine aw_cond rfl (fun hb1 => ?_) (fun hb1 => ?_)
 ·have hc1 := bp hb1
  exact absurd rfl hc1
 have hc1 := bp hb1
 refine kt_ (w_ (l_ (h:=l_ (h:=m_ (h:=?_)))))
 refine al_p rfl (q_call (hent) ?_)
 rintro r rfl
 refine m_ (h:=x_ (h:=x_ (h:=al_ (h:=s_ (h:=a_ (h:=e_ (q_ (w_ (m_ (h:=m_ (h:=?_)))))))))))
 refine al_gs true rfl rfl (fun hb2 => ?_) (fun hb2 => ?_)
 ·have hc2 := bp hb2
  refine l_ (h:=l_ (h:=?_))
  refine g_y (st_binA rfl rfl (by repeat constructor) (by repeat constructor) (fun w => eqlFil _ _ _ _ w) (by kernel_rfl) ?_)
  refine pt_ (h:=e_ (?_))
  refine aw_cond rfl (fun hb3 => ?_) (fun hb3 => ?_)
  ·have hc3 := bp hb3
   exact absurd hc3 hns
  have hc3 := bp hb3
  refine kt_ (?_)
  refine aw_midI (fun t => t = ⟨look [(2, .v (.string name)), (4, .v (.string name2)), (5, .bp 0 0), (6, .bp 1 0), (8, .bp 2 0), (10, .bp 3 0), (13, .bp 4 0), (15, .bp 5 0), (16, .v (.bool true))], ⟨[flsA f, filA src, filA to, [.v (.slice none 0 0)], filA A, filA O], []⟩⟩) ?_ ?_
  ·skip
   refine aw_block (w_ (m_ (h:=m_ (h:=l_ (h:=l_ (h:=?_))))))
   refine g_y (q_call (PisDir f O hf) ?_)
   rintro r rfl
   refine pt_ (h:=m_ (h:=?_))
   refine al_gs true rfl rfl (fun hb4 => ?_) (fun hb4 => ?_)
   ·have hc4 := bp hb4
    have hg4 : (!dirL f O) = false := by rw [hc4]; rfl
    refine l_ (h:=l_ (h:=?_))
    refine g_y (q_call (PisDir f A hf) ?_)
    rintro r rfl
    refine nt_ (h:=pt_ (h:=a_ (h:=e_ (?_))))
    refine aw_cond rfl (fun hb5 => ?_) (fun hb5 => ?_)
    ·have hc5 := bp hb5
     exact absurd h2 (by simp [ren2L, hc4, hc5])
    have hc5 := bp hb5
    refine w_ (m_ (h:=m_ (h:=l_ (h:=l_ (h:=?_)))))
    refine g_y (q_call (PisDir f O hf) ?_)
    rintro r rfl
    refine nt_ (h:=pt_ (h:=m_ (h:=g0_ (h:=g0_ (h:=g0_ (h:=pf_ (h:=a_ (h:=e_ (cn_ (h:=w_ (m_ (h:=m_ (h:=l_ (h:=l_ (h:=?_)))))))))))))))
    refine g_y (q_call (PisDir f O hf) ?_)
    rintro r rfl
    refine pt_ (h:=m_ (h:=l_ (h:=l_ (h:=?_))))
    refine g_y (q_call (Pfind f O hf) ?_)
    rintro r (⟨e, rfl⟩ | ⟨n, e, rfl⟩)
    ·exfalso; rw [dirL_eq] at hc4; simp [hasG, e] at hc4
    skip
    refine k_ (h:=f_ (h:=l_ (h:=n_ (h:=gt_ (h:=pt_ (h:=a_ (h:=e_ (?_))))))))
    refine aw_cond rfl (fun hb6 => ?_) (fun hb6 => ?_)
    ·have hc6 := bp hb6
     exfalso
     have hem : emptyL f O = false := by rw [emptyL_eq, show nodG f O = n by simp [nodG, e]]; simp only [List.length_map] at hc6; simp; intro hh; rw [hh] at hc6; simp at hc6
     exact absurd h2 (by simp [ren2L, hc4, hc5, hem])
    have hc6 := bp hb6
    refine w_ (m_ (h:=nt_ (h:=m_ (h:=g0_ (h:=g0_ (h:=g0_ (h:=pf_ (h:=m_ (h:=g0_ (h:=g0_ (h:=g0_ (h:=pf_ (h:=a_ (h:=e_ (cn_ (h:=aw_skip (x_blockN (?_))))))))))))))))))
    refine x_then ?_
    exact ⟨_, rfl, (wk 6 0)⟩
   have hc4 := bp hb4
   have hg4 : (!dirL f O) = true := by rw [hc4]; rfl
   refine g0_ (h:=g0_ (h:=g0_ (h:=g0_ (h:=pf_ (h:=a_ (h:=e_ (cn_ (h:=w_ (m_ (h:=m_ (h:=l_ (h:=l_ (h:=?_)))))))))))))
   refine g_y (q_call (PisDir f O hf) ?_)
   rintro r rfl
   refine nt_ (h:=pt_ (h:=m_ (h:=l_ (h:=l_ (h:=?_)))))
   refine g_y (q_call (PisDir f A hf) ?_)
   rintro r rfl
   refine pt_ (h:=a_ (h:=e_ (?_)))
   refine aw_cond rfl (fun hb7 => ?_) (fun hb7 => ?_)
   ·have hc7 := bp hb7
    exact absurd h2 (by simp [ren2L, hc4, hc7])
   have hc7 := bp hb7
   refine w_ (m_ (h:=m_ (h:=l_ (h:=l_ (h:=?_)))))
   refine g_y (q_call (PisDir f O hf) ?_)
   rintro r rfl
   refine pt_ (h:=m_ (h:=g0_ (h:=g0_ (h:=g0_ (h:=g0_ (h:=g0_ (h:=g0_ (h:=g0_ (h:=g0_ (h:=pf_ (h:=a_ (h:=e_ (cn_ (h:=w_ (m_ (h:=nt_ (h:=m_ (h:=g0_ (h:=g0_ (h:=g0_ (h:=pf_ (h:=m_ (h:=g0_ (h:=?_))))))))))))))))))))))))
   refine g0_ (h:=g0_ (h:=pf_ (h:=a_ (h:=e_ (cn_ (h:=aw_skip (x_blockN (?_))))))))
   refine x_then ?_
   exact ⟨_, rfl, (wk 6 0)⟩
  rintro t rfl
  refine aw_midI (fun t => t = ⟨look [(2, .v (.string name)), (4, .v (.string name2)), (5, .bp 0 0), (6, .bp 1 0), (8, .bp 2 0), (10, .bp 3 0), (13, .bp 4 0), (15, .bp 5 0), (16, .v (.bool true))], ⟨[[.bs 6 0 2 f.length f.length], filA src, filA to, [.v (.slice none 0 0)], filA A, filA O, DB f q d 7 f.length d.nodes.length, NY d.nodes i n1 (.bs 9 0 2 n1.entries.length n1.entries.length) j n2 (.bs 8 0 2 n2.entries.length n2.entries.length) d.nodes.length, EB n2.entries n2.entries.length, EB n1.entries n1.entries.length], []⟩⟩) ?_ ?_
  ·skip
   refine aw_region (l_ (h:=?_))
   refine al_p rfl (s_callM [] rfl (.cons _ _ _ _ _ rfl (LeA.refl _) .nil) (by decide) .nil (PcopyFilesT f q d i n1 j n2 hf h.hq hij h.hi h.hj hE hF) ?_)
   rintro r bc tc ⟨rfl, rfl, rfl⟩
   refine ⟨rfl, _, (back_copyT (n := 6) rfl f q d i n1 j n2 f.length d.nodes.length n1.entries.length n2.entries.length : Back _ [] _ [_, _, _, _, _, _, _, _, _, _, _, _]), ?_⟩
   refine s_ (h:=al_nil (?_))
   refine x_then ?_
   exact ⟨_, rfl, wq_ [0, 1, 2, 3, 4, 5, 8, 9, 10, 11] (.cons _ _ _ _ _ rfl rfl (.cons _ _ _ _ _ rfl rfl (.cons _ _ _ _ _ rfl rfl (.cons _ _ _ _ _ rfl rfl (.cons _ _ _ _ _ rfl rfl (.cons _ _ _ _ _ rfl rfl (.cons _ _ _ _ _ rfl (renK_DB (by rfl) _ _ _ _ _) (.cons _ _ _ _ _ rfl (renK_NY (by rfl) (by rfl)) (.cons _ _ _ _ _ rfl (renK_EB _ _ _) (.cons _ _ _ _ _ rfl (renK_EB _ _ _) .nil))))))))))⟩
  rintro t rfl
  refine aw_midI (fun t => t = ⟨look [(2, .v (.string name)), (4, .v (.string name2)), (5, .bp 0 0), (6, .bp 1 0), (8, .bp 2 0), (10, .bp 3 0), (13, .bp 4 0), (15, .bp 5 0), (16, .v (.bool true))], ⟨[[.bs 6 0 2 f.length f.length], filA src, filA to, [.v (.slice none 0 0)], filA A, filA O, DB f q d 7 f.length d.nodes.length, NY d.nodes i n1 (.sl 2 ((n1.entries.eraseIdx p).map entA) none) j n2 (.bs 8 0 2 n2.entries.length n2.entries.length) d.nodes.length, EB n2.entries n2.entries.length], []⟩⟩) ?_ ?_
  ·skip
   refine aw_region (l_ (h:=l_ (h:=?_)))
   refine al_p rfl (s_callM [6, 7, 8, 9] rfl (.cons _ _ _ _ _ rfl (LeA.refl _) (.cons _ _ _ _ _ rfl (LeA.refl _) .nil)) (by decide) (.cons _ _ _ _ _ rfl (ren_DB (by rfl) _ _ _ _ _) (.cons _ _ _ _ _ rfl (ren_NY (by rfl) (by rfl)) (.cons _ _ _ _ _ rfl (ren_EB _ _ _) (.cons _ _ _ _ _ rfl (ren_EB _ _ _) .nil)))) (PfindR2 f q d i n1 src (NY d.nodes i n1 (.bs 3 0 2 n1.entries.length n1.entries.length) j n2 (.bs 2 0 2 n2.entries.length n2.entries.length) d.nodes.length) (EB n2.entries n2.entries.length) (EB n1.entries n1.entries.length) (fun _ _ hx => NY_ino h.hi h.hj hx) (fun _ hq2 => bp_NY (by simp [bpLt]; omega) (by simp [bpLt]; omega)) (fun _ _ => bp_EB _ _) (fun _ _ => bp_EB _ _) hql h.hi h.sq h.hii hfst1 hfew (by omega)) ?_)
   rintro r bc tc ⟨rfl, rfl, rfl⟩
   refine ⟨rfl, _, back_findR2 rfl rfl (ren_NY (by rfl) (by rfl)) rfl (fun g => ren_EB g _ _) rfl (fun g => ren_EB g _ _), ?_⟩
   refine m_ (h:=?_)
   refine al_p rfl (s_callM [7, 8, 9] rfl (.cons _ _ _ _ _ rfl (LeA.refl _) (.cons _ _ _ _ _ rfl (LeA.refl _) .nil)) (by decide) (.cons _ _ _ _ _ rfl (ren_NY (by rfl) (by rfl)) (.cons _ _ _ _ _ rfl (ren_EB _ _ _) (.cons _ _ _ _ _ rfl (ren_EB _ _ _) .nil))) (PdropY (NY d.nodes i n1 (.bs 2 0 2 n1.entries.length n1.entries.length) j n2 (.bs 1 0 2 n2.entries.length n2.entries.length) d.nodes.length) (fun x => NY d.nodes i n1 x j n2 (.bs 1 0 2 n2.entries.length n2.entries.length) d.nodes.length) (EB n2.entries n2.entries.length) i n1.entries name p n1.entries.length (NY_geti hij hil rfl) (fun x => NY_seti hij hil) (bp_NY rfl rfl) (bp_NY rfl rfl) (fun _ => bp_EB _ _) ⟨ep, hpe, hpn⟩ hfsp (by omega) (Nat.le_refl _)) ?_)
   rintro r bc tc ⟨rfl, rfl, rfl⟩
   rw [← hlen1]
   refine ⟨rfl, _, (back_dropY (Nat.le_of_ble_eq_true rfl) (Nat.le_of_ble_eq_true rfl) (Nat.le_of_ble_eq_true rfl) (by decide) (by decide) (by decide) : Back _ [7, 8, 9] _ [_, _, _, _, _, _, _, _, _, _]), ?_⟩
   refine al_nil (?_)
   refine x_then ?_
   refine ⟨_, rfl, wf_ 9 1 ?_⟩
   show [livL _ _ [.bs 6 0 2 f.length f.length], livL _ _ (filA src), livL _ _ (filA to), livL _ _ [.v (.slice none 0 0)], livL _ _ (filA A), livL _ _ (filA O), livL _ _ (DB f q d 7 f.length d.nodes.length), livL _ _ (NY d.nodes i n1 (.bs 9 0 2 (n1.entries.eraseIdx p).length n1.entries.length) j n2 (.bs 8 0 2 n2.entries.length n2.entries.length) d.nodes.length), livL _ _ (EB n2.entries n2.entries.length)] = _
   rw [liv_DB rfl, livL_NY (f := .sl 2 ((n1.entries.eraseIdx p).map entA) none) (f' := .bs 8 0 2 n2.entries.length n2.entries.length) (liv_rows (n := 9) (Nat.le_refl _) (frz_plain (n := 9) (k := 0) (j := 9) (Nat.le_refl _) rfl (ent_plain _)) (ent_two _) (by simp) (by simp; omega)) rfl, livL_EB]
   rfl
  rintro t rfl
  refine aw_midI (fun t => t = ⟨look [(2, .v (.string name)), (4, .v (.string name2)), (5, .bp 0 0), (6, .bp 1 0), (8, .bp 2 0), (10, .bp 3 0), (13, .bp 4 0), (15, .bp 5 0), (16, .v (.bool true))], ⟨[[.bs 6 0 2 f.length f.length], filA src, filA to, [.v (.slice none 0 0)], filA A, filA O, DB f q D 7 f.length d.nodes.length, rowsB 8 d.nodes.length RN], []⟩⟩) ?_ ?_
  ·skip
   refine yk_ ([(0, [.bs 6 0 2 f.length f.length]), (1, filA src), (2, filA to), (4, filA A)]) 7 (h:=dl_ 0 (h:=dl_ 1 (h:=dm_ 3 (h:=df_ 4 (h:=dl_ 5 (h:=?_))))))
   refine c_ 2 rfl (s_callM [6, 7, 8] rfl (.cons _ _ _ _ _ rfl (LeA.refl _) (.cons _ _ _ _ _ rfl (LeA.refl _) .nil)) (by decide) (.cons _ _ _ _ _ rfl (ren_DB (by rfl) _ _ _ _ _) (.cons _ _ _ _ _ rfl (ren_NY (by rfl) (by rfl)) (.cons _ _ _ _ _ rfl (ren_EB _ _ _) .nil))) (PfindR1 f q d j n2 to (NY d.nodes i n1 (.sl 2 ((n1.entries.eraseIdx p).map entA) none) j n2 (.bs 2 0 2 n2.entries.length n2.entries.length) d.nodes.length) (EB n2.entries n2.entries.length) (fun _ _ hx => NY_ino h.hi h.hj hx) (fun _ hq2 => bp_NY rfl (by simp [bpLt]; omega)) (fun _ _ => bp_EB _ _) hql h.hj h.tq h.hjj hfst2 hfew (by omega)) ?_)
   rintro r bc tc ⟨rfl, rfl, rfl⟩
   refine ⟨rfl, _, back_findR1 rfl rfl (ren_NY (by rfl) (by rfl)) rfl (fun g => ren_EB g _ _), ?_⟩
   refine o_ (h:=?_)
   refine c_ 6 rfl (s_callM [7, 8] rfl (.cons _ _ _ _ _ rfl (LeA.refl _) (.cons _ _ _ _ _ rfl (LeA.refl _) (.cons _ _ _ _ _ rfl (LeA.refl _) .nil))) (by decide) (.cons _ _ _ _ _ rfl (ren_NY (by rfl) (by rfl)) (.cons _ _ _ _ _ rfl (ren_EB _ _ _) .nil)) (PputA (NY d.nodes i n1 (.sl 2 ((n1.entries.eraseIdx p).map entA) none) j n2 (.bs 1 0 2 n2.entries.length n2.entries.length) d.nodes.length) j n2.entries name2 A.2 n2.entries.length p2 (NY_getj hjl rfl) (bp_NY rfl rfl) ⟨e2, hpe2, hpn2⟩ hfsp2 (by omega)) ?_)
   rintro r bc tc ⟨rfl, rfl, rfl⟩
   refine ⟨rfl, _, (back_putY (Nat.le_of_ble_eq_true rfl) (Nat.le_of_ble_eq_true rfl) (by decide) : Back _ [7, 8] _ [_, _, _, _, _, _, _, _, _]), ?_⟩
   refine o_ (h:=z_ (h:=?_))
   refine x_then ?_
   refine ⟨_, rfl, wf_ 8 1 ?_⟩
   show [livL _ _ [.bs 6 0 2 f.length f.length], livL _ _ (filA src), livL _ _ (filA to), livL _ _ [.v (.slice none 0 0)], livL _ _ (filA A), livL _ _ (filA O), livL _ _ (DB f q d 7 f.length d.nodes.length), livL _ _ (NY d.nodes i n1 (.sl 2 ((n1.entries.eraseIdx p).map entA) none) j n2 (.bs 8 0 2 n2.entries.length n2.entries.length) d.nodes.length)] = _
   rw [liv_DB rfl, livL_NY (f := .sl 2 ((n1.entries.eraseIdx p).map entA) none) (f' := .sl 2 ((n2.entries.set p2 (name2, A.2)).map entA) none) rfl (liv_rows (n := 8) (Nat.le_refl _) (frz_plain (n := 8) (k := 0) (j := 8) (Nat.le_refl _) rfl (ent_plain _)) (ent_two _) (by simp) (by simp)), hRN, DB_same hDn hDl]
   rfl
  rintro t rfl
  refine aw_midI (fun t => ∃ RQ, RowsN RQ D3.nodes ∧ t = ⟨look [(2, .v (.string name)), (4, .v (.string name2)), (5, .bp 0 0), (6, .bp 1 0), (8, .bp 2 0), (10, .bp 3 0), (13, .bp 4 0), (15, .bp 5 0), (16, .v (.bool true))], ⟨[[.bs 6 0 2 f.length f.length], filA src, filA to, [.v (.slice none 0 0)], filA A, filA O, DB f q D 7 f.length d.nodes.length, rowsB 8 d.nodes.length RQ], []⟩⟩) ?_ ?_
  ·skip
   refine w_ (l_ (h:=l_ (h:=?_)))
   refine al_p rfl (s_callR 3 rfl (.cons _ _ _ _ _ rfl hle (.cons _ _ _ _ _ rfl (LeA.refl _) .nil)) (PisDir (f.set q D) A hB) ?_)
   rintro r rfl
   refine ⟨rfl, ?_⟩
   rw [hdir]
   refine e_ (?_)
   refine aw_cond rfl (fun hb8 => ?_) (fun hb8 => ?_)
   ·have hc8 := bp hb8
    refine yk_ ([(0, [.bs 6 0 2 f.length f.length]), (1, filA src), (2, filA to), (4, filA A)]) 8 (h:=dl_ 0 (h:=dl_ 1 (h:=df_ 3 (h:=dl_ 4 (h:=?_)))))
    refine c_ 2 rfl (s_callM [6, 7] rfl (.cons _ _ _ _ _ rfl (LeA.refl _) (.cons _ _ _ _ _ rfl (LeA.refl _) .nil)) (by decide) (.cons _ _ _ _ _ rfl (ren_DB (by rfl) _ _ _ _ _) (.cons _ _ _ _ _ rfl (ren_pln _ hR.pln _ _) .nil)) (hfindA) ?_)
    rintro r bc tc ⟨rfl, rfl, rfl⟩
    refine ⟨rfl, _, back_findR0 rfl rfl (ren_pln _ hR.pln _ _), ?_⟩
    refine o_ (h:=dk_ 5 (h:=df_ 6 (h:=?_)))
    refine c0_ 7 rfl (s_store rfl rfl rfl rfl rfl rfl hsetP (by repeat constructor) ?_)
    refine o_ (h:=z_ (h:=?_))
    refine x_then ?_
    exact ⟨_, ⟨RP, hparT (by assumption), rfl⟩, wq_ [0, 1, 2, 3, 4, 5, 6, 7] (.cons _ _ _ _ _ rfl rfl (.cons _ _ _ _ _ rfl rfl (.cons _ _ _ _ _ rfl rfl (.cons _ _ _ _ _ rfl rfl (.cons _ _ _ _ _ rfl rfl (.cons _ _ _ _ _ rfl rfl (.cons _ _ _ _ _ rfl (renK_DB (by rfl) _ _ _ _ _) (.cons _ _ _ _ _ rfl (renK_pln _ hRP.pln _ _) .nil))))))))⟩
   have hc8 := bp hb8
   refine aw_skip (?_)
   refine x_then ?_
   first
   | exact ⟨_, ⟨RP, hparT (by assumption), rfl⟩, wq_ [0, 1, 2, 3, 4, 5, 6, 7] (.cons _ _ _ _ _ rfl rfl (.cons _ _ _ _ _ rfl rfl (.cons _ _ _ _ _ rfl rfl (.cons _ _ _ _ _ rfl rfl (.cons _ _ _ _ _ rfl rfl (.cons _ _ _ _ _ rfl rfl (.cons _ _ _ _ _ rfl (renK_DB (by rfl) _ _ _ _ _) (.cons _ _ _ _ _ rfl (renK_pln _ hRP.pln _ _) .nil))))))))⟩
   | exact ⟨_, ⟨RN, hparF (by assumption), rfl⟩, wq_ [0, 1, 2, 3, 4, 5, 6, 7] (.cons _ _ _ _ _ rfl rfl (.cons _ _ _ _ _ rfl rfl (.cons _ _ _ _ _ rfl rfl (.cons _ _ _ _ _ rfl rfl (.cons _ _ _ _ _ rfl rfl (.cons _ _ _ _ _ rfl rfl (.cons _ _ _ _ _ rfl (renK_DB (by rfl) _ _ _ _ _) (.cons _ _ _ _ _ rfl (renK_pln _ hR.pln _ _) .nil))))))))⟩
  rintro t ⟨RQ, hRQ, rfl⟩
  refine q_ (w_ (m_ (h:=e_ (?_))))
  refine aw_cond rfl (fun hb9 => ?_) (fun hb9 => ?_)
  ·have hc9 := bp hb9
   refine aw_region (l_ (h:=l_ (h:=?_)))
   refine al_p rfl (s_callM [6, 7] rfl (.cons _ _ _ _ _ rfl (LeA.refl _) (.cons _ _ _ _ _ rfl (LeA.refl _) .nil)) (by decide) (.cons _ _ _ _ _ rfl (ren_DB3 hD3n hD3l (by rfl)) (.cons _ _ _ _ _ rfl (ren_pln _ hRQ.pln _ _) .nil)) (hrel RQ hRQ) ?_)
   rintro r bc tc ⟨rfl, rfl, RM, hRM, rfl⟩
   refine ⟨rfl, _, (back_rel (Nat.le_of_ble_eq_true rfl) (Nat.le_of_ble_eq_true rfl) (by decide) f q ⟨d.next, dropI D3.nodes O.2⟩ f.length d.nodes.length d.nodes.length hRM.pln : Back _ [6, 7] _ [_, _, _, _, _, _, _, _]), ?_⟩
   refine e_ (?_)
   refine aw_midI (fun t => t = ⟨look [(10, .bp 3 0), (11, .sl 7 [chgA (src, name, A, (0, 0)), chgA (to, name2, O, A)] none), (12, .v (.int .i64 0))], ⟨[[.sl 2 (resD f q ⟨d.next, dropI D3.nodes O.2⟩ RM) none], filA src, filA to, [.sl 2 (resD f q ⟨d.next, dropI D3.nodes O.2⟩ RM) none]], []⟩⟩) ?_ ?_
   ·skip
    refine yk_ ([(0, [.bs 6 0 2 f.length f.length]), (1, filA src), (2, filA to), (4, filA A), (5, filA O)]) 14 (h:=dl_ 0 (h:=dl_ 1 (h:=dm_ 2 (h:=dl_ 3 (h:=?_)))))
    refine tk_ 4 rfl (fun _ hS => st_le (y := .agg (chgA (src, name, A, (0, 0)))) (st_build (by repeat (first | exact FillA.nil _ | (apply FillA.cons; (focus exact rfl); (focus exact rfl); (focus exact rfl); (focus exact rfl); (focus exact rfl); (focus (repeat constructor))))) ⟨rfl, rfl⟩) (by repeat (first | exact LeA.refl _ | exact LeA.nil _ | exact LeL.refl _ | refine LeA.agg ⟨rfl, rfl⟩ | refine LeA.tup ⟨rfl, rfl⟩ | exact LeL.nil | refine LeL.cons ⟨rfl, rfl⟩ ⟨rfl, rfl⟩ | exact LeA.any _)) ⟨rfl, rfl⟩) ?_
    refine dl_ 5 (h:=dm_ 6 (h:=dl_ 7 (h:=dl_ 8 (h:=?_))))
    refine tk_ 9 rfl (fun _ hS => st_le (y := .agg (chgA (to, name2, O, A))) (st_build (by repeat (first | exact FillA.nil _ | (apply FillA.cons; (focus exact rfl); (focus exact rfl); (focus exact rfl); (focus exact rfl); (focus exact rfl); (focus (repeat constructor))))) ⟨rfl, rfl⟩) (by repeat (first | exact LeA.refl _ | exact LeA.nil _ | exact LeL.refl _ | refine LeA.agg ⟨rfl, rfl⟩ | refine LeA.tup ⟨rfl, rfl⟩ | exact LeL.nil | refine LeL.cons ⟨rfl, rfl⟩ ⟨rfl, rfl⟩ | exact LeA.any _)) ⟨rfl, rfl⟩) ?_
    refine dbs_ 10 (h:=?_)
    refine c0_ 11 rfl (s_store rfl rfl rfl rfl rfl rfl (by repeat constructor) (by repeat constructor) ?_)
    refine o_ (h:=da_ 12 (h:=da_ 13 (h:=z_ (h:=?_))))
    refine x_then ?_
    exact ⟨_, rfl, wf_ 4 3 (congrArg (fun x : List AV => [x, filA src, filA to, x]) (liv_rowsN (n := 4) (i0 := 6) (i1 := 7) (f := f) (q := q) (d := ⟨d.next, dropI D3.nodes O.2⟩) (cap := f.length) (cap0 := f.length) (cap1 := d.nodes.length) hRM hql (Nat.le_refl _) hdl4 (Nat.le_of_ble_eq_true rfl) (Nat.le_of_ble_eq_true rfl) (by rfl) (by rfl)))⟩
   rintro t rfl
   refine aw_ret (?_)
   refine rt_ (r := chgR (renameL f src name to name2)) none (h5 := ?_) (h6 := ⟨rfl, rfl, rfl⟩)
   rw [hfin]
   exact LeA.tup (.cons (resD_leN hRM) (.cons (LeA.refl _) (.cons (LeA.refl _) .nil)))
  have hc9 := bp hb9
  exfalso; first | contradiction | omega
 have hc2 := bp hb2
 exfalso; first | contradiction | omega
theorem Pren_DB (f : Fls) (src : Fil) (name : Str) (to : Fil) (name2 : Str) {q : Nat} {d : Dvc} {i : Nat} {n1 : Nod} {j : Nat} {n2 : Nod} {p k : Nat} {m : Nod} {A O : Fil} (hv : FlsV f) (hS : srcL f src name to name2 = (A, 0)) (h : Ren f src name to name2 q d i n1 j n2 p k m A) (hO : entP f to name2 = (O, false)) (h2 : ren2L f src to A O 2 = 0) (hij : i ≠ j) (hF : 0 < n2.entries.length) : AFn Try.prog 47 [.agg (flsA f), .agg (filA src), .v (.string name), .agg (filA to), .v (.string name2)] (fun r => r = chgR (renameL f src name to name2)) := by
 have hf := hv.b
 have hsrc : AFn Try.prog 85 [.agg (flsA f), .agg (filA src), .v (.string name), .agg (filA to), .v (.string name2)] (fun r => r = .tup [.agg (filA A), .v (.int .i64 0)]) := (Psource f src name to name2 hv).mono fun r hr => by rw [hr, hS]
 have hent : AFn Try.prog 61 [.agg (flsA f), .agg (filA to), .v (.string name2)] (fun r => r = .tup [.agg (filA O), .v (.bool false)]) := (Pentry f to name2 hf).mono fun r hr => by rw [hr, hO]
 have hvd := hv.vd d (List.mem_of_getElem? h.hq)
 have hil := (List.getElem?_eq_some_iff.1 h.hi).1
 have hjl := (List.getElem?_eq_some_iff.1 h.hj).1
 have hql := (List.getElem?_eq_some_iff.1 h.hq).1
 have hfew := hf.few
 have hdn := hf.nodes d (List.mem_of_getElem? h.hq)
 have hen1 := hf.ents d (List.mem_of_getElem? h.hq) n1 (List.mem_of_getElem? h.hi)
 have hen2 := hf.ents d (List.mem_of_getElem? h.hq) n2 (List.mem_of_getElem? h.hj)
 obtain ⟨ep, hpe, hpn⟩ := h.hp
 have hpl := (List.getElem?_eq_some_iff.1 hpe).1
 have hE : 0 < n1.entries.length := by omega
 have hlen1 : (n1.entries.eraseIdx p).length = n1.entries.length - 1 := by rw [List.length_eraseIdx, if_pos hpl]
 have hfst1 : ∀ l x, l < i → d.nodes[l]? = some x → x.ino ≠ src.2 := fun l x hl hx => by rw [← h.hii]; exact asc_un hvd.asc h.hi l x hx (by omega)
 have hfst2 : ∀ l x, l < j → d.nodes[l]? = some x → x.ino ≠ to.2 := fun l x hl hx => by rw [← h.hjj]; exact asc_un hvd.asc h.hj l x hx (by omega)
 have hso := hvd.sorted n1 (List.mem_of_getElem? h.hi)
 have hsu := sorted_un hso hpe
 have hfsp : ∀ k e, k < p → n1.entries[k]? = some e → e.1 ≠ name := fun l x hl hx => by rw [← hpn]; exact hsu l x hx (by omega)
 have hee : n1.entries.eraseIdx p = entL n1.entries name 0 := by rw [entL_zero]; exact (without_erase hpe hpn (fun j x hj hne => by rw [← hpn]; exact hsu j x hj hne)).symm
 have hm2 : (entS d.nodes i n1 name 0)[j]? = some n2 := by unfold entS; rw [List.getElem?_set_ne hij]; exact h.hj
 have hx := h.x hv hm2 rfl
 obtain ⟨X, hX⟩ : ∃ X, X = entS (entS d.nodes i n1 name 0) j n2 name2 A.2 := ⟨_, rfl⟩
 rw [← hX] at hx
 have hXe : X = (d.nodes.set i { n1 with entries := n1.entries.eraseIdx p }).set j { n2 with entries := entL n2.entries name2 A.2 } := by rw [hX]; unfold entS; rw [hee]
 have hno2 : ∀ e ∈ n2.entries, e.1 ≠ name2 := ent_none h.n2o (by rw [hO])
 have hentl : (entL n2.entries name2 A.2).length = n2.entries.length + 1 := entL_new h.a0 hno2
 obtain ⟨D, hD⟩ : ∃ D : Dvc, D = ⟨d.next, X⟩ := ⟨_, rfl⟩
 have hDn : D.next = d.next := by rw [hD]
 have hDX : D.nodes = X := by rw [hD]
 have hDl : D.nodes.length = d.nodes.length := by rw [hDX]; exact inos_len hx.inos
 obtain ⟨RN, hRN⟩ : ∃ RN, RN = ((d.nodes.map nodF).set i (nodX n1 (.sl 2 ((n1.entries.eraseIdx p).map entA) none))).set j (nodX n2 (.sl 2 ((entL n2.entries name2 A.2).map entA) none)) := ⟨_, rfl⟩
 have hR : RowsN RN D.nodes := by rw [hRN, hD]; show RowsN _ X; rw [hXe]; exact rowsN_NY
 have hB : FlsB (f.set q D) := by rw [hD]; exact hx.fb
 have hdir : dirL (f.set q D) A = dirL f A := by rw [hD]; exact hx.dir h hv
 have hascX := hx.asc hv h.hq
 obtain ⟨mk, hmk, hmki, hmkk⟩ := hx.kinds k m h.hk
 have hmkD : D.nodes[k]? = some mk := by rw [hDX]; exact hmk
 have hmkA : mk.ino = A.2 := by rw [hmki, h.hm]
 obtain ⟨RP, hRP, hsetP⟩ := par_rows hR hmkD to.2 (cap := d.nodes.length)
 obtain ⟨D3, hD3⟩ : ∃ D3 : Dvc, D3 = ⟨d.next, renPar X A.2 to.2 (dirL f A)⟩ := ⟨_, rfl⟩
 have hparT : dirL f A = true → RowsN RP D3.nodes := fun hb => by
  rw [hD3, hb]
  show RowsN RP (renPar X A.2 to.2 true)
  unfold renPar
  rw [if_pos rfl, ← hmkA, ← set_updI hascX hmk (fun n => { n with parent := to.2 }), ← hDX]
  exact hRP
 have hparF : dirL f A = false → RowsN RN D3.nodes := fun hb => by
  rw [hD3, hb]
  show RowsN RN (renPar X A.2 to.2 false)
  unfold renPar
  rw [if_neg (by decide), ← hDX]
  exact hR
 have hi3 : D3.nodes.map (·.ino) = d.nodes.map (·.ino) := by rw [hD3]; exact (par_inos _ _ _ _).trans hx.inos
 have hD3l : D3.nodes.length = d.nodes.length := inos_len hi3
 have hD3n : D3.next = d.next := by rw [hD3]
 have hDB3 : DB f q D 7 f.length d.nodes.length = DB f q D3 7 f.length d.nodes.length := DB_same (by rw [hD3n, hDn]) (by rw [hD3l, hDl]) _ _ _
 have hle : LeA (lowG (frzG 0 [[.bs 6 0 2 f.length f.length], filA src, filA to, [.v (.slice none 0 0)], filA A, filA O, DB f q D 7 f.length d.nodes.length, rowsB 8 d.nodes.length RN] 3) (.agg [.bs 6 0 2 f.length f.length])) (.agg (flsA (f.set q D))) := by
  show LeA (.agg [lowG _ _]) _
  rw [low_rows (n := 0) (i0 := 6) (i1 := 7) hR hql (Nat.le_refl _) (Nat.le_of_eq hDl) (Nat.zero_le _) (Nat.zero_le _) rfl rfl]
  exact resD_leN hR
 have hfindA := PfindR0 f q D k mk A (rowsB 8 D.nodes.length RN) (fun j x hx => hR.ino j x hx) (fun _ _ => bp_pln hR.pln _ _) hql hmkD h.aq hmkA (fun l x hl hx => by rw [← hmkA]; exact asc_un (by rw [hDX]; exact hascX) hmkD l x hx (by omega)) hfew (by omega)
 rw [hDl] at hfindA
 have hfin : renameL f src name to name2 = (f.set q D3, [(src, name, A, (0, 0)), (to, name2, O, A)], 0) := by
  rw [h.done hv (by rw [hO]; exact fun hh => by cases hh.1) (by rw [hO]; exact h2) hx.eq, hO, if_neg (by simp), hD3]
 refine enter Try.func47 rfl rfl rfl rfl rfl 0 rfl ?_
 refine w_ (b_ (h:=b_ (h:=b_ (h:=al_ (h:=a_ (h:=a_ (h:=e_ (w_ (l_ (h:=l_ (h:=m_ (h:=l_ (h:=m_ (h:=?_))))))))))))))
 refine al_p rfl (q_call (hsrc) ?_)
 rintro r rfl
 refine m_ (h:=x_ (h:=x_ (h:=al_ (h:=s_ (h:=a_ (h:=e_ (q_ (w_ (m_ (h:=nq_ (h:=e_ (?_))))))))))))
 refine aw_cond rfl (fun hb1 => ?_) (fun hb1 => ?_)
 ·have hc1 := bp hb1
  exact absurd rfl hc1
 have hc1 := bp hb1
 refine kt_ (w_ (l_ (h:=l_ (h:=m_ (h:=?_)))))
 refine al_p rfl (q_call (hent) ?_)
 rintro r rfl
 refine m_ (h:=x_ (h:=x_ (h:=al_ (h:=s_ (h:=a_ (h:=e_ (q_ (w_ (m_ (h:=m_ (h:=?_)))))))))))
 refine al_gs true rfl rfl (fun hb2 => ?_) (fun hb2 => ?_)
 ·have hc2 := bp hb2
  exfalso; first | contradiction | omega
 have hc2 := bp hb2
 refine g0_ (h:=g0_ (h:=g0_ (h:=pf_ (h:=e_ (cn_ (h:=kt_ (?_)))))))
 refine aw_midI (fun t => t = ⟨look [(2, .v (.string name)), (4, .v (.string name2)), (5, .bp 0 0), (6, .bp 1 0), (8, .bp 2 0), (10, .bp 3 0), (13, .bp 4 0), (15, .bp 5 0), (16, .v (.bool false))], ⟨[flsA f, filA src, filA to, [.v (.slice none 0 0)], filA A, filA O], []⟩⟩) ?_ ?_
 ·skip
  refine aw_block (w_ (m_ (h:=m_ (h:=g0_ (h:=g0_ (h:=g0_ (h:=pf_ (h:=m_ (h:=g0_ (h:=g0_ (h:=g0_ (h:=g0_ (h:=pf_ (h:=a_ (h:=e_ (cn_ (h:=w_ (m_ (h:=m_ (h:=g0_ (h:=g0_ (h:=g0_ (h:=g0_ (h:=?_))))))))))))))))))))))))
  refine pf_ (h:=m_ (h:=g0_ (h:=g0_ (h:=g0_ (h:=pf_ (h:=a_ (h:=e_ (cn_ (h:=w_ (m_ (h:=m_ (h:=g0_ (h:=g0_ (h:=g0_ (h:=pf_ (h:=m_ (h:=g0_ (h:=g0_ (h:=g0_ (h:=g0_ (h:=g0_ (h:=g0_ (h:=g0_ (h:=?_))))))))))))))))))))))))
  refine g0_ (h:=pf_ (h:=a_ (h:=e_ (cn_ (h:=w_ (m_ (h:=nt_ (h:=m_ (h:=l_ (h:=l_ (h:=?_)))))))))))
  refine g_y (q_call (Pfull f to hf) ?_)
  rintro r rfl
  refine pt_ (h:=m_ (h:=?_))
  refine al_gs true rfl rfl (fun hb3 => ?_) (fun hb3 => ?_)
  ·have hc3 := bp hb3
   refine l_ (h:=l_ (h:=?_))
   refine g_y (st_binA rfl rfl (by repeat constructor) (by repeat constructor) (fun w => neqlFil _ _ _ _ w) (by kernel_rfl) ?_)
   refine pt_ (h:=a_ (h:=e_ (?_)))
   refine aw_cond rfl (fun hb4 => ?_) (fun hb4 => ?_)
   ·have hc4 := bp hb4
    exact absurd h2 (by simp [ren2L, hc3]; intro hh; exact hc4 hh)
   have hc4 := bp hb4
   refine aw_skip (x_blockN (?_))
   refine x_then ?_
   exact ⟨_, rfl, (wk 6 0)⟩
  have hc3 := bp hb3
  refine g0_ (h:=g0_ (h:=g0_ (h:=pf_ (h:=a_ (h:=e_ (cn_ (h:=aw_skip (x_blockN (?_)))))))))
  refine x_then ?_
  exact ⟨_, rfl, (wk 6 0)⟩
 rintro t rfl
 refine aw_midI (fun t => t = ⟨look [(2, .v (.string name)), (4, .v (.string name2)), (5, .bp 0 0), (6, .bp 1 0), (8, .bp 2 0), (10, .bp 3 0), (13, .bp 4 0), (15, .bp 5 0), (16, .v (.bool false))], ⟨[[.bs 6 0 2 f.length f.length], filA src, filA to, [.v (.slice none 0 0)], filA A, filA O, DB f q d 7 f.length d.nodes.length, NY d.nodes i n1 (.bs 9 0 2 n1.entries.length n1.entries.length) j n2 (.bs 8 0 2 n2.entries.length n2.entries.length) d.nodes.length, EB n2.entries n2.entries.length, EB n1.entries n1.entries.length], []⟩⟩) ?_ ?_
 ·skip
  refine aw_region (l_ (h:=?_))
  refine al_p rfl (s_callM [] rfl (.cons _ _ _ _ _ rfl (LeA.refl _) .nil) (by decide) .nil (PcopyFilesT f q d i n1 j n2 hf h.hq hij h.hi h.hj hE hF) ?_)
  rintro r bc tc ⟨rfl, rfl, rfl⟩
  refine ⟨rfl, _, (back_copyT (n := 6) rfl f q d i n1 j n2 f.length d.nodes.length n1.entries.length n2.entries.length : Back _ [] _ [_, _, _, _, _, _, _, _, _, _, _, _]), ?_⟩
  refine s_ (h:=al_nil (?_))
  refine x_then ?_
  exact ⟨_, rfl, wq_ [0, 1, 2, 3, 4, 5, 8, 9, 10, 11] (.cons _ _ _ _ _ rfl rfl (.cons _ _ _ _ _ rfl rfl (.cons _ _ _ _ _ rfl rfl (.cons _ _ _ _ _ rfl rfl (.cons _ _ _ _ _ rfl rfl (.cons _ _ _ _ _ rfl rfl (.cons _ _ _ _ _ rfl (renK_DB (by rfl) _ _ _ _ _) (.cons _ _ _ _ _ rfl (renK_NY (by rfl) (by rfl)) (.cons _ _ _ _ _ rfl (renK_EB _ _ _) (.cons _ _ _ _ _ rfl (renK_EB _ _ _) .nil))))))))))⟩
 rintro t rfl
 refine aw_midI (fun t => t = ⟨look [(2, .v (.string name)), (4, .v (.string name2)), (5, .bp 0 0), (6, .bp 1 0), (8, .bp 2 0), (10, .bp 3 0), (13, .bp 4 0), (15, .bp 5 0), (16, .v (.bool false))], ⟨[[.bs 6 0 2 f.length f.length], filA src, filA to, [.v (.slice none 0 0)], filA A, filA O, DB f q d 7 f.length d.nodes.length, NY d.nodes i n1 (.sl 2 ((n1.entries.eraseIdx p).map entA) none) j n2 (.bs 8 0 2 n2.entries.length n2.entries.length) d.nodes.length, EB n2.entries n2.entries.length], []⟩⟩) ?_ ?_
 ·skip
  refine aw_region (l_ (h:=l_ (h:=?_)))
  refine al_p rfl (s_callM [6, 7, 8, 9] rfl (.cons _ _ _ _ _ rfl (LeA.refl _) (.cons _ _ _ _ _ rfl (LeA.refl _) .nil)) (by decide) (.cons _ _ _ _ _ rfl (ren_DB (by rfl) _ _ _ _ _) (.cons _ _ _ _ _ rfl (ren_NY (by rfl) (by rfl)) (.cons _ _ _ _ _ rfl (ren_EB _ _ _) (.cons _ _ _ _ _ rfl (ren_EB _ _ _) .nil)))) (PfindR2 f q d i n1 src (NY d.nodes i n1 (.bs 3 0 2 n1.entries.length n1.entries.length) j n2 (.bs 2 0 2 n2.entries.length n2.entries.length) d.nodes.length) (EB n2.entries n2.entries.length) (EB n1.entries n1.entries.length) (fun _ _ hx => NY_ino h.hi h.hj hx) (fun _ hq2 => bp_NY (by simp [bpLt]; omega) (by simp [bpLt]; omega)) (fun _ _ => bp_EB _ _) (fun _ _ => bp_EB _ _) hql h.hi h.sq h.hii hfst1 hfew (by omega)) ?_)
  rintro r bc tc ⟨rfl, rfl, rfl⟩
  refine ⟨rfl, _, back_findR2 rfl rfl (ren_NY (by rfl) (by rfl)) rfl (fun g => ren_EB g _ _) rfl (fun g => ren_EB g _ _), ?_⟩
  refine m_ (h:=?_)
  refine al_p rfl (s_callM [7, 8, 9] rfl (.cons _ _ _ _ _ rfl (LeA.refl _) (.cons _ _ _ _ _ rfl (LeA.refl _) .nil)) (by decide) (.cons _ _ _ _ _ rfl (ren_NY (by rfl) (by rfl)) (.cons _ _ _ _ _ rfl (ren_EB _ _ _) (.cons _ _ _ _ _ rfl (ren_EB _ _ _) .nil))) (PdropY (NY d.nodes i n1 (.bs 2 0 2 n1.entries.length n1.entries.length) j n2 (.bs 1 0 2 n2.entries.length n2.entries.length) d.nodes.length) (fun x => NY d.nodes i n1 x j n2 (.bs 1 0 2 n2.entries.length n2.entries.length) d.nodes.length) (EB n2.entries n2.entries.length) i n1.entries name p n1.entries.length (NY_geti hij hil rfl) (fun x => NY_seti hij hil) (bp_NY rfl rfl) (bp_NY rfl rfl) (fun _ => bp_EB _ _) ⟨ep, hpe, hpn⟩ hfsp (by omega) (Nat.le_refl _)) ?_)
  rintro r bc tc ⟨rfl, rfl, rfl⟩
  rw [← hlen1]
  refine ⟨rfl, _, (back_dropY (Nat.le_of_ble_eq_true rfl) (Nat.le_of_ble_eq_true rfl) (Nat.le_of_ble_eq_true rfl) (by decide) (by decide) (by decide) : Back _ [7, 8, 9] _ [_, _, _, _, _, _, _, _, _, _]), ?_⟩
  refine al_nil (?_)
  refine x_then ?_
  refine ⟨_, rfl, wf_ 9 1 ?_⟩
  show [livL _ _ [.bs 6 0 2 f.length f.length], livL _ _ (filA src), livL _ _ (filA to), livL _ _ [.v (.slice none 0 0)], livL _ _ (filA A), livL _ _ (filA O), livL _ _ (DB f q d 7 f.length d.nodes.length), livL _ _ (NY d.nodes i n1 (.bs 9 0 2 (n1.entries.eraseIdx p).length n1.entries.length) j n2 (.bs 8 0 2 n2.entries.length n2.entries.length) d.nodes.length), livL _ _ (EB n2.entries n2.entries.length)] = _
  rw [liv_DB rfl, livL_NY (f := .sl 2 ((n1.entries.eraseIdx p).map entA) none) (f' := .bs 8 0 2 n2.entries.length n2.entries.length) (liv_rows (n := 9) (Nat.le_refl _) (frz_plain (n := 9) (k := 0) (j := 9) (Nat.le_refl _) rfl (ent_plain _)) (ent_two _) (by simp) (by simp; omega)) rfl, livL_EB]
  rfl
 rintro t rfl
 refine aw_midI (fun t => t = ⟨look [(2, .v (.string name)), (4, .v (.string name2)), (5, .bp 0 0), (6, .bp 1 0), (8, .bp 2 0), (10, .bp 3 0), (13, .bp 4 0), (15, .bp 5 0), (16, .v (.bool false))], ⟨[[.bs 6 0 2 f.length f.length], filA src, filA to, [.v (.slice none 0 0)], filA A, filA O, DB f q D 7 f.length d.nodes.length, rowsB 8 d.nodes.length RN], []⟩⟩) ?_ ?_
 ·skip
  refine yk_ ([(0, [.bs 6 0 2 f.length f.length]), (1, filA src), (2, filA to), (4, filA A)]) 7 (h:=dl_ 0 (h:=dl_ 1 (h:=dm_ 3 (h:=df_ 4 (h:=dl_ 5 (h:=?_))))))
  refine c_ 2 rfl (s_callM [6, 7, 8] rfl (.cons _ _ _ _ _ rfl (LeA.refl _) (.cons _ _ _ _ _ rfl (LeA.refl _) .nil)) (by decide) (.cons _ _ _ _ _ rfl (ren_DB (by rfl) _ _ _ _ _) (.cons _ _ _ _ _ rfl (ren_NY (by rfl) (by rfl)) (.cons _ _ _ _ _ rfl (ren_EB _ _ _) .nil))) (PfindR1 f q d j n2 to (NY d.nodes i n1 (.sl 2 ((n1.entries.eraseIdx p).map entA) none) j n2 (.bs 2 0 2 n2.entries.length n2.entries.length) d.nodes.length) (EB n2.entries n2.entries.length) (fun _ _ hx => NY_ino h.hi h.hj hx) (fun _ hq2 => bp_NY rfl (by simp [bpLt]; omega)) (fun _ _ => bp_EB _ _) hql h.hj h.tq h.hjj hfst2 hfew (by omega)) ?_)
  rintro r bc tc ⟨rfl, rfl, rfl⟩
  refine ⟨rfl, _, back_findR1 rfl rfl (ren_NY (by rfl) (by rfl)) rfl (fun g => ren_EB g _ _), ?_⟩
  refine o_ (h:=?_)
  refine c_ 6 rfl (s_callM [7, 8] rfl (.cons _ _ _ _ _ rfl (LeA.refl _) (.cons _ _ _ _ _ rfl (LeA.refl _) (.cons _ _ _ _ _ rfl (LeA.refl _) .nil))) (by decide) (.cons _ _ _ _ _ rfl (ren_NY (by rfl) (by rfl)) (.cons _ _ _ _ _ rfl (ren_EB _ _ _) .nil)) (PputB (NY d.nodes i n1 (.sl 2 ((n1.entries.eraseIdx p).map entA) none) j n2 (.bs 1 0 2 n2.entries.length n2.entries.length) d.nodes.length) (fun x => NY d.nodes i n1 (.sl 2 ((n1.entries.eraseIdx p).map entA) none) j n2 x d.nodes.length) j n2.entries name2 A.2 (NY_getj hjl rfl) (fun x => NY_setj hjl) (bp_NY rfl rfl) (fun _ => bp_NY rfl rfl) hF (by omega) h.a0 hno2) ?_)
  rintro r bc tc ⟨rfl, rfl, cap, hcap, rfl⟩
  refine ⟨rfl, _, (back_putB (n := 9) rfl (Nat.le_of_ble_eq_true rfl) (Nat.le_of_ble_eq_true rfl) (by decide) : Back _ [7, 8] _ [_, _, _, _, _, _, _, _, _, _]), ?_⟩
  refine o_ (h:=z_ (h:=?_))
  refine x_then ?_
  refine ⟨_, rfl, wf_ 8 1 ?_⟩
  show [livL _ _ [.bs 6 0 2 f.length f.length], livL _ _ (filA src), livL _ _ (filA to), livL _ _ [.v (.slice none 0 0)], livL _ _ (filA A), livL _ _ (filA O), livL _ _ (DB f q d 7 f.length d.nodes.length), livL _ _ (NY d.nodes i n1 (.sl 2 ((n1.entries.eraseIdx p).map entA) none) j n2 (.bs 9 0 2 (n2.entries.length + 1) cap) d.nodes.length)] = _
  rw [liv_DB rfl, livL_NY (f := .sl 2 ((n1.entries.eraseIdx p).map entA) none) (f' := .sl 2 ((entL n2.entries name2 A.2).map entA) none) rfl (liv_rows (n := 8) (Nat.le_of_ble_eq_true rfl) (frz_plain (n := 8) (k := 0) (j := 9) (Nat.le_of_ble_eq_true rfl) rfl (ent_plain _)) (ent_two _) (by rw [List.length_map, hentl]) (by rw [List.length_map, hentl]; omega)), hRN, DB_same hDn hDl]
  rfl
 rintro t rfl
 refine aw_midI (fun t => ∃ RQ, RowsN RQ D3.nodes ∧ t = ⟨look [(2, .v (.string name)), (4, .v (.string name2)), (5, .bp 0 0), (6, .bp 1 0), (8, .bp 2 0), (10, .bp 3 0), (13, .bp 4 0), (15, .bp 5 0), (16, .v (.bool false))], ⟨[[.bs 6 0 2 f.length f.length], filA src, filA to, [.v (.slice none 0 0)], filA A, filA O, DB f q D 7 f.length d.nodes.length, rowsB 8 d.nodes.length RQ], []⟩⟩) ?_ ?_
 ·skip
  refine w_ (l_ (h:=l_ (h:=?_)))
  refine al_p rfl (s_callR 3 rfl (.cons _ _ _ _ _ rfl hle (.cons _ _ _ _ _ rfl (LeA.refl _) .nil)) (PisDir (f.set q D) A hB) ?_)
  rintro r rfl
  refine ⟨rfl, ?_⟩
  rw [hdir]
  refine e_ (?_)
  refine aw_cond rfl (fun hb5 => ?_) (fun hb5 => ?_)
  ·have hc5 := bp hb5
   refine yk_ ([(0, [.bs 6 0 2 f.length f.length]), (1, filA src), (2, filA to), (4, filA A)]) 8 (h:=dl_ 0 (h:=dl_ 1 (h:=df_ 3 (h:=dl_ 4 (h:=?_)))))
   refine c_ 2 rfl (s_callM [6, 7] rfl (.cons _ _ _ _ _ rfl (LeA.refl _) (.cons _ _ _ _ _ rfl (LeA.refl _) .nil)) (by decide) (.cons _ _ _ _ _ rfl (ren_DB (by rfl) _ _ _ _ _) (.cons _ _ _ _ _ rfl (ren_pln _ hR.pln _ _) .nil)) (hfindA) ?_)
   rintro r bc tc ⟨rfl, rfl, rfl⟩
   refine ⟨rfl, _, back_findR0 rfl rfl (ren_pln _ hR.pln _ _), ?_⟩
   refine o_ (h:=dk_ 5 (h:=df_ 6 (h:=?_)))
   refine c0_ 7 rfl (s_store rfl rfl rfl rfl rfl rfl hsetP (by repeat constructor) ?_)
   refine o_ (h:=z_ (h:=?_))
   refine x_then ?_
   exact ⟨_, ⟨RP, hparT (by assumption), rfl⟩, wq_ [0, 1, 2, 3, 4, 5, 6, 7] (.cons _ _ _ _ _ rfl rfl (.cons _ _ _ _ _ rfl rfl (.cons _ _ _ _ _ rfl rfl (.cons _ _ _ _ _ rfl rfl (.cons _ _ _ _ _ rfl rfl (.cons _ _ _ _ _ rfl rfl (.cons _ _ _ _ _ rfl (renK_DB (by rfl) _ _ _ _ _) (.cons _ _ _ _ _ rfl (renK_pln _ hRP.pln _ _) .nil))))))))⟩
  have hc5 := bp hb5
  refine aw_skip (?_)
  refine x_then ?_
  first
  | exact ⟨_, ⟨RP, hparT (by assumption), rfl⟩, wq_ [0, 1, 2, 3, 4, 5, 6, 7] (.cons _ _ _ _ _ rfl rfl (.cons _ _ _ _ _ rfl rfl (.cons _ _ _ _ _ rfl rfl (.cons _ _ _ _ _ rfl rfl (.cons _ _ _ _ _ rfl rfl (.cons _ _ _ _ _ rfl rfl (.cons _ _ _ _ _ rfl (renK_DB (by rfl) _ _ _ _ _) (.cons _ _ _ _ _ rfl (renK_pln _ hRP.pln _ _) .nil))))))))⟩
  | exact ⟨_, ⟨RN, hparF (by assumption), rfl⟩, wq_ [0, 1, 2, 3, 4, 5, 6, 7] (.cons _ _ _ _ _ rfl rfl (.cons _ _ _ _ _ rfl rfl (.cons _ _ _ _ _ rfl rfl (.cons _ _ _ _ _ rfl rfl (.cons _ _ _ _ _ rfl rfl (.cons _ _ _ _ _ rfl rfl (.cons _ _ _ _ _ rfl (renK_DB (by rfl) _ _ _ _ _) (.cons _ _ _ _ _ rfl (renK_pln _ hR.pln _ _) .nil))))))))⟩
 rintro t ⟨RQ, hRQ, rfl⟩
 refine q_ (w_ (m_ (h:=e_ (?_))))
 refine aw_cond rfl (fun hb6 => ?_) (fun hb6 => ?_)
 ·have hc6 := bp hb6
  exfalso; first | contradiction | omega
 have hc6 := bp hb6
 refine kt_ (?_)
 refine aw_midI (fun t => t = ⟨look [(10, .bp 3 0), (11, .sl 7 [chgA (src, name, A, (0, 0)), chgA (to, name2, O, A)] none), (12, .v (.int .i64 0))], ⟨[[.sl 2 (resD f q D3 RQ) none], filA src, filA to, [.sl 2 (resD f q D3 RQ) none]], []⟩⟩) ?_ ?_
 ·skip
  refine yk_ ([(0, [.bs 6 0 2 f.length f.length]), (1, filA src), (2, filA to), (4, filA A), (5, filA O)]) 14 (h:=dl_ 0 (h:=dl_ 1 (h:=dm_ 2 (h:=dl_ 3 (h:=?_)))))
  refine tk_ 4 rfl (fun _ hS => st_le (y := .agg (chgA (src, name, A, (0, 0)))) (st_build (by repeat (first | exact FillA.nil _ | (apply FillA.cons; (focus exact rfl); (focus exact rfl); (focus exact rfl); (focus exact rfl); (focus exact rfl); (focus (repeat constructor))))) ⟨rfl, rfl⟩) (by repeat (first | exact LeA.refl _ | exact LeA.nil _ | exact LeL.refl _ | refine LeA.agg ⟨rfl, rfl⟩ | refine LeA.tup ⟨rfl, rfl⟩ | exact LeL.nil | refine LeL.cons ⟨rfl, rfl⟩ ⟨rfl, rfl⟩ | exact LeA.any _)) ⟨rfl, rfl⟩) ?_
  refine dl_ 5 (h:=dm_ 6 (h:=dl_ 7 (h:=dl_ 8 (h:=?_))))
  refine tk_ 9 rfl (fun _ hS => st_le (y := .agg (chgA (to, name2, O, A))) (st_build (by repeat (first | exact FillA.nil _ | (apply FillA.cons; (focus exact rfl); (focus exact rfl); (focus exact rfl); (focus exact rfl); (focus exact rfl); (focus (repeat constructor))))) ⟨rfl, rfl⟩) (by repeat (first | exact LeA.refl _ | exact LeA.nil _ | exact LeL.refl _ | refine LeA.agg ⟨rfl, rfl⟩ | refine LeA.tup ⟨rfl, rfl⟩ | exact LeL.nil | refine LeL.cons ⟨rfl, rfl⟩ ⟨rfl, rfl⟩ | exact LeA.any _)) ⟨rfl, rfl⟩) ?_
  refine dbs_ 10 (h:=?_)
  refine c0_ 11 rfl (s_store rfl rfl rfl rfl rfl rfl (by repeat constructor) (by repeat constructor) ?_)
  refine o_ (h:=da_ 12 (h:=da_ 13 (h:=z_ (h:=?_))))
  refine x_then ?_
  exact ⟨_, rfl, wf_ 4 3 (congrArg (fun x : List AV => [x, filA src, filA to, x]) (liv_rowsN (n := 4) (i0 := 6) (i1 := 7) (f := f) (q := q) (d := D3) (cap := f.length) (cap0 := f.length) (cap1 := d.nodes.length) hRQ hql (Nat.le_refl _) (Nat.le_of_eq hD3l) (Nat.le_of_ble_eq_true rfl) (Nat.le_of_ble_eq_true rfl) (by rw [← hDB3]; rfl) (by rfl)))⟩
 rintro t rfl
 refine aw_ret (?_)
 refine rt_ (r := chgR (renameL f src name to name2)) none (h5 := ?_) (h6 := ⟨rfl, rfl, rfl⟩)
 rw [hfin]
 exact LeA.tup (.cons (resD_leN hRQ) (.cons (LeA.refl _) (.cons (LeA.refl _) .nil)))
end
end Go.Proofs.Ythcbdkmhamhciaa
