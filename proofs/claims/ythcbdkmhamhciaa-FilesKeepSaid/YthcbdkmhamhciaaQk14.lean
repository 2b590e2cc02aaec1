/-
  Part 14 of the proof of FilesKeepP: what the statement's proof uses of the texts in wip/tpl.
-/
import Derived.Test.YthcbdkmhamhciaaQk13
namespace Go.Proofs.Ythcbdkmhamhciaa
open Go.RowKit
def NY (ns : List Nod) (i : Nat) (nI : Nod) (e : AV) (j : Nat) (nJ : Nod) (e' : AV) (m : Nat) : List AV := rowsB 8 m (((ns.map nodF).set i (nodX nI e)).set j (nodX nJ e'))
section
variable {ns : List Nod} {i : Nat} {nI : Nod} {e : AV} {j : Nat} {nJ : Nod} {e' : AV} {m : Nat}
theorem NY_eight : ∀ r ∈ ((ns.map nodF).set i (nodX nI e)).set j (nodX nJ e'), r.length = 8 := by
 intro r hr
 rcases List.mem_or_eq_of_mem_set hr with h | h
 ·exact NX_eight _ _ _ _ r h
 rw [h]; rfl
theorem NY_i (hij : i ≠ j) (hi : i < ns.length) : (((ns.map nodF).set i (nodX nI e)).set j (nodX nJ e'))[i]? = some (nodX nI e) := by
 rw [List.getElem?_set_ne (Ne.symm hij), List.getElem?_set_self (by simpa using hi)]
theorem NY_j (hj : j < ns.length) : (((ns.map nodF).set i (nodX nI e)).set j (nodX nJ e'))[j]? = some (nodX nJ e') := by
 rw [List.getElem?_set_self (by simpa using hj)]
theorem NY_geti {k : Nat} {x : AV} (hij : i ≠ j) (hi : i < ns.length) (hx : (nodX nI e)[k]? = some x) : (NY ns i nI e j nJ e' m)[0 + i * 8 + k]? = some x := rowsB_get NY_eight (NY_i hij hi) hx
theorem NY_getj {k : Nat} {x : AV} (hj : j < ns.length) (hx : (nodX nJ e')[k]? = some x) : (NY ns i nI e j nJ e' m)[0 + j * 8 + k]? = some x := rowsB_get NY_eight (NY_j hj) hx
theorem NY_seti {x : AV} (hij : i ≠ j) (hi : i < ns.length) : SetAt (NY ns i nI e j nJ e' m) (0 + i * 8 + 7) [x] (NY ns i nI x j nJ e' m) := by
 have key := rowsB_set (cap := m) (k := 7) (r' := nodX nI x) (cs := [x]) (NY_eight (ns := ns) (i := i) (nI := nI) (e := e) (j := j) (nJ := nJ) (e' := e')) (NY_i hij hi) (by repeat constructor) (List.cons_ne_nil _ _)
 rw [List.set_comm _ _ (Ne.symm hij), List.set_set] at key
 exact key
theorem NY_setj {x : AV} (hj : j < ns.length) : SetAt (NY ns i nI e j nJ e' m) (0 + j * 8 + 7) [x] (NY ns i nI e j nJ x m) := by
 have key := rowsB_set (cap := m) (k := 7) (r' := nodX nJ x) (cs := [x]) (NY_eight (ns := ns) (i := i) (nI := nI) (e := e) (j := j) (nJ := nJ) (e' := e')) (NY_j hj) (by repeat constructor) (List.cons_ne_nil _ _)
 rw [List.set_set] at key
 exact key
theorem NY_ino (hi : ns[i]? = some nI) (hj : ns[j]? = some nJ) {k : Nat} {x : Nod} (hx : ns[k]? = some x) : (NY ns i nI e j nJ e' m)[0 + k * 8 + 0]? = some (.v (.int .i64 x.ino)) := by
 have hil := (List.getElem?_eq_some_iff.1 hi).1
 have hjl := (List.getElem?_eq_some_iff.1 hj).1
 by_cases hkj : k = j
 ·subst hkj
  rw [hj] at hx
  injection hx with hx
  subst hx
  exact NY_getj hjl rfl
 by_cases hki : k = i
 ·subst hki
  rw [hi] at hx
  injection hx with hx
  subst hx
  exact NY_geti hkj hil rfl
 refine rowsB_get (r := nodF x) NY_eight ?_ rfl
 rw [List.getElem?_set_ne (Ne.symm hkj), List.getElem?_set_ne (Ne.symm hki), List.getElem?_map, hx]
 rfl
theorem bp_NY {n k : Nat} (he : bpLt n k e = true) (he' : bpLt n k e' = true) : bpLtL n k (NY ns i nI e j nJ e' m) = true := by
 refine bpLt_rowsB fun r hr => ?_
 rcases List.mem_or_eq_of_mem_set hr with h | h
 ·rcases List.mem_or_eq_of_mem_set h with h | h
  ·obtain ⟨d, _, rfl⟩ := List.mem_map.1 h
   exact bp_nodF d
  rw [h]; simp [nodX, bpLtL, bpLt, he]
 rw [h]; simp [nodX, bpLtL, bpLt, he']
theorem map_NY {F : AV → AV} (hany : F .any = .any) (hv : ∀ x, F (.v x) = .v x) (hs : ∀ sz rows, F (.sl sz rows none) = .sl sz rows none) {f f' : AV} (he : F e = f) (he' : F e' = f') : (NY ns i nI e j nJ e' m).map F = NY ns i nI f j nJ f' m := by
 unfold NY
 rw [rowsB_map F hany, List.map_set, List.map_set]
 have e1 : ((ns.map nodF).map fun r => r.map F) = ns.map nodF := by
  rw [List.map_map]
  apply List.map_congr_left
  intro n _
  exact map_nodF hv hs n
 rw [e1]
 congr 2
 ·congr 1
  simp [nodX, hv, he]
 simp [nodX, hv, he']
theorem ren_NY {g : Nat → Option Nat} {f f' : AV} (he : ren g e = f) (he' : ren g e' = f') : renL g (NY ns i nI e j nJ e' m) = NY ns i nI f j nJ f' m := by
 rw [renL_map]; exact map_NY rfl (fun _ => rfl) (fun _ _ => rfl) he he'
theorem renK_NY {g : Nat → Option Nat} {f f' : AV} (he : renK g e = f) (he' : renK g e' = f') : renKL g (NY ns i nI e j nJ e' m) = NY ns i nI f j nJ f' m := by
 rw [renKL_map]; exact map_NY rfl (fun _ => rfl) (fun _ _ => rfl) he he'
theorem livL_NY {n : Nat} {g : Nat → Option (List AV)} {f f' : AV} (he : liv n g e = f) (he' : liv n g e' = f') : livL n g (NY ns i nI e j nJ e' m) = NY ns i nI f j nJ f' m := by
 rw [livL_map]; exact map_NY rfl (fun _ => rfl) (fun _ _ => rfl) he he'
theorem NY_comm (hij : i ≠ j) : NY ns i nI e j nJ e' m = NY ns j nJ e' i nI e m := by
 unfold NY
 rw [List.set_comm _ _ hij]
theorem rowsN_NY {es es' : List Ent} : RowsN (((ns.map nodF).set i (nodX nI (.sl 2 (es.map entA) none))).set j (nodX nJ (.sl 2 (es'.map entA) none))) ((ns.set i { nI with entries := es }).set j { nJ with entries := es' }) := (rowsN_set ns i nI es).set j (rowN_A { nJ with entries := es' })
end
theorem entL_repl {name : Str} {ino : Int} (h0 : ino ≠ 0) : ∀ {es : List Ent} {p : Nat} {e : Ent}, Sorted es → es[p]? = some e → e.1 = name → entL es name ino = es.set p (name, ino) := by
 have key : ∀ {es : List Ent} {p : Nat} {e : Ent}, Sorted es → es[p]? = some e → e.1 = name → entGo name ino false es = es.set p (name, ino) := by
  intro es
  induction es with
  | nil => intro p e _ h; simp at h
  | cons x es ih =>
    intro p e hs hp hn
    obtain ⟨h1, h2⟩ := List.pairwise_cons.1 hs
    cases p with
    | zero =>
      simp at hp
      subst hp
      have hw : without name es = es := by
       unfold without
       rw [List.filter_eq_self]
       intro y hy
       have := lt_ne (h1 y hy)
       rw [hn] at this
       simpa using Ne.symm this
      unfold entGo
      rw [hn, lt_irr]
      simp [entGo_done, hw]
    | succ p =>
      simp at hp
      have hlt := h1 e (List.mem_of_getElem? hp)
      rw [hn] at hlt
      unfold entGo
      rw [hlt, if_neg (lt_ne hlt)]
      simp only [Bool.not_true, Bool.and_false, Bool.false_eq_true, if_false, List.nil_append, Bool.or_false]
      rw [ih h2 hp hn]
      simp
 intro es p e hs hp hn
 unfold entL
 rw [show (ino == 0) = false by simpa using h0]
 exact key hs hp hn
theorem EB_set {es : List Ent} {cap p : Nat} {e : Ent} {ino : Int} (hp : es[p]? = some e) : SetAt (EB es cap) (0 + p * 2 + 1) [.v (.int .i64 ino)] (EB (es.set p (e.1, ino)) cap) := by
 have key := rowsB_set (cap := cap) (k := 1) (r' := entA (e.1, ino)) (cs := [.v (.int .i64 ino)]) (ent_two es) (by rw [List.getElem?_map, hp]; rfl) (by repeat constructor) (List.cons_ne_nil _ _)
 rw [← List.map_set] at key
 exact key
theorem EB_push (es : List Ent) (e : Ent) (cap : Nat) (hc : es.length + 1 ≤ cap) : SetAt (EB es cap) (0 + es.length * 2) (entA e) (EB (es ++ [e]) cap) := by
 have := rowsB_pushL (sz := 2) (cap := cap) (rows := es.map entA) (news := [entA e]) (ent_two _) (fun x hx => by rw [List.mem_singleton.1 hx]; rfl) (by decide) (by simp) (by simpa using hc)
 rw [List.length_map] at this
 unfold EB
 rw [List.map_append]
 exact this
theorem EB_shift (es : List Ent) (i cap : Nat) (e : Ent) (hi : i < es.length) (hc : es.length + 1 ≤ cap) : ∃ row, SetAt (EB es cap) (0 + (i + 1) * 2) (((EB es cap).drop (0 + i * 2)).take ((es.length - i) * 2)) row ∧ row.length = cap * 2 ∧ SetAt row (0 + i * 2) (entA e) (EB (insE es i e) cap) := by
 rw [ent_flat2 es cap i (by omega)]
 obtain ⟨x, hx⟩ : ∃ x, es[i]? = some x := ⟨_, List.getElem?_eq_getElem hi⟩
 have hd : es.drop i = x :: es.drop (i + 1) := by rw [List.drop_eq_getElem_cons hi]; congr 1; exact (List.getElem?_eq_some_iff.1 hx).2
 have hs : es = es.take i ++ x :: es.drop (i + 1) := by rw [← hd, List.take_append_drop]
 have lA : ((es.take i).map entA).flatten.length = i * 2 := by rw [flat_len (ent_two _)]; simp; omega
 have lX : ((es.drop i).map entA).flatten.length = (es.length - i) * 2 := by rw [flat_len (ent_two _)]; simp
 have lY : ((es.drop (i + 1)).map entA).flatten.length = (es.length - (i + 1)) * 2 := by rw [flat_len (ent_two _)]; simp
 have hE : EB es cap = (((es.take i).map entA).flatten ++ entA x) ++ ((((es.drop (i + 1)).map entA).flatten ++ List.replicate 2 .any) ++ List.replicate ((cap - (es.length + 1)) * 2) .any) := by
  unfold EB rowsB
  rw [List.length_map, show (cap - es.length) * 2 = 2 + (cap - (es.length + 1)) * 2 by omega, ← List.replicate_append_replicate]
  conv => lhs; arg 1; rw [hs]
  simp only [List.map_append, List.map_cons, List.flatten_append, List.flatten_cons, List.append_assoc]
 refine ⟨(((es.take i).map entA).flatten ++ entA x) ++ (((es.drop i).map entA).flatten ++ List.replicate ((cap - (es.length + 1)) * 2) .any), ?_, ?_, ?_⟩
 ·rw [hE]
  have key := SetAt.right (SetAt.whole (xs := ((es.drop i).map entA).flatten) (l := ((es.drop (i + 1)).map entA).flatten ++ List.replicate 2 .any) (b := List.replicate ((cap - (es.length + 1)) * 2) .any) (by rw [List.length_append, lX, lY, List.length_replicate]; omega)) (((es.take i).map entA).flatten ++ entA x) (fun h => by rw [h, List.length_nil] at lX; omega)
  rw [List.length_append, lA, Nat.add_zero, show (entA x).length = 2 from rfl] at key
  rw [Nat.zero_add, show (i + 1) * 2 = i * 2 + 2 by omega]
  exact key
 ·simp only [List.length_append, lA, lX, List.length_replicate, Nat.sub_mul, show (entA x).length = 2 from rfl]
  omega
 have key := SetAt.right (SetAt.whole (xs := entA e) (l := entA x) (b := ((es.drop i).map entA).flatten ++ List.replicate ((cap - (es.length + 1)) * 2) .any) rfl) ((es.take i).map entA).flatten (List.cons_ne_nil _ _)
 rw [lA, Nat.add_zero] at key
 rw [Nat.zero_add, List.append_assoc]
 refine cast ?_ key
 congr 1
 unfold EB rowsB insE
 simp only [List.map_append, List.map_cons, List.flatten_append, List.flatten_cons, List.append_assoc, List.length_append, List.length_cons, List.length_map, List.length_take, List.length_drop]
 rw [show min i es.length + (es.length - i + 1) = es.length + 1 by omega]
section
set_option maxRecDepth 10000
set_option maxHeartbeats 1000000
theorem PinsC1 (es : List Ent) (e : Ent) (cap : Nat) (hes : es.length ≤ 1000) (hc : es.length + 1 ≤ cap) : ACall Try.prog 93 [.bs 0 0 2 es.length cap, .v (.int .i64 (es.length : Int)), .bs 1 0 2 1 1] [EB es cap, entA e] (fun r b t => t = [] ∧ r = .bs 0 0 2 (es.length + 1) cap ∧ b = [EB (es ++ [e]) cap, entA e]) := by
 have hfit : 0 + cap * 2 ≤ (EB es cap).length := by rw [EB_len es _ (by omega)]; omega
 refine enter Try.func93 rfl rfl rfl rfl rfl 2 rfl ?_
 refine w_ (a_ (h:=e_ (w_ (m_ (h:=m_ (h:=?_))))))
 refine al_p rfl (st_sliceAny rfl rfl rfl (Nat.le_refl _) ?_)
 refine e_ (w_ (m_ (h:=?_)))
 refine al_p rfl (st_lenB rfl ?_)
 refine a_ (h:=e_ (q_ (w_ (m_ (h:=eq_ (h:=e_ (?_)))))))
 refine aw_cond rfl (fun hb1 => ?_) (fun hb1 => ?_)
 ·have hc1 := bp hb1
  exfalso; first | contradiction | omega
 have hc1 := bp hb1
 refine kt_ (w_ (m_ (h:=?_)))
 refine al_p rfl (st_lenB rfl ?_)
 refine a_ (h:=e_ (q_ (w_ (m_ (h:=m_ (h:=eq_ (h:=e_ (?_))))))))
 refine aw_cond rfl (fun hb2 => ?_) (fun hb2 => ?_)
 ·have hc2 := bp hb2
  refine w_ (m_ (h:=m_ (h:=?_)))
  refine al_p rfl (st_appendB rfl rfl rfl hfit (SrcA.bs 1 0 1 1 _ rfl (Nat.le_of_ble_eq_true rfl)) (by decide) (by omega) ?_ (fun h => absurd h (by omega)))
  intro _ row2 bx2 hs1 hs2
  obtain rfl : row2 = EB (es ++ [e]) cap := hs1.det (EB_push es e cap hc)
  obtain rfl := (SetAt.one hs2).2
  refine a_ (h:=e_ (aw_ret (x_thenR (?_))))
  refine abody_ret (r := .bs 0 0 2 (es.length + 1) cap) none (by repeat (first | exact ResA.nil | (apply ResA.tmp; (focus exact rfl)) | (apply ResA.cellN; (focus exact inferInstance); (focus exact rfl); (focus exact rfl); (focus exact rfl)) | (apply ResA.cell1; (focus exact inferInstance); (focus exact rfl); (focus exact rfl); (focus exact rfl)))) rfl rfl (by show (bpLtL 2 0 (EB (es ++ [e]) cap) && (bpLtL 2 0 (entA e) && true)) = true; rw [bp_EB]; rfl) (LeA.refl _) ⟨rfl, rfl, rfl⟩
 have hc2 := bp hb2
 exact absurd rfl hc2
theorem PinsC2 (es : List Ent) (i : Nat) (e : Ent) (cap : Nat) (hes : es.length ≤ 1000) (hi : i < es.length) (hc : es.length + 1 ≤ cap) : ACall Try.prog 93 [.bs 0 0 2 es.length cap, .v (.int .i64 (i : Int)), .bs 1 0 2 1 1] [EB es cap, entA e] (fun r b t => t = [] ∧ r = .bs 0 0 2 (es.length + 1) cap ∧ b = [EB (insE es i e) cap, entA e]) := by
 have hel := EB_len es cap (by omega)
 obtain ⟨row, hr1, hrl, hr2⟩ := EB_shift es i cap e hi hc
 have hr1x : SetAt (EB es cap) (0 + (i + 1) * 2) (((EB es cap).drop (0 + i * 2)).take ((es.length + 1 - (i + 1)) * 2)) row := by rw [show es.length + 1 - (i + 1) = es.length - i by omega]; exact hr1
 refine enter Try.func93 rfl rfl rfl rfl rfl 2 rfl ?_
 refine w_ (a_ (h:=e_ (w_ (m_ (h:=m_ (h:=?_))))))
 refine al_p rfl (st_sliceAny rfl rfl rfl (by omega) ?_)
 refine e_ (w_ (m_ (h:=?_)))
 refine al_p rfl (st_lenB rfl ?_)
 refine a_ (h:=e_ (q_ (w_ (m_ (h:=eq_ (h:=e_ (?_)))))))
 refine aw_cond rfl (fun hb1 => ?_) (fun hb1 => ?_)
 ·have hc1 := bp hb1
  exfalso; first | contradiction | omega
 have hc1 := bp hb1
 refine kt_ (w_ (m_ (h:=?_)))
 refine al_p rfl (st_lenB rfl ?_)
 refine a_ (h:=e_ (q_ (w_ (m_ (h:=m_ (h:=eq_ (h:=e_ (?_))))))))
 refine aw_cond rfl (fun hb2 => ?_) (fun hb2 => ?_)
 ·have hc2 := bp hb2
  exfalso; omega
 have hc2 := bp hb2
 refine kt_ (q_ (w_ (m_ (h:=m_ (h:=?_)))))
 refine al_p rfl (st_add64 rfl rfl (by omega) ?_)
 refine m_ (h:=?_)
 refine al_p rfl (st_capB rfl ?_)
 refine gt_ (h:=e_ (?_))
 refine aw_cond rfl (fun hb3 => ?_) (fun hb3 => ?_)
 ·have hc3 := bp hb3
  exfalso; omega
 have hc3 := bp hb3
 refine kt_ (w_ (m_ (h:=m_ (h:=m_ (h:=?_)))))
 refine al_p rfl (st_add64 rfl rfl (by omega) ?_)
 refine al_p rfl (st_sliceUp (k := es.length + 1) rfl rfl (by omega) (by omega) ?_)
 refine a_ (h:=e_ (q_ (w_ (m_ (h:=m_ (h:=m_ (h:=m_ (h:=?_))))))))
 refine al_p rfl (st_add64 rfl rfl (by omega) ?_)
 refine al_p rfl (st_sliceLoB (l := i + 1) rfl rfl (by omega) (by omega) ?_)
 refine al_p rfl (st_overlaps (T := 32) (T2 := 4) Try.func109 (by kernel_rfl) (by kernel_rfl) (by kernel_rfl) (by kernel_rfl) rfl rfl rfl (by decide) rfl rfl (by rw [hel]; omega) ?_)
 refine nt_ (h:=e_ (?_))
 refine aw_cond rfl (fun hb4 => ?_) (fun hb4 => ?_)
 ·have hc4 := bp hb4
  refine q_ (yk_ ([(1, entA e)]) 9 (h:=dm_ 0 (h:=dm_ 1 (h:=dm_ 2 (h:=?_)))))
  refine tk_ 3 rfl (fun _ hS => st_add64 rfl rfl (by omega) ⟨rfl, rfl⟩) ?_
  refine tk_ 4 rfl (fun _ hS => st_sliceLoB (l := i + 1) rfl rfl (by omega) (by omega) ⟨rfl, rfl⟩) ?_
  refine dm_ 5 (h:=dm_ 6 (h:=?_))
  refine tk_ 7 rfl (fun _ hS => st_sliceLoB (l := i) rfl rfl rfl (by omega) ⟨rfl, rfl⟩) ?_
  refine c_ 8 rfl (st_copyMB rfl rfl rfl rfl (by omega) (by omega) (by rw [hel]; omega) (by rw [hel]; omega) hr1x (by repeat constructor) ?_)
  refine o_ (h:=z_ (h:=t_ (w_ (m_ (h:=m_ (h:=?_))))))
  refine al_p rfl (st_sliceLoB (l := i) rfl rfl rfl (by omega) ?_)
  refine m_ (h:=?_)
  refine al_p rfl (st_copyB rfl rfl rfl (SrcA.bs 1 0 1 1 _ rfl (Nat.le_of_ble_eq_true rfl)) (by decide) (by omega) (by rw [hrl]; omega) hr2 (by repeat constructor) ?_)
  refine e_ (w_ (m_ (h:=a_ (h:=e_ (aw_ret (x_thenR (?_)))))))
  refine abody_ret (r := .bs 0 0 2 (es.length + 1) cap) none (by repeat (first | exact ResA.nil | (apply ResA.tmp; (focus exact rfl)) | (apply ResA.cellN; (focus exact inferInstance); (focus exact rfl); (focus exact rfl); (focus exact rfl)) | (apply ResA.cell1; (focus exact inferInstance); (focus exact rfl); (focus exact rfl); (focus exact rfl)))) rfl rfl (by show (bpLtL 2 0 (EB (insE es i e) cap) && (bpLtL 2 0 (entA e) && true)) = true; rw [bp_EB]; rfl) (LeA.refl _) ⟨rfl, rfl, rfl⟩
 have hc4 := bp hb4
 exfalso; first | contradiction | omega
theorem PinsC (es : List Ent) (i : Nat) (e : Ent) (cap : Nat) (hes : es.length ≤ 1000) (hi : i ≤ es.length) (hc : es.length + 1 ≤ cap) : ACall Try.prog 93 [.bs 0 0 2 es.length cap, .v (.int .i64 (i : Int)), .bs 1 0 2 1 1] [EB es cap, entA e] (fun r b t => t = [] ∧ r = .bs 0 0 2 (es.length + 1) cap ∧ b = [EB (insE es i e) cap, entA e]) := by
 have hfit : 0 + cap * 2 ≤ (EB es cap).length := by rw [EB_len es _ (by omega)]; omega
 have hbp : bpLtB 2 0 [EB (insE es i e) cap, entA e] = true := by show (bpLtL 2 0 (EB (insE es i e) cap) && (bpLtL 2 0 (entA e) && true)) = true; rw [bp_EB]; rfl
 by_cases hlast : i = es.length
 ·subst hlast
  have hins : insE es es.length e = es ++ [e] := by unfold insE; rw [List.take_length, List.drop_length]
  rw [hins] at hbp ⊢
  exact PinsC1 es e cap hes hc
 exact PinsC2 es i e cap hes (by omega) hc
end
theorem back_E2 (a b : List AV) (es es' : List Ent) (cap cap' : Nat) : Back [a, b, EB es cap] [2] [EB es' cap'] [a, b, EB es' cap'] := by
 have := back_F (bx := [a, b, EB es cap]) (is := [2]) (bc := [EB es' cap']) (by decide) (by simp) (by simp)
 simpa [backF, ren_EB] using this
theorem back_EC (a : List AV) (es es' : List Ent) (cap : Nat) (e : Ent) : Back [a, EB es cap, entA e] [1, 2] [EB es' cap, entA e] [a, EB es' cap, entA e] := by
 have := back_F (bx := [a, EB es cap, entA e]) (is := [1, 2]) (bc := [EB es' cap, entA e]) (by decide) (by simp) (by simp)
 have e2 : renL (backS [1, 2] [a, EB es cap, entA e].length) (entA e) = entA e := by simp [renL, ren, entA]
 simp only [backF, ren_EB, e2] at this
 simpa [List.set] using this
section
set_option maxRecDepth 10000
set_option maxHeartbeats 1000000
theorem PdropY (R : List AV) (R1 : AV → List AV) (E1 : List AV) (i : Nat) (es : List Ent) (name : Str) (p : Nat) (cap : Nat) (h7 : R[0 + i * 8 + 7]? = some (.bs 2 0 2 es.length cap)) (hset : ∀ x, SetAt R (0 + i * 8 + 7) [x] (R1 x)) (hbp : bpLtL 3 0 R = true) (hbp2 : bpLtL 3 0 (R1 (.bs 2 0 2 (es.length - 1) cap)) = true) (hE1 : ∀ q, bpLtL q 0 E1 = true) (hp : ∃ e, es[p]? = some e ∧ e.1 = name) (hfst : ∀ k e, k < p → es[k]? = some e → e.1 ≠ name) (hEn : es.length ≤ 1000) (hcap : es.length ≤ cap) : ACall Try.prog 86 [.bp 0 (0 + i * 8), .v (.string name)] [R, E1, EB es cap] (fun r b t => t = [] ∧ r = .tup [] ∧ b = [R1 (.bs 2 0 2 (es.length - 1) cap), E1, EB (es.eraseIdx p) cap]) := by
 obtain ⟨ep, hpe, hpn⟩ := hp
 have hpl := (List.getElem?_eq_some_iff.1 hpe).1
 refine enter Try.func86 rfl rfl rfl rfl rfl 3 rfl ?_
 refine w_ (m_ (h:=k_ (h:=f_ (h:=?_))))
 refine al_p rfl (st_loadB1 rfl rfl h7 ?_)
 refine al_p rfl (st_lenB rfl ?_)
 refine m_ (h:=e_ (aw_block (?_)))
 refine aw_loopW (fun n t => ∃ j : Nat, j ≤ es.length ∧ n = es.length - j ∧ (∀ k x, k < j → es[k]? = some x → x.1 ≠ name) ∧ t = ⟨look [(0, .bp 0 (0 + i * 8)), (1, .v (.string name)), (9, .v (.int .i64 (es.length : Int))), (10, .v (.int .i64 (j : Int)))], ⟨[R, E1, EB es cap], []⟩⟩) (es.length) (wb_ 3 0 (by simp [bpLtB, bp_EB, hbp, hE1])) (⟨0, Nat.zero_le _, rfl, fun k x hk => by omega, rfl⟩) ?_
 rintro n t ⟨j, hj, rfl, hnot, rfl⟩
 refine w_ (lt_ (h:=e_ (q_ (?_))))
 refine aw_cond rfl (fun hb1 => ?_) (fun hb1 => ?_)
 ·have hc1 := bp hb1
  have hjl : j < es.length := by omega
  obtain ⟨y, hy⟩ : ∃ y, es[j]? = some y := ⟨_, List.getElem?_eq_getElem hjl⟩
  refine kt_ (q_ (aw_block (w_ (m_ (h:=a_ (h:=e_ (w_ (m_ (h:=k_ (h:=f_ (h:=?_)))))))))))
  refine al_p rfl (st_loadB1 rfl rfl h7 ?_)
  refine m_ (h:=?_)
  refine al_p rfl (st_indexS (m := j) rfl rfl rfl hjl ?_)
  refine f_ (h:=?_)
  refine al_p rfl (st_loadB1 rfl rfl (EB_get hy rfl) ?_)
  refine m_ (h:=eq_ (h:=e_ (?_)))
  refine aw_cond rfl (fun hb2 => ?_) (fun hb2 => ?_)
  ·have hc2 := bp hb2
   obtain rfl : j = p := by
    rcases Nat.lt_trichotomy j p with h | h | h
    ·exact absurd hc2 (hfst j y h hy)
    ·exact h
    exact absurd hpn (hnot p ep h hpe)
   refine w_ (m_ (h:=m_ (h:=k_ (h:=f_ (h:=?_)))))
   refine al_p rfl (st_loadB1 rfl rfl h7 ?_)
   refine m_ (h:=m_ (h:=?_))
   refine al_p rfl (st_add64 rfl rfl (by omega) ?_)
   refine al_p rfl (s_callM [2] rfl (.cons _ _ _ _ _ rfl (LeA.refl _) (.cons _ _ _ _ _ rfl (LeA.refl _) (.cons _ _ _ _ _ rfl (LeA.refl _) .nil))) (by decide) (.cons _ _ _ _ _ rfl (ren_EB _ _ _) .nil) (PdelE es j cap hjl hEn hcap) ?_)
   rintro r bc tc ⟨rfl, rfl, rfl⟩
   refine ⟨rfl, _, (back_E2 _ _ _ _ _ _ : Back _ [2] _ [_, _, _]), ?_⟩
   refine k_ (h:=f_ (h:=?_))
   refine al_p0 (s_store rfl rfl rfl rfl rfl rfl (hset _) (by repeat constructor) ?_)
   refine e_ (aw_ret (x_blockR (x_thenR (x_thenR (x_blockR (?_))))))
   refine abody_ret (r := .tup []) none (by repeat (first | exact ResA.nil | (apply ResA.tmp; (focus exact rfl)) | (apply ResA.cellN; (focus exact inferInstance); (focus exact rfl); (focus exact rfl); (focus exact rfl)) | (apply ResA.cell1; (focus exact inferInstance); (focus exact rfl); (focus exact rfl); (focus exact rfl)))) rfl rfl (by show (bpLtL 3 0 (R1 (.bs 2 0 2 (es.length - 1) cap)) && (bpLtL 3 0 E1 && (bpLtL 3 0 (EB (es.eraseIdx j) cap) && true))) = true; rw [hbp2, hE1, bp_EB]; rfl) (LeA.refl _) ⟨rfl, rfl, rfl⟩
  have hc2 := bp hb2
  refine aw_skip (x_blockN (t_ (aw_region (ad_ (h:=m_ (h:=al_nil (?_)))))))
  refine x_then ?_
  refine ⟨es.length - (j + 1), _, by omega, ⟨j + 1, by omega, rfl, fun k x hk hk2 => ?_, rfl⟩, wb_ 3 0 (by simp [bpLtB, bp_EB, hbp, hE1])⟩
  rcases Nat.lt_succ_iff_lt_or_eq.1 hk with h | rfl
  ·exact hnot k x h hk2
  rw [hy] at hk2; injection hk2 with hk2; subst hk2; assumption
 have hc1 := bp hb1
 exact absurd hpn (hnot p ep (by omega) hpe)
theorem PputA (R : List AV) (i : Nat) (es : List Ent) (name : Str) (ino : Int) (cap : Nat) (p : Nat) (h7 : R[0 + i * 8 + 7]? = some (.bs 1 0 2 es.length cap)) (hbp : bpLtL 2 0 R = true) (hp : ∃ e, es[p]? = some e ∧ e.1 = name) (hfst : ∀ k e, k < p → es[k]? = some e → e.1 ≠ name) (hEn : es.length ≤ 1000) : ACall Try.prog 64 [.bp 0 (0 + i * 8), .v (.string name), .v (.int .i64 ino)] [R, EB es cap] (fun r b t => t = [] ∧ r = .tup [] ∧ b = [R, EB (es.set p (name, ino)) cap]) := by
 obtain ⟨ep, hpe, hpn⟩ := hp
 have hpl := (List.getElem?_eq_some_iff.1 hpe).1
 refine enter Try.func64 rfl rfl rfl rfl rfl 2 rfl ?_
 refine q_ (w_ (m_ (h:=k_ (h:=f_ (h:=?_)))))
 refine al_p rfl (st_loadB1 rfl rfl h7 ?_)
 refine al_p rfl (st_lenB rfl ?_)
 refine m_ (h:=e_ (aw_block (?_)))
 refine aw_loopW (fun m t => ∃ j : Nat, j ≤ es.length ∧ m = es.length - j ∧ (∀ k x, k < j → es[k]? = some x → x.1 ≠ name) ∧ t = ⟨look [(0, .bp 0 (0 + i * 8)), (1, .v (.string name)), (2, .v (.int .i64 ino)), (12, .v (.int .i64 (es.length : Int))), (13, .v (.int .i64 (j : Int)))], ⟨[R, EB es cap], []⟩⟩) (es.length) (wb_ 2 0 (by simp [bpLtB, bp_EB, hbp])) (⟨0, Nat.zero_le _, rfl, fun k x hk => by omega, rfl⟩) ?_
 rintro m t ⟨j, hj, rfl, hnot, rfl⟩
 refine w_ (lt_ (h:=e_ (q_ (?_))))
 refine aw_cond rfl (fun hb1 => ?_) (fun hb1 => ?_)
 ·have hc1 := bp hb1
  have hjl : j < es.length := by omega
  obtain ⟨y, hy⟩ : ∃ y, es[j]? = some y := ⟨_, List.getElem?_eq_getElem hjl⟩
  refine kt_ (q_ (aw_block (w_ (m_ (h:=a_ (h:=e_ (w_ (m_ (h:=k_ (h:=f_ (h:=?_)))))))))))
  refine al_p rfl (st_loadB1 rfl rfl h7 ?_)
  refine m_ (h:=?_)
  refine al_p rfl (st_indexS (m := j) rfl rfl rfl hjl ?_)
  refine f_ (h:=?_)
  refine al_p rfl (st_loadB1 rfl rfl (EB_get hy rfl) ?_)
  refine m_ (h:=eq_ (h:=e_ (?_)))
  refine aw_cond rfl (fun hb2 => ?_) (fun hb2 => ?_)
  ·have hc2 := bp hb2
   obtain rfl : j = p := by
    rcases Nat.lt_trichotomy j p with h | h | h
    ·exact absurd hc2 (hfst j y h hy)
    ·exact h
    exact absurd hpn (hnot p ep h hpe)
   have hyn : y.1 = name := hc2
   refine w_ (m_ (h:=k_ (h:=f_ (h:=?_))))
   refine al_p rfl (st_loadB1 rfl rfl h7 ?_)
   refine m_ (h:=m_ (h:=?_))
   refine al_p rfl (st_indexS (m := j) rfl rfl rfl hjl ?_)
   refine f_ (h:=?_)
   refine al_p0 (s_store rfl rfl rfl rfl rfl rfl (EB_set hy) (by repeat constructor) ?_)
   refine e_ (aw_ret (x_blockR (x_thenR (x_thenR (x_blockR (x_thenR (?_)))))))
   refine abody_ret (r := .tup []) none (by repeat (first | exact ResA.nil | (apply ResA.tmp; (focus exact rfl)) | (apply ResA.cellN; (focus exact inferInstance); (focus exact rfl); (focus exact rfl); (focus exact rfl)) | (apply ResA.cell1; (focus exact inferInstance); (focus exact rfl); (focus exact rfl); (focus exact rfl)))) rfl rfl (by show (bpLtL 2 0 R && (bpLtL 2 0 (EB (es.set j (y.1, ino)) cap) && true)) = true; rw [hbp, bp_EB]; rfl) (LeA.refl _) ⟨rfl, rfl, by rw [hyn]; rfl⟩
  have hc2 := bp hb2
  refine aw_skip (x_blockN (t_ (aw_region (ad_ (h:=m_ (h:=al_nil (?_)))))))
  refine x_then ?_
  refine ⟨es.length - (j + 1), _, by omega, ⟨j + 1, by omega, rfl, fun k x hk hk2 => ?_, rfl⟩, wb_ 2 0 (by simp [bpLtB, bp_EB, hbp])⟩
  rcases Nat.lt_succ_iff_lt_or_eq.1 hk with h | rfl
  ·exact hnot k x h hk2
  rw [hy] at hk2; injection hk2 with hk2; subst hk2; assumption
 have hc1 := bp hb1
 exact absurd hpn (hnot p ep (by omega) hpe)
theorem PputC (R : List AV) (R1 : AV → List AV) (i : Nat) (es : List Ent) (name : Str) (ino : Int) (cap : Nat) (h7 : R[0 + i * 8 + 7]? = some (.bs 1 0 2 es.length cap)) (hset : ∀ x, SetAt R (0 + i * 8 + 7) [x] (R1 x)) (hbp : bpLtL 2 0 R = true) (hbp3 : bpLtL 2 0 (R1 (.bs 1 0 2 (es.length + 1) cap)) = true) (hc : es.length + 1 ≤ cap) (hEn : es.length ≤ 1000) (hino : ino ≠ 0) (hno : ∀ e ∈ es, e.1 ≠ name) : ACall Try.prog 64 [.bp 0 (0 + i * 8), .v (.string name), .v (.int .i64 ino)] [R, EB es cap] (fun r b t => t = [] ∧ r = .tup [] ∧ b = [R1 (.bs 1 0 2 (es.length + 1) cap), EB (entL es name ino) cap]) := by
 refine enter Try.func64 rfl rfl rfl rfl rfl 2 rfl ?_
 refine q_ (w_ (m_ (h:=k_ (h:=f_ (h:=?_)))))
 refine al_p rfl (st_loadB1 rfl rfl h7 ?_)
 refine al_p rfl (st_lenB rfl ?_)
 refine m_ (h:=e_ (aw_block (?_)))
 refine aw_loopW (fun m t => ∃ j : Nat, j ≤ es.length ∧ m = es.length - j ∧ (∀ k x, k < j → es[k]? = some x → x.1 ≠ name) ∧ t = ⟨look [(0, .bp 0 (0 + i * 8)), (1, .v (.string name)), (2, .v (.int .i64 ino)), (12, .v (.int .i64 (es.length : Int))), (13, .v (.int .i64 (j : Int)))], ⟨[R, EB es cap], []⟩⟩) (es.length) (wb_ 2 0 (by simp [bpLtB, bp_EB, hbp])) (⟨0, Nat.zero_le _, rfl, fun k x hk => by omega, rfl⟩) ?_
 rintro m t ⟨j, hj, rfl, hnot, rfl⟩
 refine w_ (lt_ (h:=e_ (q_ (?_))))
 refine aw_cond rfl (fun hb1 => ?_) (fun hb1 => ?_)
 ·have hc1 := bp hb1
  have hjl : j < es.length := by omega
  obtain ⟨y, hy⟩ : ∃ y, es[j]? = some y := ⟨_, List.getElem?_eq_getElem hjl⟩
  refine kt_ (q_ (aw_block (w_ (m_ (h:=a_ (h:=e_ (w_ (m_ (h:=k_ (h:=f_ (h:=?_)))))))))))
  refine al_p rfl (st_loadB1 rfl rfl h7 ?_)
  refine m_ (h:=?_)
  refine al_p rfl (st_indexS (m := j) rfl rfl rfl hjl ?_)
  refine f_ (h:=?_)
  refine al_p rfl (st_loadB1 rfl rfl (EB_get hy rfl) ?_)
  refine m_ (h:=eq_ (h:=e_ (?_)))
  refine aw_cond rfl (fun hb2 => ?_) (fun hb2 => ?_)
  ·have hc2 := bp hb2
   exact absurd hc2 (hno y (List.mem_of_getElem? hy))
  have hc2 := bp hb2
  refine aw_skip (x_blockN (t_ (aw_region (ad_ (h:=m_ (h:=al_nil (?_)))))))
  refine x_then ?_
  refine ⟨es.length - (j + 1), _, by omega, ⟨j + 1, by omega, rfl, fun k x hk hk2 => ?_, rfl⟩, wb_ 2 0 (by simp [bpLtB, bp_EB, hbp])⟩
  rcases Nat.lt_succ_iff_lt_or_eq.1 hk with h | rfl
  ·exact hnot k x h hk2
  rw [hy] at hk2; injection hk2 with hk2; subst hk2; assumption
 have hc1 := bp hb1
 refine aw_exit (x_thenE (x_thenE (ABlock_out (t_ (w_ (a_ (h:=e_ (q_ (aw_block (?_))))))))))
 refine aw_loopW (fun m t => ∃ p : Nat, p ≤ es.length ∧ m = es.length - p ∧ (∀ k e, k < p → es[k]? = some e → strLt e.1 name = true) ∧ t = ⟨look [(0, .bp 0 (0 + i * 8)), (1, .v (.string name)), (2, .v (.int .i64 ino)), (7, .v (.int .i64 (p : Int)))], ⟨[R, EB es cap], []⟩⟩) (es.length) (wb_ 2 0 (by simp [bpLtB, bp_EB, hbp])) (⟨0, Nat.zero_le _, rfl, fun k e hk => by omega, rfl⟩) ?_
 rintro m t ⟨p, hp, rfl, hlt, rfl⟩
 refine q_ (w_ (m_ (h:=m_ (h:=k_ (h:=f_ (h:=?_))))))
 refine al_p rfl (st_loadB1 rfl rfl h7 ?_)
 refine al_p rfl (st_lenB rfl ?_)
 refine lt_ (h:=m_ (h:=?_))
 refine al_gs true rfl rfl (fun hb3 => ?_) (fun hb3 => ?_)
 ·have hc3 := bp hb3
  have hpl : p < es.length := by omega
  obtain ⟨y, hy⟩ : ∃ y, es[p]? = some y := ⟨_, List.getElem?_eq_getElem hpl⟩
  refine m_ (h:=k_ (h:=f_ (h:=?_)))
  refine g_y (st_loadB1 rfl rfl h7 ?_)
  refine m_ (h:=?_)
  refine g_y (st_indexS (m := p) rfl rfl rfl hpl ?_)
  refine f_ (h:=?_)
  refine g_y (st_loadB1 rfl rfl (EB_get hy rfl) ?_)
  refine m_ (h:=lt_ (h:=pt_ (h:=e_ (?_))))
  refine aw_cond rfl (fun hb4 => ?_) (fun hb4 => ?_)
  ·have hc4 := bp hb4
   refine kt_ (aw_block (aw_region (m_ (h:=ad_ (h:=a_ (h:=al_nil (x_blockN (?_))))))))
   refine x_then ?_
   refine ⟨es.length - (p + 1), _, by omega, ⟨p + 1, by omega, rfl, fun k e hk he => ?_, rfl⟩, wb_ 2 0 (by simp [bpLtB, bp_EB, hbp])⟩
   rcases Nat.lt_succ_iff_lt_or_eq.1 hk with h | rfl
   ·exact hlt k e h he
   rw [hy] at he; injection he with he; subst he; exact hb4
  have hc4 := bp hb4
  refine aw_exit (x_thenE (x_thenE (ABlock_out (t_ (aw_region (m_ (h:=m_ (h:=k_ (h:=f_ (h:=?_))))))))))
  refine al_p rfl (st_loadB1 rfl rfl h7 ?_)
  refine m_ (h:=m_ (h:=m_ (h:=bd_ (h:=?_))))
  refine al_p rfl (st_slit1B rfl rfl rfl rfl (by repeat constructor) ?_)
  refine al_p rfl (s_callM [1, 2] rfl (.cons _ _ _ _ _ rfl (LeA.refl _) (.cons _ _ _ _ _ rfl (LeA.refl _) (.cons _ _ _ _ _ rfl (LeA.refl _) .nil))) (by decide) (.cons _ _ _ _ _ rfl (ren_EB _ _ _) (.cons _ _ _ _ _ rfl rfl .nil)) (PinsC es p (name, ino) cap hEn hp hc) ?_)
  rintro r bc tc ⟨rfl, rfl, rfl⟩
  refine ⟨rfl, _, (back_EC R es (insE es p (name, ino)) cap (name, ino) : Back _ [1, 2] _ [_, _, _]), ?_⟩
  refine k_ (h:=f_ (h:=?_))
  refine al_p0 (s_store rfl rfl rfl rfl rfl rfl (hset _) (by repeat constructor) ?_)
  refine al_nil (?_)
  refine abody_end (r := .tup []) none (by repeat (first | exact ResA.nil | (apply ResA.tmp; (focus exact rfl)) | (apply ResA.cellN; (focus exact inferInstance); (focus exact rfl); (focus exact rfl); (focus exact rfl)) | (apply ResA.cell1; (focus exact inferInstance); (focus exact rfl); (focus exact rfl); (focus exact rfl)))) rfl rfl (by show (bpLtL 2 0 (R1 (.bs 1 0 2 (es.length + 1) cap)) && (bpLtL 2 0 (EB (insE es p (name, ino)) cap) && true)) = true; rw [hbp3, bp_EB]; rfl) (LeA.refl _) ⟨rfl, rfl, ?_⟩
  rw [entL_ins hino hno hp hlt (fun e he => by rw [hy] at he; injection he with he; subst he; exact hb4)]
  rfl
 have hc3 := bp hb3
 refine g0_ (h:=g0_ (h:=g0_ (h:=g0_ (h:=g0_ (h:=g0_ (h:=g0_ (h:=g0_ (h:=g0_ (h:=g0_ (h:=pf_ (h:=e_ (cn_ (h:=aw_exit (x_thenE (x_thenE (ABlock_out (t_ (aw_region (m_ (h:=m_ (h:=k_ (h:=f_ (h:=?_)))))))))))))))))))))))
 refine al_p rfl (st_loadB1 rfl rfl h7 ?_)
 refine m_ (h:=m_ (h:=m_ (h:=bd_ (h:=?_))))
 refine al_p rfl (st_slit1B rfl rfl rfl rfl (by repeat constructor) ?_)
 refine al_p rfl (s_callM [1, 2] rfl (.cons _ _ _ _ _ rfl (LeA.refl _) (.cons _ _ _ _ _ rfl (LeA.refl _) (.cons _ _ _ _ _ rfl (LeA.refl _) .nil))) (by decide) (.cons _ _ _ _ _ rfl (ren_EB _ _ _) (.cons _ _ _ _ _ rfl rfl .nil)) (PinsC es p (name, ino) cap hEn hp hc) ?_)
 rintro r bc tc ⟨rfl, rfl, rfl⟩
 refine ⟨rfl, _, (back_EC R es (insE es p (name, ino)) cap (name, ino) : Back _ [1, 2] _ [_, _, _]), ?_⟩
 refine k_ (h:=f_ (h:=?_))
 refine al_p0 (s_store rfl rfl rfl rfl rfl rfl (hset _) (by repeat constructor) ?_)
 refine al_nil (?_)
 refine abody_end (r := .tup []) none (by repeat (first | exact ResA.nil | (apply ResA.tmp; (focus exact rfl)) | (apply ResA.cellN; (focus exact inferInstance); (focus exact rfl); (focus exact rfl); (focus exact rfl)) | (apply ResA.cell1; (focus exact inferInstance); (focus exact rfl); (focus exact rfl); (focus exact rfl)))) rfl rfl (by show (bpLtL 2 0 (R1 (.bs 1 0 2 (es.length + 1) cap)) && (bpLtL 2 0 (EB (insE es p (name, ino)) cap) && true)) = true; rw [hbp3, bp_EB]; rfl) (LeA.refl _) ⟨rfl, rfl, ?_⟩
 rw [entL_ins hino hno hp hlt (fun e he => by rw [List.getElem?_eq_none (by omega)] at he; cases he)]
 rfl
end
theorem belF_anc {f : Fls} {q : Nat} {d : Dvc} (hv : VD d) (hq : f[q]? = some d) {top : Fil} : ∀ (n : Nat) (a : Fil) (m : Nod), a.1 = (q : Int) → m ∈ d.nodes → m.ino = a.2 → m.kind = 2 → belF f top n a = true → top.1 = (q : Int) ∧ ∃ k, AncN d.nodes k a.2 top.2
 | 0, _, _, _, _, _, _, h => by cases h
 | n + 1, a, m, ha, hm, hi, hk, h => by
   unfold belF at h
   split at h
   ·cases h
   rename_i h1
   split at h
   ·rename_i h2
    exact ⟨by omega, 0, by rw [h2]; rfl⟩
   have hn := node_asc ha hq hv.asc hm hi
   have hg : nodG f a = m := by simp [nodG, hn]
   rw [hg] at h
   by_cases h1' : m.ino = 1
   ·have hp := (hv.isRoot hm h1').2
    have e : (a.1, m.parent) = a := Prod.ext rfl (by rw [hp, ← hi, h1'])
    rw [e] at h
    exact belF_anc hv hq n a m ha hm hi hk h
   obtain ⟨p, hp, hpi, e, he, _⟩ := hv.par m hm h1' hk
   obtain ⟨t1, k, hk'⟩ := belF_anc hv hq n (a.1, m.parent) p ha hp hpi (hv.dirOf hp he) h
   exact ⟨t1, k + 1, m, hm, hi, h1', hk, hk'⟩
theorem belP_anc {f : Fls} {q : Nat} {d : Dvc} (hv : VD d) (hq : f[q]? = some d) {top : Fil} : ∀ (n : Nat) (a : Fil) (m : Nod), a.1 = (q : Int) → m ∈ d.nodes → m.ino = a.2 → m.kind = 2 → belowP f top n a = true → ∃ k, AncN d.nodes k a.2 top.2
 | 0, _, _, _, _, _, _, h => by cases h
 | n + 1, a, m, ha, hm, hi, hk, h => by
   rw [below_succ] at h
   split at h
   ·rename_i h2
    exact ⟨0, by rw [h2]; rfl⟩
   rw [node_asc ha hq hv.asc hm hi] at h
   simp only at h
   split at h
   ·cases h
   rename_i h1'
   obtain ⟨p, hp, hpi, e, he, _⟩ := hv.par m hm h1' hk
   obtain ⟨k, hk'⟩ := belP_anc hv hq n (a.1, m.parent) p ha hp hpi (hv.dirOf hp he) h
   exact ⟨k + 1, m, hm, hi, h1', hk, hk'⟩
theorem anc_belP {f : Fls} {q : Nat} {d : Dvc} (hq : f[q]? = some d) (hd : Asc d.nodes) {top : Fil} (ht : top.1 = (q : Int)) : ∀ (k n : Nat) (a : Fil), k < n → a.1 = (q : Int) → AncN d.nodes k a.2 top.2 → belowP f top n a = true
 | _, 0, _, h, _, _ => by omega
 | 0, n + 1, a, _, ha, hk => by
   have e : a.2 = top.2 := hk
   rw [below_succ, if_pos (Prod.ext (by omega) e)]
 | k + 1, n + 1, a, h, ha, hk => by
   obtain ⟨m, hm, h1, h2, h3, h4⟩ := hk
   rw [below_succ]
   split
   ·rfl
   rw [node_asc ha hq hd hm h1]
   simp only
   rw [if_neg h2]
   exact anc_belP hq hd ht k n _ (by omega) ha h4
theorem bel_same {f : Fls} {q : Nat} {d : Dvc} (hv : VD d) (hq : f[q]? = some d) {top a : Fil} {t m : Nod} (ht : top.1 = (q : Int)) (htm : t ∈ d.nodes) (hti : t.ino = top.2) (ha : a.1 = (q : Int)) (hm : m ∈ d.nodes) (hi : m.ino = a.2) (hk : m.kind = 2) : belowP f top d.nodes.length a = belF f top 17 a := by
 have hlen := hv.len
 rw [Bool.eq_iff_iff]
 constructor
 ·intro h
  obtain ⟨k, hk'⟩ := belP_anc hv hq _ a m ha hm hi hk h
  have := hv.anc_len htm (by rw [hti]; exact hk')
  exact bel_anc hq hv.asc ht k 17 a (by omega) ha hk'
 intro h
 obtain ⟨-, k, hk'⟩ := belF_anc hv hq _ a m ha hm hi hk h
 have := hv.anc_len htm (by rw [hti]; exact hk')
 exact anc_belP hq hv.asc ht k _ a (by omega) ha hk'
def srcL (f : Fls) (src : Fil) (name : Str) (to : Fil) (name2 : Str) : Fil × Int :=
 if ordL (placeL f src name) (placeL f to name2) ≠ 0 then ((0, 0), ordL (placeL f src name) (placeL f to name2)) else if (lookL f src name).2 ≠ 0 then ((0, 0), (lookL f src name).2) else if src.1 ≠ to.1 then ((0, 0), 18) else
 if dirL f (lookL f src name).1 = true ∧ belowF f to (lookL f src name).1 = true then ((0, 0), 22) else ((lookL f src name).1, 0)
theorem place_none {f : Fls} {a : Fil} {name : Str} (h : nodeL f a = none) : placeL f a name = 2 := by unfold placeL; rw [h]
theorem place_some {f : Fls} {a : Fil} {name : Str} {n : Nod} (h : nodeL f a = some n) : placeL f a name = if n.kind = 2 then (if nameL name then 0 else 22) else 20 := by unfold placeL; rw [h]
theorem dirL_some {f : Fls} {a : Fil} {n : Nod} (h : nodeL f a = some n) : dirL f a = decide (n.kind = 2) := by rw [dirL_eq]; simp [hasG, nodG, h]
theorem dir_zero {f : Fls} {a : Fil} (h : dirL f a = true) : dirE f a = 0 := by
 rw [dirL_eq] at h
 unfold dirE
 cases hn : nodeL f a with
 | none => simp [hasG, hn] at h
 | some n => simp [hasG, nodG, hn] at h; simp [h]
section
set_option maxRecDepth 10000
set_option maxHeartbeats 2000000
theorem Psource (f : Fls) (src : Fil) (name : Str) (to : Fil) (name2 : Str) (hv : FlsV f) : AFn Try.prog 85 [.agg (flsA f), .agg (filA src), .v (.string name), .agg (filA to), .v (.string name2)] (fun r => r = .tup [.agg (filA (srcL f src name to name2).1), .v (.int .i64 (srcL f src name to name2).2)]) := by
 have hf := hv.b
 refine enter Try.func85 rfl rfl rfl rfl rfl 0 rfl ?_
 refine w_ (b_ (h:=b_ (h:=b_ (h:=al_ (h:=a_ (h:=e_ (q_ (w_ (l_ (h:=l_ (h:=?_)))))))))))
 refine al_p rfl (q_call (Pfind f src hf) ?_)
 rintro r (⟨e, rfl⟩ | ⟨n, e, rfl⟩)
 ·skip
  first | refine al_p rfl (st_eqPnil (by kernel_rfl) rfl rfl ?_) | refine al_p rfl (st_eqPfp (by kernel_rfl) rfl rfl ?_)
  refine m_ (h:=?_)
  refine al_gs false rfl rfl (fun hb1 => ?_) (fun hb1 => ?_)
  ·have hc1 := bp hb1
   refine g0_ (h:=g0_ (h:=g0_ (h:=g0_ (h:=pt_ (h:=e_ (cy_ (h:=w_ (bd_ (h:=s_ (h:=a_ (h:=e_ (aw_ret (x_thenR (?_))))))))))))))
   refine e_ret ?_
   rw [show srcL f src name to name2 = ((0, 0), 2) by simp [srcL, place_none e, ordL]]
   rfl
  have hc1 := bp hb1
  exfalso; first | contradiction | omega
 skip
 first | refine al_p rfl (st_eqPnil (by kernel_rfl) rfl rfl ?_) | refine al_p rfl (st_eqPfp (by kernel_rfl) rfl rfl ?_)
 refine m_ (h:=?_)
 refine al_gs false rfl rfl (fun hb2 => ?_) (fun hb2 => ?_)
 ·have hc2 := bp hb2
  exfalso; first | contradiction | omega
 have hc2 := bp hb2
 refine l_ (h:=l_ (h:=?_))
 refine g_y (q_call (Pfind f to hf) ?_)
 rintro r (⟨e2, rfl⟩ | ⟨n2, e2, rfl⟩)
 ·skip
  first | refine g_y (st_eqPnil (by kernel_rfl) rfl rfl ?_) | refine g_y (st_eqPfp (by kernel_rfl) rfl rfl ?_)
  refine pf_ (h:=e_ (?_))
  refine aw_cond rfl (fun hb3 => ?_) (fun hb3 => ?_)
  ·have hc3 := bp hb3
   refine w_ (bd_ (h:=s_ (h:=a_ (h:=e_ (aw_ret (x_thenR (?_)))))))
   refine e_ret ?_
   rw [show srcL f src name to name2 = ((0, 0), 2) by simp [srcL, place_none e2, ordL]]
   rfl
  have hc3 := bp hb3
  exfalso; first | contradiction | omega
 skip
 first | refine g_y (st_eqPnil (by kernel_rfl) rfl rfl ?_) | refine g_y (st_eqPfp (by kernel_rfl) rfl rfl ?_)
 refine pf_ (h:=e_ (?_))
 refine aw_cond rfl (fun hb4 => ?_) (fun hb4 => ?_)
 ·have hc4 := bp hb4
  exfalso; first | contradiction | omega
 have hc4 := bp hb4
 refine kt_ (q_ (w_ (l_ (h:=l_ (h:=?_)))))
 refine al_p rfl (q_call (PisDir f src hf) ?_)
 rintro r rfl
 refine nt_ (h:=m_ (h:=?_))
 refine al_gs false rfl rfl (fun hb5 => ?_) (fun hb5 => ?_)
 ·have hc5 := bp hb5
  refine g0_ (h:=g0_ (h:=g0_ (h:=g0_ (h:=pt_ (h:=e_ (cy_ (h:=w_ (bd_ (h:=s_ (h:=a_ (h:=e_ (aw_ret (x_thenR (?_))))))))))))))
  refine e_ret ?_
  rw [show srcL f src name to name2 = ((0, 0), 20) by (have h1 := dirL_some e; have h2 := dirL_some e2; by_cases k1 : n.kind = 2 <;> by_cases k2 : n2.kind = 2 <;> by_cases m1 : nameL name = true <;> by_cases m2 : nameL name2 = true <;> simp_all [srcL, place_some e, place_some e2, ordL])]
  rfl
 have hc5 := bp hb5
 refine l_ (h:=l_ (h:=?_))
 refine g_y (q_call (PisDir f to hf) ?_)
 rintro r rfl
 refine nt_ (h:=pf_ (h:=e_ (?_)))
 refine aw_cond rfl (fun hb6 => ?_) (fun hb6 => ?_)
 ·have hc6 := bp hb6
  refine w_ (bd_ (h:=s_ (h:=a_ (h:=e_ (aw_ret (x_thenR (?_)))))))
  refine e_ret ?_
  rw [show srcL f src name to name2 = ((0, 0), 20) by (have h1 := dirL_some e; have h2 := dirL_some e2; by_cases k1 : n.kind = 2 <;> by_cases k2 : n2.kind = 2 <;> by_cases m1 : nameL name = true <;> by_cases m2 : nameL name2 = true <;> simp_all [srcL, place_some e, place_some e2, ordL])]
  rfl
 have hc6 := bp hb6
 refine kt_ (q_ (w_ (m_ (h:=?_))))
 refine al_p rfl (q_call (Pname name) ?_)
 rintro r rfl
 refine nt_ (h:=m_ (h:=?_))
 refine al_gs false rfl rfl (fun hb7 => ?_) (fun hb7 => ?_)
 ·have hc7 := bp hb7
  refine g0_ (h:=g0_ (h:=g0_ (h:=pt_ (h:=e_ (cy_ (h:=w_ (bd_ (h:=s_ (h:=a_ (h:=e_ (aw_ret (x_thenR (?_)))))))))))))
  refine e_ret ?_
  rw [show srcL f src name to name2 = ((0, 0), 22) by (have h1 := dirL_some e; have h2 := dirL_some e2; by_cases k1 : n.kind = 2 <;> by_cases k2 : n2.kind = 2 <;> by_cases m1 : nameL name = true <;> by_cases m2 : nameL name2 = true <;> simp_all [srcL, place_some e, place_some e2, ordL])]
  rfl
 have hc7 := bp hb7
 refine m_ (h:=?_)
 refine g_y (q_call (Pname name2) ?_)
 rintro r rfl
 refine nt_ (h:=pf_ (h:=e_ (?_)))
 refine aw_cond rfl (fun hb8 => ?_) (fun hb8 => ?_)
 ·have hc8 := bp hb8
  refine w_ (bd_ (h:=s_ (h:=a_ (h:=e_ (aw_ret (x_thenR (?_)))))))
  refine e_ret ?_
  rw [show srcL f src name to name2 = ((0, 0), 22) by (have h1 := dirL_some e; have h2 := dirL_some e2; by_cases k1 : n.kind = 2 <;> by_cases k2 : n2.kind = 2 <;> by_cases m1 : nameL name = true <;> by_cases m2 : nameL name2 = true <;> simp_all [srcL, place_some e, place_some e2, ordL])]
  rfl
 have hc8 := bp hb8
 have hp1 : placeL f src name = 0 := by rw [place_some e]; rw [dirL_some e] at hc5; simp_all
 have hp2 : placeL f to name2 = 0 := by rw [place_some e2]; rw [dirL_some e2] at hc6; simp_all
 have hord : ordL (placeL f src name) (placeL f to name2) = 0 := by rw [hp1, hp2]; rfl
 refine kt_ (w_ (l_ (h:=l_ (h:=m_ (h:=?_)))))
 refine al_p rfl (q_call (Pentry f src name hf) ?_)
 rintro r rfl
 refine m_ (h:=x_ (h:=x_ (h:=al_ (h:=s_ (h:=a_ (h:=e_ (q_ (w_ (m_ (h:=nt_ (h:=e_ (?_))))))))))))
 refine aw_cond rfl (fun hb9 => ?_) (fun hb9 => ?_)
 ·have hc9 := bp hb9
  refine w_ (bd_ (h:=s_ (h:=a_ (h:=e_ (aw_ret (x_thenR (?_)))))))
  refine e_ret ?_
  rw [show srcL f src name to name2 = ((0, 0), 2) by rw [srcL, hord, if_neg (by decide), lkE_two (dir_zero (by simpa using hc5)) (by simpa using hc9), if_pos (by decide)]]
  rfl
 have hc9 := bp hb9
 have hlk : lookL f src name = ((entP f src name).1, 0) := lkE_yes (dir_zero (by simpa using hc5)) (by simpa using hc9)
 refine kt_ (q_ (w_ (f_ (h:=l_ (h:=f_ (h:=l_ (h:=nq_ (h:=e_ (?_)))))))))
 refine aw_cond rfl (fun hb10 => ?_) (fun hb10 => ?_)
 ·have hc10 := bp hb10
  refine w_ (bd_ (h:=s_ (h:=a_ (h:=e_ (aw_ret (x_thenR (?_)))))))
  refine e_ret ?_
  rw [show srcL f src name to name2 = ((0, 0), 18) by rw [srcL, hord, if_neg (by decide), hlk, if_neg (not_not_intro rfl), if_pos (by simpa using hc10)]]
  rfl
 have hc10 := bp hb10
 have hdev : src.1 = to.1 := hc10
 refine kt_ (q_ (w_ (l_ (h:=l_ (h:=?_)))))
 refine al_p rfl (q_call (PisDir f (entP f src name).1 hf) ?_)
 rintro r rfl
 refine m_ (h:=?_)
 refine al_gs true rfl rfl (fun hb11 => ?_) (fun hb11 => ?_)
 ·have hc11 := bp hb11
  obtain ⟨q, i, d, n0, hdq, hq, hn0, hino, hidx, hnode, hk0, hnm⟩ := place_ok hp1
  obtain ⟨q2, i2, d2, n02, hdq2, hq2, hn02, hino2, hidx2, hnode2, hk02, hnm2⟩ := place_ok hp2
  obtain rfl : q = q2 := by omega
  obtain rfl : d = d2 := Option.some.inj (hq.symm.trans hq2)
  have hvd := hv.vd d (List.mem_of_getElem? hq)
  obtain ⟨ee, m, he, hle, hm, hem, he1, hmn⟩ := look_node hv hdq hq hn0 hnode hk0 (name := name) (by rw [hlk])
  have hatq : (entP f src name).1.1 = (q : Int) := by rw [hlk] at hle; rw [show (entP f src name).1 = (src.1, ee.2) from congrArg Prod.fst hle]; exact hdq
  have hati : m.ino = (entP f src name).1.2 := by rw [hlk] at hle; rw [show (entP f src name).1 = (src.1, ee.2) from congrArg Prod.fst hle]; exact hem.symm
  have hbs := bel_same hvd hq hatq hm hati hdq2 (List.mem_of_getElem? hn02) hino2 hk02
  refine l_ (h:=l_ (h:=l_ (h:=?_)))
  refine g_y (q_call (Pbelow f (entP f src name).1 to q d hf hatq hq) ?_)
  rintro r rfl
  refine pt_ (h:=e_ (?_))
  refine aw_cond rfl (fun hb12 => ?_) (fun hb12 => ?_)
  ·have hc12 := bp hb12
   refine w_ (bd_ (h:=s_ (h:=a_ (h:=e_ (aw_ret (x_thenR (?_)))))))
   refine e_ret ?_
   rw [show srcL f src name to name2 = ((0, 0), 22) by rw [srcL, hord, if_neg (by decide), hlk, if_neg (not_not_intro rfl), if_neg (by simpa using hdev), if_pos ⟨hc11, hbs.symm.trans hc12⟩]]
   rfl
  have hc12 := bp hb12
  refine kt_ (w_ (l_ (h:=s_ (h:=a_ (h:=e_ (aw_ret (?_)))))))
  refine e_ret ?_
  rw [show srcL f src name to name2 = ((entP f src name).1, 0) by rw [srcL, hord, if_neg (by decide), hlk, if_neg (not_not_intro rfl), if_neg (by simpa using hdev), if_neg (fun h => absurd (show belF f (entP f src name).1 17 to = true from h.2) (by rw [← hbs, hc12]; simp))]]
  rfl
 have hc11 := bp hb11
 refine g0_ (h:=g0_ (h:=g0_ (h:=g0_ (h:=pf_ (h:=e_ (cn_ (h:=kt_ (w_ (l_ (h:=s_ (h:=a_ (h:=e_ (aw_ret (?_))))))))))))))
 refine e_ret ?_
 rw [show srcL f src name to name2 = ((entP f src name).1, 0) by rw [srcL, hord, if_neg (by decide), hlk, if_neg (not_not_intro rfl), if_neg (by simpa using hdev), if_neg (fun h => by rw [h.1] at hc11; cases hc11)]]
 rfl
end
theorem asc_mp {ns ns' : List Nod} (h : ns'.map (·.ino) = ns.map (·.ino)) (ha : Asc ns) : Asc ns' := by
 unfold Asc at ha ⊢
 rw [← List.pairwise_map (f := fun n : Nod => n.ino) (R := fun a b : Int => a < b)] at ha ⊢
 rw [h]; exact ha
theorem inos_at {ns ns' : List Nod} (h : ns'.map (·.ino) = ns.map (·.ino)) {l : Nat} {o : Nod} (ho : ns[l]? = some o) : ∃ o', ns'[l]? = some o' ∧ o'.ino = o.ino := by
 have h1 := congrArg (fun x : List Int => x[l]?) h
 simp only [List.getElem?_map, ho, Option.map_some] at h1
 cases h2 : ns'[l]? with
 | none => rw [h2] at h1; cases h1
 | some o' => rw [h2] at h1; injection h1 with h1; exact ⟨o', rfl, h1⟩
theorem inos_len {ns ns' : List Nod} (h : ns'.map (·.ino) = ns.map (·.ino)) : ns'.length = ns.length := by
 have := congrArg List.length h
 simpa using this
theorem set_inos {ns : List Nod} {i : Nat} {n n' : Nod} (hn : ns[i]? = some n) (h : n'.ino = n.ino) : (ns.set i n').map (·.ino) = ns.map (·.ino) := by
 rw [List.map_set]
 apply List.ext_getElem?
 intro k
 rw [List.getElem?_set]
 split
 ·rename_i e
  subst e
  rw [List.getElem?_map, hn]
  simp [(List.getElem?_eq_some_iff.1 hn).1, h]
 rfl
structure Ren (f : Fls) (src : Fil) (name : Str) (to : Fil) (name2 : Str) (q : Nat) (d : Dvc) (i : Nat) (n1 : Nod) (j : Nat) (n2 : Nod) (p k : Nat) (m : Nod) (A : Fil) : Prop where
 sq : src.1 = (q : Int)
 tq : to.1 = (q : Int)
 hq : f[q]? = some d
 hi : d.nodes[i]? = some n1
 hii : n1.ino = src.2
 hj : d.nodes[j]? = some n2
 hjj : n2.ino = to.2
 k2 : n2.kind = 2
 hp : ∃ e, n1.entries[p]? = some e ∧ e.1 = name
 hA : lookL f src name = (A, 0)
 aq : A.1 = (q : Int)
 hk : d.nodes[k]? = some m
 hm : m.ino = A.2
 hnA : nodeL f A = some m
 a0 : A.2 ≠ 0
 nm2 : nameL name2 = true
 ord : ordL (placeL f src name) (placeL f to name2) = 0
 dev : ¬ src.1 ≠ to.1
 bel : ¬ (dirL f A = true ∧ belowF f to A = true)
 n2o : nodeL f to = some n2
theorem ren_of {f : Fls} (hv : FlsV f) {src : Fil} {name : Str} {to : Fil} {name2 : Str} (h : (srcL f src name to name2).2 = 0) : ∃ q d i n1 j n2 p k m, Ren f src name to name2 q d i n1 j n2 p k m (srcL f src name to name2).1 := by
 unfold srcL at h ⊢
 split at h
 ·exact absurd h (by assumption)
 rename_i hord
 split at h
 ·exact absurd h (by assumption)
 rename_i hl1
 split at h
 ·exact absurd h (by decide)
 rename_i hdev
 split at h
 ·exact absurd h (by decide)
 rename_i hbel
 rw [if_neg hord, if_neg hl1, if_neg hdev, if_neg hbel]
 obtain ⟨hpl1, hpl2⟩ := ord_zero (f := f) (x := src) (y := to) (name := name) (name2 := name2) (by omega)
 obtain ⟨q, i, d, n1, hsq, hq, hn1, hn1i, hidx, hnode, hk1, hnm1⟩ := place_ok hpl1
 obtain ⟨q', j, d', n2, htq, hq', hn2, hn2i, -, hnode2, hk2, hnm2⟩ := place_ok hpl2
 obtain rfl : q = q' := by omega
 obtain rfl : d = d' := Option.some.inj (hq.symm.trans hq')
 obtain ⟨e, m, he, hle, hm, hem, he1, hmn⟩ := look_node hv hsq hq hn1 hnode hk1 (name := name) (by omega)
 obtain ⟨hemem, hen⟩ := entF_some he
 obtain ⟨p, hpe⟩ := List.getElem?_of_mem hemem
 obtain ⟨k, hmk⟩ := List.getElem?_of_mem hm
 have hpos := (hv.vd d (List.mem_of_getElem? hq)).pos hm
 exact ⟨q, d, i, n1, j, n2, p, k, m, hsq, htq, hq, hn1, hn1i, hn2, hn2i, hk2, ⟨e, hpe, hen⟩, Prod.ext rfl (by show (lookL f src name).2 = 0; omega), by rw [hle]; exact hsq, hmk, by rw [hle]; exact hem.symm, hmn, by rw [hle]; show e.2 ≠ 0; omega, hnm2, by omega, hdev, hbel, hnode2⟩
theorem ren_err {f : Fls} {src : Fil} {name : Str} {to : Fil} {name2 : Str} (h : ¬ (srcL f src name to name2).2 = 0) : renameL f src name to name2 = ([], [], (srcL f src name to name2).2) := by
 unfold srcL at h ⊢
 unfold renameL
 split
 ·rfl
 rename_i hord
 rw [if_neg hord] at h
 split
 ·rfl
 rename_i hl1
 rw [if_neg hl1] at h
 split
 ·rfl
 rename_i hdev
 rw [if_neg hdev] at h
 split
 ·rfl
 rename_i hbel
 rw [if_neg hbel] at h
 exact absurd rfl h
section
variable {f : Fls} {src : Fil} {name : Str} {to : Fil} {name2 : Str} {q : Nat} {d : Dvc} {i : Nat} {n1 : Nod} {j : Nat} {n2 : Nod} {p k : Nat} {m : Nod} {A : Fil}
theorem Ren.look2 (h : Ren f src name to name2 q d i n1 j n2 p k m A) : lookL f to name2 = ((entP f to name2).1, if (entP f to name2).2 = true then 0 else 2) := by
 have hd : dirE f to = 0 := by unfold dirE; rw [h.n2o]; simp [h.k2]
 cases hb : (entP f to name2).2 with
 | true => rw [lkE_yes hd hb]; rfl
 | false =>
   rw [lkE_two hd hb]
   have : (entP f to name2).1 = (0, 0) := by
    unfold entP at hb ⊢
    rw [h.n2o] at hb ⊢
    simp only at hb ⊢
    split at hb
    ·rfl
    cases hb
   rw [this]; rfl
theorem if_zero {b : Bool} (h : (if b = true then (0 : Int) else 2) = 0) : b = true := by
 cases b with
 | true => rfl
 | false => cases h
theorem Ren.same (h : Ren f src name to name2 q d i n1 j n2 p k m A) (h2 : (entP f to name2).2 = true) (h3 : (entP f to name2).1 = A) : renameL f src name to name2 = (f, [], 0) := by
 have hl := h.look2
 rw [renameL, h.ord, if_neg (not_not_intro rfl), h.hA, if_neg (not_not_intro rfl), if_neg h.dev, if_neg h.bel, hl, if_pos ⟨by rw [if_pos h2], h3⟩]
theorem Ren.two (h : Ren f src name to name2 q d i n1 j n2 p k m A) (h2 : ¬ ((entP f to name2).2 = true ∧ (entP f to name2).1 = A)) (h3 : ren2L f src to A (entP f to name2).1 (if (entP f to name2).2 = true then 0 else 2) ≠ 0) : renameL f src name to name2 = ([], [], ren2L f src to A (entP f to name2).1 (if (entP f to name2).2 = true then 0 else 2)) := by
 have hl := h.look2
 rw [renameL, h.ord, if_neg (not_not_intro rfl), h.hA, if_neg (not_not_intro rfl), if_neg h.dev, if_neg h.bel, hl, if_neg (fun hh => h2 ⟨if_zero hh.1, hh.2⟩), if_pos h3]
theorem Ren.done (h : Ren f src name to name2 q d i n1 j n2 p k m A) (hv : FlsV f) (h2 : ¬ ((entP f to name2).2 = true ∧ (entP f to name2).1 = A)) (h3 : ren2L f src to A (entP f to name2).1 (if (entP f to name2).2 = true then 0 else 2) = 0) {X : List Nod} (hX : X = entD (entD d.nodes src.2 name 0) to.2 name2 A.2) : renameL f src name to name2 = (f.set q ⟨d.next, if (entP f to name2).2 = true then dropI (renPar X A.2 to.2 (dirL f A)) (entP f to name2).1.2 else renPar X A.2 to.2 (dirL f A)⟩, [(src, name, A, (0, 0)), (to, name2, (entP f to name2).1, A)], 0) := by
 have hl := h.look2
 rw [renameL, h.ord, if_neg (not_not_intro rfl), h.hA, if_neg (not_not_intro rfl), if_neg h.dev, if_neg h.bel, hl, if_neg (fun hh => h2 ⟨if_zero hh.1, hh.2⟩), if_neg (not_not_intro h3), h.tq, Int.toNat_natCast, onD_set h.hq]
 congr 3
 congr 1
 unfold renNs
 by_cases hb : (entP f to name2).2 = true
 ·rw [if_pos hb, if_pos rfl, if_pos hb, ← hX]
  unfold renPar
  split
  ·exact (dropI_updI (g := fun n : Nod => { n with parent := to.2 }) (fun _ => rfl) (fun _ => rfl)).symm
  rfl
 rw [if_neg hb, if_neg (show ¬ (2 : Int) = 0 by decide), if_neg hb, ← hX]
structure RenX (f : Fls) (src : Fil) (name : Str) (to : Fil) (name2 : Str) (q : Nat) (d : Dvc) (A : Fil) (X : List Nod) : Prop where
 inos : X.map (·.ino) = d.nodes.map (·.ino)
 kinds : ∀ (l : Nat) (o : Nod), d.nodes[l]? = some o → ∃ o' : Nod, X[l]? = some o' ∧ o'.ino = o.ino ∧ o'.kind = o.kind
 fb : FlsB (f.set q ⟨d.next, X⟩)
 eq : X = entD (entD d.nodes src.2 name 0) to.2 name2 A.2
theorem Ren.x (h : Ren f src name to name2 q d i n1 j n2 p k m A) (hv : FlsV f) {m2 : Nod} (hm2 : (entS d.nodes i n1 name 0)[j]? = some m2) (hmi : m2.ino = n2.ino) : RenX f src name to name2 q d A (entS (entS d.nodes i n1 name 0) j m2 name2 A.2) := by
 have hd := hv.vd d (List.mem_of_getElem? h.hq)
 have e1 := entS_asc hd.asc h.hi name 0
 have a1 := entS_isAsc hd.asc h.hi name 0
 have e2 := entS_asc (d := ⟨0, entS d.nodes i n1 name 0⟩) a1 hm2 name2 A.2
 simp only at e2
 refine ⟨?_, ?_, ?_, ?_⟩
 ·exact (set_inos (n' := { m2 with entries := entL m2.entries name2 A.2 }) hm2 rfl).trans (set_inos (n' := { n1 with entries := entL n1.entries name 0 }) h.hi rfl)
 ·intro l o ho
  have k1 : ∀ {ns : List Nod} {i : Nat} {n0 : Nod} {nm : Str} {x : Int} {l : Nat} {o : Nod}, ns[i]? = some n0 → ns[l]? = some o → ∃ o', (entS ns i n0 nm x)[l]? = some o' ∧ o'.ino = o.ino ∧ o'.kind = o.kind := by
   intro ns i n0 nm x l o hi ho
   unfold entS
   rw [List.getElem?_set]
   split
   ·rename_i e
    subst e
    rw [hi] at ho
    injection ho with ho
    subst ho
    exact ⟨{ n0 with entries := entL n0.entries nm x }, by rw [if_pos (List.getElem?_eq_some_iff.1 hi).1], rfl, rfl⟩
   exact ⟨o, ho, rfl, rfl⟩
  obtain ⟨o1, h1, h2, h3⟩ := k1 (nm := name) (x := 0) h.hi ho
  obtain ⟨o2, h4, h5, h6⟩ := k1 (nm := name2) (x := A.2) hm2 h1
  exact ⟨o2, h4, h5.trans h2, h6.trans h3⟩
 ·refine hv.b.set_ ?_ fun mm hmm => ?_
  ·show (entS _ _ _ _ _).length ≤ 1000
   rw [entS_len, entS_len]
   have := hd.len
   omega
  obtain ⟨m', h1, _, h2⟩ := entS_mem hm2 hmm
  obtain ⟨m'', h3, _, h4⟩ := entS_mem h.hi h1
  have := hd.many m'' h3
  omega
 rw [e2, e1, h.hii, hmi, h.hjj]
theorem RenX.asc {X : List Nod} (x : RenX f src name to name2 q d A X) (hv : FlsV f) (hq : f[q]? = some d) : Asc X := asc_mp x.inos (hv.vd d (List.mem_of_getElem? hq)).asc
theorem RenX.dir {X : List Nod} (x : RenX f src name to name2 q d A X) (h : Ren f src name to name2 q d i n1 j n2 p k m A) (hv : FlsV f) : dirL (f.set q ⟨d.next, X⟩) A = dirL f A := by
 obtain ⟨o', h1, h2, h3⟩ := x.kinds k m h.hk
 have hql := (List.getElem?_eq_some_iff.1 h.hq).1
 rw [dirL_some h.hnA, dirL_some (node_asc (d := ⟨d.next, X⟩) h.aq (List.getElem?_set_self hql) (x.asc hv h.hq) (List.mem_of_getElem? h1) (by rw [h2, h.hm])), h3]
theorem par_rows {RN : List (List AV)} {X : List Nod} (hR : RowsN RN X) {k : Nat} {mk : Nod} (hk : X[k]? = some mk) (x : Int) {cap : Nat} : ∃ RN', RowsN RN' (X.set k { mk with parent := x }) ∧ SetAt (rowsB 8 cap RN) (0 + k * 8 + 5) [.v (.int .i64 x)] (rowsB 8 cap RN') := by
 have hl := hR.1
 have hkl := (List.getElem?_eq_some_iff.1 hk).1
 have hr : RN[k]? = some RN[k] := List.getElem?_eq_getElem (by omega)
 obtain ⟨e, he, ho⟩ := hR.2 k _ mk hr hk
 refine ⟨RN.set k (nodX { mk with parent := x } e), hR.set k ⟨e, rfl, ho⟩, ?_⟩
 rw [he] at hr
 exact rowsB_set (k := 5) hR.eight hr (by repeat constructor) (List.cons_ne_nil _ _)
end
section
set_option maxRecDepth 10000
set_option maxHeartbeats 2000000
theorem PcopiedDA (f : Fls) (hf : FlsB f) : AFn Try.prog 91 [.sl 2 (f.map dvcA) none, .fn 92 []] (fun r => r = .sl 2 (f.map dvcA) none) := by
 have hml : (f.map dvcA).length = f.length := by simp
 have hfew := hf.few
 refine enter Try.func91 rfl rfl rfl rfl rfl 0 rfl ?_
 refine w_ (a_ (h:=e_ (q_ (w_ (m_ (h:=n_ (h:=eq_ (h:=e_ (?_)))))))))
 refine aw_cond rfl (fun hb1 => ?_) (fun hb1 => ?_)
 ·have hc1 := bp hb1
  refine w_ (a_ (h:=e_ (aw_ret (x_thenR (?_)))))
  refine rt_ (r := .sl 2 (f.map dvcA) none) none (h5 := ?_) (h6 := ⟨rfl, rfl, rfl⟩)
  rw [show f = [] from List.eq_nil_of_length_eq_zero (by omega)]
  exact LeA.nil _
 have hc1 := bp hb1
 refine kt_ (w_ (m_ (h:=n_ (h:=ms_ (h:=a_ (h:=e_ (q_ (w_ (m_ (h:=n_ (h:=m_ (h:=e_ (aw_block (?_))))))))))))))
 refine aw_loopW (fun m s => ∃ j : Nat, j ≤ f.length ∧ m = f.length - j ∧ s = ⟨look [(1, .fn 92 []), (5, .sl 2 ((f.take j).map dvcA) (some 0)), (14, .sl 2 (f.map dvcA) none), (15, .v (.int .i64 ((f.map dvcA).length : Int))), (16, .v (.int .i64 (j : Int)))], ⟨[], [(79, 2, (f.take j).map dvcA)]⟩⟩) (f.length) ((wk 0 1)) (⟨0, by omega, rfl, rfl⟩) ?_
 rintro m s ⟨j, hj, rfl, rfl⟩
 refine w_ (lt_ (h:=e_ (q_ (?_))))
 refine aw_cond rfl (fun hb2 => ?_) (fun hb2 => ?_)
 ·have hc2 := bp hb2
  obtain ⟨hlt, x, hy, hrow, e⟩ := row_at dvcA hc2
  have hxd := List.mem_of_getElem? hy
  refine kt_ (q_ (aw_block (w_ (i_ (h:=l_ (h:=al_ (h:=s_ (h:=e_ (aw_region (m_ (h:=m_ (h:=l_ (h:=?_)))))))))))))
  refine al_p rfl (st_callC (cy := []) (ys := [.agg (dvcA x)]) rfl (by repeat (first | exact Args.nil | refine Args.cons _ _ _ _ _ rfl (argOk_clean rfl) ?_ | refine Args.cons _ _ _ _ _ rfl (argOk_nil _) ?_ | refine Args.cons _ _ _ _ _ rfl (argOk_era _) ?_ | refine Args.cons _ _ _ _ _ rfl (argOk_le rfl (by repeat (first | exact LeA.refl _ | exact LeA.nil _ | exact LeL.refl _ | refine LeA.agg ?_ | refine LeA.tup ?_ | exact LeL.nil | refine LeL.cons ?_ ?_ | exact LeA.any _))) ?_)) rfl rfl (PcopyDevA x (hf.nodes x hxd) (hf.ents x hxd)) ?_)
  rintro r rfl
  refine bs_ (h:=?_)
  first | refine al_p rfl (s_append rfl rfl rfl (by simp; omega) (by repeat constructor) ?_) | refine al_p rfl (s_append0 rfl rfl (by simp; omega) (by repeat constructor) ?_)
  refine a_ (h:=al_nil (x_blockN (t_ (aw_region (ad_ (h:=m_ (h:=al_nil (?_))))))))
  refine x_then ?_
  refine ⟨_, _, ?_, ⟨j + 1, by omega, rfl, rfl⟩, (by rw [e]; exact (wk 0 1))⟩
  omega
 have hc2 := bp hb2
 have e := row_no dvcA hj hc2
 subst e
 rw [List.take_length]
 refine aw_exit (x_thenE (x_thenE (ABlock_out (t_ (w_ (m_ (h:=a_ (h:=e_ (aw_ret (?_))))))))))
 refine e_ret ?_
 rfl
theorem PcopyFilesA (f : Fls) (hf : FlsB f) : AFn Try.prog 63 [.agg (flsA f)] (fun r => r = .agg (flsA f)) := by
 refine enter Try.func63 rfl rfl rfl rfl rfl 0 rfl ?_
 refine w_ (b_ (h:=al_ (h:=e_ (w_ (f_ (h:=l_ (h:=?_)))))))
 refine al_p rfl (q_call (PcopiedDA f hf) ?_)
 rintro r rfl
 refine f_ (h:=s_ (h:=e_ (w_ (l_ (h:=s_ (h:=e_ (aw_ret (?_))))))))
 refine e_ret ?_
 rfl
theorem PcopyFilesG2 (f : Fls) (K : Nat) (dK : Dvc) (i : Nat) (nI : Nod) (j : Nat) (nJ : Nod) (hf : FlsB f) (hK : f[K]? = some dK) (hij : i < j) (hi : dK.nodes[i]? = some nI) (hj : dK.nodes[j]? = some nJ) (hE : 0 < nI.entries.length) (hF : 0 < nJ.entries.length) : ACall Try.prog 63 [.agg (flsA f)] [] (fun r b t => t = [] ∧ r = .agg [.bs 2 0 2 f.length f.length] ∧ b = [[.bs 2 0 2 f.length f.length], [.bs 2 0 2 f.length f.length], DB f K dK 3 f.length dK.nodes.length, NGG dK.nodes i nI 5 nI.entries.length j nJ 4 nJ.entries.length dK.nodes.length, EB nJ.entries nJ.entries.length, EB nI.entries nI.entries.length]) := by
 refine enter Try.func63 rfl rfl rfl rfl rfl 6 rfl ?_
 refine w_ (b_ (h:=al_ (h:=e_ (?_))))
 refine aw_midI (fun t => t = ⟨look [(1, .bp 0 0), (2, .bp 1 0)], ⟨[[.bs 2 0 2 f.length f.length], [.v (.slice none 0 0)], DB f K dK 3 f.length dK.nodes.length, NGG dK.nodes i nI 5 nI.entries.length j nJ 4 nJ.entries.length dK.nodes.length, EB nJ.entries nJ.entries.length, EB nI.entries nI.entries.length], []⟩⟩) ?_ ?_
 ·skip
  refine aw_region (f_ (h:=l_ (h:=?_)))
  refine al_p rfl (s_callM [] rfl (.cons _ _ _ _ _ rfl (LeA.refl _) (.cons _ _ _ _ _ rfl (LeA.refl _) .nil)) (by decide) .nil (PcopiedDGG f K dK i nI j nJ hf hK hij hi hj hE hF) ?_)
  rintro r bc tc ⟨rfl, rfl, rfl⟩
  refine ⟨rfl, _, (back_devsGG (n := 2) rfl f K dK f.length dK.nodes.length dK.nodes i nI nI.entries.length j nJ nJ.entries.length dK.nodes.length nI.entries nI.entries.length nJ.entries nJ.entries.length : Back _ [] _ [_, _, _, _, _, _]), ?_⟩
  refine f_ (h:=s_ (h:=al_nil (?_)))
  refine x_then ?_
  exact ⟨_, rfl, weak_ren [0, 1, 2, 3, 5, 4] (fun i hi => absurd hi (Nat.not_lt_zero i)) (by decide) (.cons _ _ _ _ _ rfl rfl (.cons _ _ _ _ _ rfl rfl (.cons _ _ _ _ _ rfl (renK_DB (by rfl) _ _ _ _ _) (.cons _ _ _ _ _ rfl (renK_NGG (by rfl) (by rfl) _ _ _ _ _ _ _ _) (.cons _ _ _ _ _ rfl (renK_EB _ _ _) (.cons _ _ _ _ _ rfl (renK_EB _ _ _) .nil)))))) (by repeat (first | exact SubK.nil | refine SubK.cons _ _ _ _ rfl (LeA.refl _) ?_))⟩
 rintro t rfl
 refine w_ (l_ (h:=s_ (h:=e_ (aw_ret (?_)))))
 refine abody_ret none (by repeat (first | exact ResA.nil | (apply ResA.tmp; (focus exact rfl)) | (apply ResA.cellN; (focus exact inferInstance); (focus exact rfl); (focus exact rfl); (focus exact rfl)) | (apply ResA.cell1; (focus exact inferInstance); (focus exact rfl); (focus exact rfl); (focus exact rfl)))) rfl rfl (by simp [bpLtB, bpLtL, bpLt, flsA, bp_DB, bp_NGG, bp_EB, ren, backS]) (LeA.refl _) ⟨rfl, rfl, rfl⟩
theorem PcopyFilesT (f : Fls) (K : Nat) (dK : Dvc) (i : Nat) (nI : Nod) (j : Nat) (nJ : Nod) (hf : FlsB f) (hK : f[K]? = some dK) (hij : i ≠ j) (hi : dK.nodes[i]? = some nI) (hj : dK.nodes[j]? = some nJ) (hE : 0 < nI.entries.length) (hF : 0 < nJ.entries.length) : ACall Try.prog 63 [.agg (flsA f)] [] (fun r b t => t = [] ∧ r = .agg [.bs 2 0 2 f.length f.length] ∧ b = [[.bs 2 0 2 f.length f.length], [.bs 2 0 2 f.length f.length], DB f K dK 3 f.length dK.nodes.length, NY dK.nodes i nI (.bs 5 0 2 nI.entries.length nI.entries.length) j nJ (.bs 4 0 2 nJ.entries.length nJ.entries.length) dK.nodes.length, EB nJ.entries nJ.entries.length, EB nI.entries nI.entries.length]) := by
 rcases Nat.lt_or_gt_of_ne hij with h | h
 ·exact PcopyFilesG2 f K dK i nI j nJ hf hK h hi hj hE hF
 rw [NY_comm hij]
 exact PcopyFilesGG f K dK j nJ i nI hf hK h hj hi hF hE
end
section
set_option maxRecDepth 10000
set_option maxHeartbeats 2000000
theorem Pren_err (f : Fls) (src : Fil) (name : Str) (to : Fil) (name2 : Str) (hv : FlsV f) (hS : ¬ (srcL f src name to name2).2 = 0) : AFn Try.prog 47 [.agg (flsA f), .agg (filA src), .v (.string name), .agg (filA to), .v (.string name2)] (fun r => r = chgR (renameL f src name to name2)) := by
 have hf := hv.b
 refine enter Try.func47 rfl rfl rfl rfl rfl 0 rfl ?_
 refine w_ (b_ (h:=b_ (h:=b_ (h:=al_ (h:=a_ (h:=a_ (h:=e_ (w_ (l_ (h:=l_ (h:=m_ (h:=l_ (h:=m_ (h:=?_))))))))))))))
 refine al_p rfl (q_call (Psource f src name to name2 hv) ?_)
 rintro r rfl
 refine m_ (h:=x_ (h:=x_ (h:=al_ (h:=s_ (h:=a_ (h:=e_ (q_ (w_ (m_ (h:=nq_ (h:=e_ (?_))))))))))))
 refine aw_cond rfl (fun hb1 => ?_) (fun hb1 => ?_)
 ·have hc1 := bp hb1
  refine w_ (bd_ (h:=m_ (h:=s_ (h:=a_ (h:=a_ (h:=e_ (aw_ret (x_thenR (?_)))))))))
  refine rt_ (r := chgR (renameL f src name to name2)) none (h5 := ?_) (h6 := ⟨rfl, rfl, rfl⟩)
  rw [ren_err hS]
  exact err_le _
 have hc1 := bp hb1
 exact absurd hc1 hS
theorem Pren_two (f : Fls) (src : Fil) (name : Str) (to : Fil) (name2 : Str) {q : Nat} {d : Dvc} {i : Nat} {n1 : Nod} {j : Nat} {n2 : Nod} {p k : Nat} {m : Nod} {A O : Fil} {rep : Bool} (hv : FlsV f) (hS : srcL f src name to name2 = (A, 0)) (h : Ren f src name to name2 q d i n1 j n2 p k m A) (hO : entP f to name2 = (O, rep)) (hbad : (rep = true ∧ O = A) ∨ ¬ (rep = true ∧ O = A) ∧ ren2L f src to A O (if rep = true then 0 else 2) ≠ 0) : AFn Try.prog 47 [.agg (flsA f), .agg (filA src), .v (.string name), .agg (filA to), .v (.string name2)] (fun r => r = chgR (renameL f src name to name2)) := by
 have hf := hv.b
 have hsrc : AFn Try.prog 85 [.agg (flsA f), .agg (filA src), .v (.string name), .agg (filA to), .v (.string name2)] (fun r => r = .tup [.agg (filA A), .v (.int .i64 0)]) := (Psource f src name to name2 hv).mono fun r hr => by rw [hr, hS]
 have hent : AFn Try.prog 61 [.agg (flsA f), .agg (filA to), .v (.string name2)] (fun r => r = .tup [.agg (filA O), .v (.bool rep)]) := (Pentry f to name2 hf).mono fun r hr => by rw [hr, hO]
 have hsm : rep = true → O = A → renameL f src name to name2 = (f, [], 0) := fun a b => h.same (by rw [hO]; exact a) (by rw [hO]; exact b)
 have htw : ∀ x : Int, x ≠ 0 → ¬ (rep = true ∧ O = A) → ren2L f src to A O (if rep = true then 0 else 2) = x → renameL f src name to name2 = ([], [], x) := fun x hx a b => by
  have := h.two (by rw [hO]; exact a) (by rw [hO, b]; exact hx)
  rw [hO] at this
  rw [this, b]
 refine enter Try.func47 rfl rfl rfl rfl rfl 0 rfl ?_
 refine w_ (b_ (h:=b_ (h:=b_ (h:=al_ (h:=a_ (h:=a_ (h:=e_ (w_ (l_ (h:=l_ (h:=m_ (h:=l_ (h:=m_ (h:=?_))))))))))))))
 refine al_p rfl (q_call (hsrc) ?_)
 rintro r rfl
 refine m_ (h:=x_ (h:=x_ (h:=al_ (h:=s_ (h:=a_ (h:=e_ (q_ (w_ (m_ (h:=nq_ (h:=e_ (?_))))))))))))
 refine aw_cond rfl (fun hb1 => ?_) (fun hb1 => ?_)
 ·have hc1 := bp hb1
  exact absurd rfl hc1
 have hc1 := bp hb1
 refine kt_ (w_ (l_ (h:=l_ (h:=m_ (h:=?_)))))
 refine al_p rfl (q_call (hent) ?_)
 rintro r rfl
 refine m_ (h:=x_ (h:=x_ (h:=al_ (h:=s_ (h:=a_ (h:=e_ (q_ (w_ (m_ (h:=m_ (h:=?_)))))))))))
 refine al_gs true rfl rfl (fun hb2 => ?_) (fun hb2 => ?_)
 ·have hc2 := bp hb2
  refine l_ (h:=l_ (h:=?_))
  refine g_y (st_binA rfl rfl (by repeat constructor) (by repeat constructor) (fun w => eqlFil _ _ _ _ w) (by kernel_rfl) ?_)
  refine pt_ (h:=e_ (?_))
  refine aw_cond rfl (fun hb3 => ?_) (fun hb3 => ?_)
  ·have hc3 := bp hb3
   refine w_ (l_ (h:=?_))
   refine al_p rfl (q_call (PcopyFilesA f hf) ?_)
   rintro r rfl
   refine s_ (h:=a_ (h:=a_ (h:=e_ (aw_ret (x_thenR (?_))))))
   refine rt_ (r := chgR (renameL f src name to name2)) none (h5 := ?_) (h6 := ⟨rfl, rfl, rfl⟩)
   rw [hsm hc2 hc3]
   exact keepE_le f
  have hc3 := bp hb3
  refine kt_ (q_ (aw_block (w_ (m_ (h:=m_ (h:=l_ (h:=l_ (h:=?_))))))))
  refine g_y (q_call (PisDir f O hf) ?_)
  rintro r rfl
  refine pt_ (h:=m_ (h:=?_))
  refine al_gs true rfl rfl (fun hb4 => ?_) (fun hb4 => ?_)
  ·have hc4 := bp hb4
   refine l_ (h:=l_ (h:=?_))
   refine g_y (q_call (PisDir f A hf) ?_)
   rintro r rfl
   refine nt_ (h:=pt_ (h:=a_ (h:=e_ (?_))))
   refine aw_cond rfl (fun hb5 => ?_) (fun hb5 => ?_)
   ·have hc5 := bp hb5
    refine w_ (bd_ (h:=s_ (h:=a_ (h:=a_ (h:=e_ (aw_ret (x_blockR (x_thenR (?_)))))))))
    refine rt_ (r := chgR (renameL f src name to name2)) none (h5 := ?_) (h6 := ⟨rfl, rfl, rfl⟩)
    rw [htw 21 (by decide) (fun h => hc3 h.2) (by simp [ren2L, hc2, hc4, hc5])]
    exact err_le _
   have hc5 := bp hb5
   refine w_ (m_ (h:=m_ (h:=l_ (h:=l_ (h:=?_)))))
   refine g_y (q_call (PisDir f O hf) ?_)
   rintro r rfl
   refine nt_ (h:=pt_ (h:=m_ (h:=g0_ (h:=g0_ (h:=g0_ (h:=pf_ (h:=a_ (h:=e_ (cn_ (h:=w_ (m_ (h:=m_ (h:=l_ (h:=l_ (h:=?_)))))))))))))))
   refine g_y (q_call (PisDir f O hf) ?_)
   rintro r rfl
   refine pt_ (h:=m_ (h:=l_ (h:=l_ (h:=?_))))
   refine g_y (q_call (Pfind f O hf) ?_)
   rintro r (⟨e, rfl⟩ | ⟨n, e, rfl⟩)
   ·rw [dirL_eq] at hc4; simp [hasG, e] at hc4
   skip
   refine k_ (h:=f_ (h:=l_ (h:=n_ (h:=gt_ (h:=pt_ (h:=a_ (h:=e_ (?_))))))))
   refine aw_cond rfl (fun hb6 => ?_) (fun hb6 => ?_)
   ·have hc6 := bp hb6
    refine w_ (bd_ (h:=s_ (h:=a_ (h:=a_ (h:=e_ (aw_ret (x_blockR (x_thenR (?_)))))))))
    have hem : emptyL f O = false := by rw [emptyL_eq, show nodG f O = n by simp [nodG, e]]; simp only [List.length_map] at hc6; simp; intro hh; rw [hh] at hc6; simp at hc6
    refine rt_ (r := chgR (renameL f src name to name2)) none (h5 := ?_) (h6 := ⟨rfl, rfl, rfl⟩)
    rw [htw 39 (by decide) (fun h => hc3 h.2) (by simp [ren2L, hc2, hc4, hc5, hem])]
    exact err_le _
   have hc6 := bp hb6
   exfalso
   have hem : emptyL f O = true := by rw [emptyL_eq, show nodG f O = n by simp [nodG, e]]; simp only [List.length_map] at hc6; simp; exact List.length_eq_zero_iff.1 (by omega)
   rcases hbad with hb | ⟨-, hb⟩
   ·exact hc3 hb.2
   exact hb (by simp [ren2L, hc2, hc4, hc5, hem])
  have hc4 := bp hb4
  refine g0_ (h:=g0_ (h:=g0_ (h:=g0_ (h:=pf_ (h:=a_ (h:=e_ (cn_ (h:=w_ (m_ (h:=m_ (h:=l_ (h:=l_ (h:=?_)))))))))))))
  refine g_y (q_call (PisDir f O hf) ?_)
  rintro r rfl
  refine nt_ (h:=pt_ (h:=m_ (h:=l_ (h:=l_ (h:=?_)))))
  refine g_y (q_call (PisDir f A hf) ?_)
  rintro r rfl
  refine pt_ (h:=a_ (h:=e_ (?_)))
  refine aw_cond rfl (fun hb7 => ?_) (fun hb7 => ?_)
  ·have hc7 := bp hb7
   refine w_ (bd_ (h:=s_ (h:=a_ (h:=a_ (h:=e_ (aw_ret (x_blockR (x_thenR (?_)))))))))
   refine rt_ (r := chgR (renameL f src name to name2)) none (h5 := ?_) (h6 := ⟨rfl, rfl, rfl⟩)
   rw [htw 20 (by decide) (fun h => hc3 h.2) (by simp [ren2L, hc2, hc4, hc7])]
   exact err_le _
  have hc7 := bp hb7
  exfalso
  rcases hbad with hb | ⟨-, hb⟩
  ·exact hc3 hb.2
  exact hb (by simp [ren2L, hc2, hc4, hc7])
 have hc2 := bp hb2
 refine g0_ (h:=g0_ (h:=g0_ (h:=pf_ (h:=e_ (cn_ (h:=kt_ (q_ (aw_block (w_ (m_ (h:=m_ (h:=g0_ (h:=g0_ (h:=g0_ (h:=pf_ (h:=m_ (h:=g0_ (h:=g0_ (h:=g0_ (h:=g0_ (h:=pf_ (h:=a_ (h:=e_ (?_))))))))))))))))))))))))
 refine cn_ (h:=w_ (m_ (h:=m_ (h:=g0_ (h:=g0_ (h:=g0_ (h:=g0_ (h:=pf_ (h:=m_ (h:=g0_ (h:=g0_ (h:=g0_ (h:=pf_ (h:=a_ (h:=e_ (cn_ (h:=w_ (m_ (h:=m_ (h:=g0_ (h:=g0_ (h:=g0_ (h:=pf_ (h:=?_))))))))))))))))))))))))
 refine m_ (h:=g0_ (h:=g0_ (h:=g0_ (h:=g0_ (h:=g0_ (h:=g0_ (h:=g0_ (h:=g0_ (h:=pf_ (h:=a_ (h:=e_ (cn_ (h:=w_ (m_ (h:=nt_ (h:=m_ (h:=l_ (h:=l_ (h:=?_)))))))))))))))))))
 refine g_y (q_call (Pfull f to hf) ?_)
 rintro r rfl
 refine pt_ (h:=m_ (h:=?_))
 refine al_gs true rfl rfl (fun hb8 => ?_) (fun hb8 => ?_)
 ·have hc8 := bp hb8
  refine l_ (h:=l_ (h:=?_))
  refine g_y (st_binA rfl rfl (by repeat constructor) (by repeat constructor) (fun w => neqlFil _ _ _ _ w) (by kernel_rfl) ?_)
  refine pt_ (h:=a_ (h:=e_ (?_)))
  refine aw_cond rfl (fun hb9 => ?_) (fun hb9 => ?_)
  ·have hc9 := bp hb9
   refine w_ (bd_ (h:=s_ (h:=a_ (h:=a_ (h:=e_ (aw_ret (x_blockR (x_thenR (?_)))))))))
   refine rt_ (r := chgR (renameL f src name to name2)) none (h5 := ?_) (h6 := ⟨rfl, rfl, rfl⟩)
   rw [htw 28 (by decide) (fun h => by rw [h.1] at hc2; cases hc2) (by simp [ren2L, hc2, hc8]; intro hh; exact hc9 hh)]
   exact err_le _
  have hc9 := bp hb9
  exfalso
  rcases hbad with hb | ⟨-, hb⟩
  ·rw [hb.1] at hc2; cases hc2
  exact hb (by simp [ren2L, hc2, hc8]; exact hc9)
 have hc8 := bp hb8
 exfalso
 rcases hbad with hb | ⟨-, hb⟩
 ·rw [hb.1] at hc2; cases hc2
 exact hb (by simp [ren2L, hc2, hc8])
end
end Go.Proofs.Ythcbdkmhamhciaa
