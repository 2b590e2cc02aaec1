/-
  Part 6 of the proof of FilesSpoiledP: what the statement's proof uses of the texts in wip/tpl.
-/
import Derived.Lib.SliceRun
import Derived.Lib.AppendZerosOnto
import Derived.Test.YthcbdkmhamhciaaQs5
namespace Go.Proofs.Ythcbdkmhamhciaa
open Go.RowKit
section
variable {St : Nat → Nat → Prop} {w : World} (hst : ∀ b o, St b o → b < w.heap.size)
include hst
theorem list_of_fro {α : Type} {sz : Nat} {enc : α → List AV} {cell : α × Value → Nat → Value} {Sub : α → Value → Prop} {xs : List α} {v : Value} (hsz : 0 < sz) (hfew : xs.length ≤ 1000) (h : fro St w (.sl sz (xs.map enc) none) v)
    (hrow : ∀ x ∈ xs, (enc x).length = sz → ∀ c : Nat → Option Value, (∀ j av, (enc x)[j]? = some av → ∃ u, c j = some u ∧ fro St w av u) → ∃ u, Sub x u ∧ ∀ j, j < sz → c j = some (cell (x, u) j)) :
    ∃ ys : List (α × Value), ys.map (·.1) = xs ∧ Old.ListR sz cell w (Old.Old w) v ys ∧ ∀ y ∈ ys, Sub y.1 y.2 := by
 simp only [fro] at h
 obtain ⟨_, A, cap, rfl, h2, h3, h4⟩ := h
 rw [List.length_map] at h2
 rcases Nat.eq_zero_or_pos xs.length with h0 | h0
 ·obtain rfl := List.eq_nil_of_length_eq_zero h0
  exact ⟨[], rfl, ⟨A, cap, by simp, by simp, by simp, fun h => absurd h (by simp)⟩, by simp⟩
 obtain ⟨b, off, rfl, h6⟩ := h4.resolve_left (fun e => by simp at e; subst e; simp at h0)
 have each : ∀ i (hi : i < xs.length), ∃ u, Sub xs[i] u ∧ ∀ j, j < sz → w.cell? ⟨b, off + i * sz + j, none⟩ = some (cell (xs[i], u) j) := by
  intro i hi
  have hr : (xs.map enc)[i]? = some (enc xs[i]) := by simp [hi]
  obtain ⟨k1, k2⟩ := froR_get h6 hr
  exact hrow _ (List.getElem_mem hi) k1 _ fun j av hj => by
   obtain ⟨_, u, q1, _, q2⟩ := froC_get k2 hj
   exact ⟨u, q1, q2⟩
 let g : Fin xs.length → α × Value := fun i => (xs[i.1], (each i.1 i.2).choose)
 have hg : ∀ i (hi : i < xs.length), (List.ofFn g)[i]? = some (xs[i], (each i hi).choose) := fun i hi => by simp [g, hi]
 have hlen : (List.ofFn g).length = xs.length := by simp
 have hbs : b < w.heap.size := by
  obtain ⟨k1, k2⟩ := froR_get h6 (i := 0) (r := enc xs[0]) (by simp [h0])
  have : (enc xs[0])[0]? = some (enc xs[0])[0] := List.getElem?_eq_getElem (by omega)
  exact hst _ _ (froC_get k2 this).1
 refine ⟨List.ofFn g, ?_, ⟨_, cap, by rw [List.length_map, hlen], by rw [hlen]; exact h2, by rw [hlen]; unfold Old.few; omega, fun _ => ⟨b, off, rfl, hbs, fun i y j hi hj => ?_⟩⟩, fun y hy => ?_⟩
 ·apply List.ext_getElem?
  intro i
  rcases Nat.lt_or_ge i xs.length with hi | hi
  ·rw [List.getElem?_map, hg i hi]; simp [hi]
  rw [List.getElem?_eq_none (by simpa using hi), List.getElem?_eq_none hi]
 ·have hil : i < xs.length := by rw [← hlen]; exact (List.getElem?_eq_some_iff.1 hi).1
  rw [hg i hil] at hi
  injection hi with hi
  subst hi
  exact (each i hil).choose_spec.2 j hj
 obtain ⟨i, hi⟩ := List.getElem?_of_mem hy
 have hil : i < xs.length := by rw [← hlen]; exact (List.getElem?_eq_some_iff.1 hi).1
 rw [hg i hil] at hi
 injection hi with hi
 subst hi
 exact (each i hil).choose_spec.1
theorem ents_old {es : List Ent} {v : Value} (hfew : es.length ≤ 1000) (h : fro St w (.sl 2 (es.map entA) none) v) : Old.EntsR w (Old.Old w) v es := by
 obtain ⟨ys, h1, ⟨A, c, h2, h3, h4, h5⟩, _⟩ := list_of_fro hst (cell := fun y : Ent × Value => Old.entCell y.1) (Sub := fun _ _ => True) (by omega) hfew h (fun x _ _ c hc => ⟨.bool true, trivial, fun j hj => by
  match j, hj with
  | 0, _ => obtain ⟨u, q1, q2⟩ := hc 0 _ rfl; simp only [fro] at q2; rw [q1, q2]; rfl
  | 1, _ => obtain ⟨u, q1, q2⟩ := hc 1 _ rfl; simp only [fro] at q2; rw [q1, q2]; rfl⟩)
 subst h1
 refine ⟨A, c, by rw [h2, List.length_map], by simpa using h3, by simpa using h4, fun hn => ?_⟩
 obtain ⟨b, off, e1, e2, e3⟩ := h5 (by simpa using hn)
 refine ⟨b, off, e1, e2, fun i x j hi hj => ?_⟩
 rw [List.getElem?_map] at hi
 cases hy : ys[i]? with
 | none => rw [hy] at hi; cases hi
 | some y =>
   rw [hy] at hi
   injection hi with hi
   subst hi
   exact e3 i y j hy hj
theorem nods_old {ns : List Nod} {v : Value} (hfew : ns.length ≤ 1000) (he : ∀ n ∈ ns, n.entries.length ≤ 1000) (h : fro St w (.sl 8 (ns.map nodA) none) v) : Old.NodsR w (Old.Old w) v ns :=
 list_of_fro hst (cell := Old.nodCell) (Sub := fun n u => Old.EntsR w (Old.Old w) u n.entries) (by omega) hfew h (fun x hx _ c hc => by
  obtain ⟨u0, p0, q0⟩ := hc 0 _ rfl
  obtain ⟨u1, p1, q1⟩ := hc 1 _ rfl
  obtain ⟨u2, p2, q2⟩ := hc 2 _ rfl
  obtain ⟨u3, p3, q3⟩ := hc 3 _ rfl
  obtain ⟨u4, p4, q4⟩ := hc 4 _ rfl
  obtain ⟨u5, p5, q5⟩ := hc 5 _ rfl
  obtain ⟨u6, p6, q6⟩ := hc 6 _ rfl
  obtain ⟨u7, p7, q7⟩ := hc 7 _ rfl
  have q7' := ents_old hst (he x hx) q7
  simp only [fro] at q0 q1 q2 q3 q4 q5 q6
  subst q0 q1 q2 q3 q4 q5 q6
  refine ⟨u7, q7', fun j hj => ?_⟩
  match j, hj with
  | 0, _ => exact p0
  | 1, _ => exact p1
  | 2, _ => exact p2
  | 3, _ => exact p3
  | 4, _ => exact p4
  | 5, _ => exact p5
  | 6, _ => exact p6
  | 7, _ => exact p7)
theorem fls_old {f : Fls} (hf : FlsB f) {v : Value} (h : fro St w (.agg (flsA f)) v) : Old.FlsR w (Old.Old w) v f := by
 simp only [fro, flsA, froL] at h
 obtain ⟨ys, rfl, z, zs, rfl, h, rfl⟩ := h
 have h' : fro St w (.sl 2 (f.map dvcA) none) z := by simp only [fro]; exact h
 refine ⟨z, rfl, list_of_fro hst (cell := Old.dvcCell) (Sub := fun d u => Old.NodsR w (Old.Old w) u d.nodes) (by omega) hf.few h' (fun x hx _ c hc => ?_)⟩
 obtain ⟨u0, p0, q0⟩ := hc 0 _ rfl
 obtain ⟨u1, p1, q1⟩ := hc 1 _ rfl
 have q1' := nods_old hst (hf.nodes x hx) (hf.ents x hx) q1
 simp only [fro] at q0
 subst q0
 refine ⟨u1, q1', fun j hj => ?_⟩
 match j, hj with
 | 0, _ => exact p0
 | 1, _ => exact p1
end
theorem own_fro {α : Type} {sz : Nat} {cell : α → Nat → Value} {E : TypeId} {w : World} {base : Nat} {v : Value} {xs : List α} (h : Old.OwnL sz cell E w base v xs) {St : Nat → Nat → Prop} (hst : ∀ b, v.ownBlock = some b → ∀ o, St b o) {enc : α → List AV} (hlen : ∀ x ∈ xs, (enc x).length = sz)
    (hx : ∀ x ∈ xs, ∀ j av, (enc x)[j]? = some av → fro St w av (cell x j)) : fro St w (.sl sz (xs.map enc) none) v := by
 simp only [fro, true_and]
 obtain ⟨⟨h0, h1⟩, h2⟩ := h
 rcases h1 with ⟨rfl, hn⟩ | ⟨g, cap, cur, rfl, hb, hg, hnc, hcm, hcs, htk⟩
 ·exact ⟨none, 0, by rw [List.length_map, hn], by rw [List.length_map, hn]; exact Nat.le_refl _, Nat.zero_le _, .inl (by rw [List.eq_nil_of_length_eq_zero hn]; rfl)⟩
 refine ⟨_, cap, by rw [List.length_map], by rw [List.length_map]; exact hnc, hcm, .inr ⟨g, 0, rfl, froR_of fun i r hi => ?_⟩⟩
 rw [List.getElem?_map] at hi
 cases hy : xs[i]? with
 | none => rw [hy] at hi; cases hi
 | some x =>
   rw [hy] at hi
   injection hi with hi
   subst hi
   have hm := List.mem_of_getElem? hy
   refine ⟨hlen x hm, froC_of fun j av hj => ?_⟩
   have hjl : j < sz := by rw [← hlen x hm]; exact (List.getElem?_eq_some_iff.1 hj).1
   have hil := (List.getElem?_eq_some_iff.1 hy).1
   have hlt : i * sz + j < xs.length * sz := by
    have h2 : (i + 1) * sz ≤ xs.length * sz := Nat.mul_le_mul_right sz hil
    rw [Nat.add_mul] at h2
    omega
   have hc : cur.toList[i * sz + j]? = some (cell x j) := by
    rw [← Old.flat_get xs i j x hy hjl, ← htk, List.getElem?_take, if_pos hlt]
   refine ⟨hst g rfl _, cell x j, ?_, h2 g cur E rfl hg _ (List.mem_of_getElem? hc), hx x hm j av hj⟩
   rw [Nat.zero_add]
   simp only [World.cell?, hg]
   simpa using hc
theorem own_box {α : Type} {sz : Nat} {cell : α → Nat → Value} {E : TypeId} {w : World} {base : Nat} {v : Value} {xs : List α} (h : Old.OwnL sz cell E w base v xs) (h0 : 0 < xs.length) {G : Gh} {rows : List (List AV)} (hp : 0 < sz) (hl : rows.length = xs.length) (hlen : ∀ r ∈ rows, r.length = sz)
    (hx : ∀ (i : Nat) (x : α) (r : List AV), xs[i]? = some x → rows[i]? = some r → ∀ j av, r[j]? = some av → rep G w av (cell x j)) :
    ∃ g cap, v = .slice (some ⟨g, 0, none⟩) xs.length cap ∧ base ≤ g ∧ g < w.heap.size ∧ xs.length ≤ cap ∧ cap ≤ maxLen ∧ BoxAt G w g (rowsB sz cap rows) := by
 obtain ⟨⟨h3, h1⟩, h2⟩ := h
 rcases h1 with ⟨rfl, hn⟩ | ⟨g, cap, cur, rfl, hb, hg, hnc, hcm, hcs, htk⟩
 ·omega
 refine ⟨g, cap, rfl, hb, (Array.getElem?_eq_some_iff.1 hg).1, hnc, hcm, cur.toList, E, by simpa using hg, ?_, h2 g cur E rfl hg⟩
 have e : cur.toList = cur.toList.take (xs.length * sz) ++ cur.toList.drop (xs.length * sz) := (List.take_append_drop _ _).symm
 rw [e]
 unfold rowsB
 refine repL_app ?_ ?_
 ·rw [htk]
  refine repL_of (by rw [flat_len hlen, hl, Old.flat_length]) fun i x hi => ?_
  have hii : i = i / sz * sz + i % sz := by rw [Nat.mul_comm]; exact (Nat.div_add_mod i sz).symm
  have hk : i % sz < sz := Nat.mod_lt _ hp
  rw [hii, flat_getT hlen hk] at hi
  cases hq : rows[i / sz]? with
  | none => rw [hq] at hi; simp at hi
  | some r =>
    rw [hq] at hi
    have hqx : i / sz < xs.length := by rw [← hl]; exact (List.getElem?_eq_some_iff.1 hq).1
    have hxx : xs[i / sz]? = some xs[i / sz] := List.getElem?_eq_getElem hqx
    refine ⟨cell xs[i / sz] (i % sz), ?_, hx _ _ r hxx hq _ _ hi⟩
    have := Old.flat_get (cell := cell) xs (i / sz) (i % sz) _ hxx hk
    rwa [← hii] at this
 have : (cur.toList.drop (xs.length * sz)).length = (cap - rows.length) * sz := by
  rw [List.length_drop, hl, Nat.sub_mul, ← hcs]
  simp
 rw [← this]
 exact repL_anys _
theorem flatMap_at' {α β : Type} {f : α → List β} {l : List α} {i : Nat} {x : α} (hx : l[i]? = some x) : l.flatMap f = (l.take i).flatMap f ++ (f x ++ (l.drop (i + 1)).flatMap f) := by
 obtain ⟨hi, rfl⟩ := List.getElem?_eq_some_iff.1 hx
 rw [← List.flatMap_cons, ← List.flatMap_append, ← List.drop_eq_getElem_cons hi, List.take_append_drop]
def devB (f : Fls) (K : Nat) (d : Dvc) (j cap1 : Nat) : List (List AV) := (f.map dvcA).set K (devR d j cap1)
theorem devB_two (f : Fls) (K : Nat) (d : Dvc) (j cap1 : Nat) : ∀ r ∈ devB f K d j cap1, r.length = 2 := by
 intro r hr
 rcases List.mem_or_eq_of_mem_set hr with h | h
 ·exact dvcs_two _ r h
 rw [h]; rfl
theorem devB_len (f : Fls) (K : Nat) (d : Dvc) (j cap1 : Nat) : (devB f K d j cap1).length = f.length := by simp [devB]
theorem RcopyK (f : Fls) (K : Nat) (dK : Dvc) (hf : FlsB f) (hK : f[K]? = some dK) (hne : 0 < dK.nodes.length) :
    ACall Try.prog 69 [.agg (flsA f)] [] (fun r b t => t = [] ∧ ∃ cap cap1, f.length ≤ cap ∧ dK.nodes.length ≤ cap1 ∧ b = [rowsB 2 cap (devB f K dK 1 cap1), rowsB 8 cap1 (dK.nodes.map nodA)] ∧ r = .agg [.bs 0 0 2 f.length cap]) := by
 intro w St bl vs hr hv
 have hbl : bl = [] := by have := hr.bxlen; simpa using this
 subst hbl
 simp only [repL] at hv
 obtain ⟨z, zs, rfl, hz, rfl⟩ := hv
 have hz' : fro St w (.agg (flsA f)) z := by have := fro_era _ _ hz; simpa [era, eraL, flsA] using this
 have hF := fls_old hr.stlt hf hz'
 refine Calls.mono (Old.Copy_any z f w hF) ?_
 rintro e w' ⟨dv, L, rfl, hD, hL, hB⟩
 have hsz := hB.size
 have hLl : L.length = f.length := by rw [← hL]; simp [Old.flsOf]
 have hKl := (List.getElem?_eq_some_iff.1 hK).1
 obtain ⟨x, hx, hxd⟩ : ∃ x, L[K]? = some x ∧ Old.dvcOf x = dK := by
  have h1 : L[K]? = some L[K] := List.getElem?_eq_getElem (by omega)
  refine ⟨_, h1, ?_⟩
  have := hK
  rw [← hL, Old.flsOf, List.getElem?_map, h1] at this
  injection this
 have hxm := List.mem_of_getElem? hx
 obtain ⟨d1, d2, d3, d4⟩ := hD
 obtain ⟨e1, e2, e3⟩ := d2 x hxm |>.1
 have hyl : 0 < x.2.2.length := by rw [← hxd] at hne; simpa [Old.dvcOf] using hne
 have form : ∀ {α : Type} {sz : Nat} {cell : α → Nat → Value} {E : TypeId} {base : Nat} {v : Value} {xs : List α}, Old.OwnL sz cell E w' base v xs → 0 < xs.length → ∃ g cap, v = .slice (some ⟨g, 0, none⟩) xs.length cap := by
  intro α sz cell E base v xs h h0
  rcases h.1.2 with ⟨_, hn⟩ | ⟨g, cap, cur, rfl, _⟩
  ·omega
  exact ⟨g, cap, rfl⟩
 obtain ⟨g0, cap, hdv⟩ := form d1 (by omega)
 obtain ⟨g1, cap1, hnv⟩ := form e1 hyl
 have hb0 : g0 ∈ Old.blk dv := Old.mem_blk.2 (by rw [hdv]; rfl)
 have hb1 : g1 ∈ Old.blk x.2.1 := Old.mem_blk.2 (by rw [hnv]; rfl)
 have nd := List.nodup_append.1 d3
 have hin : ∀ y ∈ L, ∀ b ∈ Old.fpN y.2.1 y.2.2, b ∈ L.flatMap fun x => Old.fpN x.2.1 x.2.2 := fun y hy b hb => List.mem_flatMap.2 ⟨y, hy, hb⟩
 have h01 : g0 ≠ g1 := fun e => nd.2.2 g0 hb0 g1 (hin x hxm g1 (List.mem_append_left _ hb1)) e
 let St' : Nat → Nat → Prop := fun b o => St b o ∨ (w.heap.size ≤ b ∧ b < w'.heap.size ∧ b ≠ g0 ∧ b ≠ g1)
 let G' : Gh := ⟨St', [g0, g1], []⟩
 have hfresh : ∀ b ∈ Old.fpD dv L, b ≠ g0 → b ≠ g1 → ∀ o, St' b o := fun b hb n0 n1 o => by
  have := Old.DvcsAt.fp_lt (w := w') ⟨d1, d2, d3, d4⟩ b hb
  exact .inr ⟨this.1, this.2, n0, n1⟩
 -- a list of entries that lies in blocks that stay
 have hents : ∀ (y : Nod × Value) , Old.OwnL 2 Old.entCell 101 w' w.heap.size y.2 y.1.entries → (∀ b ∈ Old.blk y.2, ∀ o, St' b o) → fro St' w' (.sl 2 (y.1.entries.map entA) none) y.2 := by
  intro y hy hb
  refine own_fro hy (fun b h => hb b (Old.mem_blk.2 h)) (fun _ _ => rfl) fun e _ j av hj => ?_
  match j, hj with
  | 0, hj => injection hj with hj; subst hj; simp only [fro]; rfl
  | 1, hj => injection hj with hj; subst hj; simp only [fro]; rfl
 have hnod : ∀ (y : Nod × Value), Old.OwnL 2 Old.entCell 101 w' w.heap.size y.2 y.1.entries → (∀ b ∈ Old.blk y.2, ∀ o, St' b o) → ∀ j av, (nodA y.1)[j]? = some av → fro St' w' av (Old.nodCell y j) := by
  intro y hy hb j av hj
  match j, hj with
  | 0, hj => injection hj with hj; subst hj; simp only [fro]; rfl
  | 1, hj => injection hj with hj; subst hj; simp only [fro]; rfl
  | 2, hj => injection hj with hj; subst hj; simp only [fro]; rfl
  | 3, hj => injection hj with hj; subst hj; simp only [fro]; rfl
  | 4, hj => injection hj with hj; subst hj; simp only [fro]; rfl
  | 5, hj => injection hj with hj; subst hj; simp only [fro]; rfl
  | 6, hj => injection hj with hj; subst hj; simp only [fro]; rfl
  | 7, hj => injection hj with hj; subst hj; exact hents y hy hb
  | j + 8, hj => exact absurd hj (by simp [nodA])
 have hne0 : ∀ y ∈ L, ∀ b ∈ Old.fpN y.2.1 y.2.2, b ≠ g0 := fun y hy b hb e => nd.2.2 g0 hb0 b (hin y hy b hb) e.symm
 have hfp : ∀ y ∈ L, ∀ b ∈ Old.fpN y.2.1 y.2.2, b ∈ Old.fpD dv L := fun y hy b hb => List.mem_append_right _ (hin y hy b hb)
 -- the boxes
 obtain ⟨g1', cap1', q1, q2, q3, q4, q5, q6⟩ := own_box (G := G') e1 hyl (rows := dK.nodes.map nodA) (by omega) (by rw [← hxd]; simp [Old.dvcOf]) (nods_eight _) (by
  intro i y r hi hri j av hj
  have hnm : dK.nodes[i]? = some y.1 := by rw [← hxd, Old.dvcOf]; simp [hi]
  rw [List.getElem?_map, hnm] at hri
  injection hri with hri
  subst hri
  have hym := List.mem_of_getElem? hi
  refine rep_fro _ _ (hnod y (e2 y hym).1 (fun b hb => hfresh b (hfp x hxm b (List.mem_append_right _ (List.mem_flatMap.2 ⟨y, hym, hb⟩))) (hne0 x hxm b (List.mem_append_right _ (List.mem_flatMap.2 ⟨y, hym, hb⟩))) fun e => ?_) j av hj)
  exact (List.nodup_append.1 e3).2.2 g1 hb1 b (List.mem_flatMap.2 ⟨y, hym, hb⟩) e.symm)
 rw [hnv] at q1
 simp only [Value.slice.injEq, Option.some.injEq, Addr.mk.injEq, and_true, true_and] at q1
 obtain ⟨rfl, rfl⟩ := q1
 obtain ⟨g0', cap', p1, p2, p3, p4, p5, p6⟩ := own_box (G := G') d1 (by omega) (rows := devB f K dK 1 cap1) (by omega) (by rw [devB_len, hLl]) (devB_two _ _ _ _ _) (by
  intro i y r hi hri j av hj
  have hfi : f[i]? = some (Old.dvcOf y) := by rw [← hL, Old.flsOf, List.getElem?_map, hi]; rfl
  have hym := List.mem_of_getElem? hi
  unfold devB at hri
  by_cases hiK : K = i
  ·subst hiK
   rw [hx] at hi
   injection hi with hi
   subst hi
   rw [List.getElem?_set_self (by simp; omega)] at hri
   injection hri with hri
   subst hri
   match j, hj with
   | 0, hj => injection hj with hj; subst hj; simp only [rep]; rw [← hxd]; rfl
   | 1, hj =>
     injection hj with hj; subst hj
     simp only [rep]
     refine ⟨g1, rfl, ?_, ?_, q5⟩
     ·show x.2.1 = _
      rw [hnv, ← hxd]; simp [Old.dvcOf]
     rw [← hxd]; simpa [Old.dvcOf] using q4
   | j + 2, hj => exact absurd hj (by simp [devR])
  rw [List.getElem?_set_ne hiK, List.getElem?_map, hfi] at hri
  injection hri with hri
  subst hri
  have hn1 : ∀ b ∈ Old.fpN y.2.1 y.2.2, b ≠ g1 := by
   intro b hb e
   subst e
   have hd2 := nd.2.1
   have hil := (List.getElem?_eq_some_iff.1 hi).1
   rw [flatMap_at' hx] at hd2
   obtain ⟨c1, c2, c3⟩ := List.nodup_append.1 hd2
   obtain ⟨c4, c5, c6⟩ := List.nodup_append.1 c2
   rcases Nat.lt_or_ge i K with hlt | hge
   ·exact c3 b (List.mem_flatMap.2 ⟨y, List.mem_iff_getElem?.2 ⟨i, by rw [List.getElem?_take, if_pos hlt]; exact hi⟩, hb⟩) b (List.mem_append_left _ (List.mem_append_left _ hb1)) rfl
   exact c6 b (List.mem_append_left _ hb1) b (List.mem_flatMap.2 ⟨y, List.mem_iff_getElem?.2 ⟨i - (K + 1), by rw [List.getElem?_drop, show K + 1 + (i - (K + 1)) = i by omega]; exact hi⟩, hb⟩) rfl
  obtain ⟨f1, f2, f3⟩ := (d2 y hym).1
  match j, hj with
  | 0, hj => injection hj with hj; subst hj; simp only [rep]; rfl
  | 1, hj =>
    injection hj with hj; subst hj
    have key := own_fro f1 (St := St') (fun b h => hfresh b (hfp y hym b (List.mem_append_left _ (Old.mem_blk.2 h))) (hne0 y hym b (List.mem_append_left _ (Old.mem_blk.2 h))) (hn1 b (List.mem_append_left _ (Old.mem_blk.2 h)))) (enc := fun y => nodA y.1) (fun _ _ => rfl) fun z hz j av hj =>
     hnod z (f2 z hz).1 (fun b hb => hfresh b (hfp y hym b (List.mem_append_right _ (List.mem_flatMap.2 ⟨z, hz, hb⟩))) (hne0 y hym b (List.mem_append_right _ (List.mem_flatMap.2 ⟨z, hz, hb⟩))) (hn1 b (List.mem_append_right _ (List.mem_flatMap.2 ⟨z, hz, hb⟩)))) j av hj
    have e : ((Old.dvcOf y).nodes.map nodA) = y.2.2.map fun y => nodA y.1 := by simp [Old.dvcOf]
    rw [e]
    exact rep_fro _ _ key
  | j + 2, hj => exact absurd hj (by simp [dvcA]))
 rw [hdv] at p1
 simp only [Value.slice.injEq, Option.some.injEq, Addr.mk.injEq, and_true, true_and] at p1
 obtain ⟨rfl, rfl⟩ := p1
 have hst : ∀ b o, St b o → b < w.heap.size := hr.stlt
 refine ⟨.agg [.bs 0 0 2 f.length cap], _, _, G', ⟨rfl, cap, cap1, by omega, by rw [← hxd]; simpa [Old.dvcOf] using q4, rfl, rfl⟩, ⟨?_, ?_, ?_, ?_, rfl, ?_, ?_, ?_, ?_, rfl, ?_, ?_, ?_⟩, ⟨?_, ?_, ?_⟩, ?_⟩
 ·intro i b hi; simp at hi
 ·exact ⟨hB.os, hB.tape, hB.output, hB.size, fun k hk _ => hB.block k hk⟩
 ·rintro b o (h | h)
  ·have := hst b o h; omega
  exact h.2.1
 ·rintro b o (h | h)
  ·exact .inl h
  exact .inr h.1
 ·show [g0, g1].Nodup
  simpa using h01
 ·rintro b hb o (h | h)
  ·have := hst b o h
   simp [G'] at hb
   rcases hb with rfl | rfl <;> omega
  simp [G'] at hb
  rcases hb with rfl | rfl
  ·exact h.2.2.1 rfl
  exact h.2.2.2 rfl
 ·intro b hb
  simp [G'] at hb
  rcases hb with rfl | rfl
  ·exact .inl p2
  exact .inl q2
 ·intro i b row hi hrow
  match i, hi, hrow with
  | 0, hi, hrow => simp [G'] at hi; simp at hrow; subst hi; subst hrow; exact p6
  | 1, hi, hrow => simp [G'] at hi; simp at hrow; subst hi; subst hrow; exact q6
  | i + 2, hi, _ => simp [G'] at hi
 ·intro g n u T sz rows hg; simp [G'] at hg
 ·intro g n u hg; simp [G'] at hg
 ·intro g g' n n' u u' hg; simp [G'] at hg
 ·exact fun b o h => ⟨.inl h, hB.cell (p := ⟨b, o, none⟩) (hst b o h)⟩
 ·intro i b hi; simp at hi
 ·intro g n u hg; simp at hg
 simp only [rep, repL]
 exact ⟨[dv], rfl, dv, [], rfl, ⟨g0, rfl, by rw [hdv, hLl], by omega, p5⟩, rfl⟩
theorem flat_apart {α β : Type} {g : α → List β} {l : List α} (h : (l.flatMap g).Nodup) {i j : Nat} {a b : α} (ha : l[i]? = some a) (hb : l[j]? = some b) (hij : i ≠ j) {z : β} (hz : z ∈ g a) (hz' : z ∈ g b) : False := by
 obtain ⟨_, hp⟩ := List.pairwise_flatMap.1 h
 obtain ⟨li, rfl⟩ := List.getElem?_eq_some_iff.1 ha
 obtain ⟨lj, rfl⟩ := List.getElem?_eq_some_iff.1 hb
 rcases Nat.lt_or_gt_of_ne hij with hlt | hgt
 ·exact List.pairwise_iff_getElem.1 hp i j li lj hlt z hz z hz' rfl
 exact List.pairwise_iff_getElem.1 hp j i lj li hgt z hz' z hz rfl
theorem own_alt {α : Type} {sz : Nat} {cell : α → Nat → Value} {E : TypeId} {w : World} {base : Nat} {v : Value} {xs : List α} (h : Old.OwnL sz cell E w base v xs) (hp : 0 < sz) : (v = .slice none 0 0 ∧ xs.length = 0) ∨
    ∃ g cap, v = .slice (some ⟨g, 0, none⟩) xs.length cap ∧ base ≤ g ∧ g < w.heap.size ∧ xs.length ≤ cap ∧ cap ≤ maxLen ∧ ∀ {G : Gh} {rows : List (List AV)}, rows.length = xs.length → (∀ r ∈ rows, r.length = sz) →
     (∀ (i : Nat) (x : α) (r : List AV), xs[i]? = some x → rows[i]? = some r → ∀ j av, r[j]? = some av → rep G w av (cell x j)) → BoxAt G w g (rowsB sz cap rows) := by
 obtain ⟨⟨h3, h1⟩, h2⟩ := h
 rcases h1 with ⟨rfl, hn⟩ | ⟨g, cap, cur, rfl, hb, hg, hnc, hcm, hcs, htk⟩
 ·exact .inl ⟨rfl, hn⟩
 refine .inr ⟨g, cap, rfl, hb, (Array.getElem?_eq_some_iff.1 hg).1, hnc, hcm, fun {G rows} hl hlen hx => ⟨cur.toList, E, by simpa using hg, ?_, h2 g cur E rfl hg⟩⟩
 have e : cur.toList = cur.toList.take (xs.length * sz) ++ cur.toList.drop (xs.length * sz) := (List.take_append_drop _ _).symm
 rw [e]
 unfold rowsB
 refine repL_app ?_ ?_
 ·rw [htk]
  refine repL_of (by rw [flat_len hlen, hl, Old.flat_length]) fun i x hi => ?_
  have hii : i = i / sz * sz + i % sz := by rw [Nat.mul_comm]; exact (Nat.div_add_mod i sz).symm
  have hk : i % sz < sz := Nat.mod_lt _ hp
  rw [hii, flat_getT hlen hk] at hi
  cases hq : rows[i / sz]? with
  | none => rw [hq] at hi; simp at hi
  | some r =>
    rw [hq] at hi
    have hqx : i / sz < xs.length := by rw [← hl]; exact (List.getElem?_eq_some_iff.1 hq).1
    have hxx : xs[i / sz]? = some xs[i / sz] := List.getElem?_eq_getElem hqx
    refine ⟨cell xs[i / sz] (i % sz), ?_, hx _ _ r hxx hq _ _ hi⟩
    have := Old.flat_get (cell := cell) xs (i / sz) (i % sz) _ hxx hk
    rwa [← hii] at this
 have : (cur.toList.drop (xs.length * sz)).length = (cap - rows.length) * sz := by
  rw [List.length_drop, hl, Nat.sub_mul, ← hcs]
  simp
 rw [← this]
 exact repL_anys _
def nodR (n : Nod) (e : AV) : List AV := [.v (.int .i64 n.ino), .v (.int .i64 n.kind), .v (.int .i64 n.mode), .v (.int .i64 n.uid), .v (.int .i64 n.gid), .v (.int .i64 n.parent), .v (.string n.target), e]
def nodsB (ns : List Nod) (P : Nat) (n : Nod) (e : AV) : List (List AV) := (ns.map nodA).set P (nodR n e)
theorem nodsB_eight (ns : List Nod) (P : Nat) (n : Nod) (e : AV) : ∀ r ∈ nodsB ns P n e, r.length = 8 := by
 intro r hr
 rcases List.mem_or_eq_of_mem_set hr with h | h
 ·exact nods_eight _ r h
 rw [h]; rfl
theorem nodsB_len (ns : List Nod) (P : Nat) (n : Nod) (e : AV) : (nodsB ns P n e).length = ns.length := by simp [nodsB]
theorem RcopyG (f : Fls) (K : Nat) (dK : Dvc) (P : Nat) (nP : Nod) (hf : FlsB f) (hK : f[K]? = some dK) (hP : dK.nodes[P]? = some nP) :
    ACall Try.prog 69 [.agg (flsA f)] [] (fun r b t => t = [] ∧ ∃ cap cap1, f.length ≤ cap ∧ dK.nodes.length ≤ cap1 ∧ r = .agg [.bs 0 0 2 f.length cap] ∧ ∃ e X, ((nP.entries = [] ∧ e = .v (.slice none 0 0) ∧ X = []) ∨ ∃ cap2, nP.entries.length ≤ cap2 ∧ e = .bs 2 0 2 nP.entries.length cap2 ∧ X = [rowsB 2 cap2 (nP.entries.map entA)]) ∧ b = [rowsB 2 cap (devB f K dK 1 cap1), rowsB 8 cap1 (nodsB dK.nodes P nP e)] ++ X) := by
 have hne : 0 < dK.nodes.length := by have := (List.getElem?_eq_some_iff.1 hP).1; omega
 intro w St bl vs hr hv
 have hbl : bl = [] := by have := hr.bxlen; simpa using this
 subst hbl
 simp only [repL] at hv
 obtain ⟨z, zs, rfl, hz, rfl⟩ := hv
 have hz' : fro St w (.agg (flsA f)) z := by have := fro_era _ _ hz; simpa [era, eraL, flsA] using this
 have hF := fls_old hr.stlt hf hz'
 refine Calls.mono (Old.Copy_any z f w hF) ?_
 rintro e w' ⟨dv, L, rfl, hD, hL, hB⟩
 have hsz := hB.size
 have hLl : L.length = f.length := by rw [← hL]; simp [Old.flsOf]
 have hKl := (List.getElem?_eq_some_iff.1 hK).1
 obtain ⟨x, hx, hxd⟩ : ∃ x, L[K]? = some x ∧ Old.dvcOf x = dK := by
  have h1 : L[K]? = some L[K] := List.getElem?_eq_getElem (by omega)
  refine ⟨_, h1, ?_⟩
  have := hK
  rw [← hL, Old.flsOf, List.getElem?_map, h1] at this
  injection this
 have hxm := List.mem_of_getElem? hx
 obtain ⟨d1, d2, d3, d4⟩ := hD
 obtain ⟨e1, e2, e3⟩ := d2 x hxm |>.1
 have hyl : 0 < x.2.2.length := by rw [← hxd] at hne; simpa [Old.dvcOf] using hne
 have form : ∀ {α : Type} {sz : Nat} {cell : α → Nat → Value} {E : TypeId} {base : Nat} {v : Value} {xs : List α}, Old.OwnL sz cell E w' base v xs → 0 < xs.length → ∃ g cap, v = .slice (some ⟨g, 0, none⟩) xs.length cap := by
  intro α sz cell E base v xs h h0
  rcases h.1.2 with ⟨_, hn⟩ | ⟨g, cap, cur, rfl, _⟩
  ·omega
  exact ⟨g, cap, rfl⟩
 obtain ⟨g0, cap, hdv⟩ := form d1 (by omega)
 obtain ⟨g1, cap1, hnv⟩ := form e1 hyl
 have hb0 : g0 ∈ Old.blk dv := Old.mem_blk.2 (by rw [hdv]; rfl)
 have hb1 : g1 ∈ Old.blk x.2.1 := Old.mem_blk.2 (by rw [hnv]; rfl)
 obtain ⟨y0, hy0, hyP⟩ : ∃ y0, x.2.2[P]? = some y0 ∧ y0.1 = nP := by
  rw [← hxd, Old.dvcOf, List.getElem?_map] at hP
  cases h : x.2.2[P]? with
  | none => rw [h] at hP; cases hP
  | some y0 => rw [h] at hP; injection hP with hP; exact ⟨y0, rfl, hP⟩
 have hy0m := List.mem_of_getElem? hy0
 have nd := List.nodup_append.1 d3
 have hin : ∀ y ∈ L, ∀ b ∈ Old.fpN y.2.1 y.2.2, b ∈ L.flatMap fun x => Old.fpN x.2.1 x.2.2 := fun y hy b hb => List.mem_flatMap.2 ⟨y, hy, hb⟩
 have h01 : g0 ≠ g1 := fun e => nd.2.2 g0 hb0 g1 (hin x hxm g1 (List.mem_append_left _ hb1)) e
 have hblk : ∀ b ∈ Old.blk y0.2, b ∈ x.2.2.flatMap fun y => Old.blk y.2 := fun b hb => List.mem_flatMap.2 ⟨y0, hy0m, hb⟩
 obtain ⟨ex, eP, X, F1, F2, F3, F4, F5, F6, F7⟩ : ∃ (ex : List Nat) (e : AV) (X : List (List AV)), (∀ b ∈ ex, b ∈ Old.blk y0.2 ∧ w.heap.size ≤ b) ∧ (∀ b, b ∈ Old.blk y0.2 → b ∈ ex) ∧ ex.length ≤ 1 ∧ (∀ G : Gh, G.bx = g0 :: g1 :: ex → rep G w' e y0.2) ∧ (∀ (G : Gh) (i : Nat) (b : Nat) (row : List AV), ex[i]? = some b → X[i]? = some row → BoxAt G w' b row) ∧
     X.length = ex.length ∧ ((nP.entries = [] ∧ e = .v (.slice none 0 0) ∧ X = []) ∨ ∃ cap2, nP.entries.length ≤ cap2 ∧ e = .bs 2 0 2 nP.entries.length cap2 ∧ X = [rowsB 2 cap2 (nP.entries.map entA)]) := by
  rcases own_alt (e2 y0 hy0m).1 (by omega) with ⟨hv0, hn0⟩ | ⟨g2, cap2, hv2, r1, r2, r3, r4, r5⟩
  ·refine ⟨[], .v (.slice none 0 0), [], by simp, fun b hb => ?_, by simp, fun G _ => by simp only [rep]; exact hv0, by simp, rfl, .inl ⟨?_, rfl, rfl⟩⟩
   ·have := Old.mem_blk.1 hb; rw [hv0] at this; simp [Value.ownBlock] at this
   rw [← hyP]; exact List.eq_nil_of_length_eq_zero hn0
  refine ⟨[g2], .bs 2 0 2 nP.entries.length cap2, [rowsB 2 cap2 (nP.entries.map entA)], fun b hb => ?_, fun b hb => ?_, by simp, fun G hG => ?_, fun G i b row hi hrow => ?_, rfl, .inr ⟨cap2, by rw [← hyP]; exact r3, rfl, rfl⟩⟩
  ·rw [List.mem_singleton.1 hb]; exact ⟨Old.mem_blk.2 (by rw [hv2]; rfl), r1⟩
  ·have := Old.mem_blk.1 hb; rw [hv2] at this; simp [Value.ownBlock] at this; simp [this]
  ·simp only [rep]
   refine ⟨g2, by rw [hG]; rfl, ?_, ?_, r4⟩
   ·rw [hv2, hyP]
   rw [← hyP]; exact r3
  match i, hi, hrow with
  | 0, hi, hrow =>
    simp at hi hrow
    subst hi; subst hrow
    refine r5 (by rw [← hyP]; simp) (fun r hr => by obtain ⟨e, _, rfl⟩ := List.mem_map.1 hr; rfl) fun i y r hi hri j av hj => ?_
    rw [← hyP, List.getElem?_map, hi] at hri
    injection hri with hri
    subst hri
    match j, hj with
    | 0, hj => injection hj with hj; subst hj; simp only [rep]; rfl
    | 1, hj => injection hj with hj; subst hj; simp only [rep]; rfl
    | j + 2, hj => exact absurd hj (by simp [entA])
  | i + 1, hi, _ => simp at hi
 let St' : Nat → Nat → Prop := fun b o => St b o ∨ (w.heap.size ≤ b ∧ b < w'.heap.size ∧ b ≠ g0 ∧ b ≠ g1 ∧ b ∉ ex)
 let G' : Gh := ⟨St', g0 :: g1 :: ex, []⟩
 have h0ex : ∀ b ∈ ex, b ≠ g0 ∧ b ≠ g1 := fun b hb => ⟨fun e => nd.2.2 g0 hb0 b (hin x hxm b (List.mem_append_right _ (hblk b (F1 b hb).1))) e.symm, fun e => (List.nodup_append.1 e3).2.2 g1 hb1 b (hblk b (F1 b hb).1) e.symm⟩
 have hfresh : ∀ b ∈ Old.fpD dv L, b ≠ g0 → b ≠ g1 → b ∉ ex → ∀ o, St' b o := fun b hb n0 n1 n2 o => by
  have := Old.DvcsAt.fp_lt (w := w') ⟨d1, d2, d3, d4⟩ b hb
  exact .inr ⟨this.1, this.2, n0, n1, n2⟩
 -- a list of entries that lies in blocks that stay
 have hents : ∀ (y : Nod × Value) , Old.OwnL 2 Old.entCell 101 w' w.heap.size y.2 y.1.entries → (∀ b ∈ Old.blk y.2, ∀ o, St' b o) → fro St' w' (.sl 2 (y.1.entries.map entA) none) y.2 := by
  intro y hy hb
  refine own_fro hy (fun b h => hb b (Old.mem_blk.2 h)) (fun _ _ => rfl) fun e _ j av hj => ?_
  match j, hj with
  | 0, hj => injection hj with hj; subst hj; simp only [fro]; rfl
  | 1, hj => injection hj with hj; subst hj; simp only [fro]; rfl
 have hnod : ∀ (y : Nod × Value), Old.OwnL 2 Old.entCell 101 w' w.heap.size y.2 y.1.entries → (∀ b ∈ Old.blk y.2, ∀ o, St' b o) → ∀ j av, (nodA y.1)[j]? = some av → fro St' w' av (Old.nodCell y j) := by
  intro y hy hb j av hj
  match j, hj with
  | 0, hj => injection hj with hj; subst hj; simp only [fro]; rfl
  | 1, hj => injection hj with hj; subst hj; simp only [fro]; rfl
  | 2, hj => injection hj with hj; subst hj; simp only [fro]; rfl
  | 3, hj => injection hj with hj; subst hj; simp only [fro]; rfl
  | 4, hj => injection hj with hj; subst hj; simp only [fro]; rfl
  | 5, hj => injection hj with hj; subst hj; simp only [fro]; rfl
  | 6, hj => injection hj with hj; subst hj; simp only [fro]; rfl
  | 7, hj => injection hj with hj; subst hj; exact hents y hy hb
  | j + 8, hj => exact absurd hj (by simp [nodA])
 have hne0 : ∀ y ∈ L, ∀ b ∈ Old.fpN y.2.1 y.2.2, b ≠ g0 := fun y hy b hb e => nd.2.2 g0 hb0 b (hin y hy b hb) e.symm
 have hfp : ∀ y ∈ L, ∀ b ∈ Old.fpN y.2.1 y.2.2, b ∈ Old.fpD dv L := fun y hy b hb => List.mem_append_right _ (hin y hy b hb)
 -- the boxes
 have hblkN : (x.2.2.flatMap fun y => Old.blk y.2).Nodup := (List.nodup_append.1 e3).2.1
 have hex : ∀ (i : Nat) (y : Nod × Value), x.2.2[i]? = some y → i ≠ P → ∀ b ∈ Old.blk y.2, b ∉ ex := fun i y hi hne b hb hbx => flat_apart hblkN hi hy0 hne hb (F1 b hbx).1
 obtain ⟨g1', cap1', q1, q2, q3, q4, q5, q6⟩ := own_box (G := G') e1 hyl (rows := nodsB dK.nodes P nP eP) (by omega) (by rw [nodsB_len, ← hxd]; simp [Old.dvcOf]) (nodsB_eight _ _ _ _) (by
  intro i y r hi hri j av hj
  have hnm : dK.nodes[i]? = some y.1 := by rw [← hxd, Old.dvcOf]; simp [hi]
  have hym := List.mem_of_getElem? hi
  have hil := (List.getElem?_eq_some_iff.1 hnm).1
  unfold nodsB at hri
  by_cases hiP : P = i
  ·subst hiP
   rw [hy0] at hi
   injection hi with hi
   subst hi
   rw [List.getElem?_set_self (by simpa using hil)] at hri
   injection hri with hri
   subst hri
   rw [← hyP] at hj
   match j, hj with
   | 0, hj => injection hj with hj; subst hj; simp only [rep]; rfl
   | 1, hj => injection hj with hj; subst hj; simp only [rep]; rfl
   | 2, hj => injection hj with hj; subst hj; simp only [rep]; rfl
   | 3, hj => injection hj with hj; subst hj; simp only [rep]; rfl
   | 4, hj => injection hj with hj; subst hj; simp only [rep]; rfl
   | 5, hj => injection hj with hj; subst hj; simp only [rep]; rfl
   | 6, hj => injection hj with hj; subst hj; simp only [rep]; rfl
   | 7, hj => injection hj with hj; subst hj; exact F4 G' rfl
   | j + 8, hj => exact absurd hj (by simp [nodR])
  rw [List.getElem?_set_ne hiP, List.getElem?_map, hnm] at hri
  injection hri with hri
  subst hri
  refine rep_fro _ _ (hnod y (e2 y hym).1 (fun b hb => hfresh b (hfp x hxm b (List.mem_append_right _ (List.mem_flatMap.2 ⟨y, hym, hb⟩))) (hne0 x hxm b (List.mem_append_right _ (List.mem_flatMap.2 ⟨y, hym, hb⟩))) (fun e => ?_) (hex i y hi (fun e => hiP e.symm) b hb)) j av hj)
  exact (List.nodup_append.1 e3).2.2 g1 hb1 b (List.mem_flatMap.2 ⟨y, hym, hb⟩) e.symm)
 rw [hnv] at q1
 simp only [Value.slice.injEq, Option.some.injEq, Addr.mk.injEq, and_true, true_and] at q1
 obtain ⟨rfl, rfl⟩ := q1
 obtain ⟨g0', cap', p1, p2, p3, p4, p5, p6⟩ := own_box (G := G') d1 (by omega) (rows := devB f K dK 1 cap1) (by omega) (by rw [devB_len, hLl]) (devB_two _ _ _ _ _) (by
  intro i y r hi hri j av hj
  have hfi : f[i]? = some (Old.dvcOf y) := by rw [← hL, Old.flsOf, List.getElem?_map, hi]; rfl
  have hym := List.mem_of_getElem? hi
  unfold devB at hri
  by_cases hiK : K = i
  ·subst hiK
   rw [hx] at hi
   injection hi with hi
   subst hi
   rw [List.getElem?_set_self (by simp; omega)] at hri
   injection hri with hri
   subst hri
   match j, hj with
   | 0, hj => injection hj with hj; subst hj; simp only [rep]; rw [← hxd]; rfl
   | 1, hj =>
     injection hj with hj; subst hj
     simp only [rep]
     refine ⟨g1, rfl, ?_, ?_, q5⟩
     ·show x.2.1 = _
      rw [hnv, ← hxd]; simp [Old.dvcOf]
     rw [← hxd]; simpa [Old.dvcOf] using q4
   | j + 2, hj => exact absurd hj (by simp [devR])
  rw [List.getElem?_set_ne hiK, List.getElem?_map, hfi] at hri
  injection hri with hri
  subst hri
  have hn1 : ∀ b ∈ Old.fpN y.2.1 y.2.2, b ≠ g1 := by
   intro b hb e
   subst e
   have hd2 := nd.2.1
   have hil := (List.getElem?_eq_some_iff.1 hi).1
   rw [flatMap_at' hx] at hd2
   obtain ⟨c1, c2, c3⟩ := List.nodup_append.1 hd2
   obtain ⟨c4, c5, c6⟩ := List.nodup_append.1 c2
   rcases Nat.lt_or_ge i K with hlt | hge
   ·exact c3 b (List.mem_flatMap.2 ⟨y, List.mem_iff_getElem?.2 ⟨i, by rw [List.getElem?_take, if_pos hlt]; exact hi⟩, hb⟩) b (List.mem_append_left _ (List.mem_append_left _ hb1)) rfl
   exact c6 b (List.mem_append_left _ hb1) b (List.mem_flatMap.2 ⟨y, List.mem_iff_getElem?.2 ⟨i - (K + 1), by rw [List.getElem?_drop, show K + 1 + (i - (K + 1)) = i by omega]; exact hi⟩, hb⟩) rfl
  have hnx : ∀ b ∈ Old.fpN y.2.1 y.2.2, b ∉ ex := fun b hb hbx => flat_apart (g := fun x => Old.fpN x.2.1 x.2.2) nd.2.1 hi hx (fun e => hiK e.symm) hb (List.mem_append_right _ (hblk b (F1 b hbx).1))
  obtain ⟨f1, f2, f3⟩ := (d2 y hym).1
  match j, hj with
  | 0, hj => injection hj with hj; subst hj; simp only [rep]; rfl
  | 1, hj =>
    injection hj with hj; subst hj
    have key := own_fro f1 (St := St') (fun b h => hfresh b (hfp y hym b (List.mem_append_left _ (Old.mem_blk.2 h))) (hne0 y hym b (List.mem_append_left _ (Old.mem_blk.2 h))) (hn1 b (List.mem_append_left _ (Old.mem_blk.2 h))) (hnx b (List.mem_append_left _ (Old.mem_blk.2 h)))) (enc := fun y => nodA y.1) (fun _ _ => rfl) fun z hz j av hj =>
     hnod z (f2 z hz).1 (fun b hb => hfresh b (hfp y hym b (List.mem_append_right _ (List.mem_flatMap.2 ⟨z, hz, hb⟩))) (hne0 y hym b (List.mem_append_right _ (List.mem_flatMap.2 ⟨z, hz, hb⟩))) (hn1 b (List.mem_append_right _ (List.mem_flatMap.2 ⟨z, hz, hb⟩))) (hnx b (List.mem_append_right _ (List.mem_flatMap.2 ⟨z, hz, hb⟩)))) j av hj
    have e : ((Old.dvcOf y).nodes.map nodA) = y.2.2.map fun y => nodA y.1 := by simp [Old.dvcOf]
    rw [e]
    exact rep_fro _ _ key
  | j + 2, hj => exact absurd hj (by simp [dvcA]))
 rw [hdv] at p1
 simp only [Value.slice.injEq, Option.some.injEq, Addr.mk.injEq, and_true, true_and] at p1
 obtain ⟨rfl, rfl⟩ := p1
 have hst : ∀ b o, St b o → b < w.heap.size := hr.stlt
 refine ⟨.agg [.bs 0 0 2 f.length cap], _, _, G', ⟨rfl, cap, cap1, by omega, by rw [← hxd]; simpa [Old.dvcOf] using q4, rfl, eP, X, F7, rfl⟩, ⟨?_, ?_, ?_, ?_, ?_, ?_, ?_, ?_, ?_, rfl, ?_, ?_, ?_⟩, ⟨?_, ?_, ?_⟩, ?_⟩
 ·intro i b hi; simp at hi
 ·exact ⟨hB.os, hB.tape, hB.output, hB.size, fun k hk _ => hB.block k hk⟩
 ·rintro b o (h | h)
  ·have := hst b o h; omega
  exact h.2.1
 ·rintro b o (h | h)
  ·exact .inl h
  exact .inr h.1
 ·simp [G', F6]
 ·show (g0 :: g1 :: ex).Nodup
  have hexn : ex.Nodup := by match ex, F3 with
   | [], _ => exact List.nodup_nil
   | [a], _ => simp
   | a :: b :: r, h => simp at h
  rw [List.nodup_cons, List.nodup_cons]
  refine ⟨fun h => ?_, fun h => (h0ex g1 h).2 rfl, hexn⟩
  rcases List.mem_cons.1 h with h | h
  ·exact h01 h
  exact (h0ex g0 h).1 rfl
 ·rintro b hb o (h | h)
  ·have := hst b o h
   simp only [G', List.mem_cons] at hb
   rcases hb with rfl | rfl | hb
   ·omega
   ·omega
   have := (F1 b hb).2; omega
  simp only [G', List.mem_cons] at hb
  rcases hb with rfl | rfl | hb
  ·exact h.2.2.1 rfl
  ·exact h.2.2.2.1 rfl
  exact h.2.2.2.2 hb
 ·intro b hb
  simp only [G', List.mem_cons] at hb
  rcases hb with rfl | rfl | hb
  ·exact .inl p2
  ·exact .inl q2
  exact .inl (F1 b hb).2
 ·intro i b row hi hrow
  match i, hi, hrow with
  | 0, hi, hrow => simp [G'] at hi; simp at hrow; subst hi; subst hrow; exact p6
  | 1, hi, hrow => simp [G'] at hi; simp at hrow; subst hi; subst hrow; exact q6
  | i + 2, hi, hrow => exact F5 G' i b row (by simpa [G'] using hi) (by simpa using hrow)
 ·intro g n u T sz rows hg; simp [G'] at hg
 ·intro g n u hg; simp [G'] at hg
 ·intro g g' n n' u u' hg; simp [G'] at hg
 ·exact fun b o h => ⟨.inl h, hB.cell (p := ⟨b, o, none⟩) (hst b o h)⟩
 ·intro i b hi; simp at hi
 ·intro g n u hg; simp at hg
 simp only [rep, repL]
 exact ⟨[dv], rfl, dv, [], rfl, ⟨g0, rfl, by rw [hdv, hLl], by omega, p5⟩, rfl⟩
section
variable {P : Program} {ev : Operand → Option AV} {h : AH} {R : AV → AH → Prop} {d : Option Tmp} {ty : TypeId} {pos : String} {af : Array Edge} {gd : Option (Nat × Bool)}
theorem st_sliceHiB {T : TypeId} {x hi : Operand} {E sz bytes i off n cap k : Nat} {iv : Int} [hE : Elm P T E sz bytes] (hx : ev x = some (.bs i off sz n cap)) (hh : ev hi = some (.v (.int .i64 iv))) (hi' : iv = (k : Int)) (hk : k ≤ n) (hR : R (.bs i off sz k cap) h) :
    AStep P ⟨d, .slice T x none (some hi) none, ty, pos, af, gd⟩ ev h R := by
 refine st_val (fun _ G w ec _ he => ?_) hR
 have k1 := he x (by simp [Op.operands]) _ hx
 have k2 := he hi (by simp [Op.operands]) _ hh
 simp only [rep] at k1 k2
 obtain ⟨b, e1, e2, e3, e4⟩ := k1
 obtain ⟨hu, inf, z, hinf, hz, hzs, hs, hby, hp⟩ := elm_spec hE.eq
 subst hi'
 have hle : k ≤ cap := by omega
 refine ⟨.slice (some ⟨b, off, none⟩) k cap, ?_, by simp only [rep]; exact ⟨b, e1, rfl, hle, e4⟩⟩
 simp [execOp, e2, k2, Instr.sliceAt, Instr.slice, Instr.sliceBounds, Instr.sliceBound, asIntOf, run_underlying hu, sizeOf, typeInfo, hinf, hs, hle, Addr.add_mid]
theorem st_sliceLoB {T : TypeId} {x lo : Operand} {E sz bytes i off n cap l : Nat} {iv : Int} [hE : Elm P T E sz bytes] (hx : ev x = some (.bs i off sz n cap)) (hh : ev lo = some (.v (.int .i64 iv))) (hi' : iv = (l : Int)) (hk : l < n) (hR : R (.bs i (off + l * sz) sz (n - l) (cap - l)) h) :
    AStep P ⟨d, .slice T x (some lo) none none, ty, pos, af, gd⟩ ev h R := by
 refine st_val (fun _ G w ec _ he => ?_) hR
 have k1 := he x (by simp [Op.operands]) _ hx
 have k2 := he lo (by simp [Op.operands]) _ hh
 simp only [rep] at k1 k2
 obtain ⟨b, e1, e2, e3, e4⟩ := k1
 obtain ⟨hu, inf, z, hinf, hz, hzs, hs, hby, hp⟩ := elm_spec hE.eq
 subst hi'
 have hle : l ≤ n := by omega
 have hne : ¬ cap = l := by omega
 have hne' : ¬ (cap - l = 0) := by omega
 refine ⟨.slice (some ⟨b, off + l * sz, none⟩) (n - l) (cap - l), ?_, by simp only [rep]; exact ⟨b, e1, rfl, by omega, by omega⟩⟩
 simp [execOp, e2, k2, Instr.sliceAt, Instr.slice, Instr.sliceBounds, Instr.sliceBound, asIntOf, run_underlying hu, sizeOf, typeInfo, hinf, hs, hle, hne, hne', Addr.add_mid]
end
section
variable {P : Program} {ev : Operand → Option AV} {h : AH} {R : AV → AH → Prop} {d : Option Tmp} {ty : TypeId} {pos : String} {af : Array Edge} {gd : Option (Nat × Bool)}
theorem zero_mod {z : Value} {k n : Nat} (hk : 0 < k) (hs : z.cells.size = k) {u : Value} (hu : u ∈ ((Array.range n).map fun x => z.cells[x % z.cells.size]!).toList) : u ∈ Builtin.zeroCells z.cells (n + 1) := by
 simp only [Array.toList_map, Array.toList_range, List.mem_map, List.mem_range] at hu
 obtain ⟨i, hi, rfl⟩ := hu
 simp only [Builtin.zeroCells, Array.mem_map, Array.mem_range]
 refine ⟨i, ?_, rfl⟩
 rw [hs]
 have : n + 1 ≤ (n + 1) * k := Nat.le_mul_of_pos_right _ hk
 omega
theorem st_makeB {T : TypeId} {x y : Operand} {E sz bytes l m k : Nat} {i j : Int} {zrow : List AV} {bx' : List (List AV)} [hE : Elm P T E sz bytes] [hzr : Zer P E zrow] (hx : ev x = some (.v (.int .i64 i))) (hy : ev y = some (.v (.int .i64 j))) (hi : i = (l : Int)) (hj : j = (m : Int)) (hlm : l ≤ m) (hm0 : 0 < m) (hm : m ≤ 1000000)
    (hset : SnocAt h.bx (List.replicate (m * sz) .any) k bx') (hR : R (.bs k 0 sz l m) ⟨bx', h.tk⟩) : AStep P ⟨d, .makeSlice T x y, ty, pos, af, gd⟩ ev h R := by
 intro E' G w ec hr he
 have k1 := he x (by simp [Op.operands]) _ hx
 have k2 := he y (by simp [Op.operands]) _ hy
 simp only [rep] at k1 k2
 subst hi hj
 obtain ⟨hu, inf, z, hinf, hz, hzs, hs, hby, hp⟩ := elm_spec hE.eq
 have hw : IntKind.i64.wrap (m : Int) = m := IntWalk.i64_in _ (by omega)
 have hw0 : IntKind.i64.wrap (l : Int) = l := IntWalk.i64_in _ (by omega)
 have hbig : ∀ q : Nat, q ≤ m → ¬ (inf.bytes : Int) * (q : Int) > 2 ^ 48 := by
  intro q hq
  have h1 : inf.bytes * q ≤ 100000 * 1000000 := Nat.mul_le_mul (by rw [hby]; exact hE.few) (by omega)
  have h2 : ((inf.bytes * q : Nat) : Int) ≤ 100000000000 := by omega
  rw [Int.natCast_mul] at h2
  omega
 have hneg : ¬ ((m : Int) < 0) := by omega
 have hneg2 : ¬ ((l : Int) < 0) := by omega
 have hgt : ¬ ((l : Int) > (m : Int)) := by omega
 have hrun : ∃ cells : Array Value, cells.size = m * sz ∧ (∀ u ∈ cells.toList, u.oneCell' = true) ∧ (Instr.makeSlice T (.int .i64 l) (.int .i64 m)).run P w = .ok (.slice (some ⟨w.heap.size, 0, none⟩) l m) (w.alloc (.cells cells E)) := by
  have hc : (decide ((m : Int) < 0) || decide ((inf.bytes : Int) * (m : Int) > 2 ^ 48)) = false := by rw [decide_eq_false hneg, decide_eq_false (hbig m (Nat.le_refl _))]; rfl
  have h0 : ¬ m * sz = 0 := by
   have : 0 < m * sz := Nat.mul_pos hm0 hp
   omega
  refine ⟨(Array.range (m * sz)).map fun x => z.cells[x % z.cells.size]!, by simp, fun u hu => zero_one hzr hinf hz (zero_mod hp hzs hu), ?_⟩
  have hb := hbig m (Nat.le_refl _)
  have hnb : (inf.bytes : Int) * (m : Int) ≤ 2 ^ 48 := by omega
  simp [Instr.makeSlice, run_underlying hu, asInt, asIntOf, typeInfo, hinf, hw, hw0, hneg, hneg2, hlm, sizeOf, hs, h0, newRow, zeroValue, hz]
  omega
 obtain ⟨cells, c1, c2, c3⟩ := hrun
 have hcl : cells = cells.toList.toArray := by simp
 rw [hcl] at c3
 have hlen : cells.toList.length = m * sz := by simpa using c1
 have hrep : repL G w (List.replicate (m * sz) .any) cells.toList := by
  rw [← hlen]
  exact repL_anys _
 obtain ⟨G', s1, s2, s3⟩ := new_box (T := E) hr hrep c2 hset
 simp only [rep] at s3
 obtain ⟨b', s4, s5⟩ := s3
 simp only [execOp, k1, k2, Sem.run_bind, c3, Result.andThen_ok, Sem.run_pure]
 refine ⟨_, _, G', hR, s1, s2, ?_⟩
 simp only [rep]
 injection s5 with s5
 injection s5 with s5
 injection s5 with s5
 exact ⟨b', s4, by rw [s5], hlm, by unfold maxLen; omega⟩
theorem st_capB {T : TypeId} {x : Operand} {E sz bytes i off n cap : Nat} [hE : Elm P T E sz bytes] (hx : ev x = some (.bs i off sz n cap)) (hR : R (.v (.int .i64 (cap : Int))) h) : AStep P ⟨d, .call { callee := .builtin .cap, args := #[x], argTypes := #[T] }, ty, pos, af, gd⟩ ev h R := by
 refine st_val (fun _ G w ec _ he => ?_) hR
 have k1 := he x (by simp [Op.operands, Call.operands]) _ hx
 simp only [rep] at k1
 obtain ⟨b, e1, e2, e3, e4⟩ := k1
 obtain ⟨hu, _⟩ := elm_spec hE.eq
 refine ⟨.int .i64 (cap : Int), ?_, by simp only [rep]⟩
 simp [execOp, resolve, invoke, builtin, e2, Builtin.cap_, run_underlying hu, goInt]
theorem st_copyB {T T2 : TypeId} {x y : Operand} {E sz bytes i off n cap m : Nat} {row row' cs : List AV} {av : AV} {bx' : List (List AV)} [hE : Elm P T E sz bytes] (hx : ev x = some (.bs i off sz n cap)) (hy : ev y = some av) (hb : h.bx[i]? = some row) (hsrc : SrcA h sz av m cs) (hm : 0 < m) (hmn : m ≤ n) (hfit : off + n * sz ≤ row.length)
    (hset : SetAt row off cs row') (hbx : SetAt h.bx i [row'] bx') (hR : R (.v (.int .i64 (m : Int))) ⟨bx', h.tk⟩) : AStep P ⟨d, .call { callee := .builtin .copy, args := #[x, y], argTypes := #[T, T2] }, ty, pos, af, gd⟩ ev h R := by
 intro E' G w ec hr he
 have k1 := he x (by simp [Op.operands, Call.operands]) _ hx
 have k2 := he y (by simp [Op.operands, Call.operands]) _ hy
 obtain ⟨hu, inf, z, hinf, hz, hzs, hsz, hbts, hp⟩ := elm_spec hE.eq
 obtain ⟨ad, c, us, e1, e2, e3, e4, e5⟩ := hsrc.run hr k2 hp hm
 simp only [rep] at k1
 obtain ⟨b, k3, k4, k5, k6⟩ := k1
 obtain ⟨vs, Tb, q1, q2, q3⟩ := hr.boxAt k3 hb
 have hlen := repL_length q2
 have hmn2 : m * sz ≤ n * sz := Nat.mul_le_mul_right _ hmn
 have hl := run_loadCells_list (P := P) w ad us e5
 rw [e2] at hl
 have hst := run_storeCells_cells (P := P) b off us 0 w (fun j hj => by simp only [World.cell?, q1]; simp; omega) (fun j hj => by simp [World.frozen?, q1]) e4
 simp only [Nat.add_zero] at hst
 have hrun : (Builtin.copy_ #[T, T2] ty #[.slice (some ⟨b, off, none⟩) n cap, .slice (some ad) m c]).run P w = .ok (.int .i64 (m : Int)) (w.setCells b off us) := by
  have hmin : Nat.min m n = m := Nat.min_eq_left hmn
  simp [Builtin.copy_, run_underlying hu, Builtin.lenOf, Builtin.firstCells, sizeOf, typeInfo, hinf, hsz, hmin, hl, hst, goInt]
 obtain ⟨r1, r2, r3, r4, r5, r6⟩ := setCells_heap b Tb us off vs w q1
 obtain ⟨m1, _⟩ := hset.rep q2 e3
 obtain ⟨t1, t2⟩ := hr.setBox (w' := w.setCells b off us) (row := row') k3 r4 r5 r6 r3 r2 ⟨_, Tb, r1, m1, fun u hu => by
  rcases setL_mem us vs _ u hu with e | e
  ·exact q3 u e
  exact e4 u e⟩
 have hbe := (SetAt.one hbx).2
 subst hbe
 simp only [execOp, resolve, invoke, builtin, Sem.run_bind, Sem.run_pure, Result.andThen_ok, List.map_toArray, List.map_cons, List.map_nil, k4, e1, hrun]
 exact ⟨_, _, G, hR, t1, t2, by simp only [rep]⟩
end
section
variable {P : Program} {ev : Operand → Option AV} {bx : List (List AV)} {tk : List Tok} {R : AV → AH → Prop} {d : Option Tmp} {ty : TypeId} {pos : String} {af : Array Edge} {gd : Option (Nat × Bool)} {ats : Array TypeId}
theorem s_callMC {f : FuncId} {fo : Operand} {l : List Operand} {ys : List AV} {rows : List (List AV)} {R0 : AV → List (List AV) → List Tok → Prop} (is : List Nat) [Fun P f] (hfo : ev fo = some (.fn f [])) (ha : ArgsM (fun j => plcOf' j is 0) ev l ys) (hnd : is.Nodup) (hh : Hand bx (fun j => plcOf' j is 0) is rows) (hc : ACall P f ys rows R0)
    (hR : ∀ r bc tc, R0 r bc tc → tc = [] ∧ ∃ bx', Back bx is bc bx' ∧ R (ren (backS is bx.length) r) ⟨bx', tk⟩) : AStep P ⟨d, .call { callee := .value fo, args := l.toArray, argTypes := ats }, ty, pos, af, gd⟩ ev ⟨bx, tk⟩ R := by
 intro E G w ec hr he
 obtain ⟨cs, k1, k2⟩ := func_op (he fo (by simp [Op.operands, Call.operands]) _ hfo)
 simp only [repL] at k2
 subst k2
 obtain ⟨bs, hbs⟩ : ∃ bs : List Nat, bs.length = is.length ∧ ∀ (k i : Nat), is[k]? = some i → ∃ b, G.bx[i]? = some b ∧ bs[k]? = some b := by
  refine ⟨is.map fun i => (G.bx[i]?).getD 0, by simp, fun k i hk => ?_⟩
  obtain ⟨row, h1, _⟩ := hh.get.2 k i hk
  have hlt : i < G.bx.length := by rw [hr.bxlen]; exact (List.getElem?_eq_some_iff.1 h1).1
  exact ⟨G.bx[i], List.getElem?_eq_getElem hlt, by rw [List.getElem?_map, hk]; simp [hlt]⟩
 obtain ⟨s1, s2⟩ := handM_start hr hnd hbs hh
 refine upon_call k1 ?_
 rw [List.append_nil]
 have hargs : ∀ {l : List Operand} {ys : List AV}, ArgsM (fun j => plcOf' j is 0) ev l ys → (∀ x ∈ l, ∀ av, ev x = some av → rep G w av (ec x)) → repL ⟨G.St, bs, []⟩ w ys (l.map ec) := by
  intro l ys h
  induction h with
  | nil => intro _; simp only [List.map_nil, repL]
  | cons o x y l ys h1 h2 _ ih =>
    intro he
    simp only [List.map_cons, repL]
    exact ⟨_, _, rfl, h2 _ _ _ (rep_ren (G := G) (G' := ⟨G.St, bs, []⟩) rfl s2 _ _ (he o (by simp) _ h1)), ih fun x hx => he x (by simp [hx])⟩
 refine Calls.mono (hc w G.St bs _ s1 (hargs ha fun x hx av hav => he x (by simp [Op.operands, Call.operands, hx]) av hav)) ?_
 intro e w' h3
 cases e with
 | returned v =>
   obtain ⟨r, bc, tc, Gc, hR0, h1, h2, h3⟩ := h3
   obtain ⟨rfl, bx', q1, q2⟩ := hR r bc tc hR0
   obtain ⟨m1, m2, m3⟩ := handM_merge hr hbs h1 h2 q1
   exact ⟨_, _, _, q2, m1, m2, rep_ren (G := Gc) (G' := ⟨Gc.St, G.bx ++ Gc.bx.drop is.length, G.tk⟩) rfl m3 _ _ h3⟩
 | panicked c => exact h3.elim
 | outgrown => exact h3.elim
end
section
variable {P : Program} {ev : Operand → Option AV} {h : AH} {R : AV → AH → Prop} {d : Option Tmp} {ty : TypeId} {pos : String} {af : Array Edge} {gd : Option (Nat × Bool)}
theorem st_appendNB {T T2 : TypeId} {s y : Operand} {T' sz bytes i off n cap q : Nat} {kn : IntKind} {qv : Int} {row : List AV} {zrow : List AV} [hE : Elm P T T' sz bytes] [hzr : Zer P T' zrow] (hT2 : P.underlying T2 = some (.int kn)) (hs : ev s = some (.bs i off sz n cap)) (hy : ev y = some (.v (.int .i64 qv))) (hq : qv = (q : Int)) (hb : h.bx[i]? = some row) (hfit : off + cap * sz ≤ row.length) (h0 : 0 < q) (hgrow : cap < n + q) (hsm : n + q ≤ 1000000)
    (grow : ∀ cap' k bx', n + q ≤ cap' → SnocAt h.bx ((row.drop off).take (n * sz) ++ List.replicate ((cap' - n) * sz) .any) k bx' → R (.bs k 0 sz (n + q) cap') ⟨bx', h.tk⟩) : AStep P ⟨d, .call { callee := .builtin .append, args := #[s, y], argTypes := #[T, T2] }, ty, pos, af, gd⟩ ev h R := by
 intro E G w ec hr he
 have k1 := he s (by simp [Op.operands, Call.operands]) _ hs
 have k2 := he y (by simp [Op.operands, Call.operands]) _ hy
 obtain ⟨hu, inf, z, hinf, hz, hzs, hsz, hbts, hp⟩ := elm_spec hE.eq
 simp only [rep] at k1 k2
 subst hq
 obtain ⟨b, k3, k4, k5, k6⟩ := k1
 obtain ⟨vs, Tb, q1, q2, q3⟩ := hr.boxAt k3 hb
 have hlen := repL_length q2
 have hold : ∀ j u, ((vs.drop off).take (n * sz))[j]? = some u → w.drew.cell? ((⟨b, off, none⟩ : Addr).add j) = some u := by
  intro j u hj
  rw [Addr.add_mid]
  have e : w.drew.cell? ⟨b, off + j, none⟩ = w.cell? ⟨b, off + j, none⟩ := rfl
  rw [e]
  simp only [World.cell?, q1]
  rw [List.getElem?_take] at hj
  split at hj
  ·rw [List.getElem?_drop] at hj; simpa using hj
  cases hj
 have hnf : n * sz ≤ cap * sz := Nat.mul_le_mul_right _ k5
 have hol : ((vs.drop off).take (n * sz)).length = n * sz := by simp; omega
 have hby := hE.few
 have hbb : (n + q) * bytes ≤ 1000000 * 100000 := Nat.mul_le_mul hsm hby
 have hqb : q * bytes ≤ 1000000 * 100000 := Nat.mul_le_mul (by omega) hby
 have hfc := run_firstCells_some (P := P) w.drew inf.size n ⟨b, off, none⟩ n cap ((vs.drop off).take (n * sz)) (by rw [hsz]; exact hol) hold
 have hrun := Lib.run_append_grow_zeros (P := P) w T T2 ty T' inf z .i64 kn hu hT2 hinf hz (some ⟨b, off, none⟩) n cap ((vs.drop off).take (n * sz)) hfc q h0 (by rw [hsz]; exact hp) hgrow (by omega) (by rw [hbts]; omega) (growslice_fits (by omega) (by rw [hbts]; omega))
 have hge := grownCap_ge w (n + q) cap T'
 have hcm : grownCap w (n + q) cap T' ≤ maxLen := grownCap_le_maxLen w (n + q) cap T' (by unfold maxLen; omega)
 generalize hgc : grownCap w (n + q) cap T' = cap' at hrun hge hcm
 obtain ⟨d1, d2⟩ := hr.drew
 have zc : ∀ k : Nat, ∃ zs : List Value, Builtin.zeroCells z.cells k = zs.toArray ∧ zs.length = k * sz ∧ ∀ u ∈ zs, u.oneCell' = true := by
  intro k
  refine ⟨(Builtin.zeroCells z.cells k).toList, by simp, ?_, fun u hu => ?_⟩
  ·have := size_zeroCells z.cells k
   rw [hzs] at this
   simpa using this
  exact zero_one hzr hinf hz (by simpa using hu)
 obtain ⟨z1, hz1, hl1, ho1⟩ := zc q
 obtain ⟨z2, hz2, hl2, ho2⟩ := zc (cap' - (n + q))
 have hrep : repL G w.drew ((row.drop off).take (n * sz) ++ List.replicate ((cap' - n) * sz) .any) ((vs.drop off).take (n * sz) ++ (z1 ++ z2)) := by
  refine repL_app (repL_mono d2 _ _ (repL_take (repL_drop q2 off) _)) ?_
  have e : (cap' - n) * sz = (z1 ++ z2).length := by
   rw [List.length_append, hl1, hl2, ← Nat.add_mul]
   congr 1
   omega
  rw [e]
  exact repL_anys _
 obtain ⟨k, bx', hsn⟩ : ∃ k bx', SnocAt h.bx ((row.drop off).take (n * sz) ++ List.replicate ((cap' - n) * sz) .any) k bx' := ⟨_, _, snoc_ex _ _⟩
 obtain ⟨G', s1, s2, s3⟩ := new_box (T := T') d1 hrep (by
  intro u hu
  rcases List.mem_append.1 hu with hu | hu
  ·exact q3 u (List.mem_of_mem_drop (List.mem_of_mem_take hu))
  rcases List.mem_append.1 hu with hu | hu
  ·exact ho1 u hu
  exact ho2 u hu) hsn
 rw [hz1, hz2] at hrun
 have hcells : ((vs.drop off).take (n * sz)).toArray ++ z1.toArray ++ z2.toArray = ((vs.drop off).take (n * sz) ++ (z1 ++ z2)).toArray := by simp
 rw [hcells] at hrun
 simp only [rep] at s3
 obtain ⟨b', s4, s5⟩ := s3
 simp only [execOp, resolve, invoke, builtin, Sem.run_bind, Sem.run_pure, Result.andThen_ok, List.map_toArray, List.map_cons, List.map_nil, k4, k2, hrun]
 refine ⟨_, _, G', grow cap' k bx' hge hsn, s1, d2.trans s2, ?_⟩
 simp only [rep]
 injection s5 with s5
 injection s5 with s5
 injection s5 with s5
 have s5' : w.heap.size = b' := s5
 exact ⟨b', s4, by rw [s5'], hge, hcm⟩
theorem st_sliceAny {T : TypeId} {x lo : Operand} {E sz bytes i off n cap l : Nat} {iv : Int} [hE : Elm P T E sz bytes] (hx : ev x = some (.bs i off sz n cap)) (hl : ev lo = some (.v (.int .i64 iv))) (hl' : iv = (l : Int)) (hk : l ≤ n) (hR : R .any h) : AStep P ⟨d, .slice T x (some lo) none none, ty, pos, af, gd⟩ ev h R := by
 refine st_val (fun _ G w ec _ he => ?_) hR
 have k1 := he x (by simp [Op.operands]) _ hx
 have k2 := he lo (by simp [Op.operands]) _ hl
 simp only [rep] at k1 k2
 obtain ⟨b, e1, e2, e3, e4⟩ := k1
 obtain ⟨hu, inf, z, hinf, hz, hzs, hs, hby, hp⟩ := elm_spec hE.eq
 subst hl'
 refine ⟨.slice (if cap = l then some ⟨b, off, none⟩ else Option.map (fun y : Addr => y.add (l * sz)) (some ⟨b, off, none⟩)) (n - l) (cap - l), ?_, by simp only [rep]⟩
 simp [execOp, e2, k2, Instr.sliceAt, Instr.slice, Instr.sliceBounds, Instr.sliceBound, asIntOf, run_underlying hu, sizeOf, typeInfo, hinf, hs, hk]
theorem st_sliceNil {T : TypeId} {x lo : Operand} {E sz bytes : Nat} [hE : Elm P T E sz bytes] (hx : ev x = some (.v (.slice none 0 0))) (hl : ev lo = some (.v (.int .i64 0))) (hR : R .any h) : AStep P ⟨d, .slice T x (some lo) none none, ty, pos, af, gd⟩ ev h R := by
 refine st_val (fun _ G w ec _ he => ?_) hR
 have k1 := he x (by simp [Op.operands]) _ hx
 have k2 := he lo (by simp [Op.operands]) _ hl
 simp only [rep] at k1 k2
 obtain ⟨hu, inf, z, hinf, hz, hzs, hs, hby, hp⟩ := elm_spec hE.eq
 refine ⟨.slice none 0 0, ?_, by simp only [rep]⟩
 simp [execOp, k1, k2, Instr.sliceAt, Instr.slice, Instr.sliceBounds, Instr.sliceBound, asIntOf, run_underlying hu, sizeOf, typeInfo, hinf, hs]
end
def backF (bx : List (List AV)) (g : Nat → Option Nat) : List Nat → List (List AV) → List (List AV)
 | [], bc => bx ++ bc.map (renL g)
 | i :: is, [] => backF bx g is []
 | i :: is, r :: bc => backF (bx.set i (renL g r)) g is bc
theorem backF_len {g : Nat → Option Nat} : ∀ (is : List Nat) (bx bc : List (List AV)), is.length ≤ bc.length → (backF bx g is bc).length = bx.length + (bc.length - is.length)
 | [], bx, bc, _ => by simp [backF]
 | i :: is, bx, [], h => by simp at h
 | i :: is, bx, r :: bc, h => by
   unfold backF
   rw [backF_len is _ bc (by simpa using h)]
   simp
theorem backF_out {g : Nat → Option Nat} : ∀ (is : List Nat) (bx bc : List (List AV)) (i : Nat), i ∉ is → i < bx.length → (backF bx g is bc)[i]? = bx[i]?
 | [], bx, bc, i, _, hi => by unfold backF; rw [List.getElem?_append_left hi]
 | j :: is, bx, [], i, h, hi => by
   unfold backF
   exact backF_out is bx [] i (fun hm => h (List.mem_cons_of_mem _ hm)) hi
 | j :: is, bx, r :: bc, i, h, hi => by
   unfold backF
   rw [backF_out is _ bc i (fun hm => h (List.mem_cons_of_mem _ hm)) (by simpa using hi), List.getElem?_set_ne (fun e => h (by rw [e]; exact List.mem_cons_self ..))]
theorem backF_ins {g : Nat → Option Nat} : ∀ (is : List Nat) (bx bc : List (List AV)) (k i : Nat) (row : List AV), is.Nodup → i < bx.length → is[k]? = some i → bc[k]? = some row → (backF bx g is bc)[i]? = some (renL g row)
 | [], _, _, _, _, _, _, _, h, _ => by simp at h
 | j :: is, bx, [], k, i, row, _, _, _, h => by simp at h
 | j :: is, bx, r :: bc, 0, i, row, hn, hi, h1, h2 => by
   simp at h1 h2
   subst h1 h2
   unfold backF
   rw [backF_out is _ bc j (List.nodup_cons.1 hn).1 (by simpa using hi), List.getElem?_set_self hi]
 | j :: is, bx, r :: bc, k + 1, i, row, hn, hi, h1, h2 => by
   unfold backF
   exact backF_ins is _ bc k i row (List.nodup_cons.1 hn).2 (by simpa using hi) (by simpa using h1) (by simpa using h2)
theorem backF_new {g : Nat → Option Nat} : ∀ (is : List Nat) (bx bc : List (List AV)) (k : Nat) (row : List AV), bc[is.length + k]? = some row → (backF bx g is bc)[bx.length + k]? = some (renL g row)
 | [], bx, bc, k, row, h => by
   unfold backF
   rw [List.getElem?_append_right (by omega), show bx.length + k - bx.length = k by omega, List.getElem?_map]
   simp at h
   rw [h]; rfl
 | j :: is, bx, [], k, row, h => by simp at h
 | j :: is, bx, r :: bc, k, row, h => by
   unfold backF
   have := backF_new (g := g) is (bx.set j (renL g r)) bc k row (by simpa [Nat.add_right_comm] using h)
   simpa using this
theorem back_F {bx : List (List AV)} {is : List Nat} {bc : List (List AV)} (hn : is.Nodup) (hi : ∀ i ∈ is, i < bx.length) (hl : is.length ≤ bc.length) : Back bx is bc (backF bx (backS is bx.length) is bc) := by
 refine ⟨backF_len is bx bc hl, fun i row h1 h2 => ?_, fun k i row h1 h2 => ?_, fun k row h => backF_new is bx bc k row h⟩
 ·rw [backF_out is bx bc i h1 (List.getElem?_eq_some_iff.1 h2).1]; exact h2
 exact backF_ins is bx bc k i row hn (hi i (List.mem_of_getElem? h1)) h1 h2
theorem renL_map (f : Nat → Option Nat) : ∀ xs : List AV, renL f xs = xs.map (ren f)
 | [] => rfl
 | x :: xs => by simp [renL, renL_map f xs]
theorem renKL_map (f : Nat → Option Nat) : ∀ xs : List AV, renKL f xs = xs.map (renK f)
 | [] => rfl
 | x :: xs => by simp [renKL, renKL_map f xs]
theorem lowGL_map (g : Nat → Option (List AV)) : ∀ xs : List AV, lowGL g xs = xs.map (lowG g)
 | [] => rfl
 | x :: xs => by simp [lowGL, lowGL_map g xs]
theorem rowsB_map (F : AV → AV) (h : F .any = .any) (sz cap : Nat) (rows : List (List AV)) : (rowsB sz cap rows).map F = rowsB sz cap (rows.map (·.map F)) := by
 simp [rowsB, h, List.map_flatten]
theorem bpLtL_all {n m : Nat} {xs : List AV} : bpLtL n m xs = true ↔ ∀ x ∈ xs, bpLt n m x = true := by
 induction xs with
 | nil => simp [bpLtL]
 | cons x xs ih => simp [bpLtL, ih]
theorem bpLt_rowsB {n m sz cap : Nat} {rows : List (List AV)} (h : ∀ r ∈ rows, bpLtL n m r = true) : bpLtL n m (rowsB sz cap rows) = true := by
 rw [bpLtL_all]
 intro x hx
 unfold rowsB at hx
 rcases List.mem_append.1 hx with hx | hx
 ·obtain ⟨r, hr, hx⟩ := List.mem_flatten.1 hx
  exact bpLtL_all.1 (h r hr) x hx
 rw [(List.mem_replicate.1 hx).2]; rfl
def DB (f : Fls) (K : Nat) (d : Dvc) (j cap cap1 : Nat) : List AV := rowsB 2 cap (devB f K d j cap1)
def NB (ns : List Nod) (cap1 : Nat) : List AV := rowsB 8 cap1 (ns.map nodA)
theorem bp_DB {n m : Nat} {f : Fls} {K : Nat} {d : Dvc} {j cap cap1 : Nat} (hj : j < n) : bpLtL n m (DB f K d j cap cap1) = true := by
 refine bpLt_rowsB fun r hr => ?_
 rcases List.mem_or_eq_of_mem_set hr with h | h
 ·obtain ⟨d', _, rfl⟩ := List.mem_map.1 h
  rfl
 rw [h]; simp [devR, bpLtL, bpLt, hj]
theorem bp_NB {n m : Nat} {ns : List Nod} {cap1 : Nat} : bpLtL n m (NB ns cap1) = true := by
 refine bpLt_rowsB fun r hr => ?_
 obtain ⟨d', _, rfl⟩ := List.mem_map.1 hr
 rfl
section
variable {F : AV → AV} (hany : F .any = .any) (hv : ∀ x, F (.v x) = .v x) (hs : ∀ sz rows, F (.sl sz rows none) = .sl sz rows none)
include hany hv hs
theorem map_NB (ns : List Nod) (cap1 : Nat) : (NB ns cap1).map F = NB ns cap1 := by
 unfold NB
 rw [rowsB_map F hany, List.map_map]
 congr 1
 apply List.map_congr_left
 intro n _
 simp [nodA, hv, hs]
theorem map_dvcs (f : Fls) : (f.map dvcA).map (·.map F) = f.map dvcA := by
 have _ := hany
 rw [List.map_map]
 apply List.map_congr_left
 intro n _
 simp [dvcA, hv, hs]
theorem map_DB (f : Fls) (K : Nat) (d : Dvc) {j j' : Nat} (cap cap1 : Nat) (hb : F (.bs j 0 8 d.nodes.length cap1) = .bs j' 0 8 d.nodes.length cap1) : (DB f K d j cap cap1).map F = DB f K d j' cap cap1 := by
 unfold DB devB
 rw [rowsB_map F hany, List.map_set, map_dvcs hany hv hs]
 simp [devR, hv, hb]
theorem map_DBlow {f : Fls} {K : Nat} {d : Dvc} {j cap cap1 : Nat} (hK : f[K]? = some d) (hb : F (.bs j 0 8 d.nodes.length cap1) = .sl 8 (d.nodes.map nodA) none) : (DB f K d j cap cap1).map F = rowsB 2 cap (f.map dvcA) := by
 unfold DB devB
 rw [rowsB_map F hany, List.map_set, map_dvcs hany hv hs]
 have e : (devR d j cap1).map F = dvcA d := by simp [devR, hv, hb, dvcA]
 rw [e]
 congr 1
 apply List.ext_getElem?
 intro i
 rw [List.getElem?_set]
 split
 ·rename_i e1
  subst e1
  obtain ⟨h1, h2⟩ := List.getElem?_eq_some_iff.1 hK
  simp [h1, h2]
 rfl
end
theorem ren_DB {g : Nat → Option Nat} {j j' : Nat} (h : g j = some j') (f : Fls) (K : Nat) (d : Dvc) (cap cap1 : Nat) : renL g (DB f K d j cap cap1) = DB f K d j' cap cap1 := by
 rw [renL_map]
 exact map_DB rfl (fun _ => rfl) (fun _ _ => rfl) f K d cap cap1 (by simp [ren, h])
theorem ren_NB (g : Nat → Option Nat) (ns : List Nod) (cap1 : Nat) : renL g (NB ns cap1) = NB ns cap1 := by
 rw [renL_map]
 exact map_NB rfl (fun _ => rfl) (fun _ _ => rfl) ns cap1
theorem renK_DB {g : Nat → Option Nat} {j j' : Nat} (h : g j = some j') (f : Fls) (K : Nat) (d : Dvc) (cap cap1 : Nat) : renKL g (DB f K d j cap cap1) = DB f K d j' cap cap1 := by
 rw [renKL_map]
 exact map_DB rfl (fun _ => rfl) (fun _ _ => rfl) f K d cap cap1 (by simp [renK, h])
theorem renK_NB (g : Nat → Option Nat) (ns : List Nod) (cap1 : Nat) : renKL g (NB ns cap1) = NB ns cap1 := by
 rw [renKL_map]
 exact map_NB rfl (fun _ => rfl) (fun _ _ => rfl) ns cap1
theorem low_NB (g : Nat → Option (List AV)) (ns : List Nod) (cap1 : Nat) : lowGL g (NB ns cap1) = NB ns cap1 := by
 rw [lowGL_map]
 exact map_NB rfl (fun _ => rfl) (fun _ _ => rfl) ns cap1
theorem NB_len {ns : List Nod} {cap1 : Nat} (h : ns.length ≤ cap1) : (NB ns cap1).length = cap1 * 8 := rowsB_len (nods_eight _) (by simpa using h)
theorem DB_len {f : Fls} {K : Nat} {d : Dvc} {j cap cap1 : Nat} (h : f.length ≤ cap) : (DB f K d j cap cap1).length = cap * 2 := rowsB_len (devB_two _ _ _ _ _) (by rw [devB_len]; exact h)
theorem lowG_rows {g : Nat → Option (List AV)} {j sz n cap0 cap : Nat} {rows : List (List AV)} (hg : g j = some (rowsB sz cap rows)) (hr : ∀ r ∈ rows, r.length = sz) (hn : n = rows.length) (hc : rows.length ≤ cap) : lowG g (.bs j 0 sz n cap0) = .sl sz rows none := by
 subst hn
 have hl := rowsB_len hr hc
 have hb : Nat.ble (0 + rows.length * sz) (rowsB sz cap rows).length = true := by
  rw [hl, Nat.ble_eq]
  have := Nat.mul_le_mul_right sz hc
  omega
 simp only [lowG, hg, hb, List.drop_zero]
 unfold rowsB
 rw [chunk_flat hr]
theorem frz_NB {n : Nat} {bx : List (List AV)} {k j : Nat} {ns : List Nod} {cap1 : Nat} (hn : n ≤ j) (hj : bx[j]? = some (NB ns cap1)) : frzG n bx (k + 1) j = some (NB ns cap1) := by
 have : Nat.blt j n = false := by rw [← Bool.not_eq_true, Nat.blt_eq]; omega
 simp only [frzG, this, hj, Option.map_some, low_NB]
theorem frz_DB {n : Nat} {bx : List (List AV)} {k i j : Nat} {f : Fls} {K : Nat} {d : Dvc} {cap cap1 : Nat} (hK : f[K]? = some d) (hc1 : d.nodes.length ≤ cap1) (hni : n ≤ i) (hnj : n ≤ j) (hi : bx[i]? = some (DB f K d j cap cap1)) (hj : bx[j]? = some (NB d.nodes cap1)) :
    frzG n bx (k + 2) i = some (rowsB 2 cap (f.map dvcA)) := by
 have : Nat.blt i n = false := by rw [← Bool.not_eq_true, Nat.blt_eq]; omega
 rw [show k + 2 = (k + 1) + 1 from rfl, frzG]
 simp only [this, hi, Option.map_some, lowGL_map]
 rw [map_DBlow rfl (fun _ => rfl) (fun _ _ => rfl) hK]
 exact lowG_rows (frz_NB hnj hj) (nods_eight _) (by simp) (by simpa using hc1)
theorem low_fls {n : Nat} {bx : List (List AV)} {k i j : Nat} {f : Fls} {K : Nat} {d : Dvc} {cap cap0 cap1 : Nat} (hK : f[K]? = some d) (hc : f.length ≤ cap) (hc1 : d.nodes.length ≤ cap1) (hni : n ≤ i) (hnj : n ≤ j) (hi : bx[i]? = some (DB f K d j cap cap1)) (hj : bx[j]? = some (NB d.nodes cap1)) :
    lowG (frzG n bx (k + 2)) (.agg [.bs i 0 2 f.length cap0]) = .agg (flsA f) := by
 show AV.agg [lowG _ _] = _
 unfold flsA
 rw [lowG_rows (frz_DB hK hc1 hni hnj hi hj) (dvcs_two _) (by simp) (by simpa using hc)]
theorem rowsB_get {sz cap : Nat} {rows : List (List AV)} {q k : Nat} {r : List AV} {x : AV} (hr : ∀ r ∈ rows, r.length = sz) (hq : rows[q]? = some r) (hx : r[k]? = some x) : (rowsB sz cap rows)[0 + q * sz + k]? = some x := by
 have hk : k < sz := by rw [← hr r (List.mem_of_getElem? hq)]; exact (List.getElem?_eq_some_iff.1 hx).1
 have e := flat_getT hr hk (q := q)
 rw [hq] at e
 simp only [Option.bind_some] at e
 rw [hx] at e
 unfold rowsB
 rw [Nat.zero_add, List.getElem?_append_left (List.getElem?_eq_some_iff.1 e).1]
 exact e
theorem rowsB_row {sz cap : Nat} {rows : List (List AV)} {q : Nat} {r : List AV} (hr : ∀ r ∈ rows, r.length = sz) (hq : rows[q]? = some r) : ((rowsB sz cap rows).drop (0 + q * sz)).take sz = r := by
 have hrl := hr r (List.mem_of_getElem? hq)
 apply List.ext_getElem?
 intro k
 rw [List.getElem?_take]
 split
 ·rename_i hk
  rw [List.getElem?_drop]
  have hx : r[k]? = some r[k] := List.getElem?_eq_getElem (by omega)
  rw [rowsB_get hr hq hx, hx]
 rw [List.getElem?_eq_none (by omega)]
theorem rowsB_set {sz cap : Nat} {rows : List (List AV)} {q k : Nat} {r r' cs : List AV} (hr : ∀ r ∈ rows, r.length = sz) (hq : rows[q]? = some r) (hs : SetAt r k cs r') (hne : cs ≠ []) : SetAt (rowsB sz cap rows) (0 + q * sz + k) cs (rowsB sz cap (rows.set q r')) := by
 unfold rowsB
 rw [Nat.zero_add, List.length_set]
 exact (flat_set hr hq hs hne).left _
theorem devB_get {f : Fls} {K : Nat} {d : Dvc} {j cap1 : Nat} (hK : K < f.length) : (devB f K d j cap1)[K]? = some (devR d j cap1) := by
 unfold devB
 rw [List.getElem?_set_self (by simpa using hK)]
theorem DB_nodes {f : Fls} {K : Nat} {d : Dvc} {j cap cap1 : Nat} (hK : K < f.length) : (DB f K d j cap cap1)[0 + K * 2 + 1]? = some (.bs j 0 8 d.nodes.length cap1) := rowsB_get (devB_two _ _ _ _ _) (devB_get hK) rfl
theorem DB_next {f : Fls} {K : Nat} {d : Dvc} {j cap cap1 : Nat} (hK : K < f.length) : (DB f K d j cap cap1)[0 + K * 2 + 0]? = some (.v (.int .i64 d.next)) := rowsB_get (devB_two _ _ _ _ _) (devB_get hK) rfl
theorem NB_row {ns : List Nod} {cap1 i : Nat} {n : Nod} (h : ns[i]? = some n) : ((NB ns cap1).drop (0 + i * 8)).take 8 = nodA n := rowsB_row (nods_eight _) (by rw [List.getElem?_map, h]; rfl)
theorem NB_get {ns : List Nod} {cap1 i k : Nat} {n : Nod} {x : AV} (h : ns[i]? = some n) (hx : (nodA n)[k]? = some x) : (NB ns cap1)[0 + i * 8 + k]? = some x := rowsB_get (nods_eight _) (by rw [List.getElem?_map, h]; rfl) hx
theorem NB_set {ns : List Nod} {cap1 i k : Nat} {n n' : Nod} {cs : List AV} (h : ns[i]? = some n) (hs : SetAt (nodA n) k cs (nodA n')) (hne : cs ≠ []) : SetAt (NB ns cap1) (0 + i * 8 + k) cs (NB (ns.set i n') cap1) := by
 have key := rowsB_set (cap := cap1) (nods_eight ns) (by rw [List.getElem?_map, h]; rfl) hs hne
 rw [← List.map_set] at key
 exact key
theorem DB_set {f : Fls} {K : Nat} {d d' : Dvc} {j j' cap cap1 cap1' k : Nat} {cs : List AV} (hK : K < f.length) (hs : SetAt (devR d j cap1) k cs (devR d' j' cap1')) (hne : cs ≠ []) : SetAt (DB f K d j cap cap1) (0 + K * 2 + k) cs (DB f K d' j' cap cap1') := by
 have key := rowsB_set (cap := cap) (devB_two f K d j cap1) (devB_get hK) hs hne
 unfold devB at key
 rw [List.set_set] at key
 exact key
theorem DB_any (f : Fls) (K : Nat) (d d' : Dvc) (j cap cap1 : Nat) : DB (f.set K d') K d j cap cap1 = DB f K d j cap cap1 := by
 unfold DB devB
 rw [List.map_set, List.set_set]
theorem LeA.tok (sz : Nat) (rows : List (List AV)) (g : Option Nat) : LeA (.sl sz rows g) (.sl sz rows none) := fun G w v h => by
 cases g with
 | none => exact h
 | some g => simp only [rep] at h ⊢; exact h.1
section
variable {P : Program} {ev : Operand → Option AV} {h : AH} {R : AV → AH → Prop} {d : Option Tmp} {ty : TypeId} {pos : String} {af : Array Edge} {gd : Option (Nat × Bool)}
theorem st_loadBE {T : TypeId} {x : Operand} {sz i o : Nat} {row cs : List AV} [ht : Typ P T sz true] (hx : ev x = some (.bp i o)) (hb : h.bx[i]? = some row) (hr : o + sz ≤ row.length) (he : (row.drop o).take sz = cs) (hR : R (.agg cs) h) : AStep P ⟨d, .load T x, ty, pos, af, gd⟩ ev h R := by
 subst he
 exact st_loadBN hx hb (by rw [Nat.ble_eq]; exact hr) hR
end
theorem entGo_at {es : List Ent} {j : Nat} {e : Ent} (h : es[j]? = some e) (name : Str) (ino : Int) (dn : Bool) : entGo name ino dn (es.drop j) = (if !dn && !strLt e.1 name then [(name, ino)] else []) ++ ((if e.1 = name then [] else [e]) ++ entGo name ino (dn || !strLt e.1 name) (es.drop (j + 1))) := by
 obtain ⟨hj, rfl⟩ := List.getElem?_eq_some_iff.1 h
 rw [List.drop_eq_getElem_cons hj]
 rfl
section
set_option maxRecDepth 10000
set_option maxHeartbeats 2000000
theorem Renter (f : Fls) (q : Nat) (d : Dvc) (n : Nod) (i : Nat) (a : Fil) (name : Str) (ino : Int) (cap cap1 : Nat) (hf : FlsB f) (hq : f[q]? = some d) (ha : a.1 = (q : Int)) (hi : indexL f a = (i : Int)) (hn : d.nodes[i]? = some n) (hcap : f.length ≤ cap) (hcap1 : d.nodes.length ≤ cap1) :
    ACall Try.prog 70 [.agg [.bs 0 0 2 f.length cap], .agg (filA a), .v (.string name), .v (.int .i64 ino)] [DB f q d 1 cap cap1, NB d.nodes cap1] (fun r b t => t = [] ∧ r = .tup [] ∧ b = [DB f q d 1 cap cap1, NB (d.nodes.set i { n with entries := entL n.entries name ino }) cap1]) := by
 have hql := (List.getElem?_eq_some_iff.1 hq).1
 have hil := (List.getElem?_eq_some_iff.1 hn).1
 have hen := hf.ents d (List.mem_of_getElem? hq) n (List.mem_of_getElem? hn)
 have hN0 : 0 + i * 8 + 8 ≤ (NB d.nodes cap1).length := by rw [NB_len hcap1]; omega
 have hD0 : (DB f q d 1 cap cap1)[0 + q * 2 + 1]? = some (.bs 1 0 8 d.nodes.length cap1) := DB_nodes hql
 have hset : SetAt (NB d.nodes cap1) (0 + i * 8 + 7) [.sl 2 ((entL n.entries name ino).map entA) none] (NB (d.nodes.set i { n with entries := entL n.entries name ino }) cap1) := NB_set hn (by repeat constructor) (by simp)
 refine enter Try.func70 rfl rfl rfl rfl rfl 2 rfl ?_
 refine w_ (b_ (h:=b_ (h:=e_ (?_))))
 refine aw_midI (fun t => t = ⟨look [(2, .v (.string name)), (3, .v (.int .i64 ino)), (4, .bp 2 0), (5, .bp 3 0), (8, .bp 4 0)], ⟨[DB f q d 1 cap cap1, NB d.nodes cap1, [.bs 0 0 2 f.length cap], filA a, nodA n], []⟩⟩) ?_ ?_
 ·skip
  refine yk_ ([(0, DB f q d 1 cap cap1), (1, NB d.nodes cap1), (2, [.bs 0 0 2 f.length cap]), (3, filA a)]) 13 (h:=df_ 0 (h:=?_))
  refine dl_ 1 (h:=?_)
  refine df_ 2 (h:=?_)
  refine dl_ 3 (h:=?_)
  refine tk_ 4 rfl (fun _ hS => st_indexS (m := q) rfl rfl ha hql ⟨rfl, rfl⟩) ?_
  refine df_ 5 (h:=?_)
  first | refine dl_ 6 (h:=?_) | refine tk_ 6 rfl (fun _ hS => st_loadB1 (row := DB f q d 1 cap cap1) rfl (kb hS rfl) hD0 ⟨rfl, rfl⟩) ?_
  refine dl_ 7 (h:=?_)
  refine dl_ 8 (h:=?_)
  refine c2_ 9 12 rfl rfl ?_ ?_
  ·refine s_callR 2 rfl (.cons _ _ _ _ _ rfl (LeA.of_eq (low_fls hq hcap hcap1 (Nat.zero_le _) (Nat.zero_le _) rfl rfl)) (.cons _ _ _ _ _ rfl (LeA.refl _) .nil)) (Rindex f a hf) ?_
   rintro r rfl
   refine ⟨rfl, ?_⟩
   refine o_ (h:=?_)
   refine tk_ 10 rfl (fun _ hS => st_indexS (m := i) rfl rfl hi hil ⟨rfl, rfl⟩) ?_
   first | refine dl_ 11 (h:=?_) | refine tk_ 11 rfl (fun _ hS => st_loadB1 (row := DB f q d 1 cap cap1) rfl (kb hS rfl) hD0 ⟨rfl, rfl⟩) ?_ | refine tk_ 11 rfl (fun _ hS => st_loadBE (row := NB d.nodes cap1) rfl (kb hS rfl) hN0 (NB_row hn) ⟨rfl, rfl⟩) ?_
   refine c_ 12 rfl (s_alloc (by repeat constructor) ?_)
   refine o_ (h:=?_)
   refine c0_ 13 rfl (s_store rfl rfl rfl rfl rfl rfl (by repeat constructor) (by repeat constructor) ?_)
   refine o_ (h:=z_ (h:=?_))
   refine x_then ?_
   exact ⟨_, rfl, wb_ 5 0 (by simp [bpLtB, bpLtL, bpLt, bp_DB, bp_NB, filA, nodA])⟩
  refine s_alloc (by repeat constructor) ?_
  refine o_ (h:=?_)
  refine c_ 9 rfl (s_callR 2 rfl (.cons _ _ _ _ _ rfl (LeA.of_eq (low_fls hq hcap hcap1 (Nat.zero_le _) (Nat.zero_le _) rfl rfl)) (.cons _ _ _ _ _ rfl (LeA.refl _) .nil)) (Rindex f a hf) ?_)
  rintro r rfl
  refine ⟨rfl, ?_⟩
  refine o_ (h:=?_)
  refine tk_ 10 rfl (fun _ hS => st_indexS (m := i) rfl rfl hi hil ⟨rfl, rfl⟩) ?_
  first | refine dl_ 11 (h:=?_) | refine tk_ 11 rfl (fun _ hS => st_loadB1 (row := DB f q d 1 cap cap1) rfl (kb hS rfl) hD0 ⟨rfl, rfl⟩) ?_ | refine tk_ 11 rfl (fun _ hS => st_loadBE (row := NB d.nodes cap1) rfl (kb hS rfl) hN0 (NB_row hn) ⟨rfl, rfl⟩) ?_
  refine c0_ 13 rfl (s_store rfl rfl rfl rfl rfl rfl (by repeat constructor) (by repeat constructor) ?_)
  refine o_ (h:=z_ (h:=?_))
  refine x_then ?_
  exact ⟨_, rfl, wb_ 5 0 (by simp [bpLtB, bpLtL, bpLt, bp_DB, bp_NB, filA, nodA])⟩
 rintro t rfl
 refine w_ (a_ (h:=e_ (w_ (m_ (h:=eq_ (h:=a_ (h:=e_ (q_ (w_ (a_ (h:=e_ (aw_block (?_)))))))))))))
 refine aw_nilTok 9 101 2 rfl (by repeat constructor) ?_
 refine aw_loopW (fun m t => ∃ (j : Nat) (acc : List Ent) (dn : Bool), j ≤ n.entries.length ∧ m = n.entries.length - j ∧ acc ++ entGo name ino dn (n.entries.drop j) = entL n.entries name ino ∧ acc.length ≤ 2 * j ∧ t = ⟨look [(2, .v (.string name)), (3, .v (.int .i64 ino)), (4, .bp 2 0), (5, .bp 3 0), (8, .bp 4 0), (9, .sl 2 (acc.map entA) (some 0)), (10, .v (.bool dn)), (11, .v (.int .i64 (j : Int)))], ⟨[DB f q d 1 cap cap1, NB d.nodes cap1, [.bs 0 0 2 f.length cap], filA a, nodA n], [(101, 2, acc.map entA)]⟩⟩) (n.entries.length) (wb_ 5 1 (by simp [bpLtB, bpLtL, bpLt, bp_DB, bp_NB, filA, nodA])) (⟨0, [], _, Nat.zero_le _, rfl, rfl, by simp, rfl⟩) ?_
 rintro m t ⟨j, acc, dn, hj, rfl, hacc, hal, rfl⟩
 refine q_ (w_ (m_ (h:=f_ (h:=l_ (h:=n_ (h:=lt_ (h:=e_ (?_))))))))
 refine aw_cond rfl (fun hb1 => ?_) (fun hb1 => ?_)
 ·have hc1 := bp hb1
  obtain ⟨hlt, e, hy, hrow, -⟩ := row_at entA hc1
  refine kt_ (q_ (aw_block (q_ (w_ (m_ (h:=nt_ (h:=m_ (h:=?_))))))))
  refine al_gs true rfl rfl (fun hb2 => ?_) (fun hb2 => ?_)
  ·have hc2 := bp hb2
   have hdn := hc2
   refine f_ (h:=l_ (h:=m_ (h:=i_ (h:=f_ (h:=l_ (h:=m_ (h:=ge_ (h:=pt_ (h:=e_ (?_))))))))))
   refine aw_cond rfl (fun hb3 => ?_) (fun hb3 => ?_)
   ·have hc3 := bp hb3
    have hsl : strLt e.1 name = false := hc3
    refine w_ (m_ (h:=m_ (h:=m_ (h:=bd_ (h:=bs_ (h:=ap_ (h:=a_ (h:=e_ (aw_region (a_ (h:=e_ (w_ (f_ (h:=l_ (h:=m_ (h:=i_ (h:=f_ (h:=l_ (h:=m_ (h:=nq_ (h:=e_ (?_))))))))))))))))))))))
    refine aw_cond rfl (fun hb4 => ?_) (fun hb4 => ?_)
    ·have hc4 := bp hb4
     have hnm : ¬ e.1 = name := hc4
     refine aw_region (m_ (h:=f_ (h:=l_ (h:=m_ (h:=i_ (h:=l_ (h:=bs_ (h:=ap_ (h:=a_ (h:=al_nil (x_blockN (t_ (aw_region (m_ (h:=ad_ (h:=a_ (h:=al_nil (?_))))))))))))))))))
     refine x_then ?_
     (exact ⟨n.entries.length - (j + 1), _, by omega, ⟨j + 1, acc ++ [(name, ino)] ++ [e], true, by omega, rfl, (by rw [← hacc, entGo_at hy]; first | (simp only [hsl, hdn]; simp [hnm]; done) | (simp only [hdn]; simp [hnm]; done)), (by (try simp); omega), rfl⟩, (by (try simp only [List.map_append, List.map_cons, List.map_nil]); exact wb_ 5 1 (by simp [bpLtB, bpLtL, bpLt, bp_DB, bp_NB, filA, nodA]))⟩)
    have hc4 := bp hb4
    have hnm : e.1 = name := hc4
    refine aw_skip (x_blockN (t_ (aw_region (m_ (h:=ad_ (h:=a_ (h:=al_nil (?_))))))))
    refine x_then ?_
    first | (exact ⟨n.entries.length - (j + 1), _, by omega, ⟨j + 1, acc ++ [(name, ino)] ++ [e], true, by omega, rfl, (by rw [← hacc, entGo_at hy]; first | (simp only [hsl, hdn]; simp [hnm]; done) | (simp only [hdn]; simp [hnm]; done)), (by (try simp); omega), rfl⟩, (by (try simp only [List.map_append, List.map_cons, List.map_nil]); exact wb_ 5 1 (by simp [bpLtB, bpLtL, bpLt, bp_DB, bp_NB, filA, nodA]))⟩) | (exact ⟨n.entries.length - (j + 1), _, by omega, ⟨j + 1, acc ++ [(name, ino)], true, by omega, rfl, (by rw [← hacc, entGo_at hy]; first | (simp only [hsl, hdn]; simp [hnm]; done) | (simp only [hdn]; simp [hnm]; done)), (by (try simp); omega), rfl⟩, (by (try simp only [List.map_append, List.map_cons, List.map_nil]); exact wb_ 5 1 (by simp [bpLtB, bpLtL, bpLt, bp_DB, bp_NB, filA, nodA]))⟩)
   have hc3 := bp hb3
   have hsl : strLt e.1 name = true := hc3
   refine kt_ (w_ (f_ (h:=l_ (h:=m_ (h:=i_ (h:=f_ (h:=l_ (h:=m_ (h:=nq_ (h:=e_ (?_)))))))))))
   refine aw_cond rfl (fun hb5 => ?_) (fun hb5 => ?_)
   ·have hc5 := bp hb5
    have hnm : ¬ e.1 = name := hc5
    refine aw_region (m_ (h:=f_ (h:=l_ (h:=m_ (h:=i_ (h:=l_ (h:=bs_ (h:=ap_ (h:=a_ (h:=al_nil (x_blockN (t_ (aw_region (m_ (h:=ad_ (h:=a_ (h:=al_nil (?_))))))))))))))))))
    refine x_then ?_
    first | (exact ⟨n.entries.length - (j + 1), _, by omega, ⟨j + 1, acc ++ [(name, ino)] ++ [e], true, by omega, rfl, (by rw [← hacc, entGo_at hy]; first | (simp only [hsl, hdn]; simp [hnm]; done) | (simp only [hdn]; simp [hnm]; done)), (by (try simp); omega), rfl⟩, (by (try simp only [List.map_append, List.map_cons, List.map_nil]); exact wb_ 5 1 (by simp [bpLtB, bpLtL, bpLt, bp_DB, bp_NB, filA, nodA]))⟩) | (exact ⟨n.entries.length - (j + 1), _, by omega, ⟨j + 1, acc ++ [(name, ino)], true, by omega, rfl, (by rw [← hacc, entGo_at hy]; first | (simp only [hsl, hdn]; simp [hnm]; done) | (simp only [hdn]; simp [hnm]; done)), (by (try simp); omega), rfl⟩, (by (try simp only [List.map_append, List.map_cons, List.map_nil]); exact wb_ 5 1 (by simp [bpLtB, bpLtL, bpLt, bp_DB, bp_NB, filA, nodA]))⟩) | (exact ⟨n.entries.length - (j + 1), _, by omega, ⟨j + 1, acc ++ [e], dn, by omega, rfl, (by rw [← hacc, entGo_at hy]; first | (simp only [hsl, hdn]; simp [hnm]; done) | (simp only [hdn]; simp [hnm]; done)), (by (try simp); omega), rfl⟩, (by (try simp only [List.map_append, List.map_cons, List.map_nil]); exact wb_ 5 1 (by simp [bpLtB, bpLtL, bpLt, bp_DB, bp_NB, filA, nodA]))⟩)
   have hc5 := bp hb5
   have hnm : e.1 = name := hc5
   refine aw_skip (x_blockN (t_ (aw_region (m_ (h:=ad_ (h:=a_ (h:=al_nil (?_))))))))
   refine x_then ?_
   first | (exact ⟨n.entries.length - (j + 1), _, by omega, ⟨j + 1, acc ++ [(name, ino)] ++ [e], true, by omega, rfl, (by rw [← hacc, entGo_at hy]; first | (simp only [hsl, hdn]; simp [hnm]; done) | (simp only [hdn]; simp [hnm]; done)), (by (try simp); omega), rfl⟩, (by (try simp only [List.map_append, List.map_cons, List.map_nil]); exact wb_ 5 1 (by simp [bpLtB, bpLtL, bpLt, bp_DB, bp_NB, filA, nodA]))⟩) | (exact ⟨n.entries.length - (j + 1), _, by omega, ⟨j + 1, acc ++ [(name, ino)], true, by omega, rfl, (by rw [← hacc, entGo_at hy]; first | (simp only [hsl, hdn]; simp [hnm]; done) | (simp only [hdn]; simp [hnm]; done)), (by (try simp); omega), rfl⟩, (by (try simp only [List.map_append, List.map_cons, List.map_nil]); exact wb_ 5 1 (by simp [bpLtB, bpLtL, bpLt, bp_DB, bp_NB, filA, nodA]))⟩) | (exact ⟨n.entries.length - (j + 1), _, by omega, ⟨j + 1, acc ++ [e], dn, by omega, rfl, (by rw [← hacc, entGo_at hy]; first | (simp only [hsl, hdn]; simp [hnm]; done) | (simp only [hdn]; simp [hnm]; done)), (by (try simp); omega), rfl⟩, (by (try simp only [List.map_append, List.map_cons, List.map_nil]); exact wb_ 5 1 (by simp [bpLtB, bpLtL, bpLt, bp_DB, bp_NB, filA, nodA]))⟩) | (exact ⟨n.entries.length - (j + 1), _, by omega, ⟨j + 1, acc, dn, by omega, rfl, (by rw [← hacc, entGo_at hy]; first | (simp only [hsl, hdn]; simp [hnm]; done) | (simp only [hdn]; simp [hnm]; done)), (by (try simp); omega), rfl⟩, (by (try simp only [List.map_append, List.map_cons, List.map_nil]); exact wb_ 5 1 (by simp [bpLtB, bpLtL, bpLt, bp_DB, bp_NB, filA, nodA]))⟩)
  have hc2 := bp hb2
  have hdn := hc2
  refine g0_ (h:=g0_ (h:=g0_ (h:=g0_ (h:=g0_ (h:=g0_ (h:=g0_ (h:=g0_ (h:=pf_ (h:=e_ (cn_ (h:=kt_ (w_ (f_ (h:=l_ (h:=m_ (h:=i_ (h:=f_ (h:=l_ (h:=m_ (h:=nq_ (h:=e_ (?_))))))))))))))))))))))
  refine aw_cond rfl (fun hb6 => ?_) (fun hb6 => ?_)
  ·have hc6 := bp hb6
   have hnm : ¬ e.1 = name := hc6
   refine aw_region (m_ (h:=f_ (h:=l_ (h:=m_ (h:=i_ (h:=l_ (h:=bs_ (h:=ap_ (h:=a_ (h:=al_nil (x_blockN (t_ (aw_region (m_ (h:=ad_ (h:=a_ (h:=al_nil (?_))))))))))))))))))
   refine x_then ?_
   first | (exact ⟨n.entries.length - (j + 1), _, by omega, ⟨j + 1, acc ++ [(name, ino)] ++ [e], true, by omega, rfl, (by rw [← hacc, entGo_at hy]; first | (simp only [hsl, hdn]; simp [hnm]; done) | (simp only [hdn]; simp [hnm]; done)), (by (try simp); omega), rfl⟩, (by (try simp only [List.map_append, List.map_cons, List.map_nil]); exact wb_ 5 1 (by simp [bpLtB, bpLtL, bpLt, bp_DB, bp_NB, filA, nodA]))⟩) | (exact ⟨n.entries.length - (j + 1), _, by omega, ⟨j + 1, acc ++ [(name, ino)], true, by omega, rfl, (by rw [← hacc, entGo_at hy]; first | (simp only [hsl, hdn]; simp [hnm]; done) | (simp only [hdn]; simp [hnm]; done)), (by (try simp); omega), rfl⟩, (by (try simp only [List.map_append, List.map_cons, List.map_nil]); exact wb_ 5 1 (by simp [bpLtB, bpLtL, bpLt, bp_DB, bp_NB, filA, nodA]))⟩) | (exact ⟨n.entries.length - (j + 1), _, by omega, ⟨j + 1, acc ++ [e], dn, by omega, rfl, (by rw [← hacc, entGo_at hy]; first | (simp only [hsl, hdn]; simp [hnm]; done) | (simp only [hdn]; simp [hnm]; done)), (by (try simp); omega), rfl⟩, (by (try simp only [List.map_append, List.map_cons, List.map_nil]); exact wb_ 5 1 (by simp [bpLtB, bpLtL, bpLt, bp_DB, bp_NB, filA, nodA]))⟩)
  have hc6 := bp hb6
  have hnm : e.1 = name := hc6
  refine aw_skip (x_blockN (t_ (aw_region (m_ (h:=ad_ (h:=a_ (h:=al_nil (?_))))))))
  refine x_then ?_
  first | (exact ⟨n.entries.length - (j + 1), _, by omega, ⟨j + 1, acc ++ [(name, ino)] ++ [e], true, by omega, rfl, (by rw [← hacc, entGo_at hy]; first | (simp only [hsl, hdn]; simp [hnm]; done) | (simp only [hdn]; simp [hnm]; done)), (by (try simp); omega), rfl⟩, (by (try simp only [List.map_append, List.map_cons, List.map_nil]); exact wb_ 5 1 (by simp [bpLtB, bpLtL, bpLt, bp_DB, bp_NB, filA, nodA]))⟩) | (exact ⟨n.entries.length - (j + 1), _, by omega, ⟨j + 1, acc ++ [(name, ino)], true, by omega, rfl, (by rw [← hacc, entGo_at hy]; first | (simp only [hsl, hdn]; simp [hnm]; done) | (simp only [hdn]; simp [hnm]; done)), (by (try simp); omega), rfl⟩, (by (try simp only [List.map_append, List.map_cons, List.map_nil]); exact wb_ 5 1 (by simp [bpLtB, bpLtL, bpLt, bp_DB, bp_NB, filA, nodA]))⟩) | (exact ⟨n.entries.length - (j + 1), _, by omega, ⟨j + 1, acc ++ [e], dn, by omega, rfl, (by rw [← hacc, entGo_at hy]; first | (simp only [hsl, hdn]; simp [hnm]; done) | (simp only [hdn]; simp [hnm]; done)), (by (try simp); omega), rfl⟩, (by (try simp only [List.map_append, List.map_cons, List.map_nil]); exact wb_ 5 1 (by simp [bpLtB, bpLtL, bpLt, bp_DB, bp_NB, filA, nodA]))⟩) | (exact ⟨n.entries.length - (j + 1), _, by omega, ⟨j + 1, acc, dn, by omega, rfl, (by rw [← hacc, entGo_at hy]; first | (simp only [hsl, hdn]; simp [hnm]; done) | (simp only [hdn]; simp [hnm]; done)), (by (try simp); omega), rfl⟩, (by (try simp only [List.map_append, List.map_cons, List.map_nil]); exact wb_ 5 1 (by simp [bpLtB, bpLtL, bpLt, bp_DB, bp_NB, filA, nodA]))⟩)
 have hc1 := bp hb1
 have e := row_no entA hj hc1
 subst e
 rw [List.drop_length] at hacc
 refine aw_exit (x_thenE (x_thenE (ABlock_out (t_ (q_ (w_ (m_ (h:=nt_ (h:=e_ (?_))))))))))
 refine aw_cond rfl (fun hb7 => ?_) (fun hb7 => ?_)
 ·have hc7 := bp hb7
  have hdn : dn = false := hc7
  have ea : acc ++ [(name, ino)] = entL n.entries name ino := by rw [← hacc, hdn]; rfl
  refine aw_region (m_ (h:=m_ (h:=m_ (h:=bd_ (h:=bs_ (h:=ap_ (h:=a_ (h:=e_ (yk_ ([(0, DB f q d 1 cap cap1), (2, [.bs 0 0 2 f.length cap]), (3, filA a), (4, nodA n)]) 14 (h:=df_ 0 (h:=?_)))))))))))
  refine dl_ 1 (h:=?_)
  refine df_ 2 (h:=?_)
  refine dl_ 3 (h:=?_)
  refine tk_ 4 rfl (fun _ hS => st_indexS (m := q) rfl rfl ha hql ⟨rfl, rfl⟩) ?_
  refine df_ 5 (h:=?_)
  first | refine dl_ 6 (h:=?_) | refine tk_ 6 rfl (fun _ hS => st_loadB1 (row := DB f q d 1 cap cap1) rfl (kb hS rfl) hD0 ⟨rfl, rfl⟩) ?_
  refine dl_ 7 (h:=?_)
  refine dl_ 8 (h:=?_)
  refine tk_ 10 rfl (fun _ hS => st_le (y := .sl 2 ((entL n.entries name ino).map entA) none) (st_move rfl ⟨rfl, rfl⟩) (by rw [← ea]; (try simp only [List.map_append, List.map_cons, List.map_nil]); exact LeA.tok _ _ _) ⟨rfl, rfl⟩) ?_
  refine c_ 9 rfl (s_callR 2 rfl (.cons _ _ _ _ _ rfl (LeA.of_eq (low_fls hq hcap hcap1 (Nat.zero_le _) (Nat.zero_le _) rfl rfl)) (.cons _ _ _ _ _ rfl (LeA.refl _) .nil)) (Rindex f a hf) ?_)
  rintro r rfl
  refine ⟨rfl, ?_⟩
  refine o_ (h:=?_)
  refine tk_ 11 rfl (fun _ hS => st_indexS (m := i) rfl rfl hi hil ⟨rfl, rfl⟩) ?_
  refine df_ 12 (h:=?_)
  refine c0_ 13 rfl (s_store rfl rfl rfl rfl rfl rfl hset (by repeat constructor) ?_)
  refine o_ (h:=z_ (h:=?_))
  refine abody_end (r := .tup []) none (by repeat (first | exact ResA.nil | (apply ResA.tmp; (focus exact rfl)) | (apply ResA.cellN; (focus exact inferInstance); (focus exact rfl); (focus exact rfl); (focus exact rfl)) | (apply ResA.cell1; (focus exact inferInstance); (focus exact rfl); (focus exact rfl); (focus exact rfl)))) rfl rfl (by simp [bpLtB, bp_DB, bp_NB]) (LeA.refl _) ⟨rfl, rfl, rfl⟩
 have hc7 := bp hb7
 have hdn : dn = true := hc7
 have ea : acc = entL n.entries name ino := by rw [← hacc, hdn]; simp [entGo]
 refine kt_ (yk_ ([(0, DB f q d 1 cap cap1), (2, [.bs 0 0 2 f.length cap]), (3, filA a), (4, nodA n)]) 14 (h:=df_ 0 (h:=?_)))
 refine dl_ 1 (h:=?_)
 refine df_ 2 (h:=?_)
 refine dl_ 3 (h:=?_)
 refine tk_ 4 rfl (fun _ hS => st_indexS (m := q) rfl rfl ha hql ⟨rfl, rfl⟩) ?_
 refine df_ 5 (h:=?_)
 first | refine dl_ 6 (h:=?_) | refine tk_ 6 rfl (fun _ hS => st_loadB1 (row := DB f q d 1 cap cap1) rfl (kb hS rfl) hD0 ⟨rfl, rfl⟩) ?_
 refine dl_ 7 (h:=?_)
 refine dl_ 8 (h:=?_)
 refine tk_ 10 rfl (fun _ hS => st_le (y := .sl 2 ((entL n.entries name ino).map entA) none) (st_move rfl ⟨rfl, rfl⟩) (by rw [← ea]; (try simp only [List.map_append, List.map_cons, List.map_nil]); exact LeA.tok _ _ _) ⟨rfl, rfl⟩) ?_
 refine c_ 9 rfl (s_callR 2 rfl (.cons _ _ _ _ _ rfl (LeA.of_eq (low_fls hq hcap hcap1 (Nat.zero_le _) (Nat.zero_le _) rfl rfl)) (.cons _ _ _ _ _ rfl (LeA.refl _) .nil)) (Rindex f a hf) ?_)
 rintro r rfl
 refine ⟨rfl, ?_⟩
 refine o_ (h:=?_)
 refine tk_ 11 rfl (fun _ hS => st_indexS (m := i) rfl rfl hi hil ⟨rfl, rfl⟩) ?_
 refine df_ 12 (h:=?_)
 refine c0_ 13 rfl (s_store rfl rfl rfl rfl rfl rfl hset (by repeat constructor) ?_)
 refine o_ (h:=z_ (h:=?_))
 refine abody_end (r := .tup []) none (by repeat (first | exact ResA.nil | (apply ResA.tmp; (focus exact rfl)) | (apply ResA.cellN; (focus exact inferInstance); (focus exact rfl); (focus exact rfl); (focus exact rfl)) | (apply ResA.cell1; (focus exact inferInstance); (focus exact rfl); (focus exact rfl); (focus exact rfl)))) rfl rfl (by simp [bpLtB, bp_DB, bp_NB]) (LeA.refl _) ⟨rfl, rfl, rfl⟩
end
end Go.Proofs.Ythcbdkmhamhciaa
