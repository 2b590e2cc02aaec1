/-
  Part 7 of the proof of FilesRenamesP: what the statement's proof uses of the texts in wip/tpl.
-/
import Derived.Test.YthcbdkmhamhciaaQn6
namespace Go.Proofs.Ythcbdkmhamhciaa
open Go.RowKit

section
variable {St : Nat → Nat → Prop} {w : World} (hst : ∀ b o, St b o → b < w.heap.size)
include hst
theorem list_of_fro {α : Type} {sz : Nat} {enc : α → List AV} {cell : α × Value → Nat → Value} {Sub : α → Value → Prop} {xs : List α} {v : Value} (hsz : 0 < sz) (hfew : xs.length ≤ 1000) (h : fro St w (.sl sz (xs.map enc) none) v)
    (hrow : ∀ x ∈ xs, (enc x).length = sz → ∀ c : Nat → Option Value, (∀ j av, (enc x)[j]? = some av → ∃ u, c j = some u ∧ fro St w av u) → ∃ u, Sub x u ∧ ∀ j, j < sz → c j = some (cell (x, u) j)) :
    ∃ ys : List (α × Value), ys.map (·.1) = xs ∧ Old.ListR sz cell w (Old.Old w) v ys ∧ ∀ y ∈ ys, Sub y.1 y.2 := by
  simp only [fro] at h
  obtain ⟨_, A, cap, rfl, h2, h3, h4⟩ := h
  rw [List.length_map] at h2
  rcases Nat.eq_zero_or_pos xs.length with h0 | h0
  · obtain rfl := List.eq_nil_of_length_eq_zero h0
    exact ⟨[], rfl, ⟨A, cap, by simp, by simp, by simp, fun h => absurd h (by simp)⟩, by simp⟩
  · obtain ⟨b, off, rfl, h6⟩ := h4.resolve_left (fun e => by simp at e; subst e; simp at h0)
    have each : ∀ i (hi : i < xs.length), ∃ u, Sub xs[i] u ∧ ∀ j, j < sz → w.cell? ⟨b, off + i * sz + j, none⟩ = some (cell (xs[i], u) j) := by
      intro i hi
      have hr : (xs.map enc)[i]? = some (enc xs[i]) := by simp [hi]
      obtain ⟨k1, k2⟩ := froR_get h6 hr
      exact hrow _ (List.getElem_mem hi) k1 _ fun j av hj => by
        obtain ⟨_, u, q1, _, q2⟩ := froC_get k2 hj
        exact ⟨u, q1, q2⟩
    let g : Fin xs.length → α × Value := fun i => (xs[i.1], (each i.1 i.2).choose)
    have hg : ∀ i (hi : i < xs.length), (List.ofFn g)[i]? = some (xs[i], (each i hi).choose) := fun i hi => by simp [g, hi]
    have hlen : (List.ofFn g).length = xs.length := by simp
    have hbs : b < w.heap.size := by
      obtain ⟨k1, k2⟩ := froR_get h6 (i := 0) (r := enc xs[0]) (by simp [h0])
      have : (enc xs[0])[0]? = some (enc xs[0])[0] := List.getElem?_eq_getElem (by omega)
      exact hst _ _ (froC_get k2 this).1
    refine ⟨List.ofFn g, ?_, ⟨_, cap, by rw [List.length_map, hlen], by rw [hlen]; exact h2, by rw [hlen]; unfold Old.few; omega, fun _ => ⟨b, off, rfl, hbs, fun i y j hi hj => ?_⟩⟩, fun y hy => ?_⟩
    · apply List.ext_getElem?
      intro i
      rcases Nat.lt_or_ge i xs.length with hi | hi
      · rw [List.getElem?_map, hg i hi]; simp [hi]
      · rw [List.getElem?_eq_none (by simpa using hi), List.getElem?_eq_none hi]
    · have hil : i < xs.length := by rw [← hlen]; exact (List.getElem?_eq_some_iff.1 hi).1
      rw [hg i hil] at hi
      injection hi with hi
      subst hi
      exact (each i hil).choose_spec.2 j hj
    · obtain ⟨i, hi⟩ := List.getElem?_of_mem hy
      have hil : i < xs.length := by rw [← hlen]; exact (List.getElem?_eq_some_iff.1 hi).1
      rw [hg i hil] at hi
      injection hi with hi
      subst hi
      exact (each i hil).choose_spec.1
theorem ents_old {es : List Ent} {v : Value} (hfew : es.length ≤ 1000) (h : fro St w (.sl 2 (es.map entA) none) v) : Old.EntsR w (Old.Old w) v es := by
  obtain ⟨ys, h1, ⟨A, c, h2, h3, h4, h5⟩, _⟩ := list_of_fro hst (cell := fun y : Ent × Value => Old.entCell y.1) (Sub := fun _ _ => True) (by omega) hfew h (fun x _ _ c hc => ⟨.bool true, trivial, fun j hj => by
    match j, hj with
    | 0, _ => obtain ⟨u, q1, q2⟩ := hc 0 _ rfl; simp only [fro] at q2; rw [q1, q2]; rfl
    | 1, _ => obtain ⟨u, q1, q2⟩ := hc 1 _ rfl; simp only [fro] at q2; rw [q1, q2]; rfl⟩)
  subst h1
  refine ⟨A, c, by rw [h2, List.length_map], by simpa using h3, by simpa using h4, fun hn => ?_⟩
  obtain ⟨b, off, e1, e2, e3⟩ := h5 (by simpa using hn)
  refine ⟨b, off, e1, e2, fun i x j hi hj => ?_⟩
  rw [List.getElem?_map] at hi
  cases hy : ys[i]? with
  | none => rw [hy] at hi; cases hi
  | some y =>
    rw [hy] at hi
    injection hi with hi
    subst hi
    exact e3 i y j hy hj
theorem nods_old {ns : List Nod} {v : Value} (hfew : ns.length ≤ 1000) (he : ∀ n ∈ ns, n.entries.length ≤ 1000) (h : fro St w (.sl 8 (ns.map nodA) none) v) : Old.NodsR w (Old.Old w) v ns :=
  list_of_fro hst (cell := Old.nodCell) (Sub := fun n u => Old.EntsR w (Old.Old w) u n.entries) (by omega) hfew h (fun x hx _ c hc => by
    obtain ⟨u0, p0, q0⟩ := hc 0 _ rfl
    obtain ⟨u1, p1, q1⟩ := hc 1 _ rfl
    obtain ⟨u2, p2, q2⟩ := hc 2 _ rfl
    obtain ⟨u3, p3, q3⟩ := hc 3 _ rfl
    obtain ⟨u4, p4, q4⟩ := hc 4 _ rfl
    obtain ⟨u5, p5, q5⟩ := hc 5 _ rfl
    obtain ⟨u6, p6, q6⟩ := hc 6 _ rfl
    obtain ⟨u7, p7, q7⟩ := hc 7 _ rfl
    have q7' := ents_old hst (he x hx) q7
    simp only [fro] at q0 q1 q2 q3 q4 q5 q6
    subst q0 q1 q2 q3 q4 q5 q6
    refine ⟨u7, q7', fun j hj => ?_⟩
    match j, hj with
    | 0, _ => exact p0
    | 1, _ => exact p1
    | 2, _ => exact p2
    | 3, _ => exact p3
    | 4, _ => exact p4
    | 5, _ => exact p5
    | 6, _ => exact p6
    | 7, _ => exact p7)
theorem fls_old {f : Fls} (hf : FlsB f) {v : Value} (h : fro St w (.agg (flsA f)) v) : Old.FlsR w (Old.Old w) v f := by
  simp only [fro, flsA, froL] at h
  obtain ⟨ys, rfl, z, zs, rfl, h, rfl⟩ := h
  have h' : fro St w (.sl 2 (f.map dvcA) none) z := by simp only [fro]; exact h
  refine ⟨z, rfl, list_of_fro hst (cell := Old.dvcCell) (Sub := fun d u => Old.NodsR w (Old.Old w) u d.nodes) (by omega) hf.few h' (fun x hx _ c hc => ?_)⟩
  obtain ⟨u0, p0, q0⟩ := hc 0 _ rfl
  obtain ⟨u1, p1, q1⟩ := hc 1 _ rfl
  have q1' := nods_old hst (hf.nodes x hx) (hf.ents x hx) q1
  simp only [fro] at q0
  subst q0
  refine ⟨u1, q1', fun j hj => ?_⟩
  match j, hj with
  | 0, _ => exact p0
  | 1, _ => exact p1
end

theorem own_fro {α : Type} {sz : Nat} {cell : α → Nat → Value} {E : TypeId} {w : World} {base : Nat} {v : Value} {xs : List α} (h : Old.OwnL sz cell E w base v xs) {St : Nat → Nat → Prop} (hst : ∀ b, v.ownBlock = some b → ∀ o, St b o) {enc : α → List AV} (hlen : ∀ x ∈ xs, (enc x).length = sz)
    (hx : ∀ x ∈ xs, ∀ j av, (enc x)[j]? = some av → fro St w av (cell x j)) : fro St w (.sl sz (xs.map enc) none) v := by
  simp only [fro, true_and]
  obtain ⟨⟨h0, h1⟩, h2⟩ := h
  rcases h1 with ⟨rfl, hn⟩ | ⟨g, cap, cur, rfl, hb, hg, hnc, hcm, hcs, htk⟩
  · exact ⟨none, 0, by rw [List.length_map, hn], by rw [List.length_map, hn]; exact Nat.le_refl _, Nat.zero_le _, .inl (by rw [List.eq_nil_of_length_eq_zero hn]; rfl)⟩
  · refine ⟨_, cap, by rw [List.length_map], by rw [List.length_map]; exact hnc, hcm, .inr ⟨g, 0, rfl, froR_of fun i r hi => ?_⟩⟩
    rw [List.getElem?_map] at hi
    cases hy : xs[i]? with
    | none => rw [hy] at hi; cases hi
    | some x =>
      rw [hy] at hi
      injection hi with hi
      subst hi
      have hm := List.mem_of_getElem? hy
      refine ⟨hlen x hm, froC_of fun j av hj => ?_⟩
      have hjl : j < sz := by rw [← hlen x hm]; exact (List.getElem?_eq_some_iff.1 hj).1
      have hil := (List.getElem?_eq_some_iff.1 hy).1
      have hlt : i * sz + j < xs.length * sz := by
        have h2 : (i + 1) * sz ≤ xs.length * sz := Nat.mul_le_mul_right sz hil
        rw [Nat.add_mul] at h2
        omega
      have hc : cur.toList[i * sz + j]? = some (cell x j) := by
        rw [← Old.flat_get xs i j x hy hjl, ← htk, List.getElem?_take, if_pos hlt]
      refine ⟨hst g rfl _, cell x j, ?_, h2 g cur E rfl hg _ (List.mem_of_getElem? hc), hx x hm j av hj⟩
      rw [Nat.zero_add]
      simp only [World.cell?, hg]
      simpa using hc
theorem own_box {α : Type} {sz : Nat} {cell : α → Nat → Value} {E : TypeId} {w : World} {base : Nat} {v : Value} {xs : List α} (h : Old.OwnL sz cell E w base v xs) (h0 : 0 < xs.length) {G : Gh} {rows : List (List AV)} (hp : 0 < sz) (hl : rows.length = xs.length) (hlen : ∀ r ∈ rows, r.length = sz)
    (hx : ∀ (i : Nat) (x : α) (r : List AV), xs[i]? = some x → rows[i]? = some r → ∀ j av, r[j]? = some av → rep G w av (cell x j)) :
    ∃ g cap, v = .slice (some ⟨g, 0, none⟩) xs.length cap ∧ base ≤ g ∧ g < w.heap.size ∧ xs.length ≤ cap ∧ cap ≤ maxLen ∧ BoxAt G w g (rowsB sz cap rows) := by
  obtain ⟨⟨h3, h1⟩, h2⟩ := h
  rcases h1 with ⟨rfl, hn⟩ | ⟨g, cap, cur, rfl, hb, hg, hnc, hcm, hcs, htk⟩
  · omega
  · refine ⟨g, cap, rfl, hb, (Array.getElem?_eq_some_iff.1 hg).1, hnc, hcm, cur.toList, E, by simpa using hg, ?_, h2 g cur E rfl hg⟩
    have e : cur.toList = cur.toList.take (xs.length * sz) ++ cur.toList.drop (xs.length * sz) := (List.take_append_drop _ _).symm
    rw [e]
    unfold rowsB
    refine repL_app ?_ ?_
    · rw [htk]
      refine repL_of (by rw [flat_len hlen, hl, Old.flat_length]) fun i x hi => ?_
      have hii : i = i / sz * sz + i % sz := by rw [Nat.mul_comm]; exact (Nat.div_add_mod i sz).symm
      have hk : i % sz < sz := Nat.mod_lt _ hp
      rw [hii, flat_getT hlen hk] at hi
      cases hq : rows[i / sz]? with
      | none => rw [hq] at hi; simp at hi
      | some r =>
        rw [hq] at hi
        have hqx : i / sz < xs.length := by rw [← hl]; exact (List.getElem?_eq_some_iff.1 hq).1
        have hxx : xs[i / sz]? = some xs[i / sz] := List.getElem?_eq_getElem hqx
        refine ⟨cell xs[i / sz] (i % sz), ?_, hx _ _ r hxx hq _ _ hi⟩
        have := Old.flat_get (cell := cell) xs (i / sz) (i % sz) _ hxx hk
        rwa [← hii] at this
    · have : (cur.toList.drop (xs.length * sz)).length = (cap - rows.length) * sz := by
        rw [List.length_drop, hl, Nat.sub_mul, ← hcs]
        simp
      rw [← this]
      exact repL_anys _

theorem flatMap_at' {α β : Type} {f : α → List β} {l : List α} {i : Nat} {x : α} (hx : l[i]? = some x) : l.flatMap f = (l.take i).flatMap f ++ (f x ++ (l.drop (i + 1)).flatMap f) := by
  obtain ⟨hi, rfl⟩ := List.getElem?_eq_some_iff.1 hx
  rw [← List.flatMap_cons, ← List.flatMap_append, ← List.drop_eq_getElem_cons hi, List.take_append_drop]
def devB (f : Fls) (K : Nat) (d : Dvc) (j cap1 : Nat) : List (List AV) := (f.map dvcA).set K (devR d j cap1)
theorem devB_two (f : Fls) (K : Nat) (d : Dvc) (j cap1 : Nat) : ∀ r ∈ devB f K d j cap1, r.length = 2 := by
  intro r hr
  rcases List.mem_or_eq_of_mem_set hr with h | h
  · exact dvcs_two _ r h
  · rw [h]; rfl
theorem devB_len (f : Fls) (K : Nat) (d : Dvc) (j cap1 : Nat) : (devB f K d j cap1).length = f.length := by simp [devB]
theorem RcopyK (f : Fls) (K : Nat) (dK : Dvc) (hf : FlsB f) (hK : f[K]? = some dK) (hne : 0 < dK.nodes.length) :
    ACall Try.prog 69 [.agg (flsA f)] [] (fun r b t => t = [] ∧ ∃ cap cap1, f.length ≤ cap ∧ dK.nodes.length ≤ cap1 ∧ b = [rowsB 2 cap (devB f K dK 1 cap1), rowsB 8 cap1 (dK.nodes.map nodA)] ∧ r = .agg [.bs 0 0 2 f.length cap]) := by
  intro w St bl vs hr hv
  have hbl : bl = [] := by have := hr.bxlen; simpa using this
  subst hbl
  simp only [repL] at hv
  obtain ⟨z, zs, rfl, hz, rfl⟩ := hv
  have hz' : fro St w (.agg (flsA f)) z := by have := fro_era _ _ hz; simpa [era, eraL, flsA] using this
  have hF := fls_old hr.stlt hf hz'
  refine Calls.mono (Old.Copy_any z f w hF) ?_
  rintro e w' ⟨dv, L, rfl, hD, hL, hB⟩
  have hsz := hB.size
  have hLl : L.length = f.length := by rw [← hL]; simp [Old.flsOf]
  have hKl := (List.getElem?_eq_some_iff.1 hK).1
  obtain ⟨x, hx, hxd⟩ : ∃ x, L[K]? = some x ∧ Old.dvcOf x = dK := by
    have h1 : L[K]? = some L[K] := List.getElem?_eq_getElem (by omega)
    refine ⟨_, h1, ?_⟩
    have := hK
    rw [← hL, Old.flsOf, List.getElem?_map, h1] at this
    injection this
  have hxm := List.mem_of_getElem? hx
  obtain ⟨d1, d2, d3, d4⟩ := hD
  obtain ⟨e1, e2, e3⟩ := d2 x hxm |>.1
  have hyl : 0 < x.2.2.length := by rw [← hxd] at hne; simpa [Old.dvcOf] using hne
  have form : ∀ {α : Type} {sz : Nat} {cell : α → Nat → Value} {E : TypeId} {base : Nat} {v : Value} {xs : List α}, Old.OwnL sz cell E w' base v xs → 0 < xs.length → ∃ g cap, v = .slice (some ⟨g, 0, none⟩) xs.length cap := by
    intro α sz cell E base v xs h h0
    rcases h.1.2 with ⟨_, hn⟩ | ⟨g, cap, cur, rfl, _⟩
    · omega
    · exact ⟨g, cap, rfl⟩
  obtain ⟨g0, cap, hdv⟩ := form d1 (by omega)
  obtain ⟨g1, cap1, hnv⟩ := form e1 hyl
  have hb0 : g0 ∈ Old.blk dv := Old.mem_blk.2 (by rw [hdv]; rfl)
  have hb1 : g1 ∈ Old.blk x.2.1 := Old.mem_blk.2 (by rw [hnv]; rfl)
  have nd := List.nodup_append.1 d3
  have hin : ∀ y ∈ L, ∀ b ∈ Old.fpN y.2.1 y.2.2, b ∈ L.flatMap fun x => Old.fpN x.2.1 x.2.2 := fun y hy b hb => List.mem_flatMap.2 ⟨y, hy, hb⟩
  have h01 : g0 ≠ g1 := fun e => nd.2.2 g0 hb0 g1 (hin x hxm g1 (List.mem_append_left _ hb1)) e
  let St' : Nat → Nat → Prop := fun b o => St b o ∨ (w.heap.size ≤ b ∧ b < w'.heap.size ∧ b ≠ g0 ∧ b ≠ g1)
  let G' : Gh := ⟨St', [g0, g1], []⟩
  have hfresh : ∀ b ∈ Old.fpD dv L, b ≠ g0 → b ≠ g1 → ∀ o, St' b o := fun b hb n0 n1 o => by
    have := Old.DvcsAt.fp_lt (w := w') ⟨d1, d2, d3, d4⟩ b hb
    exact .inr ⟨this.1, this.2, n0, n1⟩
  -- a list of entries that lies in blocks that stay
  have hents : ∀ (y : Nod × Value) , Old.OwnL 2 Old.entCell 101 w' w.heap.size y.2 y.1.entries → (∀ b ∈ Old.blk y.2, ∀ o, St' b o) → fro St' w' (.sl 2 (y.1.entries.map entA) none) y.2 := by
    intro y hy hb
    refine own_fro hy (fun b h => hb b (Old.mem_blk.2 h)) (fun _ _ => rfl) fun e _ j av hj => ?_
    match j, hj with
    | 0, hj => injection hj with hj; subst hj; simp only [fro]; rfl
    | 1, hj => injection hj with hj; subst hj; simp only [fro]; rfl
  have hnod : ∀ (y : Nod × Value), Old.OwnL 2 Old.entCell 101 w' w.heap.size y.2 y.1.entries → (∀ b ∈ Old.blk y.2, ∀ o, St' b o) → ∀ j av, (nodA y.1)[j]? = some av → fro St' w' av (Old.nodCell y j) := by
    intro y hy hb j av hj
    match j, hj with
    | 0, hj => injection hj with hj; subst hj; simp only [fro]; rfl
    | 1, hj => injection hj with hj; subst hj; simp only [fro]; rfl
    | 2, hj => injection hj with hj; subst hj; simp only [fro]; rfl
    | 3, hj => injection hj with hj; subst hj; simp only [fro]; rfl
    | 4, hj => injection hj with hj; subst hj; simp only [fro]; rfl
    | 5, hj => injection hj with hj; subst hj; simp only [fro]; rfl
    | 6, hj => injection hj with hj; subst hj; simp only [fro]; rfl
    | 7, hj => injection hj with hj; subst hj; exact hents y hy hb
    | j + 8, hj => exact absurd hj (by simp [nodA])
  have hne0 : ∀ y ∈ L, ∀ b ∈ Old.fpN y.2.1 y.2.2, b ≠ g0 := fun y hy b hb e => nd.2.2 g0 hb0 b (hin y hy b hb) e.symm
  have hfp : ∀ y ∈ L, ∀ b ∈ Old.fpN y.2.1 y.2.2, b ∈ Old.fpD dv L := fun y hy b hb => List.mem_append_right _ (hin y hy b hb)
  -- the boxes
  obtain ⟨g1', cap1', q1, q2, q3, q4, q5, q6⟩ := own_box (G := G') e1 hyl (rows := dK.nodes.map nodA) (by omega) (by rw [← hxd]; simp [Old.dvcOf]) (nods_eight _) (by
    intro i y r hi hri j av hj
    have hnm : dK.nodes[i]? = some y.1 := by rw [← hxd, Old.dvcOf]; simp [hi]
    rw [List.getElem?_map, hnm] at hri
    injection hri with hri
    subst hri
    have hym := List.mem_of_getElem? hi
    refine rep_fro _ _ (hnod y (e2 y hym).1 (fun b hb => hfresh b (hfp x hxm b (List.mem_append_right _ (List.mem_flatMap.2 ⟨y, hym, hb⟩))) (hne0 x hxm b (List.mem_append_right _ (List.mem_flatMap.2 ⟨y, hym, hb⟩))) fun e => ?_) j av hj)
    exact (List.nodup_append.1 e3).2.2 g1 hb1 b (List.mem_flatMap.2 ⟨y, hym, hb⟩) e.symm)
  rw [hnv] at q1
  simp only [Value.slice.injEq, Option.some.injEq, Addr.mk.injEq, and_true, true_and] at q1
  obtain ⟨rfl, rfl⟩ := q1
  obtain ⟨g0', cap', p1, p2, p3, p4, p5, p6⟩ := own_box (G := G') d1 (by omega) (rows := devB f K dK 1 cap1) (by omega) (by rw [devB_len, hLl]) (devB_two _ _ _ _ _) (by
    intro i y r hi hri j av hj
    have hfi : f[i]? = some (Old.dvcOf y) := by rw [← hL, Old.flsOf, List.getElem?_map, hi]; rfl
    have hym := List.mem_of_getElem? hi
    unfold devB at hri
    by_cases hiK : K = i
    · subst hiK
      rw [hx] at hi
      injection hi with hi
      subst hi
      rw [List.getElem?_set_self (by simp; omega)] at hri
      injection hri with hri
      subst hri
      match j, hj with
      | 0, hj => injection hj with hj; subst hj; simp only [rep]; rw [← hxd]; rfl
      | 1, hj =>
        injection hj with hj; subst hj
        simp only [rep]
        refine ⟨g1, rfl, ?_, ?_, q5⟩
        · show x.2.1 = _
          rw [hnv, ← hxd]; simp [Old.dvcOf]
        · rw [← hxd]; simpa [Old.dvcOf] using q4
      | j + 2, hj => exact absurd hj (by simp [devR])
    · rw [List.getElem?_set_ne hiK, List.getElem?_map, hfi] at hri
      injection hri with hri
      subst hri
      have hn1 : ∀ b ∈ Old.fpN y.2.1 y.2.2, b ≠ g1 := by
        intro b hb e
        subst e
        have hd2 := nd.2.1
        have hil := (List.getElem?_eq_some_iff.1 hi).1
        rw [flatMap_at' hx] at hd2
        obtain ⟨c1, c2, c3⟩ := List.nodup_append.1 hd2
        obtain ⟨c4, c5, c6⟩ := List.nodup_append.1 c2
        rcases Nat.lt_or_ge i K with hlt | hge
        · exact c3 b (List.mem_flatMap.2 ⟨y, List.mem_iff_getElem?.2 ⟨i, by rw [List.getElem?_take, if_pos hlt]; exact hi⟩, hb⟩) b (List.mem_append_left _ (List.mem_append_left _ hb1)) rfl
        · exact c6 b (List.mem_append_left _ hb1) b (List.mem_flatMap.2 ⟨y, List.mem_iff_getElem?.2 ⟨i - (K + 1), by rw [List.getElem?_drop, show K + 1 + (i - (K + 1)) = i by omega]; exact hi⟩, hb⟩) rfl
      obtain ⟨f1, f2, f3⟩ := (d2 y hym).1
      match j, hj with
      | 0, hj => injection hj with hj; subst hj; simp only [rep]; rfl
      | 1, hj =>
        injection hj with hj; subst hj
        have key := own_fro f1 (St := St') (fun b h => hfresh b (hfp y hym b (List.mem_append_left _ (Old.mem_blk.2 h))) (hne0 y hym b (List.mem_append_left _ (Old.mem_blk.2 h))) (hn1 b (List.mem_append_left _ (Old.mem_blk.2 h)))) (enc := fun y => nodA y.1) (fun _ _ => rfl) fun z hz j av hj =>
          hnod z (f2 z hz).1 (fun b hb => hfresh b (hfp y hym b (List.mem_append_right _ (List.mem_flatMap.2 ⟨z, hz, hb⟩))) (hne0 y hym b (List.mem_append_right _ (List.mem_flatMap.2 ⟨z, hz, hb⟩))) (hn1 b (List.mem_append_right _ (List.mem_flatMap.2 ⟨z, hz, hb⟩)))) j av hj
        have e : ((Old.dvcOf y).nodes.map nodA) = y.2.2.map fun y => nodA y.1 := by simp [Old.dvcOf]
        rw [e]
        exact rep_fro _ _ key
      | j + 2, hj => exact absurd hj (by simp [dvcA]))
  rw [hdv] at p1
  simp only [Value.slice.injEq, Option.some.injEq, Addr.mk.injEq, and_true, true_and] at p1
  obtain ⟨rfl, rfl⟩ := p1
  have hst : ∀ b o, St b o → b < w.heap.size := hr.stlt
  refine ⟨.agg [.bs 0 0 2 f.length cap], _, _, G', ⟨rfl, cap, cap1, by omega, by rw [← hxd]; simpa [Old.dvcOf] using q4, rfl, rfl⟩, ⟨?_, ?_, ?_, ?_, rfl, ?_, ?_, ?_, ?_, rfl, ?_, ?_, ?_⟩, ⟨?_, ?_, ?_⟩, ?_⟩
  · intro i b hi; simp at hi
  · exact ⟨hB.os, hB.tape, hB.output, hB.size, fun k hk _ => hB.block k hk⟩
  · rintro b o (h | h)
    · have := hst b o h; omega
    · exact h.2.1
  · rintro b o (h | h)
    · exact .inl h
    · exact .inr h.1
  · show [g0, g1].Nodup
    simpa using h01
  · rintro b hb o (h | h)
    · have := hst b o h
      simp [G'] at hb
      rcases hb with rfl | rfl <;> omega
    · simp [G'] at hb
      rcases hb with rfl | rfl
      · exact h.2.2.1 rfl
      · exact h.2.2.2 rfl
  · intro b hb
    simp [G'] at hb
    rcases hb with rfl | rfl
    · exact .inl p2
    · exact .inl q2
  · intro i b row hi hrow
    match i, hi, hrow with
    | 0, hi, hrow => simp [G'] at hi; simp at hrow; subst hi; subst hrow; exact p6
    | 1, hi, hrow => simp [G'] at hi; simp at hrow; subst hi; subst hrow; exact q6
    | i + 2, hi, _ => simp [G'] at hi
  · intro g n u T sz rows hg; simp [G'] at hg
  · intro g n u hg; simp [G'] at hg
  · intro g g' n n' u u' hg; simp [G'] at hg
  · exact fun b o h => ⟨.inl h, hB.cell (p := ⟨b, o, none⟩) (hst b o h)⟩
  · intro i b hi; simp at hi
  · intro g n u hg; simp at hg
  · simp only [rep, repL]
    exact ⟨[dv], rfl, dv, [], rfl, ⟨g0, rfl, by rw [hdv, hLl], by omega, p5⟩, rfl⟩
end Go.Proofs.Ythcbdkmhamhciaa
namespace Go.Proofs.Ythcbdkmhamhciaa
open Go.RowKit

theorem renL_map (f : Nat → Option Nat) : ∀ xs : List AV, renL f xs = xs.map (ren f)
  | [] => rfl
  | x :: xs => by simp [renL, renL_map f xs]
theorem renKL_map (f : Nat → Option Nat) : ∀ xs : List AV, renKL f xs = xs.map (renK f)
  | [] => rfl
  | x :: xs => by simp [renKL, renKL_map f xs]
theorem lowGL_map (g : Nat → Option (List AV)) : ∀ xs : List AV, lowGL g xs = xs.map (lowG g)
  | [] => rfl
  | x :: xs => by simp [lowGL, lowGL_map g xs]
theorem livL_map (n : Nat) (g : Nat → Option (List AV)) : ∀ xs : List AV, livL n g xs = xs.map (liv n g)
  | [] => rfl
  | x :: xs => by simp [livL, livL_map n g xs]
theorem rowsB_map (F : AV → AV) (h : F .any = .any) (sz cap : Nat) (rows : List (List AV)) : (rowsB sz cap rows).map F = rowsB sz cap (rows.map (·.map F)) := by
  simp [rowsB, h, List.map_flatten]
theorem bpLtL_all {n m : Nat} {xs : List AV} : bpLtL n m xs = true ↔ ∀ x ∈ xs, bpLt n m x = true := by
  induction xs with
  | nil => simp [bpLtL]
  | cons x xs ih => simp [bpLtL, ih]
theorem bpLt_rowsB {n m sz cap : Nat} {rows : List (List AV)} (h : ∀ r ∈ rows, bpLtL n m r = true) : bpLtL n m (rowsB sz cap rows) = true := by
  rw [bpLtL_all]
  intro x hx
  unfold rowsB at hx
  rcases List.mem_append.1 hx with hx | hx
  · obtain ⟨r, hr, hx⟩ := List.mem_flatten.1 hx
    exact bpLtL_all.1 (h r hr) x hx
  · rw [(List.mem_replicate.1 hx).2]; rfl

def DB (f : Fls) (K : Nat) (d : Dvc) (j cap cap1 : Nat) : List AV := rowsB 2 cap (devB f K d j cap1)
def NB (ns : List Nod) (cap1 : Nat) : List AV := rowsB 8 cap1 (ns.map nodA)
theorem bp_DB {n m : Nat} {f : Fls} {K : Nat} {d : Dvc} {j cap cap1 : Nat} (hj : j < n) : bpLtL n m (DB f K d j cap cap1) = true := by
  refine bpLt_rowsB fun r hr => ?_
  rcases List.mem_or_eq_of_mem_set hr with h | h
  · obtain ⟨d', _, rfl⟩ := List.mem_map.1 h
    rfl
  · rw [h]; simp [devR, bpLtL, bpLt, hj]
theorem bp_NB {n m : Nat} {ns : List Nod} {cap1 : Nat} : bpLtL n m (NB ns cap1) = true := by
  refine bpLt_rowsB fun r hr => ?_
  obtain ⟨d', _, rfl⟩ := List.mem_map.1 hr
  rfl
section
variable {F : AV → AV} (hany : F .any = .any) (hv : ∀ x, F (.v x) = .v x) (hs : ∀ sz rows, F (.sl sz rows none) = .sl sz rows none)
include hany hv hs
theorem map_NB (ns : List Nod) (cap1 : Nat) : (NB ns cap1).map F = NB ns cap1 := by
  unfold NB
  rw [rowsB_map F hany, List.map_map]
  congr 1
  apply List.map_congr_left
  intro n _
  simp [nodA, hv, hs]
theorem map_dvcs (f : Fls) : (f.map dvcA).map (·.map F) = f.map dvcA := by
  have _ := hany
  rw [List.map_map]
  apply List.map_congr_left
  intro n _
  simp [dvcA, hv, hs]
theorem map_DB (f : Fls) (K : Nat) (d : Dvc) {j j' : Nat} (cap cap1 : Nat) (hb : F (.bs j 0 8 d.nodes.length cap1) = .bs j' 0 8 d.nodes.length cap1) : (DB f K d j cap cap1).map F = DB f K d j' cap cap1 := by
  unfold DB devB
  rw [rowsB_map F hany, List.map_set, map_dvcs hany hv hs]
  simp [devR, hv, hb]
theorem map_DBlow {f : Fls} {K : Nat} {d : Dvc} {j cap cap1 : Nat} (hK : f[K]? = some d) (hb : F (.bs j 0 8 d.nodes.length cap1) = .sl 8 (d.nodes.map nodA) none) : (DB f K d j cap cap1).map F = rowsB 2 cap (f.map dvcA) := by
  unfold DB devB
  rw [rowsB_map F hany, List.map_set, map_dvcs hany hv hs]
  have e : (devR d j cap1).map F = dvcA d := by simp [devR, hv, hb, dvcA]
  rw [e]
  congr 1
  apply List.ext_getElem?
  intro i
  rw [List.getElem?_set]
  split
  · rename_i e1
    subst e1
    obtain ⟨h1, h2⟩ := List.getElem?_eq_some_iff.1 hK
    simp [h1, h2]
  · rfl
end
theorem ren_DB {g : Nat → Option Nat} {j j' : Nat} (h : g j = some j') (f : Fls) (K : Nat) (d : Dvc) (cap cap1 : Nat) : renL g (DB f K d j cap cap1) = DB f K d j' cap cap1 := by
  rw [renL_map]
  exact map_DB rfl (fun _ => rfl) (fun _ _ => rfl) f K d cap cap1 (by simp [ren, h])
theorem ren_NB (g : Nat → Option Nat) (ns : List Nod) (cap1 : Nat) : renL g (NB ns cap1) = NB ns cap1 := by
  rw [renL_map]
  exact map_NB rfl (fun _ => rfl) (fun _ _ => rfl) ns cap1
theorem renK_DB {g : Nat → Option Nat} {j j' : Nat} (h : g j = some j') (f : Fls) (K : Nat) (d : Dvc) (cap cap1 : Nat) : renKL g (DB f K d j cap cap1) = DB f K d j' cap cap1 := by
  rw [renKL_map]
  exact map_DB rfl (fun _ => rfl) (fun _ _ => rfl) f K d cap cap1 (by simp [renK, h])
theorem renK_NB (g : Nat → Option Nat) (ns : List Nod) (cap1 : Nat) : renKL g (NB ns cap1) = NB ns cap1 := by
  rw [renKL_map]
  exact map_NB rfl (fun _ => rfl) (fun _ _ => rfl) ns cap1
theorem low_NB (g : Nat → Option (List AV)) (ns : List Nod) (cap1 : Nat) : lowGL g (NB ns cap1) = NB ns cap1 := by
  rw [lowGL_map]
  exact map_NB rfl (fun _ => rfl) (fun _ _ => rfl) ns cap1
theorem NB_len {ns : List Nod} {cap1 : Nat} (h : ns.length ≤ cap1) : (NB ns cap1).length = cap1 * 8 := rowsB_len (nods_eight _) (by simpa using h)
theorem lowG_rows {g : Nat → Option (List AV)} {j sz n cap0 cap : Nat} {rows : List (List AV)} (hg : g j = some (rowsB sz cap rows)) (hr : ∀ r ∈ rows, r.length = sz) (hn : n = rows.length) (hc : rows.length ≤ cap) : lowG g (.bs j 0 sz n cap0) = .sl sz rows none := by
  subst hn
  have hl := rowsB_len hr hc
  have hb : Nat.ble (0 + rows.length * sz) (rowsB sz cap rows).length = true := by
    rw [hl, Nat.ble_eq]
    have := Nat.mul_le_mul_right sz hc
    omega
  simp only [lowG, hg, hb, List.drop_zero]
  unfold rowsB
  rw [chunk_flat hr]
theorem frz_NB {n : Nat} {bx : List (List AV)} {k j : Nat} {ns : List Nod} {cap1 : Nat} (hn : n ≤ j) (hj : bx[j]? = some (NB ns cap1)) : frzG n bx (k + 1) j = some (NB ns cap1) := by
  have : Nat.blt j n = false := by rw [← Bool.not_eq_true, Nat.blt_eq]; omega
  simp only [frzG, this, hj, Option.map_some, low_NB]
theorem frz_DB {n : Nat} {bx : List (List AV)} {k i j : Nat} {f : Fls} {K : Nat} {d : Dvc} {cap cap1 : Nat} (hK : f[K]? = some d) (hc1 : d.nodes.length ≤ cap1) (hni : n ≤ i) (hnj : n ≤ j) (hi : bx[i]? = some (DB f K d j cap cap1)) (hj : bx[j]? = some (NB d.nodes cap1)) :
    frzG n bx (k + 2) i = some (rowsB 2 cap (f.map dvcA)) := by
  have : Nat.blt i n = false := by rw [← Bool.not_eq_true, Nat.blt_eq]; omega
  rw [show k + 2 = (k + 1) + 1 from rfl, frzG]
  simp only [this, hi, Option.map_some, lowGL_map]
  rw [map_DBlow rfl (fun _ => rfl) (fun _ _ => rfl) hK]
  exact lowG_rows (frz_NB hnj hj) (nods_eight _) (by simp) (by simpa using hc1)
theorem low_fls {n : Nat} {bx : List (List AV)} {k i j : Nat} {f : Fls} {K : Nat} {d : Dvc} {cap cap0 cap1 : Nat} (hK : f[K]? = some d) (hc : f.length ≤ cap) (hc1 : d.nodes.length ≤ cap1) (hni : n ≤ i) (hnj : n ≤ j) (hi : bx[i]? = some (DB f K d j cap cap1)) (hj : bx[j]? = some (NB d.nodes cap1)) :
    lowG (frzG n bx (k + 2)) (.agg [.bs i 0 2 f.length cap0]) = .agg (flsA f) := by
  show AV.agg [lowG _ _] = _
  unfold flsA
  rw [lowG_rows (frz_DB hK hc1 hni hnj hi hj) (dvcs_two _) (by simp) (by simpa using hc)]
theorem rowsB_get {sz cap : Nat} {rows : List (List AV)} {q k : Nat} {r : List AV} {x : AV} (hr : ∀ r ∈ rows, r.length = sz) (hq : rows[q]? = some r) (hx : r[k]? = some x) : (rowsB sz cap rows)[0 + q * sz + k]? = some x := by
  have hk : k < sz := by rw [← hr r (List.mem_of_getElem? hq)]; exact (List.getElem?_eq_some_iff.1 hx).1
  have e := flat_getT hr hk (q := q)
  rw [hq] at e
  simp only [Option.bind_some] at e
  rw [hx] at e
  unfold rowsB
  rw [Nat.zero_add, List.getElem?_append_left (List.getElem?_eq_some_iff.1 e).1]
  exact e
theorem rowsB_row {sz cap : Nat} {rows : List (List AV)} {q : Nat} {r : List AV} (hr : ∀ r ∈ rows, r.length = sz) (hq : rows[q]? = some r) : ((rowsB sz cap rows).drop (0 + q * sz)).take sz = r := by
  have hrl := hr r (List.mem_of_getElem? hq)
  apply List.ext_getElem?
  intro k
  rw [List.getElem?_take]
  split
  · rename_i hk
    rw [List.getElem?_drop]
    have hx : r[k]? = some r[k] := List.getElem?_eq_getElem (by omega)
    rw [rowsB_get hr hq hx, hx]
  · rw [List.getElem?_eq_none (by omega)]
theorem rowsB_set {sz cap : Nat} {rows : List (List AV)} {q k : Nat} {r r' cs : List AV} (hr : ∀ r ∈ rows, r.length = sz) (hq : rows[q]? = some r) (hs : SetAt r k cs r') (hne : cs ≠ []) : SetAt (rowsB sz cap rows) (0 + q * sz + k) cs (rowsB sz cap (rows.set q r')) := by
  unfold rowsB
  rw [Nat.zero_add, List.length_set]
  exact (flat_set hr hq hs hne).left _
theorem devB_get {f : Fls} {K : Nat} {d : Dvc} {j cap1 : Nat} (hK : K < f.length) : (devB f K d j cap1)[K]? = some (devR d j cap1) := by
  unfold devB
  rw [List.getElem?_set_self (by simpa using hK)]
theorem DB_nodes {f : Fls} {K : Nat} {d : Dvc} {j cap cap1 : Nat} (hK : K < f.length) : (DB f K d j cap cap1)[0 + K * 2 + 1]? = some (.bs j 0 8 d.nodes.length cap1) := rowsB_get (devB_two _ _ _ _ _) (devB_get hK) rfl
theorem DB_next {f : Fls} {K : Nat} {d : Dvc} {j cap cap1 : Nat} (hK : K < f.length) : (DB f K d j cap cap1)[0 + K * 2 + 0]? = some (.v (.int .i64 d.next)) := rowsB_get (devB_two _ _ _ _ _) (devB_get hK) rfl
theorem NB_row {ns : List Nod} {cap1 i : Nat} {n : Nod} (h : ns[i]? = some n) : ((NB ns cap1).drop (0 + i * 8)).take 8 = nodA n := rowsB_row (nods_eight _) (by rw [List.getElem?_map, h]; rfl)
theorem NB_get {ns : List Nod} {cap1 i k : Nat} {n : Nod} {x : AV} (h : ns[i]? = some n) (hx : (nodA n)[k]? = some x) : (NB ns cap1)[0 + i * 8 + k]? = some x := rowsB_get (nods_eight _) (by rw [List.getElem?_map, h]; rfl) hx
theorem NB_set {ns : List Nod} {cap1 i k : Nat} {n n' : Nod} {cs : List AV} (h : ns[i]? = some n) (hs : SetAt (nodA n) k cs (nodA n')) (hne : cs ≠ []) : SetAt (NB ns cap1) (0 + i * 8 + k) cs (NB (ns.set i n') cap1) := by
  have key := rowsB_set (cap := cap1) (nods_eight ns) (by rw [List.getElem?_map, h]; rfl) hs hne
  rw [← List.map_set] at key
  exact key
theorem DB_set {f : Fls} {K : Nat} {d d' : Dvc} {j j' cap cap1 cap1' k : Nat} {cs : List AV} (hK : K < f.length) (hs : SetAt (devR d j cap1) k cs (devR d' j' cap1')) (hne : cs ≠ []) : SetAt (DB f K d j cap cap1) (0 + K * 2 + k) cs (DB f K d' j' cap cap1') := by
  have key := rowsB_set (cap := cap) (devB_two f K d j cap1) (devB_get hK) hs hne
  unfold devB at key
  rw [List.set_set] at key
  exact key
theorem DB_any (f : Fls) (K : Nat) (d d' : Dvc) (j cap cap1 : Nat) : DB (f.set K d') K d j cap cap1 = DB f K d j cap cap1 := by
  unfold DB devB
  rw [List.map_set, List.set_set]
theorem LeA.tok (sz : Nat) (rows : List (List AV)) (g : Option Nat) : LeA (.sl sz rows g) (.sl sz rows none) := fun G w v h => by
  cases g with
  | none => exact h
  | some g => simp only [rep] at h ⊢; exact h.1
section
variable {P : Program} {ev : Operand → Option AV} {h : AH} {R : AV → AH → Prop} {d : Option Tmp} {ty : TypeId} {pos : String} {af : Array Edge} {gd : Option (Nat × Bool)}
theorem st_loadBE {T : TypeId} {x : Operand} {sz i o : Nat} {row cs : List AV} [ht : Typ P T sz true] (hx : ev x = some (.bp i o)) (hb : h.bx[i]? = some row) (hr : o + sz ≤ row.length) (he : (row.drop o).take sz = cs) (hR : R (.agg cs) h) : AStep P ⟨d, .load T x, ty, pos, af, gd⟩ ev h R := by
  subst he
  exact st_loadBN hx hb (by rw [Nat.ble_eq]; exact hr) hR
end
end Go.Proofs.Ythcbdkmhamhciaa
namespace Go.Proofs.Ythcbdkmhamhciaa
open Go.RowKit

theorem entGo_at {es : List Ent} {j : Nat} {e : Ent} (h : es[j]? = some e) (name : Str) (ino : Int) (dn : Bool) : entGo name ino dn (es.drop j) = (if !dn && !strLt e.1 name then [(name, ino)] else []) ++ ((if e.1 = name then [] else [e]) ++ entGo name ino (dn || !strLt e.1 name) (es.drop (j + 1))) := by
  obtain ⟨hj, rfl⟩ := List.getElem?_eq_some_iff.1 h
  rw [List.drop_eq_getElem_cons hj]
  rfl
section
set_option maxRecDepth 10000
set_option maxHeartbeats 2000000
theorem Renter (f : Fls) (q : Nat) (d : Dvc) (n : Nod) (i : Nat) (a : Fil) (name : Str) (ino : Int) (cap cap1 : Nat) (hf : FlsB f) (hq : f[q]? = some d) (ha : a.1 = (q : Int)) (hi : indexL f a = (i : Int)) (hn : d.nodes[i]? = some n) (hcap : f.length ≤ cap) (hcap1 : d.nodes.length ≤ cap1) :
    ACall Try.prog 70 [.agg [.bs 0 0 2 f.length cap], .agg (filA a), .v (.string name), .v (.int .i64 ino)] [DB f q d 1 cap cap1, NB d.nodes cap1] (fun r b t => t = [] ∧ r = .tup [] ∧ b = [DB f q d 1 cap cap1, NB (d.nodes.set i { n with entries := entL n.entries name ino }) cap1]) := by
  have hql := (List.getElem?_eq_some_iff.1 hq).1
  have hil := (List.getElem?_eq_some_iff.1 hn).1
  have hen := hf.ents d (List.mem_of_getElem? hq) n (List.mem_of_getElem? hn)
  have hN0 : 0 + i * 8 + 8 ≤ (NB d.nodes cap1).length := by rw [NB_len hcap1]; omega
  have hD0 : (DB f q d 1 cap cap1)[0 + q * 2 + 1]? = some (.bs 1 0 8 d.nodes.length cap1) := DB_nodes hql
  have hset : SetAt (NB d.nodes cap1) (0 + i * 8 + 7) [.sl 2 ((entL n.entries name ino).map entA) none] (NB (d.nodes.set i { n with entries := entL n.entries name ino }) cap1) := NB_set hn (by repeat constructor) (by simp)
  refine enter Try.func70 rfl rfl rfl rfl rfl 2 rfl ?_
  refine w_ (b_ (h:=b_ (h:=e_ (?_))))
  refine aw_midI (fun t => t = ⟨look [(2, .v (.string name)), (3, .v (.int .i64 ino)), (4, .bp 2 0), (5, .bp 3 0), (8, .bp 4 0)], ⟨[DB f q d 1 cap cap1, NB d.nodes cap1, [.bs 0 0 2 f.length cap], filA a, nodA n], []⟩⟩) ?_ ?_
  · skip
    refine yk_ ([(0, DB f q d 1 cap cap1), (1, NB d.nodes cap1), (2, [.bs 0 0 2 f.length cap]), (3, filA a)]) 13 (h:=df_ 0 (h:=?_))
    first | refine dl_ 1 (h:=?_) | refine tk_ 1 rfl (fun _ hS => st_loadB1 (row := DB f q d 1 cap cap1) rfl (kb hS rfl) hD0 ⟨rfl, rfl⟩) ?_ | refine tk_ 1 rfl (fun _ hS => st_loadBE (row := NB d.nodes cap1) rfl (kb hS rfl) hN0 (NB_row hn) ⟨rfl, rfl⟩) ?_
    refine df_ 2 (h:=?_)
    first | refine dl_ 3 (h:=?_) | refine tk_ 3 rfl (fun _ hS => st_loadB1 (row := DB f q d 1 cap cap1) rfl (kb hS rfl) hD0 ⟨rfl, rfl⟩) ?_ | refine tk_ 3 rfl (fun _ hS => st_loadBE (row := NB d.nodes cap1) rfl (kb hS rfl) hN0 (NB_row hn) ⟨rfl, rfl⟩) ?_
    refine tk_ 4 rfl (fun _ hS => st_indexS (m := q) rfl rfl ha hql ⟨rfl, rfl⟩) ?_
    refine df_ 5 (h:=?_)
    first | refine dl_ 6 (h:=?_) | refine tk_ 6 rfl (fun _ hS => st_loadB1 (row := DB f q d 1 cap cap1) rfl (kb hS rfl) hD0 ⟨rfl, rfl⟩) ?_ | refine tk_ 6 rfl (fun _ hS => st_loadBE (row := NB d.nodes cap1) rfl (kb hS rfl) hN0 (NB_row hn) ⟨rfl, rfl⟩) ?_
    first | refine dl_ 7 (h:=?_) | refine tk_ 7 rfl (fun _ hS => st_loadB1 (row := DB f q d 1 cap cap1) rfl (kb hS rfl) hD0 ⟨rfl, rfl⟩) ?_ | refine tk_ 7 rfl (fun _ hS => st_loadBE (row := NB d.nodes cap1) rfl (kb hS rfl) hN0 (NB_row hn) ⟨rfl, rfl⟩) ?_
    first | refine dl_ 8 (h:=?_) | refine tk_ 8 rfl (fun _ hS => st_loadB1 (row := DB f q d 1 cap cap1) rfl (kb hS rfl) hD0 ⟨rfl, rfl⟩) ?_ | refine tk_ 8 rfl (fun _ hS => st_loadBE (row := NB d.nodes cap1) rfl (kb hS rfl) hN0 (NB_row hn) ⟨rfl, rfl⟩) ?_
    refine c2_ 9 12 rfl rfl ?_ ?_
    · refine s_callR 2 rfl (.cons _ _ _ _ _ rfl (LeA.of_eq (low_fls hq hcap hcap1 (Nat.zero_le _) (Nat.zero_le _) rfl rfl)) (.cons _ _ _ _ _ rfl (LeA.refl _) .nil)) (Rindex f a hf) ?_
      rintro r rfl
      refine ⟨rfl, ?_⟩
      refine o_ (h:=?_)
      refine tk_ 10 rfl (fun _ hS => st_indexS (m := i) rfl rfl hi hil ⟨rfl, rfl⟩) ?_
      first | refine dl_ 11 (h:=?_) | refine tk_ 11 rfl (fun _ hS => st_loadB1 (row := DB f q d 1 cap cap1) rfl (kb hS rfl) hD0 ⟨rfl, rfl⟩) ?_ | refine tk_ 11 rfl (fun _ hS => st_loadBE (row := NB d.nodes cap1) rfl (kb hS rfl) hN0 (NB_row hn) ⟨rfl, rfl⟩) ?_
      refine c_ 12 rfl (s_alloc (by repeat constructor) ?_)
      refine o_ (h:=?_)
      refine c0_ 13 rfl (s_store rfl rfl rfl rfl rfl rfl (by repeat constructor) (by repeat constructor) ?_)
      refine o_ (h:=z_ (h:=?_))
      refine x_then ?_
      exact ⟨_, rfl, weak_of 5 0 rfl rfl rfl (by simp [bpLtB, bpLtL, bpLt, bp_DB, bp_NB, filA, nodA]) (by repeat (first | exact Sub.nil | refine Sub.cons _ _ _ rfl rfl ?_ | refine Sub.any _ _ ?_ | refine Sub.sl _ _ _ _ _ rfl ?_ | refine Sub.slnil _ _ _ rfl ?_))⟩
    · refine s_alloc (by repeat constructor) ?_
      refine o_ (h:=?_)
      refine c_ 9 rfl (s_callR 2 rfl (.cons _ _ _ _ _ rfl (LeA.of_eq (low_fls hq hcap hcap1 (Nat.zero_le _) (Nat.zero_le _) rfl rfl)) (.cons _ _ _ _ _ rfl (LeA.refl _) .nil)) (Rindex f a hf) ?_)
      rintro r rfl
      refine ⟨rfl, ?_⟩
      refine o_ (h:=?_)
      refine tk_ 10 rfl (fun _ hS => st_indexS (m := i) rfl rfl hi hil ⟨rfl, rfl⟩) ?_
      first | refine dl_ 11 (h:=?_) | refine tk_ 11 rfl (fun _ hS => st_loadB1 (row := DB f q d 1 cap cap1) rfl (kb hS rfl) hD0 ⟨rfl, rfl⟩) ?_ | refine tk_ 11 rfl (fun _ hS => st_loadBE (row := NB d.nodes cap1) rfl (kb hS rfl) hN0 (NB_row hn) ⟨rfl, rfl⟩) ?_
      refine c0_ 13 rfl (s_store rfl rfl rfl rfl rfl rfl (by repeat constructor) (by repeat constructor) ?_)
      refine o_ (h:=z_ (h:=?_))
      refine x_then ?_
      exact ⟨_, rfl, weak_of 5 0 rfl rfl rfl (by simp [bpLtB, bpLtL, bpLt, bp_DB, bp_NB, filA, nodA]) (by repeat (first | exact Sub.nil | refine Sub.cons _ _ _ rfl rfl ?_ | refine Sub.any _ _ ?_ | refine Sub.sl _ _ _ _ _ rfl ?_ | refine Sub.slnil _ _ _ rfl ?_))⟩
  · rintro t rfl
    refine w_ (a_ (h:=e_ (w_ (m_ (h:=eq_ (h:=a_ (h:=e_ (q_ (w_ (a_ (h:=e_ (aw_block (?_)))))))))))))
    refine aw_nilTok 9 101 2 rfl (by repeat constructor) ?_
    refine aw_loopW (fun m t => ∃ (j : Nat) (acc : List Ent) (dn : Bool), j ≤ n.entries.length ∧ m = n.entries.length - j ∧ acc ++ entGo name ino dn (n.entries.drop j) = entL n.entries name ino ∧ acc.length ≤ 2 * j ∧ t = ⟨look [(2, .v (.string name)), (3, .v (.int .i64 ino)), (4, .bp 2 0), (5, .bp 3 0), (8, .bp 4 0), (9, .sl 2 (acc.map entA) (some 0)), (10, .v (.bool dn)), (11, .v (.int .i64 (j : Int)))], ⟨[DB f q d 1 cap cap1, NB d.nodes cap1, [.bs 0 0 2 f.length cap], filA a, nodA n], [(101, 2, acc.map entA)]⟩⟩) (n.entries.length) (weak_of 5 1 rfl rfl rfl (by simp [bpLtB, bpLtL, bpLt, bp_DB, bp_NB, filA, nodA]) (by repeat (first | exact Sub.nil | refine Sub.cons _ _ _ rfl rfl ?_ | refine Sub.any _ _ ?_ | refine Sub.sl _ _ _ _ _ rfl ?_ | refine Sub.slnil _ _ _ rfl ?_))) (⟨0, [], _, Nat.zero_le _, rfl, rfl, by simp, rfl⟩) ?_
    rintro m t ⟨j, acc, dn, hj, rfl, hacc, hal, rfl⟩
    refine q_ (w_ (m_ (h:=f_ (h:=l_ (h:=n_ (h:=lt_ (h:=e_ (?_))))))))
    refine aw_cond rfl (fun hb1 => ?_) (fun hb1 => ?_)
    · have hc1 := bp hb1
      obtain ⟨hlt, e, hy, hrow, -⟩ := row_at entA hc1
      refine kt_ (q_ (aw_block (q_ (w_ (m_ (h:=nt_ (h:=m_ (h:=?_))))))))
      refine al_gs true rfl rfl (fun hb2 => ?_) (fun hb2 => ?_)
      · have hc2 := bp hb2
        have hdn := hc2
        refine f_ (h:=l_ (h:=m_ (h:=i_ (h:=f_ (h:=l_ (h:=m_ (h:=ge_ (h:=pt_ (h:=e_ (?_))))))))))
        refine aw_cond rfl (fun hb3 => ?_) (fun hb3 => ?_)
        · have hc3 := bp hb3
          have hsl : strLt e.1 name = false := hc3
          refine w_ (m_ (h:=m_ (h:=m_ (h:=bd_ (h:=bs_ (h:=ap_ (h:=a_ (h:=e_ (aw_region (a_ (h:=e_ (w_ (f_ (h:=l_ (h:=m_ (h:=i_ (h:=f_ (h:=l_ (h:=m_ (h:=nq_ (h:=e_ (?_))))))))))))))))))))))
          refine aw_cond rfl (fun hb4 => ?_) (fun hb4 => ?_)
          · have hc4 := bp hb4
            have hnm : ¬ e.1 = name := hc4
            refine aw_region (m_ (h:=f_ (h:=l_ (h:=m_ (h:=i_ (h:=l_ (h:=bs_ (h:=ap_ (h:=a_ (h:=al_nil (x_blockN (t_ (aw_region (m_ (h:=ad_ (h:=a_ (h:=al_nil (?_))))))))))))))))))
            refine x_then ?_
            first | (exact ⟨n.entries.length - (j + 1), _, by omega, ⟨j + 1, acc ++ [(name, ino)] ++ [e], true, by omega, rfl, (by rw [← hacc, entGo_at hy]; first | (simp only [hsl, hdn]; simp [hnm]; done) | (simp only [hdn]; simp [hnm]; done)), (by (try simp); omega), rfl⟩, (by (try simp only [List.map_append, List.map_cons, List.map_nil]); exact weak_of 5 1 rfl rfl rfl (by simp [bpLtB, bpLtL, bpLt, bp_DB, bp_NB, filA, nodA]) ((by repeat (first | exact Sub.nil | refine Sub.cons _ _ _ rfl rfl ?_ | refine Sub.any _ _ ?_ | refine Sub.sl _ _ _ _ _ rfl ?_ | refine Sub.slnil _ _ _ rfl ?_))))⟩) | (exact ⟨n.entries.length - (j + 1), _, by omega, ⟨j + 1, acc ++ [(name, ino)], true, by omega, rfl, (by rw [← hacc, entGo_at hy]; first | (simp only [hsl, hdn]; simp [hnm]; done) | (simp only [hdn]; simp [hnm]; done)), (by (try simp); omega), rfl⟩, (by (try simp only [List.map_append, List.map_cons, List.map_nil]); exact weak_of 5 1 rfl rfl rfl (by simp [bpLtB, bpLtL, bpLt, bp_DB, bp_NB, filA, nodA]) ((by repeat (first | exact Sub.nil | refine Sub.cons _ _ _ rfl rfl ?_ | refine Sub.any _ _ ?_ | refine Sub.sl _ _ _ _ _ rfl ?_ | refine Sub.slnil _ _ _ rfl ?_))))⟩) | (exact ⟨n.entries.length - (j + 1), _, by omega, ⟨j + 1, acc ++ [e], dn, by omega, rfl, (by rw [← hacc, entGo_at hy]; first | (simp only [hsl, hdn]; simp [hnm]; done) | (simp only [hdn]; simp [hnm]; done)), (by (try simp); omega), rfl⟩, (by (try simp only [List.map_append, List.map_cons, List.map_nil]); exact weak_of 5 1 rfl rfl rfl (by simp [bpLtB, bpLtL, bpLt, bp_DB, bp_NB, filA, nodA]) ((by repeat (first | exact Sub.nil | refine Sub.cons _ _ _ rfl rfl ?_ | refine Sub.any _ _ ?_ | refine Sub.sl _ _ _ _ _ rfl ?_ | refine Sub.slnil _ _ _ rfl ?_))))⟩) | (exact ⟨n.entries.length - (j + 1), _, by omega, ⟨j + 1, acc, dn, by omega, rfl, (by rw [← hacc, entGo_at hy]; first | (simp only [hsl, hdn]; simp [hnm]; done) | (simp only [hdn]; simp [hnm]; done)), (by (try simp); omega), rfl⟩, (by (try simp only [List.map_append, List.map_cons, List.map_nil]); exact weak_of 5 1 rfl rfl rfl (by simp [bpLtB, bpLtL, bpLt, bp_DB, bp_NB, filA, nodA]) ((by repeat (first | exact Sub.nil | refine Sub.cons _ _ _ rfl rfl ?_ | refine Sub.any _ _ ?_ | refine Sub.sl _ _ _ _ _ rfl ?_ | refine Sub.slnil _ _ _ rfl ?_))))⟩)
          · have hc4 := bp hb4
            have hnm : e.1 = name := hc4
            refine aw_skip (x_blockN (t_ (aw_region (m_ (h:=ad_ (h:=a_ (h:=al_nil (?_))))))))
            refine x_then ?_
            first | (exact ⟨n.entries.length - (j + 1), _, by omega, ⟨j + 1, acc ++ [(name, ino)] ++ [e], true, by omega, rfl, (by rw [← hacc, entGo_at hy]; first | (simp only [hsl, hdn]; simp [hnm]; done) | (simp only [hdn]; simp [hnm]; done)), (by (try simp); omega), rfl⟩, (by (try simp only [List.map_append, List.map_cons, List.map_nil]); exact weak_of 5 1 rfl rfl rfl (by simp [bpLtB, bpLtL, bpLt, bp_DB, bp_NB, filA, nodA]) ((by repeat (first | exact Sub.nil | refine Sub.cons _ _ _ rfl rfl ?_ | refine Sub.any _ _ ?_ | refine Sub.sl _ _ _ _ _ rfl ?_ | refine Sub.slnil _ _ _ rfl ?_))))⟩) | (exact ⟨n.entries.length - (j + 1), _, by omega, ⟨j + 1, acc ++ [(name, ino)], true, by omega, rfl, (by rw [← hacc, entGo_at hy]; first | (simp only [hsl, hdn]; simp [hnm]; done) | (simp only [hdn]; simp [hnm]; done)), (by (try simp); omega), rfl⟩, (by (try simp only [List.map_append, List.map_cons, List.map_nil]); exact weak_of 5 1 rfl rfl rfl (by simp [bpLtB, bpLtL, bpLt, bp_DB, bp_NB, filA, nodA]) ((by repeat (first | exact Sub.nil | refine Sub.cons _ _ _ rfl rfl ?_ | refine Sub.any _ _ ?_ | refine Sub.sl _ _ _ _ _ rfl ?_ | refine Sub.slnil _ _ _ rfl ?_))))⟩) | (exact ⟨n.entries.length - (j + 1), _, by omega, ⟨j + 1, acc ++ [e], dn, by omega, rfl, (by rw [← hacc, entGo_at hy]; first | (simp only [hsl, hdn]; simp [hnm]; done) | (simp only [hdn]; simp [hnm]; done)), (by (try simp); omega), rfl⟩, (by (try simp only [List.map_append, List.map_cons, List.map_nil]); exact weak_of 5 1 rfl rfl rfl (by simp [bpLtB, bpLtL, bpLt, bp_DB, bp_NB, filA, nodA]) ((by repeat (first | exact Sub.nil | refine Sub.cons _ _ _ rfl rfl ?_ | refine Sub.any _ _ ?_ | refine Sub.sl _ _ _ _ _ rfl ?_ | refine Sub.slnil _ _ _ rfl ?_))))⟩) | (exact ⟨n.entries.length - (j + 1), _, by omega, ⟨j + 1, acc, dn, by omega, rfl, (by rw [← hacc, entGo_at hy]; first | (simp only [hsl, hdn]; simp [hnm]; done) | (simp only [hdn]; simp [hnm]; done)), (by (try simp); omega), rfl⟩, (by (try simp only [List.map_append, List.map_cons, List.map_nil]); exact weak_of 5 1 rfl rfl rfl (by simp [bpLtB, bpLtL, bpLt, bp_DB, bp_NB, filA, nodA]) ((by repeat (first | exact Sub.nil | refine Sub.cons _ _ _ rfl rfl ?_ | refine Sub.any _ _ ?_ | refine Sub.sl _ _ _ _ _ rfl ?_ | refine Sub.slnil _ _ _ rfl ?_))))⟩)
        · have hc3 := bp hb3
          have hsl : strLt e.1 name = true := hc3
          refine kt_ (w_ (f_ (h:=l_ (h:=m_ (h:=i_ (h:=f_ (h:=l_ (h:=m_ (h:=nq_ (h:=e_ (?_)))))))))))
          refine aw_cond rfl (fun hb5 => ?_) (fun hb5 => ?_)
          · have hc5 := bp hb5
            have hnm : ¬ e.1 = name := hc5
            refine aw_region (m_ (h:=f_ (h:=l_ (h:=m_ (h:=i_ (h:=l_ (h:=bs_ (h:=ap_ (h:=a_ (h:=al_nil (x_blockN (t_ (aw_region (m_ (h:=ad_ (h:=a_ (h:=al_nil (?_))))))))))))))))))
            refine x_then ?_
            first | (exact ⟨n.entries.length - (j + 1), _, by omega, ⟨j + 1, acc ++ [(name, ino)] ++ [e], true, by omega, rfl, (by rw [← hacc, entGo_at hy]; first | (simp only [hsl, hdn]; simp [hnm]; done) | (simp only [hdn]; simp [hnm]; done)), (by (try simp); omega), rfl⟩, (by (try simp only [List.map_append, List.map_cons, List.map_nil]); exact weak_of 5 1 rfl rfl rfl (by simp [bpLtB, bpLtL, bpLt, bp_DB, bp_NB, filA, nodA]) ((by repeat (first | exact Sub.nil | refine Sub.cons _ _ _ rfl rfl ?_ | refine Sub.any _ _ ?_ | refine Sub.sl _ _ _ _ _ rfl ?_ | refine Sub.slnil _ _ _ rfl ?_))))⟩) | (exact ⟨n.entries.length - (j + 1), _, by omega, ⟨j + 1, acc ++ [(name, ino)], true, by omega, rfl, (by rw [← hacc, entGo_at hy]; first | (simp only [hsl, hdn]; simp [hnm]; done) | (simp only [hdn]; simp [hnm]; done)), (by (try simp); omega), rfl⟩, (by (try simp only [List.map_append, List.map_cons, List.map_nil]); exact weak_of 5 1 rfl rfl rfl (by simp [bpLtB, bpLtL, bpLt, bp_DB, bp_NB, filA, nodA]) ((by repeat (first | exact Sub.nil | refine Sub.cons _ _ _ rfl rfl ?_ | refine Sub.any _ _ ?_ | refine Sub.sl _ _ _ _ _ rfl ?_ | refine Sub.slnil _ _ _ rfl ?_))))⟩) | (exact ⟨n.entries.length - (j + 1), _, by omega, ⟨j + 1, acc ++ [e], dn, by omega, rfl, (by rw [← hacc, entGo_at hy]; first | (simp only [hsl, hdn]; simp [hnm]; done) | (simp only [hdn]; simp [hnm]; done)), (by (try simp); omega), rfl⟩, (by (try simp only [List.map_append, List.map_cons, List.map_nil]); exact weak_of 5 1 rfl rfl rfl (by simp [bpLtB, bpLtL, bpLt, bp_DB, bp_NB, filA, nodA]) ((by repeat (first | exact Sub.nil | refine Sub.cons _ _ _ rfl rfl ?_ | refine Sub.any _ _ ?_ | refine Sub.sl _ _ _ _ _ rfl ?_ | refine Sub.slnil _ _ _ rfl ?_))))⟩) | (exact ⟨n.entries.length - (j + 1), _, by omega, ⟨j + 1, acc, dn, by omega, rfl, (by rw [← hacc, entGo_at hy]; first | (simp only [hsl, hdn]; simp [hnm]; done) | (simp only [hdn]; simp [hnm]; done)), (by (try simp); omega), rfl⟩, (by (try simp only [List.map_append, List.map_cons, List.map_nil]); exact weak_of 5 1 rfl rfl rfl (by simp [bpLtB, bpLtL, bpLt, bp_DB, bp_NB, filA, nodA]) ((by repeat (first | exact Sub.nil | refine Sub.cons _ _ _ rfl rfl ?_ | refine Sub.any _ _ ?_ | refine Sub.sl _ _ _ _ _ rfl ?_ | refine Sub.slnil _ _ _ rfl ?_))))⟩)
          · have hc5 := bp hb5
            have hnm : e.1 = name := hc5
            refine aw_skip (x_blockN (t_ (aw_region (m_ (h:=ad_ (h:=a_ (h:=al_nil (?_))))))))
            refine x_then ?_
            first | (exact ⟨n.entries.length - (j + 1), _, by omega, ⟨j + 1, acc ++ [(name, ino)] ++ [e], true, by omega, rfl, (by rw [← hacc, entGo_at hy]; first | (simp only [hsl, hdn]; simp [hnm]; done) | (simp only [hdn]; simp [hnm]; done)), (by (try simp); omega), rfl⟩, (by (try simp only [List.map_append, List.map_cons, List.map_nil]); exact weak_of 5 1 rfl rfl rfl (by simp [bpLtB, bpLtL, bpLt, bp_DB, bp_NB, filA, nodA]) ((by repeat (first | exact Sub.nil | refine Sub.cons _ _ _ rfl rfl ?_ | refine Sub.any _ _ ?_ | refine Sub.sl _ _ _ _ _ rfl ?_ | refine Sub.slnil _ _ _ rfl ?_))))⟩) | (exact ⟨n.entries.length - (j + 1), _, by omega, ⟨j + 1, acc ++ [(name, ino)], true, by omega, rfl, (by rw [← hacc, entGo_at hy]; first | (simp only [hsl, hdn]; simp [hnm]; done) | (simp only [hdn]; simp [hnm]; done)), (by (try simp); omega), rfl⟩, (by (try simp only [List.map_append, List.map_cons, List.map_nil]); exact weak_of 5 1 rfl rfl rfl (by simp [bpLtB, bpLtL, bpLt, bp_DB, bp_NB, filA, nodA]) ((by repeat (first | exact Sub.nil | refine Sub.cons _ _ _ rfl rfl ?_ | refine Sub.any _ _ ?_ | refine Sub.sl _ _ _ _ _ rfl ?_ | refine Sub.slnil _ _ _ rfl ?_))))⟩) | (exact ⟨n.entries.length - (j + 1), _, by omega, ⟨j + 1, acc ++ [e], dn, by omega, rfl, (by rw [← hacc, entGo_at hy]; first | (simp only [hsl, hdn]; simp [hnm]; done) | (simp only [hdn]; simp [hnm]; done)), (by (try simp); omega), rfl⟩, (by (try simp only [List.map_append, List.map_cons, List.map_nil]); exact weak_of 5 1 rfl rfl rfl (by simp [bpLtB, bpLtL, bpLt, bp_DB, bp_NB, filA, nodA]) ((by repeat (first | exact Sub.nil | refine Sub.cons _ _ _ rfl rfl ?_ | refine Sub.any _ _ ?_ | refine Sub.sl _ _ _ _ _ rfl ?_ | refine Sub.slnil _ _ _ rfl ?_))))⟩) | (exact ⟨n.entries.length - (j + 1), _, by omega, ⟨j + 1, acc, dn, by omega, rfl, (by rw [← hacc, entGo_at hy]; first | (simp only [hsl, hdn]; simp [hnm]; done) | (simp only [hdn]; simp [hnm]; done)), (by (try simp); omega), rfl⟩, (by (try simp only [List.map_append, List.map_cons, List.map_nil]); exact weak_of 5 1 rfl rfl rfl (by simp [bpLtB, bpLtL, bpLt, bp_DB, bp_NB, filA, nodA]) ((by repeat (first | exact Sub.nil | refine Sub.cons _ _ _ rfl rfl ?_ | refine Sub.any _ _ ?_ | refine Sub.sl _ _ _ _ _ rfl ?_ | refine Sub.slnil _ _ _ rfl ?_))))⟩)
      · have hc2 := bp hb2
        have hdn := hc2
        refine g0_ (h:=g0_ (h:=g0_ (h:=g0_ (h:=g0_ (h:=g0_ (h:=g0_ (h:=g0_ (h:=pf_ (h:=e_ (cn_ (h:=kt_ (w_ (f_ (h:=l_ (h:=m_ (h:=i_ (h:=f_ (h:=l_ (h:=m_ (h:=nq_ (h:=e_ (?_))))))))))))))))))))))
        refine aw_cond rfl (fun hb6 => ?_) (fun hb6 => ?_)
        · have hc6 := bp hb6
          have hnm : ¬ e.1 = name := hc6
          refine aw_region (m_ (h:=f_ (h:=l_ (h:=m_ (h:=i_ (h:=l_ (h:=bs_ (h:=ap_ (h:=a_ (h:=al_nil (x_blockN (t_ (aw_region (m_ (h:=ad_ (h:=a_ (h:=al_nil (?_))))))))))))))))))
          refine x_then ?_
          first | (exact ⟨n.entries.length - (j + 1), _, by omega, ⟨j + 1, acc ++ [(name, ino)] ++ [e], true, by omega, rfl, (by rw [← hacc, entGo_at hy]; first | (simp only [hsl, hdn]; simp [hnm]; done) | (simp only [hdn]; simp [hnm]; done)), (by (try simp); omega), rfl⟩, (by (try simp only [List.map_append, List.map_cons, List.map_nil]); exact weak_of 5 1 rfl rfl rfl (by simp [bpLtB, bpLtL, bpLt, bp_DB, bp_NB, filA, nodA]) ((by repeat (first | exact Sub.nil | refine Sub.cons _ _ _ rfl rfl ?_ | refine Sub.any _ _ ?_ | refine Sub.sl _ _ _ _ _ rfl ?_ | refine Sub.slnil _ _ _ rfl ?_))))⟩) | (exact ⟨n.entries.length - (j + 1), _, by omega, ⟨j + 1, acc ++ [(name, ino)], true, by omega, rfl, (by rw [← hacc, entGo_at hy]; first | (simp only [hsl, hdn]; simp [hnm]; done) | (simp only [hdn]; simp [hnm]; done)), (by (try simp); omega), rfl⟩, (by (try simp only [List.map_append, List.map_cons, List.map_nil]); exact weak_of 5 1 rfl rfl rfl (by simp [bpLtB, bpLtL, bpLt, bp_DB, bp_NB, filA, nodA]) ((by repeat (first | exact Sub.nil | refine Sub.cons _ _ _ rfl rfl ?_ | refine Sub.any _ _ ?_ | refine Sub.sl _ _ _ _ _ rfl ?_ | refine Sub.slnil _ _ _ rfl ?_))))⟩) | (exact ⟨n.entries.length - (j + 1), _, by omega, ⟨j + 1, acc ++ [e], dn, by omega, rfl, (by rw [← hacc, entGo_at hy]; first | (simp only [hsl, hdn]; simp [hnm]; done) | (simp only [hdn]; simp [hnm]; done)), (by (try simp); omega), rfl⟩, (by (try simp only [List.map_append, List.map_cons, List.map_nil]); exact weak_of 5 1 rfl rfl rfl (by simp [bpLtB, bpLtL, bpLt, bp_DB, bp_NB, filA, nodA]) ((by repeat (first | exact Sub.nil | refine Sub.cons _ _ _ rfl rfl ?_ | refine Sub.any _ _ ?_ | refine Sub.sl _ _ _ _ _ rfl ?_ | refine Sub.slnil _ _ _ rfl ?_))))⟩) | (exact ⟨n.entries.length - (j + 1), _, by omega, ⟨j + 1, acc, dn, by omega, rfl, (by rw [← hacc, entGo_at hy]; first | (simp only [hsl, hdn]; simp [hnm]; done) | (simp only [hdn]; simp [hnm]; done)), (by (try simp); omega), rfl⟩, (by (try simp only [List.map_append, List.map_cons, List.map_nil]); exact weak_of 5 1 rfl rfl rfl (by simp [bpLtB, bpLtL, bpLt, bp_DB, bp_NB, filA, nodA]) ((by repeat (first | exact Sub.nil | refine Sub.cons _ _ _ rfl rfl ?_ | refine Sub.any _ _ ?_ | refine Sub.sl _ _ _ _ _ rfl ?_ | refine Sub.slnil _ _ _ rfl ?_))))⟩)
        · have hc6 := bp hb6
          have hnm : e.1 = name := hc6
          refine aw_skip (x_blockN (t_ (aw_region (m_ (h:=ad_ (h:=a_ (h:=al_nil (?_))))))))
          refine x_then ?_
          first | (exact ⟨n.entries.length - (j + 1), _, by omega, ⟨j + 1, acc ++ [(name, ino)] ++ [e], true, by omega, rfl, (by rw [← hacc, entGo_at hy]; first | (simp only [hsl, hdn]; simp [hnm]; done) | (simp only [hdn]; simp [hnm]; done)), (by (try simp); omega), rfl⟩, (by (try simp only [List.map_append, List.map_cons, List.map_nil]); exact weak_of 5 1 rfl rfl rfl (by simp [bpLtB, bpLtL, bpLt, bp_DB, bp_NB, filA, nodA]) ((by repeat (first | exact Sub.nil | refine Sub.cons _ _ _ rfl rfl ?_ | refine Sub.any _ _ ?_ | refine Sub.sl _ _ _ _ _ rfl ?_ | refine Sub.slnil _ _ _ rfl ?_))))⟩) | (exact ⟨n.entries.length - (j + 1), _, by omega, ⟨j + 1, acc ++ [(name, ino)], true, by omega, rfl, (by rw [← hacc, entGo_at hy]; first | (simp only [hsl, hdn]; simp [hnm]; done) | (simp only [hdn]; simp [hnm]; done)), (by (try simp); omega), rfl⟩, (by (try simp only [List.map_append, List.map_cons, List.map_nil]); exact weak_of 5 1 rfl rfl rfl (by simp [bpLtB, bpLtL, bpLt, bp_DB, bp_NB, filA, nodA]) ((by repeat (first | exact Sub.nil | refine Sub.cons _ _ _ rfl rfl ?_ | refine Sub.any _ _ ?_ | refine Sub.sl _ _ _ _ _ rfl ?_ | refine Sub.slnil _ _ _ rfl ?_))))⟩) | (exact ⟨n.entries.length - (j + 1), _, by omega, ⟨j + 1, acc ++ [e], dn, by omega, rfl, (by rw [← hacc, entGo_at hy]; first | (simp only [hsl, hdn]; simp [hnm]; done) | (simp only [hdn]; simp [hnm]; done)), (by (try simp); omega), rfl⟩, (by (try simp only [List.map_append, List.map_cons, List.map_nil]); exact weak_of 5 1 rfl rfl rfl (by simp [bpLtB, bpLtL, bpLt, bp_DB, bp_NB, filA, nodA]) ((by repeat (first | exact Sub.nil | refine Sub.cons _ _ _ rfl rfl ?_ | refine Sub.any _ _ ?_ | refine Sub.sl _ _ _ _ _ rfl ?_ | refine Sub.slnil _ _ _ rfl ?_))))⟩) | (exact ⟨n.entries.length - (j + 1), _, by omega, ⟨j + 1, acc, dn, by omega, rfl, (by rw [← hacc, entGo_at hy]; first | (simp only [hsl, hdn]; simp [hnm]; done) | (simp only [hdn]; simp [hnm]; done)), (by (try simp); omega), rfl⟩, (by (try simp only [List.map_append, List.map_cons, List.map_nil]); exact weak_of 5 1 rfl rfl rfl (by simp [bpLtB, bpLtL, bpLt, bp_DB, bp_NB, filA, nodA]) ((by repeat (first | exact Sub.nil | refine Sub.cons _ _ _ rfl rfl ?_ | refine Sub.any _ _ ?_ | refine Sub.sl _ _ _ _ _ rfl ?_ | refine Sub.slnil _ _ _ rfl ?_))))⟩)
    · have hc1 := bp hb1
      have e := row_no entA hj hc1
      subst e
      rw [List.drop_length] at hacc
      refine aw_exit (x_thenE (x_thenE (ABlock_out (t_ (q_ (w_ (m_ (h:=nt_ (h:=e_ (?_))))))))))
      refine aw_cond rfl (fun hb7 => ?_) (fun hb7 => ?_)
      · have hc7 := bp hb7
        have hdn : dn = false := hc7
        have ea : acc ++ [(name, ino)] = entL n.entries name ino := by rw [← hacc, hdn]; rfl
        refine aw_region (m_ (h:=m_ (h:=m_ (h:=bd_ (h:=bs_ (h:=ap_ (h:=a_ (h:=e_ (yk_ ([(0, DB f q d 1 cap cap1), (2, [.bs 0 0 2 f.length cap]), (3, filA a), (4, nodA n)]) 14 (h:=df_ 0 (h:=?_)))))))))))
        first | refine dl_ 1 (h:=?_) | refine tk_ 1 rfl (fun _ hS => st_loadB1 (row := DB f q d 1 cap cap1) rfl (kb hS rfl) hD0 ⟨rfl, rfl⟩) ?_
        refine df_ 2 (h:=?_)
        first | refine dl_ 3 (h:=?_) | refine tk_ 3 rfl (fun _ hS => st_loadB1 (row := DB f q d 1 cap cap1) rfl (kb hS rfl) hD0 ⟨rfl, rfl⟩) ?_
        refine tk_ 4 rfl (fun _ hS => st_indexS (m := q) rfl rfl ha hql ⟨rfl, rfl⟩) ?_
        refine df_ 5 (h:=?_)
        first | refine dl_ 6 (h:=?_) | refine tk_ 6 rfl (fun _ hS => st_loadB1 (row := DB f q d 1 cap cap1) rfl (kb hS rfl) hD0 ⟨rfl, rfl⟩) ?_
        first | refine dl_ 7 (h:=?_) | refine tk_ 7 rfl (fun _ hS => st_loadB1 (row := DB f q d 1 cap cap1) rfl (kb hS rfl) hD0 ⟨rfl, rfl⟩) ?_
        first | refine dl_ 8 (h:=?_) | refine tk_ 8 rfl (fun _ hS => st_loadB1 (row := DB f q d 1 cap cap1) rfl (kb hS rfl) hD0 ⟨rfl, rfl⟩) ?_
        refine tk_ 10 rfl (fun _ hS => st_le (y := .sl 2 ((entL n.entries name ino).map entA) none) (st_move rfl ⟨rfl, rfl⟩) (by rw [← ea]; (try simp only [List.map_append, List.map_cons, List.map_nil]); exact LeA.tok _ _ _) ⟨rfl, rfl⟩) ?_
        refine c_ 9 rfl (s_callR 2 rfl (.cons _ _ _ _ _ rfl (LeA.of_eq (low_fls hq hcap hcap1 (Nat.zero_le _) (Nat.zero_le _) rfl rfl)) (.cons _ _ _ _ _ rfl (LeA.refl _) .nil)) (Rindex f a hf) ?_)
        rintro r rfl
        refine ⟨rfl, ?_⟩
        refine o_ (h:=?_)
        refine tk_ 11 rfl (fun _ hS => st_indexS (m := i) rfl rfl hi hil ⟨rfl, rfl⟩) ?_
        refine df_ 12 (h:=?_)
        refine c0_ 13 rfl (s_store rfl rfl rfl rfl rfl rfl hset (by repeat constructor) ?_)
        refine o_ (h:=z_ (h:=?_))
        refine abody_end (r := .tup []) none (by repeat (first | exact ResA.nil | (apply ResA.tmp; (focus exact rfl)) | (apply ResA.cellN; (focus exact inferInstance); (focus exact rfl); (focus exact rfl); (focus exact rfl)) | (apply ResA.cell1; (focus exact inferInstance); (focus exact rfl); (focus exact rfl); (focus exact rfl)))) rfl rfl (by simp [bpLtB, bp_DB, bp_NB]) (LeA.refl _) ⟨rfl, rfl, rfl⟩
      · have hc7 := bp hb7
        have hdn : dn = true := hc7
        have ea : acc = entL n.entries name ino := by rw [← hacc, hdn]; simp [entGo]
        refine kt_ (yk_ ([(0, DB f q d 1 cap cap1), (2, [.bs 0 0 2 f.length cap]), (3, filA a), (4, nodA n)]) 14 (h:=df_ 0 (h:=?_)))
        first | refine dl_ 1 (h:=?_) | refine tk_ 1 rfl (fun _ hS => st_loadB1 (row := DB f q d 1 cap cap1) rfl (kb hS rfl) hD0 ⟨rfl, rfl⟩) ?_
        refine df_ 2 (h:=?_)
        first | refine dl_ 3 (h:=?_) | refine tk_ 3 rfl (fun _ hS => st_loadB1 (row := DB f q d 1 cap cap1) rfl (kb hS rfl) hD0 ⟨rfl, rfl⟩) ?_
        refine tk_ 4 rfl (fun _ hS => st_indexS (m := q) rfl rfl ha hql ⟨rfl, rfl⟩) ?_
        refine df_ 5 (h:=?_)
        first | refine dl_ 6 (h:=?_) | refine tk_ 6 rfl (fun _ hS => st_loadB1 (row := DB f q d 1 cap cap1) rfl (kb hS rfl) hD0 ⟨rfl, rfl⟩) ?_
        first | refine dl_ 7 (h:=?_) | refine tk_ 7 rfl (fun _ hS => st_loadB1 (row := DB f q d 1 cap cap1) rfl (kb hS rfl) hD0 ⟨rfl, rfl⟩) ?_
        first | refine dl_ 8 (h:=?_) | refine tk_ 8 rfl (fun _ hS => st_loadB1 (row := DB f q d 1 cap cap1) rfl (kb hS rfl) hD0 ⟨rfl, rfl⟩) ?_
        refine tk_ 10 rfl (fun _ hS => st_le (y := .sl 2 ((entL n.entries name ino).map entA) none) (st_move rfl ⟨rfl, rfl⟩) (by rw [← ea]; (try simp only [List.map_append, List.map_cons, List.map_nil]); exact LeA.tok _ _ _) ⟨rfl, rfl⟩) ?_
        refine c_ 9 rfl (s_callR 2 rfl (.cons _ _ _ _ _ rfl (LeA.of_eq (low_fls hq hcap hcap1 (Nat.zero_le _) (Nat.zero_le _) rfl rfl)) (.cons _ _ _ _ _ rfl (LeA.refl _) .nil)) (Rindex f a hf) ?_)
        rintro r rfl
        refine ⟨rfl, ?_⟩
        refine o_ (h:=?_)
        refine tk_ 11 rfl (fun _ hS => st_indexS (m := i) rfl rfl hi hil ⟨rfl, rfl⟩) ?_
        refine df_ 12 (h:=?_)
        refine c0_ 13 rfl (s_store rfl rfl rfl rfl rfl rfl hset (by repeat constructor) ?_)
        refine o_ (h:=z_ (h:=?_))
        refine abody_end (r := .tup []) none (by repeat (first | exact ResA.nil | (apply ResA.tmp; (focus exact rfl)) | (apply ResA.cellN; (focus exact inferInstance); (focus exact rfl); (focus exact rfl); (focus exact rfl)) | (apply ResA.cell1; (focus exact inferInstance); (focus exact rfl); (focus exact rfl); (focus exact rfl)))) rfl rfl (by simp [bpLtB, bp_DB, bp_NB]) (LeA.refl _) ⟨rfl, rfl, rfl⟩

end
end Go.Proofs.Ythcbdkmhamhciaa
namespace Go.Proofs.Ythcbdkmhamhciaa
open Go.RowKit

theorem src1 {h : AH} {sz : Nat} {r : List AV} {tok : Option Nat} : SrcA h sz (.sl sz [r] tok) 1 r := by
  have := SrcA.sl (h := h) (sz := sz) [r] tok
  simpa using this
theorem NB_first (n : Nod) (cap : Nat) : nodA n ++ List.replicate ((cap - 1) * 8) .any = NB [n] cap := by
  unfold NB rowsB
  simp
theorem NB_new (acc : List Nod) (n : Nod) (cap0 cap : Nat) : ((NB acc cap0).drop 0).take (acc.length * 8) ++ nodA n ++ List.replicate ((cap - (acc.length + 1)) * 8) .any = NB (acc ++ [n]) cap := by
  unfold NB
  rw [rowsB_new (nods_eight acc) (by simp), List.map_append]
  rfl
theorem NB_push {acc : List Nod} {n : Nod} {cap : Nat} {row : List AV} (hs : SetAt (NB acc cap) (0 + acc.length * 8) (nodA n) row) (hc : acc.length + 1 ≤ cap) : row = NB (acc ++ [n]) cap := by
  have key := rowsB_push (rows := acc.map nodA) (sz := 8) (cap := cap) (r := nodA n) (row' := row) (nods_eight acc) rfl (by omega) (by simpa using hc) (by rw [List.length_map]; exact hs)
  rw [key]
  unfold NB
  rw [List.map_append]
  rfl
theorem ni2 {is : List Nat} : ∀ i, i < 2 → (0 :: 1 :: is)[i]? = some i := by
  intro i hi
  match i, hi with
  | 0, _ => rfl
  | 1, _ => rfl
theorem keep_at {ns : List Nod} {j : Nat} {n : Nod} (h : ns[j]? = some n) (ino : Int) : keepNot ino (ns.take (j + 1)) = keepNot ino (ns.take j) ++ (if n.ino = ino then [] else [n]) := by
  unfold keepNot
  rw [List.take_add_one, h, List.filter_append]
  by_cases e : n.ino = ino <;> simp [e]
section
set_option maxRecDepth 10000
set_option maxHeartbeats 2000000
theorem Rdrop (f : Fls) (q : Nat) (d : Dvc) (a : Fil) (cap cap1 : Nat) (hf : FlsB f) (hq : f[q]? = some d) (ha : a.1 = (q : Int)) (hcap : f.length ≤ cap) (hcap1 : d.nodes.length ≤ cap1) (hne : 0 < (keepNot a.2 d.nodes).length) :
    ACall Try.prog 83 [.agg [.bs 0 0 2 f.length cap], .agg (filA a)] [DB f q d 1 cap cap1, NB d.nodes cap1] (fun r b t => t = [] ∧ r = .tup [] ∧ ((0 < linksF f a ∧ b = [DB f q d 1 cap cap1, NB d.nodes cap1, [.bs 0 0 2 f.length cap], filA a]) ∨ (linksF f a = 0 ∧ ∃ cap2, (keepNot a.2 d.nodes).length ≤ cap2 ∧ b = [DB f q { d with nodes := keepNot a.2 d.nodes } 4 cap cap2, NB d.nodes cap1, [.bs 0 0 2 f.length cap], filA a, NB (keepNot a.2 d.nodes) cap2]))) := by
  have hql := (List.getElem?_eq_some_iff.1 hq).1
  have hdn := hf.nodes d (List.mem_of_getElem? hq)
  have hD0 : (DB f q d 1 cap cap1)[0 + q * 2 + 1]? = some (.bs 1 0 8 d.nodes.length cap1) := DB_nodes hql
  have hset : ∀ (acc : List Nod) (cap2 : Nat), SetAt (DB f q d 1 cap cap1) (0 + q * 2 + 1) [.bs 4 0 8 acc.length cap2] (DB f q { d with nodes := acc } 4 cap cap2) := fun acc cap2 => DB_set hql (by repeat constructor) (by simp)
  refine enter Try.func83 rfl rfl rfl rfl rfl 5 rfl ?_
  refine w_ (b_ (h:=b_ (h:=e_ (q_ (w_ (l_ (h:=l_ (h:=?_))))))))
  refine al_p rfl (s_callR 2 rfl (.cons _ _ _ _ _ rfl (LeA.of_eq (low_fls hq hcap hcap1 (Nat.zero_le _) (Nat.zero_le _) rfl rfl)) (.cons _ _ _ _ _ rfl (LeA.refl _) .nil)) (Rlinks f a hf) ?_)
  rintro r rfl
  refine ⟨rfl, ?_⟩
  refine gt_ (h:=e_ (?_))
  refine aw_cond rfl (fun hb1 => ?_) (fun hb1 => ?_)
  · have hc1 := bp hb1
    have hl : 0 < linksF f a := by omega
    refine aw_ret (x_thenR (?_))
    refine abody_ret (r := .tup []) none (by repeat (first | exact ResA.nil | (apply ResA.tmp; (focus exact rfl)) | (apply ResA.cellN; (focus exact inferInstance); (focus exact rfl); (focus exact rfl); (focus exact rfl)) | (apply ResA.cell1; (focus exact inferInstance); (focus exact rfl); (focus exact rfl); (focus exact rfl)))) rfl rfl (by simp [bpLtB, bpLtL, bpLt, bp_DB, bp_NB, filA]) (LeA.refl _) ⟨rfl, rfl, .inl ⟨hl, rfl⟩⟩
  · have hc1 := bp hb1
    have hl : linksF f a = 0 := by omega
    refine kt_ (w_ (a_ (h:=e_ (w_ (f_ (h:=?_))))))
    refine al_p rfl (st_loadB1 rfl rfl rfl ?_)
    refine f_ (h:=l_ (h:=?_))
    refine al_p rfl (st_indexS (m := q) rfl rfl ha hql ?_)
    refine f_ (h:=?_)
    refine al_p rfl (st_loadB1 rfl rfl hD0 ?_)
    refine a_ (h:=e_ (q_ (w_ (a_ (h:=e_ (aw_block (?_)))))))
    refine aw_loopW (fun m t => ∃ (j : Nat) (acc : List Nod), j ≤ d.nodes.length ∧ m = d.nodes.length - j ∧ keepNot a.2 (d.nodes.take j) = acc ∧ acc.length ≤ j ∧ ((acc = [] ∧ t = ⟨look [(2, .bp 2 0), (3, .bp 3 0), (4, .v (.slice none 0 0)), (5, .bs 1 0 8 d.nodes.length cap1), (6, .v (.int .i64 (j : Int)))], ⟨[DB f q d 1 cap cap1, NB d.nodes cap1, [.bs 0 0 2 f.length cap], filA a], []⟩⟩) ∨ (∃ cap2, acc.length ≤ cap2 ∧ t = ⟨look [(2, .bp 2 0), (3, .bp 3 0), (4, .bs 4 0 8 acc.length cap2), (5, .bs 1 0 8 d.nodes.length cap1), (6, .v (.int .i64 (j : Int)))], ⟨[DB f q d 1 cap cap1, NB d.nodes cap1, [.bs 0 0 2 f.length cap], filA a, NB acc cap2], []⟩⟩))) (d.nodes.length) (weak_of 4 0 rfl rfl rfl (by simp [bpLtB, bpLtL, bpLt, bp_DB, bp_NB, filA, nodA]) (by repeat (first | exact Sub.nil | refine Sub.cons _ _ _ rfl rfl ?_ | refine Sub.any _ _ ?_ | refine Sub.sl _ _ _ _ _ rfl ?_ | refine Sub.slnil _ _ _ rfl ?_))) (⟨0, [], Nat.zero_le _, rfl, rfl, Nat.le_refl _, .inl ⟨rfl, rfl⟩⟩) ?_
    rintro m t ⟨j, acc, hj, rfl, hacc, hal, ⟨rfl, rfl⟩ | ⟨cap2, hcp, rfl⟩⟩
    · skip
      refine q_ (w_ (m_ (h:=m_ (h:=?_))))
      refine al_p rfl (st_lenB rfl ?_)
      refine lt_ (h:=e_ (?_))
      refine aw_cond rfl (fun hb2 => ?_) (fun hb2 => ?_)
      · have hc2 := bp hb2
        have hlt : j < d.nodes.length := by omega
        obtain ⟨n, hy⟩ : ∃ n, d.nodes[j]? = some n := ⟨_, List.getElem?_eq_getElem hlt⟩
        have hk := keep_at hy a.2
        refine kt_ (q_ (aw_block (q_ (yr_ 8 (h:=dm_ 0 (h:=dm_ 1 (h:=?_)))))))
        refine r_y (i := 2) rfl (st_indexS (m := j) rfl rfl rfl hlt ⟨rfl, rfl⟩) ?_
        refine df_ 3 (h:=?_)
        refine r_y (i := 4) rfl (st_loadB1 rfl rfl (NB_get hy rfl) ⟨rfl, rfl⟩) ?_
        refine df_ 5 (h:=dl_ 6 (h:=dnq_ 7 (h:=z_ (h:=t_ (?_)))))
        refine aw_cond rfl (fun hb3 => ?_) (fun hb3 => ?_)
        · have hc3 := bp hb3
          rw [if_neg hc3] at hk
          refine aw_region (m_ (h:=m_ (h:=m_ (h:=?_))))
          refine al_p rfl (st_indexS (m := j) rfl rfl rfl hlt ?_)
          refine al_p rfl (st_loadBE rfl rfl (by rw [NB_len hcap1]; omega) (NB_row hy) ?_)
          refine bs_ (h:=?_)
          refine al_p rfl (st_append0B rfl rfl src1 (by omega) (by omega) ?_)
          · rintro cap2 k bx2 hcp hs
            rw [show cellsA (.agg (nodA n)) ++ List.replicate ((cap2 - 1) * 8) AV.any = NB [n] cap2 from NB_first n cap2] at hs
            obtain ⟨rfl, rfl⟩ : k = 4 ∧ bx2 = [_, _, _, _, _] := hs.eq
            refine a_ (h:=al_nil (x_blockN (t_ (aw_region (m_ (h:=ad_ (h:=a_ (h:=al_nil (?_)))))))))
            refine x_then ?_
            first | exact ⟨d.nodes.length - (j + 1), _, by omega, ⟨j + 1, [n], by omega, rfl, (by rw [hk, hacc]; rfl), by simp, .inr ⟨cap2, hcp, rfl⟩⟩, weak_of 5 0 rfl rfl rfl (by simp [bpLtB, bpLtL, bpLt, bp_DB, bp_NB, filA, nodA]) ((by repeat (first | exact Sub.nil | refine Sub.cons _ _ _ rfl rfl ?_ | refine Sub.any _ _ ?_ | refine Sub.sl _ _ _ _ _ rfl ?_ | refine Sub.slnil _ _ _ rfl ?_)))⟩ | exact ⟨d.nodes.length - (j + 1), _, by omega, ⟨j + 1, [], by omega, rfl, (by rw [hk, hacc]), by simp, .inl ⟨rfl, rfl⟩⟩, weak_of 4 0 rfl rfl rfl (by simp [bpLtB, bpLtL, bpLt, bp_DB, bp_NB, filA, nodA]) ((by repeat (first | exact Sub.nil | refine Sub.cons _ _ _ rfl rfl ?_ | refine Sub.any _ _ ?_ | refine Sub.sl _ _ _ _ _ rfl ?_ | refine Sub.slnil _ _ _ rfl ?_)))⟩
        · have hc3 := bp hb3
          rw [if_pos hc3, List.append_nil] at hk
          refine aw_skip (x_blockN (t_ (aw_region (m_ (h:=ad_ (h:=a_ (h:=al_nil (?_))))))))
          refine x_then ?_
          first | exact ⟨d.nodes.length - (j + 1), _, by omega, ⟨j + 1, [n], by omega, rfl, (by rw [hk, hacc]; rfl), by simp, .inr ⟨cap2, hcp, rfl⟩⟩, weak_of 5 0 rfl rfl rfl (by simp [bpLtB, bpLtL, bpLt, bp_DB, bp_NB, filA, nodA]) ((by repeat (first | exact Sub.nil | refine Sub.cons _ _ _ rfl rfl ?_ | refine Sub.any _ _ ?_ | refine Sub.sl _ _ _ _ _ rfl ?_ | refine Sub.slnil _ _ _ rfl ?_)))⟩ | exact ⟨d.nodes.length - (j + 1), _, by omega, ⟨j + 1, [], by omega, rfl, (by rw [hk, hacc]), by simp, .inl ⟨rfl, rfl⟩⟩, weak_of 4 0 rfl rfl rfl (by simp [bpLtB, bpLtL, bpLt, bp_DB, bp_NB, filA, nodA]) ((by repeat (first | exact Sub.nil | refine Sub.cons _ _ _ rfl rfl ?_ | refine Sub.any _ _ ?_ | refine Sub.sl _ _ _ _ _ rfl ?_ | refine Sub.slnil _ _ _ rfl ?_)))⟩
      · have hc2 := bp hb2
        exfalso
        obtain rfl : j = d.nodes.length := by omega
        rw [List.take_length] at hacc
        rw [hacc] at hne
        exact absurd hne (by simp)
    · skip
      refine q_ (w_ (m_ (h:=m_ (h:=?_))))
      refine al_p rfl (st_lenB rfl ?_)
      refine lt_ (h:=e_ (?_))
      refine aw_cond rfl (fun hb4 => ?_) (fun hb4 => ?_)
      · have hc4 := bp hb4
        have hlt : j < d.nodes.length := by omega
        obtain ⟨n, hy⟩ : ∃ n, d.nodes[j]? = some n := ⟨_, List.getElem?_eq_getElem hlt⟩
        have hk := keep_at hy a.2
        refine kt_ (q_ (aw_block (q_ (yr_ 8 (h:=dm_ 0 (h:=dm_ 1 (h:=?_)))))))
        refine r_y (i := 2) rfl (st_indexS (m := j) rfl rfl rfl hlt ⟨rfl, rfl⟩) ?_
        refine df_ 3 (h:=?_)
        refine r_y (i := 4) rfl (st_loadB1 rfl rfl (NB_get hy rfl) ⟨rfl, rfl⟩) ?_
        refine df_ 5 (h:=dl_ 6 (h:=dnq_ 7 (h:=z_ (h:=t_ (?_)))))
        refine aw_cond rfl (fun hb5 => ?_) (fun hb5 => ?_)
        · have hc5 := bp hb5
          rw [if_neg hc5] at hk
          refine aw_region (m_ (h:=m_ (h:=m_ (h:=?_))))
          refine al_p rfl (st_indexS (m := j) rfl rfl rfl hlt ?_)
          refine al_p rfl (st_loadBE rfl rfl (by rw [NB_len hcap1]; omega) (NB_row hy) ?_)
          refine bs_ (h:=?_)
          refine al_p rfl (st_appendB rfl rfl rfl (by rw [NB_len hcp]; omega) src1 (by omega) (by omega) ?_ ?_)
          · rintro hg row2 bx2 hs hb
            obtain rfl := NB_push hs hg
            obtain rfl : bx2 = [_, _, _, _, _] := hb.one.2
            refine a_ (h:=al_nil (x_blockN (t_ (aw_region (m_ (h:=ad_ (h:=a_ (h:=al_nil (?_)))))))))
            refine x_then ?_
            first | exact ⟨d.nodes.length - (j + 1), _, by omega, ⟨j + 1, acc ++ [n], by omega, rfl, (by rw [hk, hacc]), by simp; omega, .inr ⟨cap2, by simpa using hg, by rw [List.length_append]; rfl⟩⟩, weak_of 5 0 rfl rfl rfl (by simp [bpLtB, bpLtL, bpLt, bp_DB, bp_NB, filA, nodA]) ((by repeat (first | exact Sub.nil | refine Sub.cons _ _ _ rfl rfl ?_ | refine Sub.any _ _ ?_ | refine Sub.sl _ _ _ _ _ rfl ?_ | refine Sub.slnil _ _ _ rfl ?_)))⟩ | exact ⟨d.nodes.length - (j + 1), _, by omega, ⟨j + 1, acc ++ [n], by omega, rfl, (by rw [hk, hacc]), by simp; omega, .inr ⟨cap3, by simpa using hcp3, by rw [List.length_append]; rfl⟩⟩, weak_ren [0, 1, 2, 3, 5] ni2 (by decide) (.cons _ _ _ _ _ rfl (renK_DB (by rfl) _ _ _ _ _) (.cons _ _ _ _ _ rfl (renK_NB _ _ _) (.cons _ _ _ _ _ rfl rfl (.cons _ _ _ _ _ rfl rfl (.cons _ _ _ _ _ rfl (renK_NB _ _ _) .nil))))) (by repeat (first | exact SubK.nil | refine SubK.cons _ _ _ _ rfl (LeA.refl _) ?_))⟩ | exact ⟨d.nodes.length - (j + 1), _, by omega, ⟨j + 1, acc, by omega, rfl, (by rw [hk, hacc]), by omega, .inr ⟨cap2, hcp, rfl⟩⟩, weak_of 5 0 rfl rfl rfl (by simp [bpLtB, bpLtL, bpLt, bp_DB, bp_NB, filA, nodA]) ((by repeat (first | exact Sub.nil | refine Sub.cons _ _ _ rfl rfl ?_ | refine Sub.any _ _ ?_ | refine Sub.sl _ _ _ _ _ rfl ?_ | refine Sub.slnil _ _ _ rfl ?_)))⟩
          · rintro hg cap3 k bx2 hcp3 hs
            rw [show ((NB acc cap2).drop 0).take (acc.length * 8) ++ cellsA (.agg (nodA n)) ++ List.replicate ((cap3 - (acc.length + 1)) * 8) AV.any = NB (acc ++ [n]) cap3 from NB_new acc n cap2 cap3] at hs
            obtain ⟨rfl, rfl⟩ : k = 5 ∧ bx2 = [_, _, _, _, _, _] := hs.eq
            refine a_ (h:=al_nil (x_blockN (t_ (aw_region (m_ (h:=ad_ (h:=a_ (h:=al_nil (?_)))))))))
            refine x_then ?_
            first | exact ⟨d.nodes.length - (j + 1), _, by omega, ⟨j + 1, acc ++ [n], by omega, rfl, (by rw [hk, hacc]), by simp; omega, .inr ⟨cap2, by simpa using hg, by rw [List.length_append]; rfl⟩⟩, weak_of 5 0 rfl rfl rfl (by simp [bpLtB, bpLtL, bpLt, bp_DB, bp_NB, filA, nodA]) ((by repeat (first | exact Sub.nil | refine Sub.cons _ _ _ rfl rfl ?_ | refine Sub.any _ _ ?_ | refine Sub.sl _ _ _ _ _ rfl ?_ | refine Sub.slnil _ _ _ rfl ?_)))⟩ | exact ⟨d.nodes.length - (j + 1), _, by omega, ⟨j + 1, acc ++ [n], by omega, rfl, (by rw [hk, hacc]), by simp; omega, .inr ⟨cap3, by simpa using hcp3, by rw [List.length_append]; rfl⟩⟩, weak_ren [0, 1, 2, 3, 5] ni2 (by decide) (.cons _ _ _ _ _ rfl (renK_DB (by rfl) _ _ _ _ _) (.cons _ _ _ _ _ rfl (renK_NB _ _ _) (.cons _ _ _ _ _ rfl rfl (.cons _ _ _ _ _ rfl rfl (.cons _ _ _ _ _ rfl (renK_NB _ _ _) .nil))))) (by repeat (first | exact SubK.nil | refine SubK.cons _ _ _ _ rfl (LeA.refl _) ?_))⟩ | exact ⟨d.nodes.length - (j + 1), _, by omega, ⟨j + 1, acc, by omega, rfl, (by rw [hk, hacc]), by omega, .inr ⟨cap2, hcp, rfl⟩⟩, weak_of 5 0 rfl rfl rfl (by simp [bpLtB, bpLtL, bpLt, bp_DB, bp_NB, filA, nodA]) ((by repeat (first | exact Sub.nil | refine Sub.cons _ _ _ rfl rfl ?_ | refine Sub.any _ _ ?_ | refine Sub.sl _ _ _ _ _ rfl ?_ | refine Sub.slnil _ _ _ rfl ?_)))⟩
        · have hc5 := bp hb5
          rw [if_pos hc5, List.append_nil] at hk
          refine aw_skip (x_blockN (t_ (aw_region (m_ (h:=ad_ (h:=a_ (h:=al_nil (?_))))))))
          refine x_then ?_
          first | exact ⟨d.nodes.length - (j + 1), _, by omega, ⟨j + 1, acc ++ [n], by omega, rfl, (by rw [hk, hacc]), by simp; omega, .inr ⟨cap2, by simpa using hg, by rw [List.length_append]; rfl⟩⟩, weak_of 5 0 rfl rfl rfl (by simp [bpLtB, bpLtL, bpLt, bp_DB, bp_NB, filA, nodA]) ((by repeat (first | exact Sub.nil | refine Sub.cons _ _ _ rfl rfl ?_ | refine Sub.any _ _ ?_ | refine Sub.sl _ _ _ _ _ rfl ?_ | refine Sub.slnil _ _ _ rfl ?_)))⟩ | exact ⟨d.nodes.length - (j + 1), _, by omega, ⟨j + 1, acc ++ [n], by omega, rfl, (by rw [hk, hacc]), by simp; omega, .inr ⟨cap3, by simpa using hcp3, by rw [List.length_append]; rfl⟩⟩, weak_ren [0, 1, 2, 3, 5] ni2 (by decide) (.cons _ _ _ _ _ rfl (renK_DB (by rfl) _ _ _ _ _) (.cons _ _ _ _ _ rfl (renK_NB _ _ _) (.cons _ _ _ _ _ rfl rfl (.cons _ _ _ _ _ rfl rfl (.cons _ _ _ _ _ rfl (renK_NB _ _ _) .nil))))) (by repeat (first | exact SubK.nil | refine SubK.cons _ _ _ _ rfl (LeA.refl _) ?_))⟩ | exact ⟨d.nodes.length - (j + 1), _, by omega, ⟨j + 1, acc, by omega, rfl, (by rw [hk, hacc]), by omega, .inr ⟨cap2, hcp, rfl⟩⟩, weak_of 5 0 rfl rfl rfl (by simp [bpLtB, bpLtL, bpLt, bp_DB, bp_NB, filA, nodA]) ((by repeat (first | exact Sub.nil | refine Sub.cons _ _ _ rfl rfl ?_ | refine Sub.any _ _ ?_ | refine Sub.sl _ _ _ _ _ rfl ?_ | refine Sub.slnil _ _ _ rfl ?_)))⟩
      · have hc4 := bp hb4
        obtain rfl : j = d.nodes.length := by omega
        rw [List.take_length] at hacc
        refine aw_exit (x_thenE (x_thenE (ABlock_out (t_ (aw_region (f_ (h:=?_)))))))
        refine al_p rfl (st_loadB1 rfl rfl rfl ?_)
        refine f_ (h:=l_ (h:=m_ (h:=?_)))
        refine al_p rfl (st_indexS (m := q) rfl rfl ha hql ?_)
        refine f_ (h:=?_)
        refine al_p0 (s_store rfl rfl rfl rfl rfl rfl (hset _ _) (by repeat constructor) ?_)
        refine al_nil (?_)
        refine abody_end (r := .tup []) none (by repeat (first | exact ResA.nil | (apply ResA.tmp; (focus exact rfl)) | (apply ResA.cellN; (focus exact inferInstance); (focus exact rfl); (focus exact rfl); (focus exact rfl)) | (apply ResA.cell1; (focus exact inferInstance); (focus exact rfl); (focus exact rfl); (focus exact rfl)))) rfl rfl (by simp [bpLtB, bpLtL, bpLt, bp_DB, bp_NB, filA]) (LeA.refl _) ⟨rfl, rfl, .inr ⟨hl, cap2, by rw [hacc]; exact hcp, by rw [hacc]; rfl⟩⟩

end
end Go.Proofs.Ythcbdkmhamhciaa
namespace Go.Proofs.Ythcbdkmhamhciaa

theorem bl_irr : ∀ x : List UInt8, Op.bytesLess x x = false
  | [] => rfl
  | a :: x => by simp [Op.bytesLess, bl_irr x]
theorem bl_trans : ∀ x y z : List UInt8, Op.bytesLess x y = true → Op.bytesLess y z = true → Op.bytesLess x z = true
  | _, [], _, h, _ => by cases ‹List UInt8› <;> simp [Op.bytesLess] at h
  | _, _ :: _, [], _, h => by simp [Op.bytesLess] at h
  | [], _ :: _, _ :: _, _, _ => rfl
  | a :: x, b :: y, c :: z, h, k => by
    simp only [Op.bytesLess, Bool.or_eq_true, Bool.and_eq_true, decide_eq_true_iff, beq_iff_eq] at h k ⊢
    rcases h with h | ⟨rfl, h⟩
    · rcases k with k | ⟨rfl, k⟩
      · exact .inl (UInt8.lt_trans h k)
      · exact .inl h
    · rcases k with k | ⟨rfl, k⟩
      · exact .inl k
      · exact .inr ⟨rfl, bl_trans x y z h k⟩
theorem bl_tri : ∀ x y : List UInt8, Op.bytesLess x y = false → x ≠ y → Op.bytesLess y x = true
  | [], [], _, h => absurd rfl h
  | [], _ :: _, h, _ => by simp [Op.bytesLess] at h
  | _ :: _, [], _, _ => rfl
  | a :: x, b :: y, h, k => by
    simp only [Op.bytesLess, Bool.or_eq_false_iff, decide_eq_false_iff_not, Bool.and_eq_false_iff, beq_eq_false_iff_ne] at h
    simp only [Op.bytesLess, Bool.or_eq_true, Bool.and_eq_true, decide_eq_true_iff, beq_iff_eq]
    by_cases e : a = b
    · subst e
      right
      refine ⟨rfl, bl_tri x y ?_ (fun e => k (by rw [e]))⟩
      rcases h.2 with h | h
      · exact absurd rfl h
      · exact h
    · left
      have h1 : ¬ a.toNat < b.toNat := h.1
      have h2 : a.toNat ≠ b.toNat := fun e' => e (UInt8.toNat_inj.1 e')
      show b.toNat < a.toNat
      omega
theorem lt_irr (a : Str) : strLt a a = false := bl_irr _
theorem lt_trans' {a b c : Str} (h : strLt a b = true) (k : strLt b c = true) : strLt a c = true := bl_trans _ _ _ h k
theorem lt_tri {a b : Str} (h : strLt a b = false) (k : a ≠ b) : strLt b a = true := by
  refine bl_tri _ _ h fun e => k ?_
  have := str_eq a b
  rw [e] at this
  simpa using this
theorem lt_ne {a b : Str} (h : strLt a b = true) : a ≠ b := by rintro rfl; rw [lt_irr] at h; cases h

def Sorted (es : List Ent) : Prop := es.Pairwise fun a b => strLt a.1 b.1 = true
def without (name : Str) (es : List Ent) : List Ent := es.filter fun e => decide (e.1 ≠ name)
theorem entGo_done (name : Str) (ino : Int) : ∀ es : List Ent, entGo name ino true es = without name es
  | [] => rfl
  | e :: r => by
    unfold entGo
    simp only [Bool.not_true, Bool.false_and, Bool.true_or]
    rw [entGo_done name ino r]
    unfold without
    rw [List.filter_cons]
    by_cases h : e.1 = name <;> simp [h]
theorem entL_zero (es : List Ent) (name : Str) : entL es name 0 = without name es := entGo_done name 0 es
theorem entGo_perm (name : Str) (ino : Int) : ∀ es : List Ent, (entGo name ino false es).Perm ((name, ino) :: without name es)
  | [] => by simp [entGo, without]
  | e :: r => by
    unfold entGo
    simp only [Bool.not_false, Bool.true_and, Bool.false_or]
    cases hlt : strLt e.1 name with
    | false =>
      simp only [Bool.not_false, if_true]
      rw [entGo_done name ino r]
      unfold without
      rw [List.filter_cons]
      by_cases h : e.1 = name <;> simp [h]
    | true =>
      have hne := lt_ne hlt
      have ih := entGo_perm name ino r
      unfold without at ih ⊢
      rw [List.filter_cons]
      simp only [Bool.not_true, Bool.false_eq_true, if_false, List.nil_append, hne, ne_eq, not_false_eq_true, decide_true, if_true]
      exact (List.Perm.cons e ih).trans (List.Perm.swap _ _ _)
theorem entL_perm (es : List Ent) (name : Str) {ino : Int} (h : ino ≠ 0) : (entL es name ino).Perm ((name, ino) :: without name es) := by
  unfold entL
  rw [show (ino == 0) = false by simpa using h]
  exact entGo_perm name ino es
theorem sorted_without {es : List Ent} (h : Sorted es) (name : Str) : Sorted (without name es) := List.Pairwise.filter _ h
theorem entGo_sorted (name : Str) (ino : Int) : ∀ es : List Ent, Sorted es → Sorted (entGo name ino false es)
  | [], _ => by simp [entGo, Sorted]
  | e :: r, h => by
    obtain ⟨h1, h2⟩ := List.pairwise_cons.1 h
    unfold entGo
    simp only [Bool.not_false, Bool.true_and, Bool.false_or]
    cases hlt : strLt e.1 name with
    | false =>
      simp only [Bool.not_false, if_true]
      rw [entGo_done name ino r]
      have hr : ∀ x ∈ without name r, strLt name x.1 = true := fun x hx => by
        obtain ⟨hx1, _⟩ := List.mem_filter.1 hx
        have h3 := h1 x hx1
        by_cases he : e.1 = name
        · rw [← he]; exact h3
        · exact lt_trans' (lt_tri hlt he) h3
      by_cases he : e.1 = name
      · simp only [he, if_true, List.nil_append, List.cons_append]
        exact List.pairwise_cons.2 ⟨hr, sorted_without h2 name⟩
      · simp only [he, if_false, List.cons_append, List.nil_append]
        refine List.pairwise_cons.2 ⟨?_, List.pairwise_cons.2 ⟨fun x hx => h1 x (List.mem_filter.1 hx).1, sorted_without h2 name⟩⟩
        intro x hx
        rcases List.mem_cons.1 hx with rfl | hx
        · exact lt_tri hlt he
        · exact hr x hx
    | true =>
      have hne := lt_ne hlt
      simp only [Bool.not_true, Bool.false_eq_true, if_false, List.nil_append, hne, List.cons_append]
      refine List.pairwise_cons.2 ⟨fun x hx => ?_, entGo_sorted name ino r h2⟩
      have hx' := (entGo_perm name ino r).mem_iff.1 hx
      rcases List.mem_cons.1 hx' with rfl | hx'
      · exact hlt
      · exact h1 x (List.mem_filter.1 hx').1
theorem entL_sorted {es : List Ent} (h : Sorted es) (name : Str) (ino : Int) : Sorted (entL es name ino) := by
  unfold entL
  cases (ino == 0) with
  | true => rw [entGo_done]; exact sorted_without h name
  | false => exact entGo_sorted name ino es h
def entF (es : List Ent) (name : Str) : Option Ent := es.find? fun e : Ent => decide (e.1 = name)
theorem entF_some {es : List Ent} {name : Str} {e : Ent} (h : entF es name = some e) : e ∈ es ∧ e.1 = name := by
  have h1 := List.find?_some h
  exact ⟨List.mem_of_find?_eq_some h, by simpa using h1⟩
theorem entF_none {es : List Ent} {name : Str} (h : entF es name = none) : ∀ e ∈ es, e.1 ≠ name := fun e he => by
  have := List.find?_eq_none.1 h e he
  simpa using this
theorem without_none {es : List Ent} {name : Str} (h : entF es name = none) : without name es = es := by
  unfold without
  rw [List.filter_eq_self]
  intro e he
  simpa using entF_none h e he
theorem without_some {es : List Ent} (hs : Sorted es) {name : Str} {e : Ent} (h : entF es name = some e) : es.Perm (e :: without name es) := by
  induction es with
  | nil => simp [entF] at h
  | cons x r ih =>
    obtain ⟨h1, h2⟩ := List.pairwise_cons.1 hs
    unfold entF at h
    rw [List.find?_cons] at h
    unfold without
    rw [List.filter_cons]
    by_cases hx : x.1 = name
    · simp only [hx, decide_true, Option.some.injEq] at h
      subst h
      have : r.filter (fun e => decide (e.1 ≠ name)) = r := by
        rw [List.filter_eq_self]
        intro y hy
        have := lt_ne (h1 y hy)
        simp only [ne_eq, decide_not, Bool.not_eq_true', decide_eq_false_iff_not]
        rw [← hx]
        exact fun e => this e.symm
      rw [this]
      simp [hx]
    · simp only [hx, decide_false] at h
      have := ih h2 h
      simp only [ne_eq, hx, not_false_eq_true, decide_true, if_true]
      exact (List.Perm.cons x this).trans (List.Perm.swap _ _ _)

theorem cntE_perm {i : Int} {a b : List Ent} (h : a.Perm b) : cntE i a = cntE i b := h.countP_eq _
theorem cntE_cons (i : Int) (e : Ent) (es : List Ent) : cntE i (e :: es) = cntE i es + (if e.2 = i then 1 else 0) := by
  unfold cntE
  rw [List.countP_cons]
  by_cases h : e.2 = i <;> simp [h]
theorem cntE_pos {i : Int} {es : List Ent} : 0 < cntE i es ↔ ∃ e ∈ es, e.2 = i := by
  unfold cntE
  rw [List.countP_pos_iff]
  simp
theorem cntN_pos {i : Int} {ns : List Nod} : 0 < cntN i ns ↔ ∃ n ∈ ns, ∃ e ∈ n.entries, e.2 = i := by
  unfold cntN
  rw [cntE_pos]
  constructor
  · rintro ⟨e, he, h⟩
    obtain ⟨n, hn, he⟩ := List.mem_flatMap.1 he
    exact ⟨n, hn, e, he, h⟩
  · rintro ⟨n, hn, e, he, h⟩
    exact ⟨e, List.mem_flatMap.2 ⟨n, hn, he⟩, h⟩
theorem cntN_append (i : Int) (a b : List Nod) : cntN i (a ++ b) = cntN i a + cntN i b := by
  unfold cntN cntE
  rw [List.flatMap_append, List.countP_append]
theorem cntN_cons (i : Int) (n : Nod) (b : List Nod) : cntN i (n :: b) = cntE i n.entries + cntN i b := by
  unfold cntN cntE
  rw [List.flatMap_cons, List.countP_append]

def updI (ns : List Nod) (ino : Int) (g : Nod → Nod) : List Nod := ns.map fun n => if n.ino = ino then g n else n
def Asc (ns : List Nod) : Prop := ns.Pairwise fun a b => a.ino < b.ino
theorem asc_eq {ns : List Nod} (h : Asc ns) {a b : Nod} (ha : a ∈ ns) (hb : b ∈ ns) (e : a.ino = b.ino) : a = b := by
  induction ns with
  | nil => cases ha
  | cons x r ih =>
    obtain ⟨h1, h2⟩ := List.pairwise_cons.1 h
    rcases List.mem_cons.1 ha with rfl | ha
    · rcases List.mem_cons.1 hb with rfl | hb
      · rfl
      · have := h1 b hb; omega
    · rcases List.mem_cons.1 hb with hb | hb
      · subst hb; have := h1 a (by assumption); omega
      · exact ih h2 (by assumption) hb
theorem asc_split {ns : List Nod} (h : Asc ns) {n : Nod} (hn : n ∈ ns) : ∃ A B, ns = A ++ n :: B ∧ (∀ m ∈ A, m.ino ≠ n.ino) ∧ ∀ m ∈ B, m.ino ≠ n.ino := by
  obtain ⟨A, B, rfl⟩ := List.append_of_mem hn
  obtain ⟨h1, h2, h3⟩ := List.pairwise_append.1 h
  obtain ⟨h4, _⟩ := List.pairwise_cons.1 h2
  exact ⟨A, B, rfl, fun m hm => by have := h3 m hm n (by simp); omega, fun m hm => by have := h4 m hm; omega⟩
theorem updI_split {A B : List Nod} {n : Nod} (hA : ∀ m ∈ A, m.ino ≠ n.ino) (hB : ∀ m ∈ B, m.ino ≠ n.ino) (g : Nod → Nod) : updI (A ++ n :: B) n.ino g = A ++ g n :: B := by
  unfold updI
  rw [List.map_append, List.map_cons, if_pos rfl]
  congr 1
  · rw [List.map_congr_left (g := id) fun m hm => by simp [hA m hm]]; simp
  · congr 1
    rw [List.map_congr_left (g := id) fun m hm => by simp [hB m hm]]; simp
theorem mem_updI {ns : List Nod} {ino : Int} {g : Nod → Nod} {m : Nod} : m ∈ updI ns ino g ↔ ∃ n ∈ ns, m = if n.ino = ino then g n else n := by
  unfold updI
  rw [List.mem_map]
  constructor
  · rintro ⟨n, hn, rfl⟩; exact ⟨n, hn, rfl⟩
  · rintro ⟨n, hn, rfl⟩; exact ⟨n, hn, rfl⟩
theorem updI_inos {ns : List Nod} {ino : Int} {g : Nod → Nod} (hg : ∀ n, (g n).ino = n.ino) : (updI ns ino g).map (·.ino) = ns.map (·.ino) := by
  unfold updI
  rw [List.map_map]
  apply List.map_congr_left
  intro n _
  simp only [Function.comp]
  split
  · exact hg n
  · rfl
theorem asc_inos {ns : List Nod} : Asc ns ↔ (ns.map (·.ino)).Pairwise (· < ·) := by
  unfold Asc
  rw [List.pairwise_map]
theorem asc_updI {ns : List Nod} (h : Asc ns) (ino : Int) {g : Nod → Nod} (hg : ∀ n, (g n).ino = n.ino) : Asc (updI ns ino g) := by
  rw [asc_inos] at h ⊢
  rw [updI_inos hg]
  exact h
theorem cntN_updI {ns : List Nod} (h : Asc ns) {n : Nod} (hn : n ∈ ns) (g : Nod → Nod) (i : Int) : cntN i (updI ns n.ino g) + cntE i n.entries = cntN i ns + cntE i (g n).entries := by
  obtain ⟨A, B, rfl, hA, hB⟩ := asc_split h hn
  rw [updI_split hA hB]
  simp only [cntN_append, cntN_cons]
  omega
end Go.Proofs.Ythcbdkmhamhciaa
