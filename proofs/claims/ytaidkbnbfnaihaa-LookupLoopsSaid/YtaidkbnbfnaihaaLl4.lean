/-
  Part 4 of the proof of LookupLoopsP: what the statement's proof uses of the texts in wip/tpl.
-/
import Derived.Test.YtaidkbnbfnaihaaLl3
namespace Go.Proofs.Ytaidkbnbfnaihaa
open Go.RowKit

def plcOf' (j : Nat) : List Nat → Nat → Option Nat
  | [], _ => none
  | i :: is, k => match Nat.beq i j with
    | true => some k
    | false => plcOf' j is (k + 1)
theorem plc_some {j : Nat} : ∀ {is : List Nat} {k m : Nat}, plcOf' j is k = some m → k ≤ m ∧ is[m - k]? = some j
  | [], _, _, h => by cases h
  | i :: is, k, m, h => by
    unfold plcOf' at h
    split at h
    · rename_i e
      have := Nat.eq_of_beq_eq_true e
      subst this
      injection h with h
      subst h
      exact ⟨Nat.le_refl _, by simp⟩
    · obtain ⟨h1, h2⟩ := plc_some h
      refine ⟨by omega, ?_⟩
      rw [show m - k = (m - (k + 1)) + 1 by omega, List.getElem?_cons_succ]
      exact h2
mutual
def ren (f : Nat → Option Nat) : AV → AV
  | .v x => .v x
  | .agg cs => .agg (renL f cs)
  | .tup cs => .tup (renL f cs)
  | .sl sz rows _ => .sl sz rows none
  | .fp row => .fp row
  | .bp j o => match f j with
    | some k => .bp k o
    | none => .any
  | .bs j o sz n cap => match f j with
    | some k => .bs k o sz n cap
    | none => .any
  | .fn g caps => .fn g (renL f caps)
  | .any => .any
def renL (f : Nat → Option Nat) : List AV → List AV
  | [] => []
  | x :: xs => ren f x :: renL f xs
end
section
variable {G G' : Gh} {w : World} {f : Nat → Option Nat} (hst : G'.St = G.St) (hf : ∀ (j k b : Nat), f j = some k → G.bx[j]? = some b → G'.bx[k]? = some b)
include hst hf
mutual
theorem rep_ren : ∀ (x : AV) (v : Value), rep G w x v → rep G' w (ren f x) v
  | .v _, _, h => by simpa only [rep, ren] using h
  | .agg cs, _, h => by
    simp only [rep, ren] at h ⊢
    obtain ⟨ys, h1, h2⟩ := h
    exact ⟨ys, h1, repL_ren cs ys h2⟩
  | .tup cs, _, h => by
    simp only [rep, ren] at h ⊢
    obtain ⟨ys, h1, h2⟩ := h
    exact ⟨ys, h1, repL_ren cs ys h2⟩
  | .sl sz rows none, _, h => by simp only [rep, ren] at h ⊢; rw [hst]; exact h
  | .sl sz rows (some g), _, h => by simp only [rep, ren] at h ⊢; rw [hst]; exact h.1
  | .fp _, _, h => by simp only [rep, ren] at h ⊢; rw [hst]; exact h
  | .bp j o, v, h => by
    simp only [rep] at h
    obtain ⟨b, h1, h2⟩ := h
    simp only [ren]
    split
    · rename_i k e
      simp only [rep]
      exact ⟨b, hf j k b e h1, h2⟩
    · simp only [rep]
  | .bs j o sz n cap, v, h => by
    simp only [rep] at h
    obtain ⟨b, h1, h2⟩ := h
    simp only [ren]
    split
    · rename_i k e
      simp only [rep]
      exact ⟨b, hf j k b e h1, h2⟩
    · simp only [rep]
  | .fn g caps, _, h => by
    simp only [rep, ren] at h ⊢
    obtain ⟨ys, h1, h2⟩ := h
    exact ⟨ys, h1, repL_ren caps ys h2⟩
  | .any, _, _ => by simp only [rep, ren]
theorem repL_ren : ∀ (xs : List AV) (vs : List Value), repL G w xs vs → repL G' w (renL f xs) vs
  | [], _, h => by have _ := hst; have _ := hf; simpa only [repL, renL] using h
  | x :: xs, _, h => by
    simp only [repL, renL] at h ⊢
    obtain ⟨z, zs, h1, h2, h3⟩ := h
    exact ⟨z, zs, h1, rep_ren x z h2, repL_ren xs zs h3⟩
end
end
theorem owns_block {w w' : World} {base : Nat} {e : TypeId} {size : Nat} {v : Value} {n : Nat} {xs : List Value} (h : w.ownsRow base e size v n xs) (hb : ∀ b, v.ownBlock = some b → w'.heap[b]? = w.heap[b]?) : w'.ownsRow base e size v n xs := by
  refine ⟨h.1, ?_⟩
  rcases h.2 with h1 | ⟨g, cap, cur, h1, h2, h3, h4⟩
  · exact .inl h1
  · exact .inr ⟨g, cap, cur, h1, h2, (hb g (by rw [h1]; rfl)).trans h3, h4⟩
inductive Hand (bx : List (List AV)) (f : Nat → Option Nat) : List Nat → List (List AV) → Prop
  | nil : Hand bx f [] []
  | cons (i : Nat) (row row' : List AV) (is : List Nat) (rows : List (List AV)) : bx[i]? = some row → renL f row = row' → Hand bx f is rows → Hand bx f (i :: is) (row' :: rows)
theorem Hand.get {bx : List (List AV)} {f : Nat → Option Nat} {is : List Nat} {rows : List (List AV)} (h : Hand bx f is rows) : is.length = rows.length ∧ ∀ (k i : Nat), is[k]? = some i → ∃ row, bx[i]? = some row ∧ rows[k]? = some (renL f row) := by
  induction h with
  | nil => exact ⟨rfl, fun k i hk => by simp at hk⟩
  | cons i row row' is rows h1 h2 _ ih =>
    refine ⟨by simp [ih.1], fun k j hk => ?_⟩
    subst h2
    cases k with
    | zero => simp at hk; subst hk; exact ⟨row, h1, rfl⟩
    | succ k => simpa using ih.2 k j (by simpa using hk)
section
variable {E : Env} {G : Gh} {h : AH} {w : World}
theorem handM_start (hr : HRel E G h w) {is : List Nat} {bs : List Nat} {rows : List (List AV)} (hnd : is.Nodup) (hbs : bs.length = is.length ∧ ∀ (k i : Nat), is[k]? = some i → ∃ b, G.bx[i]? = some b ∧ bs[k]? = some b) (hh : Hand h.bx (fun j => plcOf' j is 0) is rows) :
    HRel ⟨w, bs, G.St⟩ ⟨G.St, bs, []⟩ ⟨rows, []⟩ w ∧ ∀ (j k b : Nat), plcOf' j is 0 = some k → G.bx[j]? = some b → bs[k]? = some b := by
  have hmap : ∀ (j k b : Nat), plcOf' j is 0 = some k → G.bx[j]? = some b → bs[k]? = some b := fun j k b hk hb => by
    obtain ⟨_, h1⟩ := plc_some hk
    rw [Nat.sub_zero] at h1
    obtain ⟨b', h2, h3⟩ := hbs.2 k j h1
    rw [hb] at h2
    injection h2 with h2
    subst h2
    exact h3
  have hmem : ∀ b ∈ bs, b ∈ G.bx := fun b hb => by
    obtain ⟨k, hk⟩ := List.getElem?_of_mem hb
    have hlt : k < is.length := by rw [← hbs.1]; exact (List.getElem?_eq_some_iff.1 hk).1
    obtain ⟨b', h2, h3⟩ := hbs.2 k is[k] (List.getElem?_eq_getElem hlt)
    rw [hk] at h3
    injection h3 with h3
    subst h3
    exact List.mem_of_getElem? h2
  refine ⟨⟨fun _ _ h => h, ⟨rfl, rfl, rfl, Nat.le_refl _, fun _ _ _ => rfl⟩, hr.stlt, fun _ _ h => .inl h, by rw [hbs.1]; exact hh.get.1, ?_, fun b hb => hr.bxst b (hmem b hb), fun b hb => .inr hb, ?_, rfl, by simp, by simp, by simp⟩, hmap⟩
  · refine List.pairwise_iff_getElem.2 ?_
    intro a c ha hc hac e
    have ha' : a < is.length := by rw [← hbs.1]; exact ha
    have hc' : c < is.length := by rw [← hbs.1]; exact hc
    obtain ⟨b1, p1, p2⟩ := hbs.2 a is[a] (List.getElem?_eq_getElem ha')
    obtain ⟨b2, q1, q2⟩ := hbs.2 c is[c] (List.getElem?_eq_getElem hc')
    rw [List.getElem?_eq_getElem ha] at p2
    rw [List.getElem?_eq_getElem hc] at q2
    injection p2 with p2
    injection q2 with q2
    have e' : b1 = b2 := by rw [← p2, ← q2]; exact e
    obtain ⟨l1, e1⟩ := List.getElem?_eq_some_iff.1 p1
    obtain ⟨l2, e2⟩ := List.getElem?_eq_some_iff.1 q1
    have h3 : is[a] = is[c] := (List.getElem_inj hr.bxnd).1 (e1.trans (e'.trans e2.symm))
    have h4 := (List.getElem_inj hnd).1 h3
    omega
  · intro k b row hk hrow
    have hlt : k < is.length := by rw [← hbs.1]; exact (List.getElem?_eq_some_iff.1 hk).1
    obtain ⟨b', h2, h3⟩ := hbs.2 k is[k] (List.getElem?_eq_getElem hlt)
    obtain ⟨row', h4, h5⟩ := hh.get.2 k is[k] (List.getElem?_eq_getElem hlt)
    simp only at hk hrow
    rw [hk] at h3
    injection h3 with h3
    subst h3
    rw [hrow] at h5
    injection h5 with h5
    subst h5
    obtain ⟨us, T, q1, q2, q3⟩ := hr.box is[k] b row' h2 h4
    exact ⟨us, T, q1, repL_ren (G := G) (G' := ⟨G.St, bs, []⟩) rfl hmap _ _ q2, q3⟩
end
def backS (is : List Nat) (n : Nat) (j : Nat) : Option Nat :=
  match is[j]? with
  | some i => some i
  | none => some (n + (j - is.length))
structure Back (bx : List (List AV)) (is : List Nat) (bc : List (List AV)) (bx' : List (List AV)) : Prop where
  len : bx'.length = bx.length + (bc.length - is.length)
  old : ∀ (i : Nat) (row : List AV), i ∉ is → bx[i]? = some row → bx'[i]? = some row
  ins : ∀ (k i : Nat) (row : List AV), is[k]? = some i → bc[k]? = some row → bx'[i]? = some (renL (backS is bx.length) row)
  new : ∀ (k : Nat) (row : List AV), bc[is.length + k]? = some row → bx'[bx.length + k]? = some (renL (backS is bx.length) row)
theorem handM_merge {E : Env} {G : Gh} {h : AH} {w w' : World} (hr : HRel E G h w) {is bs : List Nat} (hbs : bs.length = is.length ∧ ∀ (k i : Nat), is[k]? = some i → ∃ b, G.bx[i]? = some b ∧ bs[k]? = some b) {Gc : Gh} {bc bx' : List (List AV)}
    (hc : HRel ⟨w, bs, G.St⟩ Gc ⟨bc, []⟩ w') (he : Ext ⟨G.St, bs, []⟩ w Gc w') (hk : Back h.bx is bc bx') :
    HRel E ⟨Gc.St, G.bx ++ Gc.bx.drop is.length, G.tk⟩ ⟨bx', h.tk⟩ w' ∧ Ext G w ⟨Gc.St, G.bx ++ Gc.bx.drop is.length, G.tk⟩ w' ∧ ∀ (j k b : Nat), backS is h.bx.length j = some k → Gc.bx[j]? = some b → (G.bx ++ Gc.bx.drop is.length)[k]? = some b := by
  have hmem : ∀ b ∈ bs, b ∈ G.bx := fun b hb => by
    obtain ⟨k, hk⟩ := List.getElem?_of_mem hb
    have hlt : k < is.length := by rw [← hbs.1]; exact (List.getElem?_eq_some_iff.1 hk).1
    obtain ⟨b', h2, h3⟩ := hbs.2 k is[k] (List.getElem?_eq_getElem hlt)
    rw [hk] at h3
    injection h3 with h3
    subst h3
    exact List.mem_of_getElem? h2
  have hsz : w.heap.size ≤ w'.heap.size := hc.kept.size
  have hblk : ∀ k, k < w.heap.size → k ∉ bs → w'.heap[k]? = w.heap[k]? := hc.kept.block
  have hstc : ∀ b o, Gc.St b o → b < w.heap.size → G.St b o := fun b o hs hb => (hc.stnew b o hs).resolve_right (by simp only; omega)
  have hpre : ∀ (k b : Nat), bs[k]? = some b → Gc.bx[k]? = some b := hc.inpre
  have hlen : is.length ≤ Gc.bx.length := by
    rcases Nat.lt_or_ge Gc.bx.length is.length with h1 | h1
    · have h2 : Gc.bx.length < bs.length := by rw [hbs.1]; exact h1
      have := hpre _ _ (List.getElem?_eq_getElem h2)
      simp at this
    · exact h1
  have hnew : ∀ b ∈ Gc.bx.drop is.length, w.heap.size ≤ b := fun b hb => by
    rcases hc.bxown b (List.mem_of_mem_drop hb) with h1 | h1
    · exact h1
    · exfalso
      obtain ⟨k, hk1⟩ := List.getElem?_of_mem h1
      have h2 := hpre k b hk1
      obtain ⟨m, hm⟩ := List.getElem?_of_mem hb
      rw [List.getElem?_drop] at hm
      obtain ⟨l1, e1⟩ := List.getElem?_eq_some_iff.1 h2
      obtain ⟨l2, e2⟩ := List.getElem?_eq_some_iff.1 hm
      have h3 := (List.getElem_inj hc.bxnd).1 (e1.trans e2.symm)
      have h4 : k < bs.length := (List.getElem?_eq_some_iff.1 hk1).1
      rw [hbs.1] at h4
      omega
  have hmap : ∀ (j k b : Nat), backS is h.bx.length j = some k → Gc.bx[j]? = some b → (G.bx ++ Gc.bx.drop is.length)[k]? = some b := by
    intro j k b hj hb
    unfold backS at hj
    split at hj
    · rename_i i hi
      injection hj with hj
      subst hj
      obtain ⟨b', h2, h3⟩ := hbs.2 j i hi
      have h4 := hpre j b' h3
      rw [hb] at h4
      injection h4 with h4
      subst h4
      rw [List.getElem?_append_left (List.getElem?_eq_some_iff.1 h2).1]
      exact h2
    · rename_i hi
      injection hj with hj
      subst hj
      have hge : is.length ≤ j := by simpa using hi
      rw [← hr.bxlen, List.getElem?_append_right (by omega), List.getElem?_drop, show is.length + (G.bx.length + (j - is.length) - G.bx.length) = j by omega]
      exact hb
  have hext : Ext G w ⟨Gc.St, G.bx ++ Gc.bx.drop is.length, G.tk⟩ w' := ⟨fun b o hs => he.st b o hs, fun i b hb => by
    show (G.bx ++ Gc.bx.drop is.length)[i]? = some b
    rw [List.getElem?_append_left (List.getElem?_eq_some_iff.1 hb).1]; exact hb, fun g n u hg => ⟨n, u, hg, Nat.le_refl _, fun _ => rfl⟩⟩
  refine ⟨⟨fun i b hb => hext.bx i b (hr.inpre i b hb), ?_, hc.stlt, ?_, ?_, ?_, ?_, ?_, ?_, hr.tklen, ?_, ?_, hr.tknd⟩, hext, hmap⟩
  · have k := hr.kept
    have k' := hc.kept
    refine ⟨k'.os.trans k.os, k'.tape.trans k.tape, k'.output.trans k.output, Nat.le_trans k.size hsz, fun j hj hn => (hblk j (Nat.lt_of_lt_of_le hj k.size) (fun e => ?_)).trans (k.block j hj hn)⟩
    rcases hr.bxown j (hmem j e) with e | e
    · omega
    · exact hn e
  · intro b' o hs
    rcases hc.stnew b' o hs with h1 | h1
    · exact hr.stnew b' o h1
    · exact .inr (Nat.le_trans hr.kept.size h1)
  · have := hc.bxlen
    simp only at this ⊢
    rw [List.length_append, List.length_drop, hk.len, hr.bxlen, this]
  · refine List.nodup_append.2 ⟨hr.bxnd, hc.bxnd.sublist (List.drop_sublist _ _), fun a ha b hb e => ?_⟩
    subst e
    have := hr.boxlt ha
    have := hnew a hb
    omega
  · intro b hb o hs
    rcases List.mem_append.1 hb with hb | hb
    · exact hr.bxst b hb o (hstc b o hs (hr.boxlt hb))
    · exact hc.bxst b (List.mem_of_mem_drop hb) o hs
  · intro b hb
    rcases List.mem_append.1 hb with hb | hb
    · exact hr.bxown b hb
    · exact .inl (Nat.le_trans hr.kept.size (hnew b hb))
  · intro i b row hi hrow
    simp only at hi hrow
    rcases Nat.lt_or_ge i G.bx.length with hlt | hge
    · rw [List.getElem?_append_left hlt] at hi
      by_cases hin : i ∈ is
      · obtain ⟨k, hk1⟩ := List.getElem?_of_mem hin
        obtain ⟨b', h2, h3⟩ := hbs.2 k i hk1
        rw [hi] at h2
        injection h2 with h2
        subst h2
        have h4 := hpre k b h3
        have hkl : k < bc.length := by
          have := hc.bxlen
          simp only at this
          rw [← this]
          exact (List.getElem?_eq_some_iff.1 h4).1
        have h5 := hk.ins k i _ hk1 (List.getElem?_eq_getElem hkl)
        rw [hrow] at h5
        injection h5 with h5
        subst h5
        obtain ⟨us, T, q1, q2, q3⟩ := hc.box k b _ h4 (List.getElem?_eq_getElem hkl)
        exact ⟨us, T, q1, repL_ren (G := Gc) (G' := ⟨Gc.St, G.bx ++ Gc.bx.drop is.length, G.tk⟩) rfl hmap _ _ q2, q3⟩
      · have hil : i < h.bx.length := by rw [← hr.bxlen]; exact hlt
        have h5 := hk.old i _ hin (List.getElem?_eq_getElem hil)
        rw [hrow] at h5
        injection h5 with h5
        subst h5
        obtain ⟨us, T, q1, q2, q3⟩ := hr.box i b _ hi (List.getElem?_eq_getElem hil)
        have hb1 := List.mem_of_getElem? hi
        refine ⟨us, T, (hblk b (hr.boxlt hb1) (fun e => hin ?_)).trans q1, repL_mono hext _ _ q2, q3⟩
        obtain ⟨k, hk1⟩ := List.getElem?_of_mem e
        have hkl : k < is.length := by rw [← hbs.1]; exact (List.getElem?_eq_some_iff.1 hk1).1
        obtain ⟨b', h2, h3⟩ := hbs.2 k is[k] (List.getElem?_eq_getElem hkl)
        rw [hk1] at h3
        injection h3 with h3
        subst h3
        obtain ⟨l1, e1⟩ := List.getElem?_eq_some_iff.1 hi
        obtain ⟨l2, e2⟩ := List.getElem?_eq_some_iff.1 h2
        have := (List.getElem_inj hr.bxnd).1 (e1.trans e2.symm)
        rw [this]
        exact List.getElem_mem hkl
    · rw [List.getElem?_append_right hge, List.getElem?_drop] at hi
      have hkl : is.length + (i - G.bx.length) < bc.length := by
        have := hc.bxlen
        simp only at this
        rw [← this]
        exact (List.getElem?_eq_some_iff.1 hi).1
      have h5 := hk.new (i - G.bx.length) _ (List.getElem?_eq_getElem hkl)
      rw [← hr.bxlen, show G.bx.length + (i - G.bx.length) = i by omega, hrow] at h5
      injection h5 with h5
      subst h5
      obtain ⟨us, T, q1, q2, q3⟩ := hc.box _ b _ hi (List.getElem?_eq_getElem hkl)
      have hmap2 : ∀ (j k b : Nat), backS is G.bx.length j = some k → Gc.bx[j]? = some b → (G.bx ++ Gc.bx.drop is.length)[k]? = some b := by rw [hr.bxlen]; exact hmap
      exact ⟨us, T, q1, repL_ren (G := Gc) (G' := ⟨Gc.St, G.bx ++ Gc.bx.drop is.length, G.tk⟩) rfl hmap2 _ _ q2, q3⟩
  · intro g n u T sz rows hg ht
    obtain ⟨k1, ⟨xs, k2⟩, k3⟩ := hr.tok g n u T sz rows hg ht
    refine ⟨k1, ⟨xs, owns_block k2 fun b hb => hblk b (hr.toklt hg hb).2 fun e => hr.tkbx g n u hg b hb (hmem b e)⟩, fun b' hb' o ho hs => ?_⟩
    exact k3 b' hb' o ho (hstc b' o hs (hr.toklt hg hb').2)
  · intro g n u hg b hb hm
    rcases List.mem_append.1 hm with hm | hm
    · exact hr.tkbx g n u hg b hb hm
    · have := (hr.toklt hg hb).2
      have := hnew b hm
      omega
inductive ArgsM (f : Nat → Option Nat) (ev : Operand → Option AV) : List Operand → List AV → Prop
  | nil : ArgsM f ev [] []
  | cons (o : Operand) (x y : AV) (l : List Operand) (ys : List AV) : ev o = some x → LeA (ren f x) y → ArgsM f ev l ys → ArgsM f ev (o :: l) (y :: ys)
section
variable {P : Program} {ev : Operand → Option AV} {bx : List (List AV)} {tk : List Tok} {R : AV → AH → Prop} {d : Option Tmp} {ty : TypeId} {pos : String} {af : Array Edge} {gd : Option (Nat × Bool)} {ats : Array TypeId}
theorem s_callM {f : FuncId} {l : List Operand} {ys : List AV} {rows : List (List AV)} {R0 : AV → List (List AV) → List Tok → Prop} (is : List Nat) [Fun P f] (hfo : ev (.func f) = some (.fn f [])) (ha : ArgsM (fun j => plcOf' j is 0) ev l ys) (hnd : is.Nodup) (hh : Hand bx (fun j => plcOf' j is 0) is rows) (hc : ACall P f ys rows R0)
    (hR : ∀ r bc tc, R0 r bc tc → tc = [] ∧ ∃ bx', Back bx is bc bx' ∧ R (ren (backS is bx.length) r) ⟨bx', tk⟩) : AStep P ⟨d, .call { callee := .value (.func f), args := l.toArray, argTypes := ats }, ty, pos, af, gd⟩ ev ⟨bx, tk⟩ R := by
  intro E G w ec hr he
  obtain ⟨cs, k1, k2⟩ := func_op (he (.func f) (by simp [Op.operands, Call.operands]) _ hfo)
  simp only [repL] at k2
  subst k2
  obtain ⟨bs, hbs⟩ : ∃ bs : List Nat, bs.length = is.length ∧ ∀ (k i : Nat), is[k]? = some i → ∃ b, G.bx[i]? = some b ∧ bs[k]? = some b := by
    refine ⟨is.map fun i => (G.bx[i]?).getD 0, by simp, fun k i hk => ?_⟩
    obtain ⟨row, h1, _⟩ := hh.get.2 k i hk
    have hlt : i < G.bx.length := by rw [hr.bxlen]; exact (List.getElem?_eq_some_iff.1 h1).1
    exact ⟨G.bx[i], List.getElem?_eq_getElem hlt, by rw [List.getElem?_map, hk]; simp [hlt]⟩
  obtain ⟨s1, s2⟩ := handM_start hr hnd hbs hh
  refine upon_call k1 ?_
  rw [List.append_nil]
  have hargs : ∀ {l : List Operand} {ys : List AV}, ArgsM (fun j => plcOf' j is 0) ev l ys → (∀ x ∈ l, ∀ av, ev x = some av → rep G w av (ec x)) → repL ⟨G.St, bs, []⟩ w ys (l.map ec) := by
    intro l ys h
    induction h with
    | nil => intro _; simp only [List.map_nil, repL]
    | cons o x y l ys h1 h2 _ ih =>
      intro he
      simp only [List.map_cons, repL]
      exact ⟨_, _, rfl, h2 _ _ _ (rep_ren (G := G) (G' := ⟨G.St, bs, []⟩) rfl s2 _ _ (he o (by simp) _ h1)), ih fun x hx => he x (by simp [hx])⟩
  refine Calls.mono (hc w G.St bs _ s1 (hargs ha fun x hx av hav => he x (by simp [Op.operands, Call.operands, hx]) av hav)) ?_
  intro e w' h3
  cases e with
  | returned v =>
    obtain ⟨r, bc, tc, Gc, hR0, h1, h2, h3⟩ := h3
    obtain ⟨rfl, bx', q1, q2⟩ := hR r bc tc hR0
    obtain ⟨m1, m2, m3⟩ := handM_merge hr hbs h1 h2 q1
    exact ⟨_, _, _, q2, m1, m2, rep_ren (G := Gc) (G' := ⟨Gc.St, G.bx ++ Gc.bx.drop is.length, G.tk⟩) rfl m3 _ _ h3⟩
  | panicked c => exact h3.elim
  | outgrown => exact h3.elim
end
end Go.Proofs.Ytaidkbnbfnaihaa
namespace Go.Proofs.Ytaidkbnbfnaihaa
open Go.RowKit

def chunk (sz : Nat) : Nat → List AV → List (List AV)
  | 0, _ => []
  | n + 1, row => row.take sz :: chunk sz n (row.drop sz)
theorem chunk_len (sz : Nat) : ∀ (n : Nat) (row : List AV), (chunk sz n row).length = n
  | 0, _ => rfl
  | n + 1, row => by simp [chunk, chunk_len sz n]
theorem chunk_flat {sz : Nat} {sp : List AV} : ∀ {rows : List (List AV)}, (∀ r ∈ rows, r.length = sz) → chunk sz rows.length (rows.flatten ++ sp) = rows
  | [], _ => rfl
  | r :: rs, h => by
    have hr := h r (by simp)
    rw [List.length_cons, chunk, List.flatten_cons, List.append_assoc, List.take_left' hr, List.drop_left' hr, chunk_flat (fun x hx => h x (by simp [hx]))]
theorem froC_take {St : Nat → Nat → Prop} {w : World} {b : Nat} {xs : List AV} {off : Nat} (h : froC St w b xs off) (k : Nat) : froC St w b (xs.take k) off :=
  froC_of fun i x hi => froC_get h (by
    rw [List.getElem?_take] at hi
    split at hi
    · exact hi
    · cases hi)
theorem chunk_fro {St : Nat → Nat → Prop} {w : World} {b sz : Nat} : ∀ {n : Nat} {row : List AV} {off : Nat}, froC St w b row off → n * sz ≤ row.length → froR St w b sz (chunk sz n row) off
  | 0, _, _, _, _ => by simp only [chunk, froR]
  | n + 1, row, off, h, hl => by
    rw [Nat.add_mul] at hl
    simp only [chunk, froR]
    exact ⟨⟨by rw [List.length_take]; omega, froC_take h sz⟩, chunk_fro (froC_drop h sz) (by rw [List.length_drop]; omega)⟩
mutual
def lowG (g : Nat → Option (List AV)) : AV → AV
  | .v x => .v x
  | .agg cs => .agg (lowGL g cs)
  | .tup cs => .tup (lowGL g cs)
  | .sl sz rows _ => .sl sz rows none
  | .fp row => .fp row
  | .bp j o => match g j with
    | some row => .fp (row.drop o)
    | none => .any
  | .bs j o sz n _ => match g j with
    | some row => match Nat.ble (o + n * sz) row.length with
      | true => .sl sz (chunk sz n (row.drop o)) none
      | false => .any
    | none => .any
  | .fn f caps => .fn f (lowGL g caps)
  | .any => .any
def lowGL (g : Nat → Option (List AV)) : List AV → List AV
  | [] => []
  | x :: xs => lowG g x :: lowGL g xs
end
def Okg (G : Gh) (w : World) (S : Nat → Nat → Prop) (g : Nat → Option (List AV)) : Prop := ∀ (j : Nat) (row : List AV) (b : Nat), g j = some row → G.bx[j]? = some b → froC S w b row 0
section
variable {G : Gh} {w : World} {S : Nat → Nat → Prop} {g : Nat → Option (List AV)} (hS : ∀ b o, G.St b o → S b o ∧ w.cell? ⟨b, o, none⟩ = w.cell? ⟨b, o, none⟩) (hg : Okg G w S g)
include hS hg
mutual
theorem rep_lowG : ∀ (x : AV) (v : Value), rep G w x v → fro S w (lowG g x) v
  | .v _, _, k => by simpa only [rep, fro, lowG] using k
  | .agg cs, _, k => by
    simp only [rep, fro, lowG] at k ⊢
    obtain ⟨ys, h1, h2⟩ := k
    exact ⟨ys, h1, repL_lowG cs ys h2⟩
  | .tup cs, _, k => by
    simp only [rep, fro, lowG] at k ⊢
    obtain ⟨ys, h1, h2⟩ := k
    exact ⟨ys, h1, repL_lowG cs ys h2⟩
  | .sl sz rows none, _, k => by simp only [rep, lowG] at k ⊢; exact fro_mono hS _ _ k
  | .sl sz rows (some g), _, k => by simp only [rep, lowG] at k ⊢; exact fro_mono hS _ _ k.1
  | .fp row, _, k => by
    simp only [rep, fro, lowG] at k ⊢
    obtain ⟨b, off, h1, h2⟩ := k
    exact ⟨b, off, h1, froC_mono hS _ _ _ h2⟩
  | .bp j o, v, k => by
    simp only [rep] at k
    obtain ⟨b, h1, h2⟩ := k
    simp only [lowG]
    split
    · rename_i row e
      simp only [fro]
      have := froC_drop (hg j row b e h1) o
      rw [Nat.zero_add] at this
      exact ⟨b, o, h2, this⟩
    · simp only [fro]
  | .bs j o sz n cap, v, k => by
    simp only [rep] at k
    obtain ⟨b, h1, h2, h3, h4⟩ := k
    simp only [lowG]
    split
    · rename_i row e
      split
      · rename_i hl
        have hl' := Nat.le_of_ble_eq_true hl
        simp only [fro]
        have := froC_drop (hg j row b e h1) o
        rw [Nat.zero_add] at this
        refine ⟨trivial, some ⟨b, o, none⟩, cap, by rw [chunk_len]; exact h2, by rw [chunk_len]; exact h3, h4, .inr ⟨b, o, rfl, chunk_fro this (by rw [List.length_drop]; omega)⟩⟩
      · simp only [fro]
    · simp only [fro]
  | .fn f caps, _, k => by
    simp only [rep, fro, lowG] at k ⊢
    obtain ⟨ys, h1, h2⟩ := k
    exact ⟨ys, h1, repL_lowG caps ys h2⟩
  | .any, _, _ => by simp only [fro, lowG]
theorem repL_lowG : ∀ (xs : List AV) (vs : List Value), repL G w xs vs → froL S w (lowGL g xs) vs
  | [], _, k => by have _ := hS; have _ := hg; simpa only [repL, froL, lowGL] using k
  | x :: xs, _, k => by
    simp only [repL, froL, lowGL] at k ⊢
    obtain ⟨z, zs, h1, h2, h3⟩ := k
    exact ⟨z, zs, h1, rep_lowG x z h2, repL_lowG xs zs h3⟩
end
end
def frzG (n : Nat) (bx : List (List AV)) : Nat → Nat → Option (List AV)
  | 0, _ => none
  | k + 1, j => match Nat.blt j n with
    | true => none
    | false => (bx[j]?).map (lowGL (frzG n bx k))
def StF (G : Gh) (n : Nat) (b o : Nat) : Prop := G.St b o ∨ b ∈ G.bx.drop n
theorem stF_mono {G : Gh} {w : World} (n : Nat) : ∀ b o, G.St b o → StF G n b o ∧ w.cell? ⟨b, o, none⟩ = w.cell? ⟨b, o, none⟩ := fun _ _ h => ⟨.inl h, rfl⟩
theorem frzG_ok {E : Env} {G : Gh} {h : AH} {w : World} (hr : HRel E G h w) (n : Nat) : ∀ k, Okg G w (StF G n) (frzG n h.bx k)
  | 0 => fun j row b hj _ => by cases hj
  | k + 1 => fun j row b hj hb => by
    unfold frzG at hj
    split at hj
    · cases hj
    · rename_i hlt
      have hge : n ≤ j := by
        rcases Nat.lt_or_ge j n with h1 | h1
        · exfalso
          have : Nat.blt j n = true := by rw [Nat.blt_eq]; exact h1
          rw [this] at hlt
          cases hlt
        · exact h1
      obtain ⟨row0, h1, rfl⟩ := Option.map_eq_some_iff.1 hj
      obtain ⟨us, T, q1, q2, q3⟩ := hr.box j b row0 hb h1
      have hmem : b ∈ G.bx.drop n := by
        refine List.mem_of_getElem? (i := j - n) ?_
        rw [List.getElem?_drop, show n + (j - n) = j by omega]
        exact hb
      refine froL_froC (fun o => .inr hmem) (repL_lowG (stF_mono n) (frzG_ok hr n k) _ _ q2) q3 fun i u hi => ?_
      rw [Nat.zero_add]
      simp only [World.cell?, q1]
      simpa using hi
mutual
def liv (n : Nat) (g : Nat → Option (List AV)) : AV → AV
  | .v x => .v x
  | .agg cs => .agg (livL n g cs)
  | .tup cs => .tup (livL n g cs)
  | .sl sz rows tok => .sl sz rows tok
  | .fp row => .fp row
  | .bp j o => match Nat.blt j n with
    | true => .bp j o
    | false => lowG g (.bp j o)
  | .bs j o sz m cap => match Nat.blt j n with
    | true => .bs j o sz m cap
    | false => lowG g (.bs j o sz m cap)
  | .fn f caps => .fn f (livL n g caps)
  | .any => .any
def livL (n : Nat) (g : Nat → Option (List AV)) : List AV → List AV
  | [] => []
  | x :: xs => liv n g x :: livL n g xs
end
section
variable {G : Gh} {w : World} {n : Nat} {g : Nat → Option (List AV)} (hg : Okg G w (StF G n) g)
include hg
mutual
theorem rep_liv : ∀ (x : AV) (v : Value), rep G w x v → rep ⟨StF G n, G.bx.take n, G.tk⟩ w (liv n g x) v
  | .v _, _, k => by simpa only [rep, liv] using k
  | .agg cs, _, k => by
    simp only [rep, liv] at k ⊢
    obtain ⟨ys, h1, h2⟩ := k
    exact ⟨ys, h1, repL_liv cs ys h2⟩
  | .tup cs, _, k => by
    simp only [rep, liv] at k ⊢
    obtain ⟨ys, h1, h2⟩ := k
    exact ⟨ys, h1, repL_liv cs ys h2⟩
  | .sl sz rows none, _, k => by simp only [rep, liv] at k ⊢; exact fro_mono (stF_mono n) _ _ k
  | .sl sz rows (some g), _, k => by simp only [rep, liv] at k ⊢; exact ⟨fro_mono (stF_mono n) _ _ k.1, k.2⟩
  | .fp row, _, k => by
    simp only [rep, liv] at k ⊢
    obtain ⟨b, off, h1, h2⟩ := k
    exact ⟨b, off, h1, froC_mono (stF_mono n) _ _ _ h2⟩
  | .bp j o, v, k => by
    simp only [liv]
    split
    · rename_i hlt
      simp only [rep] at k ⊢
      obtain ⟨b, h1, h2⟩ := k
      refine ⟨b, ?_, h2⟩
      rw [Nat.blt_eq] at hlt
      rw [List.getElem?_take, if_pos hlt]
      exact h1
    · exact rep_fro (G := ⟨StF G n, G.bx.take n, G.tk⟩) _ _ (rep_lowG (stF_mono n) hg _ _ k)
  | .bs j o sz m cap, v, k => by
    simp only [liv]
    split
    · rename_i hlt
      simp only [rep] at k ⊢
      obtain ⟨b, h1, h2⟩ := k
      refine ⟨b, ?_, h2⟩
      rw [Nat.blt_eq] at hlt
      rw [List.getElem?_take, if_pos hlt]
      exact h1
    · exact rep_fro (G := ⟨StF G n, G.bx.take n, G.tk⟩) _ _ (rep_lowG (stF_mono n) hg _ _ k)
  | .fn f caps, _, k => by
    simp only [rep, liv] at k ⊢
    obtain ⟨ys, h1, h2⟩ := k
    exact ⟨ys, h1, repL_liv caps ys h2⟩
  | .any, _, _ => by simp only [rep, liv]
theorem repL_liv : ∀ (xs : List AV) (vs : List Value), repL G w xs vs → repL ⟨StF G n, G.bx.take n, G.tk⟩ w (livL n g xs) vs
  | [], _, k => by have _ := hg; simpa only [repL, livL] using k
  | x :: xs, _, k => by
    simp only [repL, livL] at k ⊢
    obtain ⟨z, zs, h1, h2, h3⟩ := k
    exact ⟨z, zs, h1, rep_liv x z h2, repL_liv xs zs h3⟩
end
end
theorem HRel.freeze {E : Env} {G : Gh} {h : AH} {w : World} (hr : HRel E G h w) (n k : Nat) (hn : E.ins.length ≤ n) : HRel E ⟨StF G n, G.bx.take n, G.tk⟩ ⟨(h.bx.take n).map (livL n (frzG n h.bx k)), h.tk⟩ w := by
  have hdis : ∀ b, b ∈ G.bx.take n → b ∉ G.bx.drop n := fun b h1 h2 => by
    have := hr.bxnd
    rw [← List.take_append_drop n G.bx] at this
    exact (List.nodup_append.1 this).2.2 b h1 b h2 rfl
  refine ⟨fun i b hi => by rw [List.getElem?_take, if_pos (Nat.lt_of_lt_of_le (List.getElem?_eq_some_iff.1 hi).1 hn)]; exact hr.inpre i b hi, hr.kept, ?_, ?_, by simp [hr.bxlen], List.Nodup.sublist (List.take_sublist n G.bx) hr.bxnd, ?_, fun b hb => hr.bxown b (List.mem_of_mem_take hb), ?_, hr.tklen, ?_, fun g n' u hg b hb hm => hr.tkbx g n' u hg b hb (List.mem_of_mem_take hm), hr.tknd⟩
  · rintro b o (hs | hs)
    · exact hr.stlt b o hs
    · exact hr.boxlt (List.mem_of_mem_drop hs)
  · rintro b o (hs | hs)
    · exact hr.stnew b o hs
    · rcases hr.bxown b (List.mem_of_mem_drop hs) with h1 | h1
      · exact .inr h1
      · exfalso
        obtain ⟨i, hi⟩ := List.getElem?_of_mem h1
        have h2 := hr.inpre i b hi
        have h3 : i < E.ins.length := (List.getElem?_eq_some_iff.1 hi).1
        refine hdis b (List.mem_of_getElem? (i := i) ?_) hs
        rw [List.getElem?_take, if_pos (by omega)]
        exact h2
  · rintro b hb o (hs | hs)
    · exact hr.bxst b (List.mem_of_mem_take hb) o hs
    · exact hdis b hb hs
  · intro i b row hi hrow
    simp only at hi hrow
    rw [List.getElem?_map] at hrow
    obtain ⟨row0, h1, rfl⟩ := Option.map_eq_some_iff.1 hrow
    rw [List.getElem?_take] at hi h1
    split at hi
    · rename_i hlt
      rw [if_pos hlt] at h1
      obtain ⟨us, T, q1, q2, q3⟩ := hr.box i b row0 hi h1
      exact ⟨us, T, q1, repL_liv (frzG_ok hr n k) _ _ q2, q3⟩
    · cases hi
  · intro g n' u T sz rows hg ht
    obtain ⟨k1, k2, k3⟩ := hr.tok g n' u T sz rows hg ht
    refine ⟨k1, k2, fun b hb o ho => ?_⟩
    rintro (hs | hs)
    · exact k3 b hb o ho hs
    · exact hr.tkbx g n' u hg b hb (List.mem_of_mem_drop hs)
inductive SubF (n : Nat) (g : Nat → Option (List AV)) (f : Nat → Option AV) : List (Nat × AV) → Prop
  | nil : SubF n g f []
  | cons (t : Nat) (x y : AV) (l : List (Nat × AV)) : f t = some x → LeA (liv n g x) y → SubF n g f l → SubF n g f ((t, y) :: l)
theorem weak_fz {f : Nat → Option AV} {bx bx' : List (List AV)} {tk : List Tok} {l : List (Nat × AV)} {N : Dim} (n k : Nat) (hn : Nat.ble N.ni n = true) (hb : (bx.take n).map (livL n (frzG n bx k)) = bx') (hl : SubF n (frzG n bx k) f l) : Weak N ⟨f, ⟨bx, tk⟩⟩ ⟨look l, ⟨bx', tk⟩⟩ := by
  rintro E a w ⟨G, h1, h2, h3, h4, h5⟩
  subst hb
  refine ⟨_, h1.freeze n k (by rw [h5]; exact Nat.le_of_ble_eq_true hn), ?_, h3, h4, h5⟩
  intro t x hx
  have key : ∀ {l : List (Nat × AV)}, SubF n (frzG n bx k) f l → look l t = some x → rep ⟨StF G n, G.bx.take n, G.tk⟩ w x (a.tmps.getD t undef) := by
    intro l hl
    induction hl with
    | nil => intro h; cases h
    | cons t' x' y l e1 e2 _ ih =>
      intro h
      rw [← put_look, put_some] at h
      split at h
      · rename_i e
        subst e
        injection h with h
        subst h
        exact e2 _ _ _ (rep_liv (frzG_ok h1 n k) _ _ (h2 t' x' e1))
      · exact ih h
  exact key hl hx
inductive ArgsR (g : Nat → Option (List AV)) (ev : Operand → Option AV) : List Operand → List AV → Prop
  | nil : ArgsR g ev [] []
  | cons (o : Operand) (x y : AV) (l : List Operand) (ys : List AV) : ev o = some x → LeA (lowG g x) y → ArgsR g ev l ys → ArgsR g ev (o :: l) (y :: ys)
section
variable {P : Program} {ev : Operand → Option AV} {bx : List (List AV)} {tk : List Tok} {R : AV → AH → Prop} {d : Option Tmp} {ty : TypeId} {pos : String} {af : Array Edge} {gd : Option (Nat × Bool)} {ats : Array TypeId}
theorem s_callR {f : FuncId} {l : List Operand} {ys : List AV} {R0 : AV → Prop} (k : Nat) [Fun P f] (hfo : ev (.func f) = some (.fn f [])) (ha : ArgsR (frzG 0 bx k) ev l ys) (hc : AFn P f ys R0) (hR : ∀ r, R0 r → plnA r = true ∧ R r ⟨bx, tk⟩) : AStep P ⟨d, .call { callee := .value (.func f), args := l.toArray, argTypes := ats }, ty, pos, af, gd⟩ ev ⟨bx, tk⟩ R := by
  intro E G w ec hr he
  obtain ⟨cs, k1, k2⟩ := func_op (he (.func f) (by simp [Op.operands, Call.operands]) _ hfo)
  simp only [repL] at k2
  subst k2
  refine upon_call k1 ?_
  rw [List.append_nil]
  have hst : HRel ⟨w, [], StF G 0⟩ ⟨StF G 0, [], []⟩ ⟨[], []⟩ w := by
    refine ⟨by simp, ⟨rfl, rfl, rfl, Nat.le_refl _, fun _ _ _ => rfl⟩, ?_, fun _ _ h => .inl h, rfl, by simp, by simp, by simp, by simp, rfl, by simp, by simp, by simp⟩
    rintro b o (hs | hs)
    · exact hr.stlt b o hs
    · exact hr.boxlt (List.mem_of_mem_drop hs)
  have hargs : ∀ {l : List Operand} {ys : List AV}, ArgsR (frzG 0 bx k) ev l ys → (∀ x ∈ l, ∀ av, ev x = some av → rep G w av (ec x)) → repL ⟨StF G 0, [], []⟩ w ys (l.map ec) := by
    intro l ys h
    induction h with
    | nil => intro _; simp only [List.map_nil, repL]
    | cons o x y l ys h1 h2 _ ih =>
      intro he
      simp only [List.map_cons, repL]
      exact ⟨_, _, rfl, h2 _ _ _ (rep_fro (G := ⟨StF G 0, [], []⟩) _ _ (rep_lowG (stF_mono 0) (frzG_ok hr 0 k) _ _ (he o (by simp) _ h1))), ih fun x hx => he x (by simp [hx])⟩
  refine Calls.mono (hc w (StF G 0) [] _ hst (hargs ha fun x hx av hav => he x (by simp [Op.operands, Call.operands, hx]) av hav)) ?_
  intro e w' h3
  cases e with
  | returned v =>
    obtain ⟨r, bx', tk', Gc, ⟨rfl, rfl, hR0⟩, h1, h2, h3⟩ := h3
    obtain ⟨q1, q2⟩ := hR r hR0
    have hk := h1.kept
    obtain ⟨m1, m2⟩ := hr.below (w' := w') ⟨hk.os, hk.tape, hk.output, hk.size, fun k hk' => hk.block k hk' (by simp)⟩
    exact ⟨r, _, G, q2, m1, m2, rep_pln _ _ q1 h3⟩
  | panicked c => exact h3.elim
  | outgrown => exact h3.elim
end
end Go.Proofs.Ytaidkbnbfnaihaa
namespace Go.Proofs.Ytaidkbnbfnaihaa
open Go.RowKit

mutual
def renK (f : Nat → Option Nat) : AV → AV
  | .v x => .v x
  | .agg cs => .agg (renKL f cs)
  | .tup cs => .tup (renKL f cs)
  | .sl sz rows tok => .sl sz rows tok
  | .fp row => .fp row
  | .bp j o => match f j with
    | some k => .bp k o
    | none => .any
  | .bs j o sz n cap => match f j with
    | some k => .bs k o sz n cap
    | none => .any
  | .fn g caps => .fn g (renKL f caps)
  | .any => .any
def renKL (f : Nat → Option Nat) : List AV → List AV
  | [] => []
  | x :: xs => renK f x :: renKL f xs
end
section
variable {G : Gh} {w : World} {bs : List Nat} {f : Nat → Option Nat} (hf : ∀ (j k b : Nat), f j = some k → G.bx[j]? = some b → bs[k]? = some b)
include hf
mutual
theorem rep_renK : ∀ (x : AV) (v : Value), rep G w x v → rep ⟨G.St, bs, G.tk⟩ w (renK f x) v
  | .v _, _, h => by simpa only [rep, renK] using h
  | .agg cs, _, h => by
    simp only [rep, renK] at h ⊢
    obtain ⟨ys, h1, h2⟩ := h
    exact ⟨ys, h1, repL_renK cs ys h2⟩
  | .tup cs, _, h => by
    simp only [rep, renK] at h ⊢
    obtain ⟨ys, h1, h2⟩ := h
    exact ⟨ys, h1, repL_renK cs ys h2⟩
  | .sl sz rows none, _, h => by simpa only [rep, renK] using h
  | .sl sz rows (some g), _, h => by simpa only [rep, renK] using h
  | .fp _, _, h => by simpa only [rep, renK] using h
  | .bp j o, v, h => by
    simp only [rep] at h
    obtain ⟨b, h1, h2⟩ := h
    simp only [renK]
    split
    · rename_i k e
      simp only [rep]
      exact ⟨b, hf j k b e h1, h2⟩
    · simp only [rep]
  | .bs j o sz n cap, v, h => by
    simp only [rep] at h
    obtain ⟨b, h1, h2⟩ := h
    simp only [renK]
    split
    · rename_i k e
      simp only [rep]
      exact ⟨b, hf j k b e h1, h2⟩
    · simp only [rep]
  | .fn g caps, _, h => by
    simp only [rep, renK] at h ⊢
    obtain ⟨ys, h1, h2⟩ := h
    exact ⟨ys, h1, repL_renK caps ys h2⟩
  | .any, _, _ => by simp only [rep, renK]
theorem repL_renK : ∀ (xs : List AV) (vs : List Value), repL G w xs vs → repL ⟨G.St, bs, G.tk⟩ w (renKL f xs) vs
  | [], _, h => by have _ := hf; simpa only [repL, renKL] using h
  | x :: xs, _, h => by
    simp only [repL, renKL] at h ⊢
    obtain ⟨z, zs, h1, h2, h3⟩ := h
    exact ⟨z, zs, h1, rep_renK x z h2, repL_renK xs zs h3⟩
end
end
inductive HandK (bx : List (List AV)) (f : Nat → Option Nat) : List Nat → List (List AV) → Prop
  | nil : HandK bx f [] []
  | cons (i : Nat) (row row' : List AV) (is : List Nat) (rows : List (List AV)) : bx[i]? = some row → renKL f row = row' → HandK bx f is rows → HandK bx f (i :: is) (row' :: rows)
theorem HandK.get {bx : List (List AV)} {f : Nat → Option Nat} {is : List Nat} {rows : List (List AV)} (h : HandK bx f is rows) : is.length = rows.length ∧ ∀ (k i : Nat), is[k]? = some i → ∃ row, bx[i]? = some row ∧ rows[k]? = some (renKL f row) := by
  induction h with
  | nil => exact ⟨rfl, fun k i hk => by simp at hk⟩
  | cons i row row' is rows h1 h2 _ ih =>
    refine ⟨by simp [ih.1], fun k j hk => ?_⟩
    subst h2
    cases k with
    | zero => simp at hk; subst hk; exact ⟨row, h1, rfl⟩
    | succ k => simpa using ih.2 k j (by simpa using hk)
inductive SubK (g : Nat → Option Nat) (f : Nat → Option AV) : List (Nat × AV) → Prop
  | nil : SubK g f []
  | cons (t : Nat) (x y : AV) (l : List (Nat × AV)) : f t = some x → LeA (renK g x) y → SubK g f l → SubK g f ((t, y) :: l)
theorem weak_ren {f : Nat → Option AV} {bx rows : List (List AV)} {tk : List Tok} {l : List (Nat × AV)} {N : Dim} (is : List Nat) (hn : ∀ i, i < N.ni → is[i]? = some i) (hnd : is.Nodup) (hh : HandK bx (fun j => plcOf' j is 0) is rows) (hl : SubK (fun j => plcOf' j is 0) f l) : Weak N ⟨f, ⟨bx, tk⟩⟩ ⟨look l, ⟨rows, tk⟩⟩ := by
  rintro E a w ⟨G, hr, h2, h3, h4, h5⟩
  obtain ⟨bs, hbs⟩ : ∃ bs : List Nat, bs.length = is.length ∧ ∀ (k i : Nat), is[k]? = some i → ∃ b, G.bx[i]? = some b ∧ bs[k]? = some b := by
    refine ⟨is.map fun i => (G.bx[i]?).getD 0, by simp, fun k i hk => ?_⟩
    obtain ⟨row, h1, _⟩ := hh.get.2 k i hk
    have hlt : i < G.bx.length := by rw [hr.bxlen]; exact (List.getElem?_eq_some_iff.1 h1).1
    exact ⟨G.bx[i], List.getElem?_eq_getElem hlt, by rw [List.getElem?_map, hk]; simp [hlt]⟩
  have hmap : ∀ (j k b : Nat), plcOf' j is 0 = some k → G.bx[j]? = some b → bs[k]? = some b := fun j k b hk hb => by
    obtain ⟨_, h1⟩ := plc_some hk
    rw [Nat.sub_zero] at h1
    obtain ⟨b', h2, h3⟩ := hbs.2 k j h1
    rw [hb] at h2
    injection h2 with h2
    subst h2
    exact h3
  have hmem : ∀ b ∈ bs, b ∈ G.bx := fun b hb => by
    obtain ⟨k, hk⟩ := List.getElem?_of_mem hb
    have hlt : k < is.length := by rw [← hbs.1]; exact (List.getElem?_eq_some_iff.1 hk).1
    obtain ⟨b', h2, h3⟩ := hbs.2 k is[k] (List.getElem?_eq_getElem hlt)
    rw [hk] at h3
    injection h3 with h3
    subst h3
    exact List.mem_of_getElem? h2
  refine ⟨⟨G.St, bs, G.tk⟩, ⟨?_, hr.kept, hr.stlt, hr.stnew, by rw [hbs.1]; exact hh.get.1, ?_, fun b hb => hr.bxst b (hmem b hb), fun b hb => hr.bxown b (hmem b hb), ?_, hr.tklen, hr.tok, fun g n u hg b hb hm => hr.tkbx g n u hg b hb (hmem b hm), hr.tknd⟩, ?_, h3, h4, h5⟩
  · intro i b hi
    have hlt : i < N.ni := by rw [← h5]; exact (List.getElem?_eq_some_iff.1 hi).1
    obtain ⟨b', q1, q2⟩ := hbs.2 i i (hn i hlt)
    have := hr.inpre i b hi
    rw [this] at q1
    injection q1 with q1
    subst q1
    exact q2
  · refine List.pairwise_iff_getElem.2 ?_
    intro a c ha hc hac e
    have ha' : a < is.length := by rw [← hbs.1]; exact ha
    have hc' : c < is.length := by rw [← hbs.1]; exact hc
    obtain ⟨b1, p1, p2⟩ := hbs.2 a is[a] (List.getElem?_eq_getElem ha')
    obtain ⟨b2, q1, q2⟩ := hbs.2 c is[c] (List.getElem?_eq_getElem hc')
    rw [List.getElem?_eq_getElem ha] at p2
    rw [List.getElem?_eq_getElem hc] at q2
    injection p2 with p2
    injection q2 with q2
    have e' : b1 = b2 := by rw [← p2, ← q2]; exact e
    obtain ⟨l1, e1⟩ := List.getElem?_eq_some_iff.1 p1
    obtain ⟨l2, e2⟩ := List.getElem?_eq_some_iff.1 q1
    have h3 : is[a] = is[c] := (List.getElem_inj hr.bxnd).1 (e1.trans (e'.trans e2.symm))
    have h4 := (List.getElem_inj hnd).1 h3
    omega
  · intro k b row hk hrow
    have hlt : k < is.length := by rw [← hbs.1]; exact (List.getElem?_eq_some_iff.1 hk).1
    obtain ⟨b', h2, h3⟩ := hbs.2 k is[k] (List.getElem?_eq_getElem hlt)
    obtain ⟨row', h4, h5⟩ := hh.get.2 k is[k] (List.getElem?_eq_getElem hlt)
    simp only at hk hrow
    rw [hk] at h3
    injection h3 with h3
    subst h3
    rw [hrow] at h5
    injection h5 with h5
    subst h5
    obtain ⟨us, T, q1, q2, q3⟩ := hr.box is[k] b row' h2 h4
    exact ⟨us, T, q1, repL_renK hmap _ _ q2, q3⟩
  · intro t x hx
    have key : ∀ {l : List (Nat × AV)}, SubK (fun j => plcOf' j is 0) f l → look l t = some x → rep ⟨G.St, bs, G.tk⟩ w x (a.tmps.getD t undef) := by
      intro l hl
      induction hl with
      | nil => intro h; cases h
      | cons t' x' y l e1 e2 _ ih =>
        intro h
        rw [← put_look, put_some] at h
        split at h
        · rename_i e
          subst e
          injection h with h
          subst h
          exact e2 _ _ _ (rep_renK hmap _ _ (h2 t' x' e1))
        · exact ih h
    exact key hl hx
end Go.Proofs.Ytaidkbnbfnaihaa
namespace Go.Proofs.Ytaidkbnbfnaihaa
open Go.RowKit

section
variable {P : Program} {N : Dim} {Q : Exit → AS → Prop} {S : AH → Prop} {tl fuel : Nat} {l : List Oper} {listed : Array Bool} {m : List (Nat × AV)} {h : AH}
theorem aa_two {i j di dj : Nat} {op op' : Op} {ty ty' : TypeId} {pos pos' : String} {af af' : Array Edge} {gd gd' : Option (Nat × Bool)} (hr : Region.ready .any l.toArray listed = [i, j])
    (hi : l[i]? = some ⟨some di, op, ty, pos, af, gd⟩) (hdi : Nat.blt di N.n = true) (hwi : wantedA l.toArray (look m) ⟨some di, op, ty, pos, af, gd⟩ = some true)
    (hj : l[j]? = some ⟨some dj, op', ty', pos', af', gd'⟩) (hdj : Nat.blt dj N.n = true) (hwj : wantedA l.toArray (look m) ⟨some dj, op', ty', pos', af', gd'⟩ = some true)
    (H1 : AStep P ⟨some di, op, ty, pos, af, gd⟩ (evs (look m)) h (fun x h' => (i = tl ∨ S h') ∧ AAny P N l.toArray Q S tl fuel (listed.setIfInBounds i true) ⟨look ((di, x) :: m), h'⟩))
    (H2 : AStep P ⟨some dj, op', ty', pos', af', gd'⟩ (evs (look m)) h (fun x h' => (j = tl ∨ S h') ∧ AAny P N l.toArray Q S tl fuel (listed.setIfInBounds j true) ⟨look ((dj, x) :: m), h'⟩)) : AAny P N l.toArray Q S tl (fuel + 1) listed ⟨look m, h⟩ := by
  refine ⟨(fun h0 => by rw [hr] at h0; cases h0), fun k hk => ?_⟩
  rw [hr] at hk
  have hk' : k = i ∨ k = j := by simpa using hk
  rcases hk' with rfl | rfl
  · unfold AOp
    simp only [get_arr hi]
    exact ⟨hdi, true, hwi, fun _ => H1, fun h => by cases h⟩
  · unfold AOp
    simp only [get_arr hj]
    exact ⟨hdj, true, hwj, fun _ => H2, fun h => by cases h⟩
end
end Go.Proofs.Ytaidkbnbfnaihaa
namespace Go.Proofs.Ytaidkbnbfnaihaa
open Go.RowKit

section
variable {P : Program} {N : Dim} {Q : Exit → AS → Prop} {s : AS}
def AC (P : Program) (N : Dim) (y : Code) (Q : Exit → AS → Prop) (s : AS) : Prop := AWp P N y Q s
theorem q_ {x y : Code} (h : AWp P N x (AThen (AC P N y Q) Q) s) : AWp P N (.seq x y) Q s := by
  intro E a w hr
  refine wp_seq (wp_mono (h E a w hr) ?_)
  rintro e a' w' ⟨s', hq, hr'⟩
  cases e with
  | normal => exact hq E a' w' hr'
  | exit id => exact ⟨s', hq, hr'⟩
  | goto l => exact ⟨s', hq, hr'⟩
  | ret => exact ⟨s', hq, hr'⟩
  | panic c => exact ⟨s', hq, hr'⟩
  | outgrown => exact ⟨s', hq, hr'⟩
theorem w_ {id : Nat} {l : List Oper} {y : Code} (h : AL P N l.toArray (AThen (AC P N y Q) Q) l s) : AWp P N (.seq (.region id l.toArray false) y) Q s := q_ (aw_region h)
theorem t_ {y : Code} (h : AWp P N y Q s) : AThen (AC P N y Q) Q .normal s := h
theorem e_ {ops : Array Oper} {y : Code} (h : AWp P N y Q s) : AL P N ops (AThen (AC P N y Q) Q) [] s := al_nil h
theorem kt_ {y : Code} (h : AWp P N y Q s) : AWp P N .skip (AThen (AC P N y Q) Q) s := aw_skip h
theorem cy_ {c : Operand} {x y : Code} {t : Bool} (hc : evs s.sl c = some (.v (.bool t)) := by rfl) (ht : t = true := by first | rfl | assumption | simp [*]) (h : AWp P N x Q s) : AWp P N (.cond c x y) Q s := aw_cy hc ht h
theorem cn_ {c : Operand} {x y : Code} {t : Bool} (hc : evs s.sl c = some (.v (.bool t)) := by rfl) (ht : t = false := by first | rfl | assumption | simp [*]) (h : AWp P N y Q s) : AWp P N (.cond c x y) Q s := aw_cn hc ht h
end
section
variable {P : Program} {N : Dim} {Q : Exit → AS → Prop} {ops : Array Oper} {rest : List Oper} {l : List (Nat × AV)} {hh : AH} {op : Op} {ty : TypeId} {pos : String} {af : Array Edge}
theorem g0_ {d j : Nat} {want t : Bool} (hd : Nat.blt d N.n = true := by rfl) (hy : yv ops (look l) j = some (some t) := by rfl) (ht : (t == want) = false := by first | rfl | exact beq_tf ‹_› | exact beq_ft ‹_› | simp [*]) (h : AL P N ops Q rest ⟨look ((d, .v undef) :: l), hh⟩) : AL P N ops Q (⟨some d, op, ty, pos, af, some (j, want)⟩ :: rest) ⟨look l, hh⟩ := al_gn hd hy ht h
theorem gu_ {d j : Nat} {want : Bool} (hd : Nat.blt d N.n = true := by rfl) (hy : yv ops (look l) j = some none := by rfl) (h : AL P N ops Q rest ⟨look ((d, .v undef) :: l), hh⟩) : AL P N ops Q (⟨some d, op, ty, pos, af, some (j, want)⟩ :: rest) ⟨look l, hh⟩ := al_gu hd hy h
end
def KB : List (Nat × List AV) → AH → Prop
  | [], _ => True
  | (i, r) :: l, h => h.bx[i]? = some r ∧ KB l h
def lookB : List (Nat × List AV) → Nat → Option (List AV)
  | [], _ => none
  | (i, r) :: l, j => match Nat.beq i j with
    | true => some r
    | false => lookB l j
theorem kb : ∀ {l : List (Nat × List AV)} {h : AH} {i : Nat} {row : List AV}, KB l h → lookB l i = some row → h.bx[i]? = some row
  | [], _, _, _, _, e => by cases e
  | (j, r) :: l, h, i, row, k, e => by
    unfold lookB at e
    split at e
    · rename_i hb
      have := Nat.eq_of_beq_eq_true hb
      subst this
      injection e with e
      subst e
      exact k.1
    · exact kb k.2 e
theorem kb_n (h : AH) : KB [] h := trivial
theorem kb_c {l : List (Nat × List AV)} {h : AH} {i : Nat} {r : List AV} (h1 : h.bx[i]? = some r) (h2 : KB l h) : KB ((i, r) :: l) h := ⟨h1, h2⟩
def Do (_i : Nat) (B A : Prop) : Prop := B → A
section
variable {P : Program} {N : Dim} {l : List Oper} {Q : Exit → AS → Prop} {S : AH → Prop} {tl fuel : Nat} {listed : Array Bool} {m : List (Nat × AV)} {hh : AH} {op : Op} {ty : TypeId} {pos : String} {af : Array Edge} {gd : Option (Nat × Bool)}
theorem do_r {i d : Nat} {x : AV} (hi : l[i]? = some ⟨some d, op, ty, pos, af, gd⟩) (hst : AStep P ⟨some d, op, ty, pos, af, gd⟩ (evs (look m)) hh (fun x' h' => x' = x ∧ h' = hh)) (hd : Nat.blt d N.n = true := by rfl) (htl : (tailOk l.toArray tl && !Nat.beq i tl && Region.free .any l.toArray listed i && (Region.ready .any l.toArray listed).contains i) = true := by kernel_rfl)
    (hw : wantedA l.toArray (look m) ⟨some d, op, ty, pos, af, gd⟩ = some true := by first | rfl | exact wan_y rfl rfl (beq_tt ‹_›) | exact wan_y rfl rfl (beq_ff ‹_›) | exact wan_y rfl rfl (by simp [*])) :
    Do i (AAny P N l.toArray Q (fun h' => h' = hh) tl fuel (listed.setIfInBounds i true) ⟨look ((d, x) :: m), hh⟩) (AAny P N l.toArray Q (fun h' => h' = hh) tl (fuel + 1) listed ⟨look m, hh⟩) := fun H => aa_r hi hd htl hw hst H
theorem do_k {K : List (Nat × List AV)} {i d : Nat} {x : AV} (hi : l[i]? = some ⟨some d, op, ty, pos, af, gd⟩) (hst : ∀ h, KB K h → AStep P ⟨some d, op, ty, pos, af, gd⟩ (evs (look m)) h (fun x' h' => x' = x ∧ h' = h)) (hd : Nat.blt d N.n = true := by rfl) (htl : (tailOk l.toArray tl && !Nat.beq i tl && Region.free .any l.toArray listed i && (Region.ready .any l.toArray listed).contains i) = true := by kernel_rfl)
    (hw : wantedA l.toArray (look m) ⟨some d, op, ty, pos, af, gd⟩ = some true := by first | rfl | exact wan_y rfl rfl (beq_tt ‹_›) | exact wan_y rfl rfl (beq_ff ‹_›) | exact wan_y rfl rfl (by simp [*])) (hS : KB K hh := by repeat (first | exact kb_n _ | refine kb_c rfl ?_)) :
    Do i (AAny P N l.toArray Q (KB K) tl fuel (listed.setIfInBounds i true) ⟨look ((d, x) :: m), hh⟩) (AAny P N l.toArray Q (KB K) tl (fuel + 1) listed ⟨look m, hh⟩) := fun H => aa_t hi hd htl hw hst hS H
theorem tk_ {K : List (Nat × List AV)} (i : Nat) {d : Nat} {x : AV} (hi : l[i]? = some ⟨some d, op, ty, pos, af, gd⟩) (hst : ∀ h, KB K h → AStep P ⟨some d, op, ty, pos, af, gd⟩ (evs (look m)) h (fun x' h' => x' = x ∧ h' = h)) (H : AAny P N l.toArray Q (KB K) tl fuel (listed.setIfInBounds i true) ⟨look ((d, x) :: m), hh⟩) (hd : Nat.blt d N.n = true := by rfl) (htl : (tailOk l.toArray tl && !Nat.beq i tl && Region.free .any l.toArray listed i && (Region.ready .any l.toArray listed).contains i) = true := by kernel_rfl)
    (hw : wantedA l.toArray (look m) ⟨some d, op, ty, pos, af, gd⟩ = some true := by first | rfl | exact wan_y rfl rfl (beq_tt ‹_›) | exact wan_y rfl rfl (beq_ff ‹_›) | exact wan_y rfl rfl (by simp [*])) (hS : KB K hh := by repeat (first | exact kb_n _ | refine kb_c rfl ?_)) : AAny P N l.toArray Q (KB K) tl (fuel + 1) listed ⟨look m, hh⟩ := aa_t hi hd htl hw hst hS H
theorem c_ (i : Nat) {d : Nat} (hi : l[i]? = some ⟨some d, op, ty, pos, af, gd⟩) (H : AStep P ⟨some d, op, ty, pos, af, gd⟩ (evs (look m)) hh (fun x h' => (i = tl ∨ S h') ∧ AAny P N l.toArray Q S tl fuel (listed.setIfInBounds i true) ⟨look ((d, x) :: m), h'⟩)) (hd : Nat.blt d N.n = true := by rfl) (hr : Region.ready .any l.toArray listed = [i] := by kernel_rfl)
    (hw : wantedA l.toArray (look m) ⟨some d, op, ty, pos, af, gd⟩ = some true := by first | rfl | exact wan_y rfl rfl (beq_tt ‹_›) | exact wan_y rfl rfl (beq_ff ‹_›) | exact wan_y rfl rfl (by simp [*])) : AAny P N l.toArray Q S tl (fuel + 1) listed ⟨look m, hh⟩ := aa_c hi hd hr hw H
theorem c0_ (i : Nat) (hi : l[i]? = some ⟨none, op, ty, pos, af, gd⟩) (H : AStep P ⟨none, op, ty, pos, af, gd⟩ (evs (look m)) hh (fun _ h' => (i = tl ∨ S h') ∧ AAny P N l.toArray Q S tl fuel (listed.setIfInBounds i true) ⟨look m, h'⟩)) (hr : Region.ready .any l.toArray listed = [i] := by kernel_rfl)
    (hw : wantedA l.toArray (look m) ⟨none, op, ty, pos, af, gd⟩ = some true := by first | rfl | exact wan_y rfl rfl (beq_tt ‹_›) | exact wan_y rfl rfl (beq_ff ‹_›) | exact wan_y rfl rfl (by simp [*])) : AAny P N l.toArray Q S tl (fuel + 1) listed ⟨look m, hh⟩ := aa_c0 hi hr hw H
theorem c2_ (i j : Nat) {di dj : Nat} {op' : Op} {ty' : TypeId} {pos' : String} {af' : Array Edge} {gd' : Option (Nat × Bool)} (hi : l[i]? = some ⟨some di, op, ty, pos, af, gd⟩) (hj : l[j]? = some ⟨some dj, op', ty', pos', af', gd'⟩)
    (H1 : AStep P ⟨some di, op, ty, pos, af, gd⟩ (evs (look m)) hh (fun x h' => (i = tl ∨ S h') ∧ AAny P N l.toArray Q S tl fuel (listed.setIfInBounds i true) ⟨look ((di, x) :: m), h'⟩))
    (H2 : AStep P ⟨some dj, op', ty', pos', af', gd'⟩ (evs (look m)) hh (fun x h' => (j = tl ∨ S h') ∧ AAny P N l.toArray Q S tl fuel (listed.setIfInBounds j true) ⟨look ((dj, x) :: m), h'⟩))
    (hdi : Nat.blt di N.n = true := by rfl) (hdj : Nat.blt dj N.n = true := by rfl) (hr : Region.ready .any l.toArray listed = [i, j] := by kernel_rfl)
    (hwi : wantedA l.toArray (look m) ⟨some di, op, ty, pos, af, gd⟩ = some true := by first | rfl | exact wan_y rfl rfl (beq_tt ‹_›) | exact wan_y rfl rfl (beq_ff ‹_›) | exact wan_y rfl rfl (by simp [*]))
    (hwj : wantedA l.toArray (look m) ⟨some dj, op', ty', pos', af', gd'⟩ = some true := by first | rfl | exact wan_y rfl rfl (beq_tt ‹_›) | exact wan_y rfl rfl (beq_ff ‹_›) | exact wan_y rfl rfl (by simp [*])) : AAny P N l.toArray Q S tl (fuel + 1) listed ⟨look m, hh⟩ := aa_two hr hi hdi hwi hj hdj hwj H1 H2
theorem o_ {i : Nat} {A : Prop} {h' : AH} (hS : i = tl ∨ S h' := by first | exact .inl rfl | exact .inr rfl | exact .inr (by repeat (first | exact kb_n _ | refine kb_c rfl ?_))) (h : A) : (i = tl ∨ S h') ∧ A := ⟨hS, h⟩
theorem z_ (hr : Region.ready .any l.toArray listed = [] := by kernel_rfl) (h : Q .normal ⟨look m, hh⟩) : AAny P N l.toArray Q S tl fuel listed ⟨look m, hh⟩ := aa_done hr h fuel
theorem yr_ (tl : Nat) {id : Nat} (hm : P.follows .mixedOrders = true := by kernel_rfl) (h : AAny P N l.toArray Q (fun h' => h' = hh) tl l.length (Array.replicate l.length false) ⟨look m, hh⟩) : AWp P N (.region id l.toArray true) Q ⟨look m, hh⟩ := aw_drawR tl hm h
theorem yk_ (K : List (Nat × List AV)) (tl : Nat) {id : Nat} (hm : P.follows .mixedOrders = true := by kernel_rfl) (h : AAny P N l.toArray Q (KB K) tl l.length (Array.replicate l.length false) ⟨look m, hh⟩) : AWp P N (.region id l.toArray true) Q ⟨look m, hh⟩ := aw_draw _ tl hm h
end
section
variable {P : Program} {rs : List ResultVar} {n : Nat} {R : AV → List (List AV) → List Tok → Prop} {s : AS} {xs : List AV} {r : AV}
theorem rt_ (g : Option Nat) {tk' : List Tok} (h1 : ResA P s rs xs := by repeat (first | exact ResA.nil | (apply ResA.tmp; (focus exact rfl)) | (apply ResA.cellN; (focus exact inferInstance); (focus exact rfl); (focus exact rfl); (focus exact rfl)) | (apply ResA.cell1; (focus exact inferInstance); (focus exact rfl); (focus exact rfl); (focus exact rfl)))) (h2 : tokOf s.h.tk g = some tk' := by rfl) (h3 : bpLt n 1 (reT g (tupA xs)) = true := by rfl) (h4 : bpLtB n 0 (s.h.bx.take n) = true := by rfl) (h5 : LeA (reT g (tupA xs)) r) (h6 : R r (s.h.bx.take n) tk') : ABody P rs n R .ret s := abody_ret g h1 h2 h3 h4 h5 h6
end
theorem m_ {A B : Prop} (k : B → A := by intro b; first | exact al_p rfl (st_move rfl b) | exact g_y (st_move rfl b)) (h : B) : A := k h
theorem dm_ (i : Nat) {A B : Prop} (k : Do i B A := by first | exact do_r rfl (st_move rfl ⟨rfl, rfl⟩) | exact do_k rfl (fun _ _ => st_move rfl ⟨rfl, rfl⟩)) (h : B) : A := k h
theorem a_ {A B : Prop} (k : B → A := by intro b; first | exact al_p rfl (st_assign rfl b) | exact g_y (st_assign rfl b)) (h : B) : A := k h
theorem da_ (i : Nat) {A B : Prop} (k : Do i B A := by first | exact do_r rfl (st_assign rfl ⟨rfl, rfl⟩) | exact do_k rfl (fun _ _ => st_assign rfl ⟨rfl, rfl⟩)) (h : B) : A := k h
theorem f_ {A B : Prop} (k : B → A := by intro b; first | exact al_p rfl (st_fieldB rfl b) | exact al_p rfl (st_fieldF rfl b) | exact g_y (st_fieldB rfl b) | exact g_y (st_fieldF rfl b)) (h : B) : A := k h
theorem df_ (i : Nat) {A B : Prop} (k : Do i B A := by first | exact do_r rfl (st_fieldB rfl ⟨rfl, rfl⟩) | exact do_r rfl (st_fieldF rfl ⟨rfl, rfl⟩) | exact do_k rfl (fun _ _ => st_fieldB rfl ⟨rfl, rfl⟩) | exact do_k rfl (fun _ _ => st_fieldF rfl ⟨rfl, rfl⟩)) (h : B) : A := k h
theorem l_ {A B : Prop} (k : B → A := by intro b; first | exact al_p rfl (st_loadB1 rfl rfl rfl b) | exact al_p rfl (st_loadBW rfl rfl rfl b) | exact al_p rfl (st_loadF1 rfl rfl b) | exact al_p rfl (st_loadFW rfl rfl b) | exact al_p rfl (st_loadBN rfl rfl rfl b) | exact al_p rfl (st_loadFN rfl rfl b) | exact g_y (st_loadB1 rfl rfl rfl b) | exact g_y (st_loadBW rfl rfl rfl b) | exact g_y (st_loadF1 rfl rfl b) | exact g_y (st_loadFW rfl rfl b) | exact g_y (st_loadBN rfl rfl rfl b) | exact g_y (st_loadFN rfl rfl b)) (h : B) : A := k h
theorem dl_ (i : Nat) {A B : Prop} (k : Do i B A := by first | exact do_r rfl (st_loadB1 rfl rfl rfl ⟨rfl, rfl⟩) | exact do_r rfl (st_loadBW rfl rfl rfl ⟨rfl, rfl⟩) | exact do_r rfl (st_loadF1 rfl rfl ⟨rfl, rfl⟩) | exact do_r rfl (st_loadFW rfl rfl ⟨rfl, rfl⟩) | exact do_r rfl (st_loadBN rfl rfl rfl ⟨rfl, rfl⟩) | exact do_r rfl (st_loadFN rfl rfl ⟨rfl, rfl⟩) | exact do_k rfl (fun _ hS => st_loadB1 rfl (kb hS rfl) rfl ⟨rfl, rfl⟩) | exact do_k rfl (fun _ hS => st_loadBW rfl (kb hS rfl) rfl ⟨rfl, rfl⟩) | exact do_k rfl (fun _ _ => st_loadF1 rfl rfl ⟨rfl, rfl⟩) | exact do_k rfl (fun _ _ => st_loadFW rfl rfl ⟨rfl, rfl⟩) | exact do_k rfl (fun _ hS => st_loadBN rfl (kb hS rfl) rfl ⟨rfl, rfl⟩) | exact do_k rfl (fun _ _ => st_loadFN rfl rfl ⟨rfl, rfl⟩)) (h : B) : A := k h
theorem s_ {A B : Prop} (k : B → A := by intro b; exact al_p0 (s_store rfl rfl rfl rfl rfl rfl (by repeat constructor) (by repeat constructor) b)) (h : B) : A := k h
theorem b_ {A B : Prop} (k : B → A := by intro b; first | exact al_p rfl (s_boxA rfl rfl (by repeat constructor) b) | exact al_p rfl (s_box rfl rfl (by repeat constructor) b) | exact g_y (s_boxA rfl rfl (by repeat constructor) b) | exact g_y (s_box rfl rfl (by repeat constructor) b)) (h : B) : A := k h
theorem al_ {A B : Prop} (k : B → A := by intro b; first | exact al_p rfl (s_alloc (by repeat constructor) b) | exact g_y (s_alloc (by repeat constructor) b)) (h : B) : A := k h
theorem n_ {A B : Prop} (k : B → A := by intro b; first | exact al_p rfl (st_len rfl b) | exact al_p rfl (st_lenS (by kernel_rfl) rfl b) | exact al_p rfl (st_len0 rfl b) | exact g_y (st_len rfl b) | exact g_y (st_lenS (by kernel_rfl) rfl b) | exact g_y (st_len0 rfl b)) (h : B) : A := k h
theorem ap_ {A B : Prop} (k : B → A := by intro b; first | exact al_p rfl (s_append rfl rfl rfl (by simp <;> omega) (by repeat constructor) b) | exact al_p rfl (s_append0 rfl rfl (by simp <;> omega) (by repeat constructor) b) | exact g_y (s_append rfl rfl rfl (by simp <;> omega) (by repeat constructor) b) | exact g_y (s_append0 rfl rfl (by simp <;> omega) (by repeat constructor) b)) (h : B) : A := k h
theorem x_ {A B : Prop} (k : B → A := by intro b; first | exact al_p rfl (st_extract rfl rfl b) | exact g_y (st_extract rfl rfl b)) (h : B) : A := k h
theorem dx_ (i : Nat) {A B : Prop} (k : Do i B A := by first | exact do_r rfl (st_extract rfl rfl ⟨rfl, rfl⟩) | exact do_k rfl (fun _ _ => st_extract rfl rfl ⟨rfl, rfl⟩)) (h : B) : A := k h
theorem k_ {A B : Prop} (k : B → A := by intro b; first | exact al_p rfl (st_nilB rfl b) | exact al_p rfl (st_nilF rfl b) | exact g_y (st_nilB rfl b) | exact g_y (st_nilF rfl b)) (h : B) : A := k h
theorem dk_ (i : Nat) {A B : Prop} (k : Do i B A := by first | exact do_r rfl (st_nilB rfl ⟨rfl, rfl⟩) | exact do_r rfl (st_nilF rfl ⟨rfl, rfl⟩) | exact do_k rfl (fun _ _ => st_nilB rfl ⟨rfl, rfl⟩) | exact do_k rfl (fun _ _ => st_nilF rfl ⟨rfl, rfl⟩)) (h : B) : A := k h
theorem bd_ {A B : Prop} (k : B → A := by intro b; first | exact al_p rfl (st_build (by repeat (first | exact FillA.nil _ | (apply FillA.cons; (focus exact rfl); (focus exact rfl); (focus exact rfl); (focus exact rfl); (focus exact rfl); (focus (repeat constructor))))) b) | exact g_y (st_build (by repeat (first | exact FillA.nil _ | (apply FillA.cons; (focus exact rfl); (focus exact rfl); (focus exact rfl); (focus exact rfl); (focus exact rfl); (focus (repeat constructor))))) b)) (h : B) : A := k h
theorem dbd_ (i : Nat) {A B : Prop} (k : Do i B A := by first | exact do_r rfl (st_build (by repeat (first | exact FillA.nil _ | (apply FillA.cons; (focus exact rfl); (focus exact rfl); (focus exact rfl); (focus exact rfl); (focus exact rfl); (focus (repeat constructor))))) ⟨rfl, rfl⟩) | exact do_k rfl (fun _ _ => st_build (by repeat (first | exact FillA.nil _ | (apply FillA.cons; (focus exact rfl); (focus exact rfl); (focus exact rfl); (focus exact rfl); (focus exact rfl); (focus (repeat constructor))))) ⟨rfl, rfl⟩)) (h : B) : A := k h
theorem bs_ {A B : Prop} (k : B → A := by intro b; first | exact al_p rfl (st_slit (by repeat (first | exact DenseA.nil _ | (apply DenseA.cons; (focus exact rfl); (focus exact rfl); (focus exact rfl); (focus exact rfl)) | (apply DenseA.consE; (focus exact rfl); (focus exact rfl); (focus exact rfl)))) rfl rfl rfl rfl b) | exact g_y (st_slit (by repeat (first | exact DenseA.nil _ | (apply DenseA.cons; (focus exact rfl); (focus exact rfl); (focus exact rfl); (focus exact rfl)) | (apply DenseA.consE; (focus exact rfl); (focus exact rfl); (focus exact rfl)))) rfl rfl rfl rfl b)) (h : B) : A := k h
theorem pt_ {A B : Prop} (k : B → A := by intro b; first | exact al_p rfl (p_t b) | exact g_y (p_t b)) (h : B) : A := k h
theorem pf_ {A B : Prop} (k : B → A := by intro b; first | exact al_p rfl (p_f b) | exact g_y (p_f b)) (h : B) : A := k h
theorem i_ {A B : Prop} (k : B → A := by intro b; first | exact al_p rfl (st_index rfl rfl rfl (by first | assumption | rfl) b) | exact g_y (st_index rfl rfl rfl (by first | assumption | rfl) b)) (h : B) : A := k h
theorem di_ (i : Nat) {A B : Prop} (k : Do i B A := by first | exact do_r rfl (st_index rfl rfl rfl (by first | assumption | rfl) ⟨rfl, rfl⟩) | exact do_k rfl (fun _ _ => st_index rfl rfl rfl (by first | assumption | rfl) ⟨rfl, rfl⟩)) (h : B) : A := k h
theorem ms_ {A B : Prop} (k : B → A := by intro b; first | exact al_p rfl (s_make0 rfl rfl (by omega) (by repeat constructor) b) | exact g_y (s_make0 rfl rfl (by omega) (by repeat constructor) b)) (h : B) : A := k h
theorem nt_ {A B : Prop} (k : B → A := by intro b; first | exact al_p rfl (st_not rfl b) | exact g_y (st_not rfl b)) (h : B) : A := k h
theorem dnt_ (i : Nat) {A B : Prop} (k : Do i B A := by first | exact do_r rfl (st_not rfl ⟨rfl, rfl⟩) | exact do_k rfl (fun _ _ => st_not rfl ⟨rfl, rfl⟩)) (h : B) : A := k h
theorem ad_ {A B : Prop} (k : B → A := by intro b; first | exact al_p rfl (st_add64 rfl rfl (by omega) b) | exact al_p rfl (st_addS rfl rfl (by omega) b) | exact al_p rfl (st_add rfl rfl b) | exact g_y (st_add64 rfl rfl (by omega) b) | exact g_y (st_addS rfl rfl (by omega) b) | exact g_y (st_add rfl rfl b)) (h : B) : A := k h
theorem eq_ {A B : Prop} (k : B → A := by intro b; first | exact al_p rfl (st_eql rfl rfl b) | exact al_p rfl (st_eqlS rfl rfl b) | exact al_p rfl (st_eqlB (by kernel_rfl) rfl rfl b) | exact g_y (st_eql rfl rfl b) | exact g_y (st_eqlS rfl rfl b) | exact g_y (st_eqlB (by kernel_rfl) rfl rfl b)) (h : B) : A := k h
theorem deq_ (i : Nat) {A B : Prop} (k : Do i B A := by first | exact do_r rfl (st_eql rfl rfl ⟨rfl, rfl⟩) | exact do_r rfl (st_eqlS rfl rfl ⟨rfl, rfl⟩) | exact do_r rfl (st_eqlB (by kernel_rfl) rfl rfl ⟨rfl, rfl⟩) | exact do_k rfl (fun _ _ => st_eql rfl rfl ⟨rfl, rfl⟩) | exact do_k rfl (fun _ _ => st_eqlS rfl rfl ⟨rfl, rfl⟩) | exact do_k rfl (fun _ _ => st_eqlB (by kernel_rfl) rfl rfl ⟨rfl, rfl⟩)) (h : B) : A := k h
theorem nq_ {A B : Prop} (k : B → A := by intro b; first | exact al_p rfl (st_neq rfl rfl b) | exact al_p rfl (st_neqS rfl rfl b) | exact al_p rfl (st_neqB (by kernel_rfl) rfl rfl b) | exact g_y (st_neq rfl rfl b) | exact g_y (st_neqS rfl rfl b) | exact g_y (st_neqB (by kernel_rfl) rfl rfl b)) (h : B) : A := k h
theorem lt_ {A B : Prop} (k : B → A := by intro b; first | exact al_p rfl (st_lss rfl rfl b) | exact al_p rfl (st_lssS rfl rfl b) | exact g_y (st_lss rfl rfl b) | exact g_y (st_lssS rfl rfl b)) (h : B) : A := k h
theorem le_ {A B : Prop} (k : B → A := by intro b; first | exact al_p rfl (st_leq rfl rfl b) | exact g_y (st_leq rfl rfl b)) (h : B) : A := k h
theorem gt_ {A B : Prop} (k : B → A := by intro b; first | exact al_p rfl (st_gtr rfl rfl b) | exact g_y (st_gtr rfl rfl b)) (h : B) : A := k h
theorem ge_ {A B : Prop} (k : B → A := by intro b; first | exact al_p rfl (st_geq rfl rfl b) | exact al_p rfl (st_geqS rfl rfl b) | exact g_y (st_geq rfl rfl b) | exact g_y (st_geqS rfl rfl b)) (h : B) : A := k h
theorem at_ {A B : Prop} (k : B → A := by intro b; first | exact al_p rfl (st_andNot rfl rfl b) | exact g_y (st_andNot rfl rfl b)) (h : B) : A := k h
end Go.Proofs.Ytaidkbnbfnaihaa
