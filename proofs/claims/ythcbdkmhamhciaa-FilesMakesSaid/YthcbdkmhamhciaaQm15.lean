/-
  Part 15 of the proof of FilesMakesP: what the statement's proof uses of the texts in wip/tpl.
-/
import Derived.OpenShut
import Derived.ChangeArms
import Derived.ChangeOld
import Derived.DataReads
import Derived.DataElems
import Derived.Test.YthcbdkmhamhciaaQm14
namespace Go.Proofs.Ythcbdkmhamhciaa
open Go.RowKit

def StAll (w : World) : Nat → Nat → Prop := fun b _ => b < w.heap.size
def Opens (P : Program) (t : TypeId) (R : List AV → Prop) : Prop :=
  ∀ (H : Type) (enc : TypeId × Value → H) (w : World) (base : Nat) (spare : Nat → Bool) (held : Bool) (fuel : Nat) (cs : List Value) (x : DataW H × List MemPlace), DataW.trod enc P w base spare held fuel t cs = some x →
    ∃ row, R row ∧ froL (StAll w) w row cs ∧ ∀ u ∈ cs, u.oneCell' = true
section
variable {P : Program} {t : TypeId}
theorem Opens.mono {R R' : List AV → Prop} (h : Opens P t R) (hR : ∀ r, R r → R' r) : Opens P t R' := by
  intro H enc w base spare held fuel cs x hx
  obtain ⟨row, h1, h2⟩ := h H enc w base spare held fuel cs x hx
  exact ⟨row, hR _ h1, h2⟩
theorem opens_int {k : IntKind} (ht : P.underlying t = some (.int k)) : Opens P t fun r => ∃ n, r = [.v (.int k n)] ∧ (Lit.int k n).wf = true := by
  intro H enc w base spare held fuel cs x hx
  obtain ⟨b, rfl, _, hw⟩ := DataW.trod_int ht hx
  exact ⟨_, ⟨b, rfl, hw⟩, ⟨_, _, rfl, by simp only [fro], by simp only [froL]⟩, by simp [Value.oneCell']⟩
theorem opens_string (ht : P.underlying t = some .string) : Opens P t fun r => ∃ s : ByteArray, r = [.v (.string s)] ∧ s.size ≤ maxLen := by
  intro H enc w base spare held fuel cs x hx
  obtain ⟨b, rfl, _, hw⟩ := DataW.trod_string ht hx
  exact ⟨_, ⟨b, rfl, hw⟩, ⟨_, _, rfl, by simp only [fro], by simp only [froL]⟩, by simp [Value.oneCell']⟩
theorem froL_app {St : Nat → Nat → Prop} {w : World} : ∀ {xs ys : List AV} {us vs : List Value}, froL St w xs us → froL St w ys vs → froL St w (xs ++ ys) (us ++ vs)
  | [], _, _, _, h, k => by simp only [froL] at h; subst h; simpa using k
  | x :: xs, _, _, _, h, k => by
    simp only [froL] at h
    obtain ⟨z, zs, rfl, h1, h2⟩ := h
    simp only [List.cons_append, froL]
    exact ⟨z, _, rfl, h1, froL_app h2 k⟩
def CatR : List (List AV → Prop) → List AV → Prop
  | [], row => row = []
  | R :: Rs, row => ∃ a b, R a ∧ CatR Rs b ∧ row = a ++ b
inductive OpenF (P : Program) : Nat → List Field → List (List AV → Prop) → Nat → Prop
  | nil (n : Nat) : OpenF P n [] [] n
  | cons (off n m : Nat) (f : Field) (fs : List Field) (R : List AV → Prop) (Rs : List (List AV → Prop)) : f.offset = off → P.cellsOf f.type = n → Opens P f.type R → OpenF P (off + n) fs Rs m → OpenF P off (f :: fs) (R :: Rs) m
theorem OpenF.run {H : Type} {enc : TypeId × Value → H} {w : World} {base : Nat} {spare : Nat → Bool} {held : Bool} {fuel : Nat} {off m : Nat} {fs : List Field} {Rs : List (List AV → Prop)} (h : OpenF P off fs Rs m) :
    ∀ (cs : List Value), cs.length = m → (∀ f ∈ fs, ∃ y, DataW.trod enc P w base spare held fuel f.type ((cs.drop f.offset).take (P.cellsOf f.type)) = some y) → ∃ row, CatR Rs row ∧ froL (StAll w) w row (cs.drop off) ∧ ∀ u ∈ cs.drop off, u.oneCell' = true := by
  induction h with
  | nil n =>
    intro cs hl _
    have e : cs.drop n = [] := List.drop_eq_nil_of_le (by omega)
    exact ⟨[], rfl, by rw [e]; simp only [froL], by rw [e]; simp⟩
  | cons off n m f fs R Rs h1 h2 h3 _ ih =>
    intro cs hl hf
    obtain ⟨row, k1, k2, k3⟩ := ih cs hl (fun g hg => hf g (by simp [hg]))
    obtain ⟨y, hy⟩ := hf f (by simp)
    obtain ⟨a, a1, a2, a3⟩ := h3 _ _ _ _ _ _ _ _ _ hy
    rw [h1, h2] at a2 a3
    have e : cs.drop off = (cs.drop off).take n ++ cs.drop (off + n) := by rw [← List.drop_drop]; exact (List.take_append_drop n _).symm
    refine ⟨a ++ row, ⟨a, row, a1, k1, rfl⟩, ?_, ?_⟩
    · rw [e]; exact froL_app a2 k2
    · rw [e]
      intro u hu
      rcases List.mem_append.1 hu with hu | hu
      · exact a3 u hu
      · exact k3 u hu
theorem opens_struct {l : List Field} {Rs : List (List AV → Prop)} (ht : P.underlying t = some (.struct l.toArray)) (h : OpenF P 0 l Rs (P.cellsOf t)) : Opens P t (CatR Rs) := by
  intro H enc w base spare held fuel cs x hx
  obtain ⟨xs, n, rfl, _, hl, hxs, hf⟩ := DataW.trod_struct ht hx
  obtain ⟨row, k1, k2, k3⟩ := h.run (enc := enc) (w := w) (base := base) (spare := spare) (held := held) (fuel := n) cs hl (fun f hm => by
    obtain ⟨i, hi⟩ := List.getElem?_of_mem hm
    have h1 := hf i f (by simpa using hi)
    have hlt : i < xs.length := by rw [hxs]; simpa using (List.getElem?_eq_some_iff.1 hi).1
    exact ⟨xs[i], by rw [h1, List.getElem?_eq_getElem hlt]⟩)
  exact ⟨row, k1, by simpa using k2, by simpa using k3⟩
def structOf (P : Program) (t : TypeId) : Option (List (Nat × Nat × Nat) × Nat) :=
  match P.underlying t with
  | some (.struct fs) => some (fs.toList.map (fun f => (f.offset, f.type, P.cellsOf f.type)), P.cellsOf t)
  | _ => none
inductive OpenL (P : Program) : Nat → List (Nat × Nat × Nat) → List (List AV → Prop) → Nat → Prop
  | nil (n : Nat) : OpenL P n [] [] n
  | cons (off n m T : Nat) (l : List (Nat × Nat × Nat)) (R : List AV → Prop) (Rs : List (List AV → Prop)) : Opens P T R → OpenL P (off + n) l Rs m → OpenL P off ((off, T, n) :: l) (R :: Rs) m
theorem OpenL.fields {off m : Nat} {l : List (Nat × Nat × Nat)} {Rs : List (List AV → Prop)} (h : OpenL P off l Rs m) : ∀ fs : List Field, fs.map (fun f => (f.offset, f.type, P.cellsOf f.type)) = l → OpenF P off fs Rs m := by
  induction h with
  | nil n => intro fs e; rw [List.map_eq_nil_iff.1 e]; exact .nil n
  | cons off n m T l R Rs h1 _ ih =>
    intro fs e
    cases fs with
    | nil => cases e
    | cons f fs =>
      simp only [List.map_cons, List.cons.injEq, Prod.mk.injEq] at e
      obtain ⟨⟨e1, e2, e3⟩, e4⟩ := e
      subst e2
      exact .cons off n m f fs R Rs e1 e3 h1 (ih fs e4)
theorem opens_fields {l : List (Nat × Nat × Nat)} {n : Nat} {Rs : List (List AV → Prop)} (ht : structOf P t = some (l, n)) (h : OpenL P 0 l Rs n) : Opens P t (CatR Rs) := by
  unfold structOf at ht
  split at ht
  · rename_i fs hu
    simp only [Option.some.injEq, Prod.mk.injEq] at ht
    obtain ⟨e1, e2⟩ := ht
    subst e2
    exact opens_struct (l := fs.toList) (by simpa using hu) (h.fields _ e1)
  · cases ht
theorem cell_lt' {w : World} {b o : Nat} {v : Value} (h : w.cell? ⟨b, o, none⟩ = some v) : b < w.heap.size := by
  rcases Nat.lt_or_ge b w.heap.size with hlt | hge
  · exact hlt
  · simp [World.cell?, Array.getElem?_eq_none hge] at h
theorem froL_length' {St : Nat → Nat → Prop} {w : World} {xs : List AV} {ys : List Value} (h : froL St w xs ys) : ys.length = xs.length := repL_length (G := ⟨St, [], []⟩) (repL_fro (G := ⟨St, [], []⟩) _ _ h)
theorem opens_slice {e : TypeId} {n : Nat} {R : List AV → Prop} (ht : P.underlying t = some (.slice e)) (hc : P.cellsOf e = n) (hn : 0 < n) (h : Opens P e R) : Opens P t fun r => ∃ rows, r = [.sl n rows none] ∧ rows.length ≤ maxLen ∧ ∀ x ∈ rows, R x := by
  intro H enc w base spare held fuel cs x hx
  rcases DataW.trod_slice ht hx with ⟨rfl, _⟩ | ⟨⟨b, off, spot⟩, len, cap, elems, rest, m, rfl, rfl, _, hb, hl, hm, hlen, hel, _, _⟩
  · exact ⟨_, ⟨[], rfl, Nat.zero_le _, by simp⟩, ⟨_, _, rfl, by simp only [fro]; exact ⟨trivial, none, 0, rfl, Nat.le_refl _, Nat.zero_le _, .inl trivial⟩, by simp only [froL]⟩, by simp [Value.oneCell']⟩
  · have each : ∀ i, i < len → ∃ row cs', R row ∧ row.length = n ∧ froL (StAll w) w row cs' ∧ (∀ u ∈ cs', u.oneCell' = true) ∧ cs'.length = n ∧ ∀ j, j < n → w.cell? (Addr.add ⟨b, off, spot⟩ (i * n + j)) = cs'[j]? := by
      intro i hi
      have h1 := hel i hi
      rw [hc, List.getElem?_eq_getElem (by omega), Option.bind_eq_some_iff] at h1
      obtain ⟨cs', h2, h3⟩ := h1
      obtain ⟨row, r1, r2, r3⟩ := h _ _ _ _ _ _ _ _ _ h3
      obtain ⟨_, c1, c2⟩ := World.cells?_some h2
      refine ⟨row, cs', r1, by rw [← froL_length' r2, c1], r2, r3, c1, fun j hj => ?_⟩
      have := c2 j hj
      rwa [Addr.add_add] at this
    have hrows : ∃ rows : List (List AV), rows.length = len ∧ (∀ i, i < len → ∃ row cs', rows[i]? = some row ∧ R row ∧ row.length = n ∧ froL (StAll w) w row cs' ∧ (∀ u ∈ cs', u.oneCell' = true) ∧ cs'.length = n ∧ ∀ j, j < n → w.cell? (Addr.add ⟨b, off, spot⟩ (i * n + j)) = cs'[j]?) := by
      clear hel
      have : ∀ k, k ≤ len → ∃ rows : List (List AV), rows.length = k ∧ (∀ i, i < k → ∃ row cs', rows[i]? = some row ∧ R row ∧ row.length = n ∧ froL (StAll w) w row cs' ∧ (∀ u ∈ cs', u.oneCell' = true) ∧ cs'.length = n ∧ ∀ j, j < n → w.cell? (Addr.add ⟨b, off, spot⟩ (i * n + j)) = cs'[j]?) := by
        intro k
        induction k with
        | zero => intro _; exact ⟨[], rfl, fun i hi => by omega⟩
        | succ k ih =>
          intro hk
          obtain ⟨rows, e1, e2⟩ := ih (by omega)
          obtain ⟨row, cs', q⟩ := each k (by omega)
          refine ⟨rows ++ [row], by simp [e1], fun i hi => ?_⟩
          rcases Nat.lt_or_ge i k with hlt | hge
          · obtain ⟨row', cs'', q1, q2⟩ := e2 i hlt
            exact ⟨row', cs'', by rw [List.getElem?_append_left (by omega)]; exact q1, q2⟩
          · obtain rfl : i = k := by omega
            exact ⟨row, cs', by rw [List.getElem?_append_right (by omega), e1]; simp, q⟩
      exact this len (Nat.le_refl _)
    obtain ⟨rows, e1, e2⟩ := hrows
    refine ⟨_, ⟨rows, rfl, by omega, fun x hx => ?_⟩, ⟨_, _, rfl, ?_, by simp only [froL]⟩, by simp [Value.oneCell']⟩
    · obtain ⟨i, hi⟩ := List.getElem?_of_mem hx
      obtain ⟨row, _, q1, q2, _⟩ := e2 i (by rw [← e1]; exact (List.getElem?_eq_some_iff.1 hi).1)
      rw [hi] at q1
      injection q1 with q1
      subst q1
      exact q2
    · simp only [fro]
      refine ⟨trivial, some ⟨b, off, spot⟩, cap, by rw [e1], by omega, hm, ?_⟩
      rcases Nat.eq_zero_or_pos len with h0 | h0
      · left; exact List.eq_nil_of_length_eq_zero (by omega)
      · right
        have hspot : spot = none := by
          obtain ⟨_, cs', _, _, _, _, _, c3, c4⟩ := e2 0 h0
          have := c4 0 hn
          rw [List.getElem?_eq_getElem (by omega)] at this
          simpa [Addr.add] using World.cell?_spot this
        subst hspot
        refine ⟨b, off, rfl, ?_⟩
        have : ∀ (rs : List (List AV)) (k : Nat), (∀ i r, rs[i]? = some r → rows[k + i]? = some r) → froR (StAll w) w b n rs (off + k * n) := by
          intro rs
          induction rs with
          | nil => intro k _; simp only [froR]
          | cons r rs ih =>
            intro k hk
            simp only [froR]
            have h1 := hk 0 r rfl
            rw [Nat.add_zero] at h1
            obtain ⟨row, cs', q1, _, q3, q4, q5, q6, q7⟩ := e2 k (by rw [← e1]; exact (List.getElem?_eq_some_iff.1 h1).1)
            rw [h1] at q1
            injection q1 with q1
            subst q1
            refine ⟨⟨q3, froC_of fun i x hi => ?_⟩, ?_⟩
            · obtain ⟨u, u1, u2⟩ := froL_get q4 hi
              have hin : i < n := by rw [← q3]; exact (List.getElem?_eq_some_iff.1 hi).1
              have hc := q7 i hin
              rw [u1] at hc
              have hc' : w.cell? ⟨b, off + k * n + i, none⟩ = some u := by rw [Addr.add_mid] at hc; rwa [Nat.add_assoc]
              exact ⟨cell_lt' hc', u, hc', q5 u (List.mem_of_getElem? u1), u2⟩
            · have := ih (k + 1) (fun i r' hi => by
                have := hk (i + 1) r' (by simpa using hi)
                rwa [show k + 1 + i = k + (i + 1) by omega])
              rwa [show off + (k + 1) * n = off + k * n + n by rw [Nat.add_mul]; omega] at this
        simpa using this rows 0 (fun i r hi => by simpa using hi)
theorem rows_map {α : Type} {enc : α → List AV} {Q : α → Prop} : ∀ {rows : List (List AV)}, (∀ x ∈ rows, ∃ a, x = enc a ∧ Q a) → ∃ l : List α, rows = l.map enc ∧ ∀ a ∈ l, Q a
  | [], _ => ⟨[], rfl, by simp⟩
  | r :: rs, h => by
    obtain ⟨a, rfl, ha⟩ := h r (by simp)
    obtain ⟨l, rfl, hl⟩ := rows_map (rows := rs) fun x hx => h x (by simp [hx])
    exact ⟨a :: l, rfl, by simpa using ⟨ha, hl⟩⟩
theorem Opens.one {R : List AV → Prop} (h : Opens P t R) {H : Type} {enc : TypeId × Value → H} {w : World} {base : Nat} {spare : Nat → Bool} {held : Bool} {v : Value} {d : DataW H} {ps : List MemPlace} (hv : v.cells = #[v]) (hd : DataW.Trod enc P w base spare held t v d ps) :
    ∃ row, R row ∧ froL (StAll w) w row [v] := by
  obtain ⟨fuel, hf⟩ := hd
  rw [hv] at hf
  obtain ⟨row, h1, h2, _⟩ := h _ _ _ _ _ _ _ _ _ hf
  exact ⟨row, h1, h2⟩
theorem Opens.agg {R : List AV → Prop} (h : Opens P t R) {H : Type} {enc : TypeId × Value → H} {w : World} {base : Nat} {spare : Nat → Bool} {held : Bool} {cs : Array Value} {d : DataW H} {ps : List MemPlace} (hd : DataW.Trod enc P w base spare held t (.agg cs) d ps) :
    ∃ row, R row ∧ fro (StAll w) w (.agg row) (.agg cs) := by
  obtain ⟨fuel, hf⟩ := hd
  obtain ⟨row, h1, h2, _⟩ := h _ _ _ _ _ _ _ _ _ hf
  refine ⟨row, h1, ?_⟩
  simp only [fro]
  exact ⟨cs.toList, by simp, by simpa [Value.cells] using h2⟩
end
end Go.Proofs.Ythcbdkmhamhciaa
namespace Go.Proofs.Ythcbdkmhamhciaa
open Go.RowKit

theorem opInts : Opens Try.prog 31 (fun r => ∃ l : List Int, r = [.sl 1 (l.map intA) none]) :=
  (opens_slice (n := 1) Try.underlying31 (by kernel_rfl) (by omega) (opens_int Try.underlying3)).mono (by
    rintro r ⟨rows, rfl, _, hr⟩
    obtain ⟨l, rfl, _⟩ := rows_map (enc := intA) (Q := fun _ => True) (fun x hx => by obtain ⟨t, rfl, _⟩ := hr x hx; exact ⟨t, rfl, trivial⟩)
    exact ⟨l, rfl⟩)
theorem ints_one {H : Type} {enc : TypeId × Value → H} {sp : Nat → Bool} {held : Bool} {base : Nat} {w : World} {a : Option Addr} {n c : Nat} {d : DataW H} {p : List MemPlace} (h : DataW.Trod enc Try.prog w base sp held 31 (.slice a n c) d p) :
    ∃ l : List Int, rep ⟨StAll w, [], []⟩ w (.sl 1 (l.map intA) none) (.slice a n c) := by
  obtain ⟨r0, ⟨l, rfl⟩, k0⟩ := opInts.one rfl h
  simp only [froL] at k0
  obtain ⟨_, _, e0, k0, rfl⟩ := k0
  injection e0 with e0
  subst e0
  exact ⟨l, rep_fro (G := ⟨StAll w, [], []⟩) _ _ k0⟩
end Go.Proofs.Ythcbdkmhamhciaa
namespace Go.Proofs.Ythcbdkmhamhciaa
open Go.RowKit

abbrev IsI5 (r : List AV) : Prop := ∃ n, r = [.v (.int .i64 n)] ∧ (Lit.int .i64 n).wf = true
theorem opI5 : Opens Try.prog 3 IsI5 := opens_int Try.underlying3
theorem opEntry : Opens Try.prog 101 (fun r => ∃ x : Ent, r = entA x) :=
  (opens_fields (l := [(0, 9, 1), (1, 3, 1)]) (n := 2) (by kernel_rfl) (.cons _ _ _ _ _ _ _ (opens_string Try.underlying9) (.cons _ _ _ _ _ _ _ opI5 (.nil _)))).mono (by
    rintro r ⟨_, _, ⟨a, rfl, _⟩, ⟨_, _, ⟨b, rfl, _⟩, rfl, rfl⟩, rfl⟩
    exact ⟨(a, b), rfl⟩)
theorem opEntries : Opens Try.prog 32 (fun r => ∃ l : List Ent, r = [.sl 2 (l.map entA) none]) :=
  (opens_slice (n := 2) Try.underlying32 (by kernel_rfl) (by omega) opEntry).mono (by
    rintro r ⟨rows, rfl, _, hr⟩
    obtain ⟨l, rfl, _⟩ := rows_map (enc := entA) (Q := fun _ => True) (fun x hx => by obtain ⟨t, rfl⟩ := hr x hx; exact ⟨t, rfl, trivial⟩)
    exact ⟨l, rfl⟩)
theorem opNode : Opens Try.prog 34 (fun r => ∃ x : Nod, r = nodA x) :=
  (opens_fields (l := [(0, 3, 1), (1, 3, 1), (2, 3, 1), (3, 3, 1), (4, 3, 1), (5, 3, 1), (6, 9, 1), (7, 32, 1)]) (n := 8) (by kernel_rfl) (.cons _ _ _ _ _ _ _ opI5 (.cons _ _ _ _ _ _ _ opI5 (.cons _ _ _ _ _ _ _ opI5 (.cons _ _ _ _ _ _ _ opI5 (.cons _ _ _ _ _ _ _ opI5 (.cons _ _ _ _ _ _ _ opI5 (.cons _ _ _ _ _ _ _ (opens_string Try.underlying9) (.cons _ _ _ _ _ _ _ opEntries (.nil _)))))))))).mono (by
    rintro r ⟨_, _, ⟨a, rfl, _⟩, ⟨_, _, ⟨b, rfl, _⟩, ⟨_, _, ⟨c, rfl, _⟩, ⟨_, _, ⟨d, rfl, _⟩, ⟨_, _, ⟨e, rfl, _⟩, ⟨_, _, ⟨f, rfl, _⟩, ⟨_, _, ⟨g, rfl, _⟩, ⟨_, _, ⟨h, rfl⟩, rfl, rfl⟩, rfl⟩, rfl⟩, rfl⟩, rfl⟩, rfl⟩, rfl⟩, rfl⟩
    exact ⟨⟨a, b, c, d, e, f, g, h⟩, rfl⟩)
end Go.Proofs.Ythcbdkmhamhciaa
namespace Go.Proofs.Ythcbdkmhamhciaa
open Go.RowKit
theorem FilesMakes_walk {H : Type} {enc : TypeId × Value → H} {sp : Nat → Bool} {held : Bool} {base : Nat} (a : Option Addr) (n c : Nat) (cs : Array Value) (w : World) {d d2 : DataW H} {p p2 : List MemPlace} (h : DataW.Trod enc Try.prog w base sp held 31 (.slice a n c) d p) (h2 : DataW.Trod enc Try.prog w base sp held 34 (.agg cs) d2 p2) :
    Calls Try.prog 4 #[.slice a n c, .agg cs] w fun e w' => e = .returned (.bool true) ∧ Below w.heap.size w w' := by
  obtain ⟨l, k⟩ := ints_one h
  obtain ⟨r2, ⟨x, rfl⟩, k2⟩ := opNode.agg h2
  refine calls_of (vs := [.slice a n c, .agg cs]) (Lmakes l x) (StAll w) (fun b o h => h) ?_
  simp only [repL]
  exact ⟨_, _, rfl, k, _, _, rfl, rep_fro (G := ⟨StAll w, [], []⟩) _ _ k2, rfl⟩
end Go.Proofs.Ythcbdkmhamhciaa
