/-
  Arguments of a statement as trees: what is read out of memory by its type.
  The source of numbers by trees; states in between with something unknown; lists in boxes that begin to grow.
  Lists of numbers that come in, as trees.
-/
import Derived.Test.YtokaaebbmcldaaaGreatDoorAvP
import Derived.OpenShut
import Derived.ChangeArms
import Derived.ChangeOld
import Derived.DataReads
import Derived.DataElems
import Derived.Test.YtokaaebbmcldaaaGreatDoorAvQ
namespace Go.Proofs.YtokaaebbmcldaaaGreatDoor
open Go.RowKit

def StAll (w : World) : Nat → Nat → Prop := fun b _ => b < w.heap.size
/-- Whatever is read by the type t is a row of trees with R. -/
def Opens (P : Program) (t : TypeId) (R : List AV → Prop) : Prop :=
  ∀ (H : Type) (enc : TypeId × Value → H) (w : World) (base : Nat) (spare : Nat → Bool) (held : Bool) (fuel : Nat) (cs : List Value) (x : DataW H × List MemPlace), DataW.trod enc P w base spare held fuel t cs = some x →
    ∃ row, R row ∧ froL (StAll w) w row cs ∧ ∀ u ∈ cs, u.oneCell' = true
section
variable {P : Program} {t : TypeId}
theorem Opens.mono {R R' : List AV → Prop} (h : Opens P t R) (hR : ∀ r, R r → R' r) : Opens P t R' := by
  intro H enc w base spare held fuel cs x hx
  obtain ⟨row, h1, h2⟩ := h H enc w base spare held fuel cs x hx
  exact ⟨row, hR _ h1, h2⟩
theorem opens_bool (ht : P.underlying t = some .bool) : Opens P t fun r => ∃ b, r = [.v (.bool b)] := by
  intro H enc w base spare held fuel cs x hx
  obtain ⟨b, rfl, _⟩ := DataW.trod_bool ht hx
  exact ⟨_, ⟨b, rfl⟩, ⟨_, _, rfl, by simp only [fro], by simp only [froL]⟩, by simp [Value.oneCell']⟩
theorem opens_int {k : IntKind} (ht : P.underlying t = some (.int k)) : Opens P t fun r => ∃ n, r = [.v (.int k n)] ∧ (Lit.int k n).wf = true := by
  intro H enc w base spare held fuel cs x hx
  obtain ⟨b, rfl, _, hw⟩ := DataW.trod_int ht hx
  exact ⟨_, ⟨b, rfl, hw⟩, ⟨_, _, rfl, by simp only [fro], by simp only [froL]⟩, by simp [Value.oneCell']⟩
theorem opens_string (ht : P.underlying t = some .string) : Opens P t fun r => ∃ s : ByteArray, r = [.v (.string s)] ∧ s.size ≤ maxLen := by
  intro H enc w base spare held fuel cs x hx
  obtain ⟨b, rfl, _, hw⟩ := DataW.trod_string ht hx
  exact ⟨_, ⟨b, rfl, hw⟩, ⟨_, _, rfl, by simp only [fro], by simp only [froL]⟩, by simp [Value.oneCell']⟩
theorem froL_app {St : Nat → Nat → Prop} {w : World} : ∀ {xs ys : List AV} {us vs : List Value}, froL St w xs us → froL St w ys vs → froL St w (xs ++ ys) (us ++ vs)
  | [], _, _, _, h, k => by simp only [froL] at h; subst h; simpa using k
  | x :: xs, _, _, _, h, k => by
    simp only [froL] at h
    obtain ⟨z, zs, rfl, h1, h2⟩ := h
    simp only [List.cons_append, froL]
    exact ⟨z, _, rfl, h1, froL_app h2 k⟩
/-- Rows one behind the other. -/
def CatR : List (List AV → Prop) → List AV → Prop
  | [], row => row = []
  | R :: Rs, row => ∃ a b, R a ∧ CatR Rs b ∧ row = a ++ b
inductive OpenF (P : Program) : Nat → List Field → List (List AV → Prop) → Nat → Prop
  | nil (n : Nat) : OpenF P n [] [] n
  | cons (off n m : Nat) (f : Field) (fs : List Field) (R : List AV → Prop) (Rs : List (List AV → Prop)) : f.offset = off → P.cellsOf f.type = n → Opens P f.type R → OpenF P (off + n) fs Rs m → OpenF P off (f :: fs) (R :: Rs) m
theorem OpenF.run {H : Type} {enc : TypeId × Value → H} {w : World} {base : Nat} {spare : Nat → Bool} {held : Bool} {fuel : Nat} {off m : Nat} {fs : List Field} {Rs : List (List AV → Prop)} (h : OpenF P off fs Rs m) :
    ∀ (cs : List Value), cs.length = m → (∀ f ∈ fs, ∃ y, DataW.trod enc P w base spare held fuel f.type ((cs.drop f.offset).take (P.cellsOf f.type)) = some y) → ∃ row, CatR Rs row ∧ froL (StAll w) w row (cs.drop off) ∧ ∀ u ∈ cs.drop off, u.oneCell' = true := by
  induction h with
  | nil n =>
    intro cs hl _
    have e : cs.drop n = [] := List.drop_eq_nil_of_le (by omega)
    exact ⟨[], rfl, by rw [e]; simp only [froL], by rw [e]; simp⟩
  | cons off n m f fs R Rs h1 h2 h3 _ ih =>
    intro cs hl hf
    obtain ⟨row, k1, k2, k3⟩ := ih cs hl (fun g hg => hf g (by simp [hg]))
    obtain ⟨y, hy⟩ := hf f (by simp)
    obtain ⟨a, a1, a2, a3⟩ := h3 _ _ _ _ _ _ _ _ _ hy
    rw [h1, h2] at a2 a3
    have e : cs.drop off = (cs.drop off).take n ++ cs.drop (off + n) := by rw [← List.drop_drop]; exact (List.take_append_drop n _).symm
    refine ⟨a ++ row, ⟨a, row, a1, k1, rfl⟩, ?_, ?_⟩
    · rw [e]; exact froL_app a2 k2
    · rw [e]
      intro u hu
      rcases List.mem_append.1 hu with hu | hu
      · exact a3 u hu
      · exact k3 u hu
theorem opens_struct {l : List Field} {Rs : List (List AV → Prop)} (ht : P.underlying t = some (.struct l.toArray)) (h : OpenF P 0 l Rs (P.cellsOf t)) : Opens P t (CatR Rs) := by
  intro H enc w base spare held fuel cs x hx
  obtain ⟨xs, n, rfl, _, hl, hxs, hf⟩ := DataW.trod_struct ht hx
  obtain ⟨row, k1, k2, k3⟩ := h.run (enc := enc) (w := w) (base := base) (spare := spare) (held := held) (fuel := n) cs hl (fun f hm => by
    obtain ⟨i, hi⟩ := List.getElem?_of_mem hm
    have h1 := hf i f (by simpa using hi)
    have hlt : i < xs.length := by rw [hxs]; simpa using (List.getElem?_eq_some_iff.1 hi).1
    exact ⟨xs[i], by rw [h1, List.getElem?_eq_getElem hlt]⟩)
  exact ⟨row, k1, by simpa using k2, by simpa using k3⟩
/-- A struct, by its fields: place, type, number of cells. -/
def structOf (P : Program) (t : TypeId) : Option (List (Nat × Nat × Nat) × Nat) :=
  match P.underlying t with
  | some (.struct fs) => some (fs.toList.map (fun f => (f.offset, f.type, P.cellsOf f.type)), P.cellsOf t)
  | _ => none
inductive OpenL (P : Program) : Nat → List (Nat × Nat × Nat) → List (List AV → Prop) → Nat → Prop
  | nil (n : Nat) : OpenL P n [] [] n
  | cons (off n m T : Nat) (l : List (Nat × Nat × Nat)) (R : List AV → Prop) (Rs : List (List AV → Prop)) : Opens P T R → OpenL P (off + n) l Rs m → OpenL P off ((off, T, n) :: l) (R :: Rs) m
theorem OpenL.fields {off m : Nat} {l : List (Nat × Nat × Nat)} {Rs : List (List AV → Prop)} (h : OpenL P off l Rs m) : ∀ fs : List Field, fs.map (fun f => (f.offset, f.type, P.cellsOf f.type)) = l → OpenF P off fs Rs m := by
  induction h with
  | nil n => intro fs e; rw [List.map_eq_nil_iff.1 e]; exact .nil n
  | cons off n m T l R Rs h1 _ ih =>
    intro fs e
    cases fs with
    | nil => cases e
    | cons f fs =>
      simp only [List.map_cons, List.cons.injEq, Prod.mk.injEq] at e
      obtain ⟨⟨e1, e2, e3⟩, e4⟩ := e
      subst e2
      exact .cons off n m f fs R Rs e1 e3 h1 (ih fs e4)
theorem opens_fields {l : List (Nat × Nat × Nat)} {n : Nat} {Rs : List (List AV → Prop)} (ht : structOf P t = some (l, n)) (h : OpenL P 0 l Rs n) : Opens P t (CatR Rs) := by
  unfold structOf at ht
  split at ht
  · rename_i fs hu
    simp only [Option.some.injEq, Prod.mk.injEq] at ht
    obtain ⟨e1, e2⟩ := ht
    subst e2
    exact opens_struct (l := fs.toList) (by simpa using hu) (h.fields _ e1)
  · cases ht
theorem opens_array {e : TypeId} {k n : Nat} {R : List AV → Prop} (ht : P.underlying t = some (.array k e)) (hc : P.cellsOf e = n) (hk : P.cellsOf t = k * n) (h : Opens P e R) : Opens P t (CatR (List.replicate k R)) := by
  intro H enc w base spare held fuel cs x hx
  obtain ⟨xs, m, rfl, _, hl, hxs, hf⟩ := DataW.trod_array ht hx
  have key : ∀ j, j ≤ k → ∃ row, CatR (List.replicate j R) row ∧ froL (StAll w) w row (cs.drop ((k - j) * n)) ∧ ∀ u ∈ cs.drop ((k - j) * n), u.oneCell' = true := by
    intro j
    induction j with
    | zero =>
      intro _
      have e : cs.drop ((k - 0) * n) = [] := List.drop_eq_nil_of_le (by rw [hl, hk]; simp)
      exact ⟨[], rfl, by rw [e]; simp only [froL], by rw [e]; simp⟩
    | succ j ih =>
      intro hj
      obtain ⟨row, k1, k2, k3⟩ := ih (by omega)
      have hi : k - (j + 1) < k := by omega
      have h1 := hf (k - (j + 1)) hi
      rw [List.getElem?_eq_getElem (by omega)] at h1
      obtain ⟨a, a1, a2, a3⟩ := h _ _ _ _ _ _ _ _ _ h1
      rw [hc] at a2 a3
      have e1 : (k - j) * n = (k - (j + 1)) * n + n := by
        rw [show k - j = (k - (j + 1)) + 1 by omega, Nat.add_mul, Nat.one_mul]
      have e : cs.drop ((k - (j + 1)) * n) = (cs.drop ((k - (j + 1)) * n)).take n ++ cs.drop ((k - j) * n) := by rw [e1, ← List.drop_drop]; exact (List.take_append_drop n _).symm
      refine ⟨a ++ row, ⟨a, row, a1, k1, rfl⟩, ?_, ?_⟩
      · rw [e]; exact froL_app a2 k2
      · rw [e]
        intro u hu
        rcases List.mem_append.1 hu with hu | hu
        · exact a3 u hu
        · exact k3 u hu
  obtain ⟨row, k1, k2, k3⟩ := key k (Nat.le_refl _)
  exact ⟨row, k1, by simpa using k2, by simpa using k3⟩
theorem cell_lt' {w : World} {b o : Nat} {v : Value} (h : w.cell? ⟨b, o, none⟩ = some v) : b < w.heap.size := by
  rcases Nat.lt_or_ge b w.heap.size with hlt | hge
  · exact hlt
  · simp [World.cell?, Array.getElem?_eq_none hge] at h
theorem froL_length' {St : Nat → Nat → Prop} {w : World} {xs : List AV} {ys : List Value} (h : froL St w xs ys) : ys.length = xs.length := repL_length (G := ⟨St, [], []⟩) (repL_fro (G := ⟨St, [], []⟩) _ _ h)
theorem opens_slice {e : TypeId} {n : Nat} {R : List AV → Prop} (ht : P.underlying t = some (.slice e)) (hc : P.cellsOf e = n) (hn : 0 < n) (h : Opens P e R) : Opens P t fun r => ∃ rows, r = [.sl n rows none] ∧ rows.length ≤ maxLen ∧ ∀ x ∈ rows, R x := by
  intro H enc w base spare held fuel cs x hx
  rcases DataW.trod_slice ht hx with ⟨rfl, _⟩ | ⟨⟨b, off, spot⟩, len, cap, elems, rest, m, rfl, rfl, _, hb, hl, hm, hlen, hel, _, _⟩
  · exact ⟨_, ⟨[], rfl, Nat.zero_le _, by simp⟩, ⟨_, _, rfl, by simp only [fro]; exact ⟨trivial, none, 0, rfl, Nat.le_refl _, Nat.zero_le _, .inl trivial⟩, by simp only [froL]⟩, by simp [Value.oneCell']⟩
  · have each : ∀ i, i < len → ∃ row cs', R row ∧ row.length = n ∧ froL (StAll w) w row cs' ∧ (∀ u ∈ cs', u.oneCell' = true) ∧ cs'.length = n ∧ ∀ j, j < n → w.cell? (Addr.add ⟨b, off, spot⟩ (i * n + j)) = cs'[j]? := by
      intro i hi
      have h1 := hel i hi
      rw [hc, List.getElem?_eq_getElem (by omega), Option.bind_eq_some_iff] at h1
      obtain ⟨cs', h2, h3⟩ := h1
      obtain ⟨row, r1, r2, r3⟩ := h _ _ _ _ _ _ _ _ _ h3
      obtain ⟨_, c1, c2⟩ := World.cells?_some h2
      refine ⟨row, cs', r1, by rw [← froL_length' r2, c1], r2, r3, c1, fun j hj => ?_⟩
      have := c2 j hj
      rwa [Addr.add_add] at this
    have hrows : ∃ rows : List (List AV), rows.length = len ∧ (∀ i, i < len → ∃ row cs', rows[i]? = some row ∧ R row ∧ row.length = n ∧ froL (StAll w) w row cs' ∧ (∀ u ∈ cs', u.oneCell' = true) ∧ cs'.length = n ∧ ∀ j, j < n → w.cell? (Addr.add ⟨b, off, spot⟩ (i * n + j)) = cs'[j]?) := by
      clear hel
      have : ∀ k, k ≤ len → ∃ rows : List (List AV), rows.length = k ∧ (∀ i, i < k → ∃ row cs', rows[i]? = some row ∧ R row ∧ row.length = n ∧ froL (StAll w) w row cs' ∧ (∀ u ∈ cs', u.oneCell' = true) ∧ cs'.length = n ∧ ∀ j, j < n → w.cell? (Addr.add ⟨b, off, spot⟩ (i * n + j)) = cs'[j]?) := by
        intro k
        induction k with
        | zero => intro _; exact ⟨[], rfl, fun i hi => by omega⟩
        | succ k ih =>
          intro hk
          obtain ⟨rows, e1, e2⟩ := ih (by omega)
          obtain ⟨row, cs', q⟩ := each k (by omega)
          refine ⟨rows ++ [row], by simp [e1], fun i hi => ?_⟩
          rcases Nat.lt_or_ge i k with hlt | hge
          · obtain ⟨row', cs'', q1, q2⟩ := e2 i hlt
            exact ⟨row', cs'', by rw [List.getElem?_append_left (by omega)]; exact q1, q2⟩
          · obtain rfl : i = k := by omega
            exact ⟨row, cs', by rw [List.getElem?_append_right (by omega), e1]; simp, q⟩
      exact this len (Nat.le_refl _)
    obtain ⟨rows, e1, e2⟩ := hrows
    refine ⟨_, ⟨rows, rfl, by omega, fun x hx => ?_⟩, ⟨_, _, rfl, ?_, by simp only [froL]⟩, by simp [Value.oneCell']⟩
    · obtain ⟨i, hi⟩ := List.getElem?_of_mem hx
      obtain ⟨row, _, q1, q2, _⟩ := e2 i (by rw [← e1]; exact (List.getElem?_eq_some_iff.1 hi).1)
      rw [hi] at q1
      injection q1 with q1
      subst q1
      exact q2
    · simp only [fro]
      refine ⟨trivial, some ⟨b, off, spot⟩, cap, by rw [e1], by omega, hm, ?_⟩
      rcases Nat.eq_zero_or_pos len with h0 | h0
      · left; exact List.eq_nil_of_length_eq_zero (by omega)
      · right
        have hspot : spot = none := by
          obtain ⟨_, cs', _, _, _, _, _, c3, c4⟩ := e2 0 h0
          have := c4 0 hn
          rw [List.getElem?_eq_getElem (by omega)] at this
          simpa [Addr.add] using World.cell?_spot this
        subst hspot
        refine ⟨b, off, rfl, ?_⟩
        have : ∀ (rs : List (List AV)) (k : Nat), (∀ i r, rs[i]? = some r → rows[k + i]? = some r) → froR (StAll w) w b n rs (off + k * n) := by
          intro rs
          induction rs with
          | nil => intro k _; simp only [froR]
          | cons r rs ih =>
            intro k hk
            simp only [froR]
            have h1 := hk 0 r rfl
            rw [Nat.add_zero] at h1
            obtain ⟨row, cs', q1, _, q3, q4, q5, q6, q7⟩ := e2 k (by rw [← e1]; exact (List.getElem?_eq_some_iff.1 h1).1)
            rw [h1] at q1
            injection q1 with q1
            subst q1
            refine ⟨⟨q3, froC_of fun i x hi => ?_⟩, ?_⟩
            · obtain ⟨u, u1, u2⟩ := froL_get q4 hi
              have hin : i < n := by rw [← q3]; exact (List.getElem?_eq_some_iff.1 hi).1
              have hc := q7 i hin
              rw [u1] at hc
              have hc' : w.cell? ⟨b, off + k * n + i, none⟩ = some u := by rw [Addr.add_mid] at hc; rwa [Nat.add_assoc]
              exact ⟨cell_lt' hc', u, hc', q5 u (List.mem_of_getElem? u1), u2⟩
            · have := ih (k + 1) (fun i r' hi => by
                have := hk (i + 1) r' (by simpa using hi)
                rwa [show k + 1 + i = k + (i + 1) by omega])
              rwa [show off + (k + 1) * n = off + k * n + n by rw [Nat.add_mul]; omega] at this
        simpa using this rows 0 (fun i r hi => by simpa using hi)
theorem rows_map {α : Type} {enc : α → List AV} {Q : α → Prop} : ∀ {rows : List (List AV)}, (∀ x ∈ rows, ∃ a, x = enc a ∧ Q a) → ∃ l : List α, rows = l.map enc ∧ ∀ a ∈ l, Q a
  | [], _ => ⟨[], rfl, by simp⟩
  | r :: rs, h => by
    obtain ⟨a, rfl, ha⟩ := h r (by simp)
    obtain ⟨l, rfl, hl⟩ := rows_map (rows := rs) fun x hx => h x (by simp [hx])
    exact ⟨a :: l, rfl, by simpa using ⟨ha, hl⟩⟩
/-- An argument whose value is one cell. -/
theorem Opens.one {R : List AV → Prop} (h : Opens P t R) {H : Type} {enc : TypeId × Value → H} {w : World} {base : Nat} {spare : Nat → Bool} {held : Bool} {v : Value} {d : DataW H} {ps : List MemPlace} (hv : v.cells = #[v]) (hd : DataW.Trod enc P w base spare held t v d ps) :
    ∃ row, R row ∧ froL (StAll w) w row [v] := by
  obtain ⟨fuel, hf⟩ := hd
  rw [hv] at hf
  obtain ⟨row, h1, h2, _⟩ := h _ _ _ _ _ _ _ _ _ hf
  exact ⟨row, h1, h2⟩
/-- An argument that is a struct. -/
theorem Opens.agg {R : List AV → Prop} (h : Opens P t R) {H : Type} {enc : TypeId × Value → H} {w : World} {base : Nat} {spare : Nat → Bool} {held : Bool} {cs : Array Value} {d : DataW H} {ps : List MemPlace} (hd : DataW.Trod enc P w base spare held t (.agg cs) d ps) :
    ∃ row, R row ∧ fro (StAll w) w (.agg row) (.agg cs) := by
  obtain ⟨fuel, hf⟩ := hd
  obtain ⟨row, h1, h2, _⟩ := h _ _ _ _ _ _ _ _ _ hf
  refine ⟨row, h1, ?_⟩
  simp only [fro]
  exact ⟨cs.toList, by simp, by simpa [Value.cells] using h2⟩
end
end Go.Proofs.YtokaaebbmcldaaaGreatDoor
namespace Go.Proofs.YtokaaebbmcldaaaGreatDoor
open Go.RowKit

/-- States in between, of which something is known. -/
theorem aw_midI {P : Program} {N : Dim} {Q : Exit → AS → Prop} {s : AS} {x y : Code} (I : AS → Prop) (h1 : AWp P N x (AThen (fun s' => ∃ s0, I s0 ∧ Weak N s' s0) Q) s) (h2 : ∀ s0, I s0 → AWp P N y Q s0) : AWp P N (.seq x y) Q s := by
  intro E a w hr
  refine wp_seq (wp_mono (h1 E a w hr) ?_)
  rintro e a' w' ⟨s', hq, hr'⟩
  cases e with
  | normal => obtain ⟨s0, k1, k2⟩ := hq; exact h2 s0 k1 E a' w' (k2 E a' w' hr')
  | exit id => exact ⟨s', hq, hr'⟩
  | goto l => exact ⟨s', hq, hr'⟩
  | ret => exact ⟨s', hq, hr'⟩
  | panic c => exact ⟨s', hq, hr'⟩
  | outgrown => exact ⟨s', hq, hr'⟩
/-- A box holds a cell, told in other words. -/
theorem HRel.boxLe {E : Env} {G : Gh} {h : AH} {w : World} (hr : HRel E G h w) {i : Nat} {row row' : List AV} (hi : h.bx[i]? = some row) (hle : ∀ us, repL G w row us → repL G w row' us) : HRel E G ⟨h.bx.set i row', h.tk⟩ w := by
  refine ⟨hr.inpre, hr.kept, hr.stlt, hr.stnew, by simp [hr.bxlen], hr.bxnd, hr.bxst, hr.bxown, ?_, hr.tklen, hr.tok, hr.tkbx, hr.tknd⟩
  intro j b row1 hj hrow
  have hlt : i < h.bx.length := (List.getElem?_eq_some_iff.1 hi).1
  by_cases e : i = j
  · subst e
    rw [List.getElem?_set_self hlt] at hrow
    injection hrow with hrow
    subst hrow
    obtain ⟨us, T, k1, k2, k3⟩ := hr.box i b row hj hi
    exact ⟨us, T, k1, hle us k2, k3⟩
  · rw [List.getElem?_set_ne e] at hrow
    exact hr.box j b row1 hj hrow
theorem repL_set {G : Gh} {w : World} {x y : AV} (h : ∀ v, rep G w x v → rep G w y v) : ∀ {row : List AV} {o : Nat} {us : List Value}, row[o]? = some x → repL G w row us → repL G w (row.set o y) us
  | [], o, _, hx, _ => by simp at hx
  | z :: zs, 0, _, hx, hr => by
    simp at hx
    subst hx
    simp only [repL, List.set_cons_zero] at hr ⊢
    obtain ⟨a, as', h1, h2, h3⟩ := hr
    exact ⟨a, as', h1, h a h2, h3⟩
  | z :: zs, o + 1, _, hx, hr => by
    simp only [repL, List.set_cons_succ] at hr ⊢
    obtain ⟨a, as', h1, h2, h3⟩ := hr
    exact ⟨a, as', h1, h2, repL_set h (by simpa using hx) h3⟩
/-- Nothing, in a box, is a list that may grow. -/
theorem aw_nilTokB {P : Program} {N : Dim} {Q : Exit → AS → Prop} {c : Code} {f : Nat → Option AV} {bx bx' : List (List AV)} {tk tk' : List Tok} (i o T sz : Nat) {g : Nat} {row row' : List AV} (hb : bx[i]? = some row) (ht : row[o]? = some (.v (.slice none 0 0))) (hs : SnocAt tk (T, sz, []) g tk')
    (hrow : SetAt row o [.sl sz [] (some g)] row') (hbx : SetAt bx i [row'] bx') (h : AWp P N c Q ⟨f, ⟨bx', tk'⟩⟩) : AWp P N c Q ⟨f, ⟨bx, tk⟩⟩ := by
  rintro E a w ⟨G, h1, h2, h3⟩
  obtain ⟨e1, e2⟩ := hs.eq
  subst e1
  subst e2
  have e3 := (SetAt.one hrow).2
  have e4 := (SetAt.one hbx).2
  subst e3
  subst e4
  obtain ⟨k1, k2, k3⟩ := nil_tok h1 T sz
  refine h E a w ⟨_, k1.boxLe (i := i) hb (fun us hu => repL_set (x := .v (.slice none 0 0)) (fun v hv => ?_) ht hu), fun t' x hx => rep_mono k2 _ _ (h2 t' x hx), h3⟩
  simp only [rep] at hv
  rw [hv]
  exact k3

def intA (z : Int) : List AV := [.v (.int .i64 z)]
def srcA (l : List Int) (a : Nat) : List AV := [.sl 1 (l.map intA) none, .v (.int .i64 (a : Int))]
/-- A function of the source: it takes at most c numbers. -/
def GenF (P : Program) (f : FuncId) (l : List Int) (a : Nat) (xs : List AV) (c : Nat) (R : AV → Prop) : Prop := AFnB P f (.bp 0 0 :: xs) (srcA l a) (fun r row' => ∃ a', a' ≤ a + c ∧ row' = srcA l a' ∧ R r)
theorem GenF.mono {P : Program} {f : FuncId} {l : List Int} {a : Nat} {xs : List AV} {c c' : Nat} {R R' : AV → Prop} (h : GenF P f l a xs c R) (hc : c ≤ c') (hR : ∀ r, R r → R' r) : GenF P f l a xs c' R' :=
  ACall.mono h fun _ _ _ ⟨row', h1, h2, a', h3, h4, h5⟩ => ⟨row', h1, h2, a', by omega, h4, hR _ h5⟩
section
variable {P : Program} {ev : Operand → Option AV} {bx : List (List AV)} {tk : List Tok} {R : AV → AH → Prop} {d : Option Tmp} {ty : TypeId} {pos : String} {af : Array Edge} {gd : Option (Nat × Bool)} {ats : Array TypeId}
theorem s_gen {f : FuncId} {ops : List Operand} {l : List Int} {a c : Nat} {xs : List AV} {R0 : AV → Prop} (i : Nat) [Fun P f] (hrow : bx[i]? = some (srcA l a) := by rfl) (ha : ArgsB i ev ops (.bp 0 0 :: xs) := by repeat (first | exact ArgsB.nil | refine ArgsB.cons _ _ _ _ _ rfl rfl ?_)) (hc : GenF P f l a xs c R0)
    (hR : ∀ r a', a' ≤ a + c → R0 r → bpLt 0 0 r = true ∧ ∃ bx', SetAt bx i [srcA l a'] bx' ∧ R r ⟨bx', tk⟩) (hfo : ev (.func f) = some (.fn f []) := by rfl) : AStep P ⟨d, .call { callee := .value (.func f), args := ops.toArray, argTypes := ats }, ty, pos, af, gd⟩ ev ⟨bx, tk⟩ R :=
  s_callB i hfo ha hrow rfl hc (fun r row' ⟨a', h1, h2, h3⟩ => by
    subst h2
    exact ⟨rfl, hR r a' h1 h3⟩)
end
/-- Rows of one number each, all with p. -/
def allI (p : Int → Bool) : List (List AV) → Bool
  | [] => true
  | [.v (.int .i64 z)] :: rs => p z && allI p rs
  | _ => false
def allS (p : ByteArray → Bool) : List (List AV) → Bool
  | [] => true
  | [.v (.string z)] :: rs => p z && allS p rs
  | _ => false
theorem allI_get {p : Int → Bool} : ∀ {rows : List (List AV)}, allI p rows = true → ∀ {i : Nat}, i < rows.length → ∃ z, rows[i]? = some [.v (.int .i64 z)] ∧ p z = true
  | [], _, i, hi => by simp at hi
  | r :: rs, h, i, hi => by
    unfold allI at h
    split at h
    · rename_i heq; cases heq
    · rename_i z rs' heq
      injection heq with e1 e2
      subst e1
      subst e2
      simp only [Bool.and_eq_true] at h
      cases i with
      | zero => exact ⟨z, rfl, h.1⟩
      | succ i => simpa using allI_get h.2 (by simpa using hi)
    · cases h
theorem allS_get {p : ByteArray → Bool} : ∀ {rows : List (List AV)}, allS p rows = true → ∀ {i : Nat}, i < rows.length → ∃ z, rows[i]? = some [.v (.string z)] ∧ p z = true
  | [], _, i, hi => by simp at hi
  | r :: rs, h, i, hi => by
    unfold allS at h
    split at h
    · rename_i heq; cases heq
    · rename_i z rs' heq
      injection heq with e1 e2
      subst e1
      subst e2
      simp only [Bool.and_eq_true] at h
      cases i with
      | zero => exact ⟨z, rfl, h.1⟩
      | succ i => simpa using allS_get h.2 (by simpa using hi)
    · cases h
end Go.Proofs.YtokaaebbmcldaaaGreatDoor
namespace Go.Proofs.YtokaaebbmcldaaaGreatDoor
open Go.RowKit

theorem opInts : Opens Tryz.prog 22 (fun r => ∃ l : List Int, r = [.sl 1 (l.map intA) none]) :=
  (opens_slice (n := 1) Tryz.underlying22 (by kernel_rfl) (by omega) (opens_int Tryz.underlying3)).mono (by
    rintro r ⟨rows, rfl, _, hr⟩
    obtain ⟨l, rfl, _⟩ := rows_map (enc := intA) (Q := fun _ => True) (fun x hx => by obtain ⟨t, rfl, _⟩ := hr x hx; exact ⟨t, rfl, trivial⟩)
    exact ⟨l, rfl⟩)
theorem ints_one {H : Type} {enc : TypeId × Value → H} {sp : Nat → Bool} {held : Bool} {base : Nat} {w : World} {a : Option Addr} {n c : Nat} {d : DataW H} {p : List MemPlace} (h : DataW.Trod enc Tryz.prog w base sp held 22 (.slice a n c) d p) :
    ∃ l : List Int, rep ⟨StAll w, [], []⟩ w (.sl 1 (l.map intA) none) (.slice a n c) := by
  obtain ⟨r0, ⟨l, rfl⟩, k0⟩ := opInts.one rfl h
  simp only [froL] at k0
  obtain ⟨_, _, e0, k0, rfl⟩ := k0
  injection e0 with e0
  subst e0
  exact ⟨l, rep_fro (G := ⟨StAll w, [], []⟩) _ _ k0⟩
theorem walk_ints {f : FuncId} (hf : ∀ l : List Int, AFn Tryz.prog f [.sl 1 (l.map intA) none] (fun x => x = .v (.bool true))) {H : Type} {enc : TypeId × Value → H} {sp : Nat → Bool} {held : Bool} {base : Nat} (a : Option Addr) (n c : Nat) (w : World) {d : DataW H} {p : List MemPlace}
    (h : DataW.Trod enc Tryz.prog w base sp held 22 (.slice a n c) d p) : Calls Tryz.prog f #[.slice a n c] w fun e w' => e = .returned (.bool true) ∧ Below w.heap.size w w' := by
  obtain ⟨l, k⟩ := ints_one h
  refine calls_of (vs := [.slice a n c]) (hf l) (StAll w) (fun b o h => h) ?_
  simp only [repL]
  exact ⟨_, _, rfl, k, rfl⟩
theorem walk_intsv {f : FuncId} (us : List Value) (hf : ∀ l : List Int, AFn Tryz.prog f (.sl 1 (l.map intA) none :: us.map AV.v) (fun x => x = .v (.bool true))) {H : Type} {enc : TypeId × Value → H} {sp : Nat → Bool} {held : Bool} {base : Nat} (a : Option Addr) (n c : Nat) (w : World) {d : DataW H} {p : List MemPlace}
    (h : DataW.Trod enc Tryz.prog w base sp held 22 (.slice a n c) d p) : Calls Tryz.prog f (.slice a n c :: us).toArray w fun e w' => e = .returned (.bool true) ∧ Below w.heap.size w w' := by
  obtain ⟨l, k⟩ := ints_one h
  refine calls_of (vs := .slice a n c :: us) (hf l) (StAll w) (fun b o h => h) ?_
  simp only [repL]
  exact ⟨_, _, rfl, k, repL_v us⟩
end Go.Proofs.YtokaaebbmcldaaaGreatDoor
