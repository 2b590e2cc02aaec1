/-
  The operations, one by one: moving, reading and writing variables, addresses, numbers and strings.
-/
import Derived.Test.YtokaaebbmcldaaaGreatDoorAvD
namespace Go.Proofs.YtokaaebbmcldaaaGreatDoor
open Go.RowKit

/-! The program's table of types. -/
def fldOf (P : Program) (T i : Nat) : Option (Nat × Nat) :=
  match P.underlying T with
  | some (.struct fs) => match fs[i]? with
    | some f => (P.info? f.type).bind fun inf => if inf.size = 0 then none else some (f.offset, inf.size)
    | none => none
  | _ => none
def typOf (P : Program) (T : Nat) : Option (Nat × Bool) :=
  match P.underlying T, P.info? T with
  | some d, some i => some (i.size, d.isRow)
  | _, _ => none
def elmOf (P : Program) (T : Nat) : Option (Nat × Nat × Nat) :=
  match P.underlying T with
  | some (.slice E) => match P.info? E with
    | some i => match i.zero with
      | some z => if z.cells.size = i.size ∧ 0 < i.size then some (E, i.size, i.bytes) else none
      | none => none
    | none => none
  | _ => none
def zerOf (P : Program) (T : Nat) : Option (List Value) := (P.info? T).bind fun i => i.zero.map fun z => z.cells.toList
/-- Field number i of the struct T: where it lies and how many cells it has. -/
class Fld (P : Program) (T i : Nat) (off sz : outParam Nat) : Prop where
  eq : fldOf P T i = some (off, sz)
/-- How many cells a type has; is it a struct or an array? -/
class Typ (P : Program) (T : Nat) (sz : outParam Nat) (ag : outParam Bool) : Prop where
  eq : typOf P T = some (sz, ag)
/-- A slice's element: its type, its cells, its bytes. -/
class Elm (P : Program) (T : Nat) (E sz bytes : outParam Nat) : Prop where
  eq : elmOf P T = some (E, sz, bytes)
  few : bytes ≤ 100000
/-- What a new variable holds. -/
class Zer (P : Program) (T : Nat) (row : outParam (List AV)) : Prop where
  eq : ∃ zs, zerOf P T = some zs ∧ zs.map AV.v = row ∧ zs.all (·.oneCell') = true
def plcOf (P : Program) (T : Nat) : Option (List (Nat × Nat)) :=
  match P.underlying T with
  | some (.struct fs) => fs.toList.mapM fun f => (P.info? f.type).map fun i => (f.offset, i.size)
  | some (.array n e) => (P.info? e).map fun i => (List.range n).map fun k => (k * i.size, i.size)
  | _ => none
/-- Where the parts of a struct or an array lie. -/
class Plc (P : Program) (T : Nat) (pl : outParam (List (Nat × Nat))) : Prop where
  eq : plcOf P T = some pl

section
variable {P : Program} {ev : Operand → Option AV} {h : AH} {R : AV → AH → Prop} {d : Option Tmp} {ty : TypeId} {pos : String} {af : Array Edge} {gd : Option (Nat × Bool)}

/-- An operation that leaves the world as it is. -/
theorem st_val {o : Oper} {x : AV} (hrun : ∀ (E : Env) (G : Gh) (w : World) (ec : Operand → Value), HRel E G h w → (∀ x ∈ o.op.operands, ∀ av, ev x = some av → rep G w av (ec x)) → ∃ v, (execOp ec o).run P w = .ok (.value v) w ∧ rep G w x v) (hR : R x h) : AStep P o ev h R := by
  intro E G w ec hr he
  obtain ⟨v, h1, h2⟩ := hrun E G w ec hr he
  rw [h1]
  exact ⟨x, h, G, hR, hr, Ext.refl G w, h2⟩
theorem st_move {x : Operand} {av : AV} (hx : ev x = some av) (hR : R av h) : AStep P ⟨d, .move x, ty, pos, af, gd⟩ ev h R :=
  st_val (fun _ _ _ ec _ he => ⟨ec x, rfl, he x (by simp [Op.operands]) av hx⟩) hR
theorem st_assign {x : Operand} {av : AV} (hx : ev x = some av) (hR : R av h) : AStep P ⟨d, .assign x, ty, pos, af, gd⟩ ev h R :=
  st_val (fun _ _ _ ec _ he => ⟨ec x, rfl, he x (by simp [Op.operands]) av hx⟩) hR
theorem st_pick_t {c a b : Operand} {t : Bool} {av : AV} (hc : ev c = some (.v (.bool t))) (ht : t = true) (hx : ev a = some av) (hR : R av h) : AStep P ⟨d, .pick c a b, ty, pos, af, gd⟩ ev h R :=
  st_val (fun _ G w ec _ he => ⟨ec a, by
    have h1 := he c (by simp [Op.operands]) _ hc
    simp only [rep] at h1
    simp [execOp, h1, asBool, ht], he a (by simp [Op.operands]) av hx⟩) hR
theorem st_pick_f {c a b : Operand} {t : Bool} {av : AV} (hc : ev c = some (.v (.bool t))) (ht : t = false) (hx : ev b = some av) (hR : R av h) : AStep P ⟨d, .pick c a b, ty, pos, af, gd⟩ ev h R :=
  st_val (fun _ G w ec _ he => ⟨ec b, by
    have h1 := he c (by simp [Op.operands]) _ hc
    simp only [rep] at h1
    simp [execOp, h1, asBool, ht], he b (by simp [Op.operands]) av hx⟩) hR
theorem st_extract {x : Operand} {i : Nat} {cs : List AV} {av : AV} (hx : ev x = some (.tup cs)) (hi : cs[i]? = some av) (hR : R av h) : AStep P ⟨d, .extract x i, ty, pos, af, gd⟩ ev h R := by
  refine st_val (fun _ G w ec _ he => ?_) hR
  have h1 := he x (by simp [Op.operands]) _ hx
  simp only [rep] at h1
  obtain ⟨ys, h2, h3⟩ := h1
  obtain ⟨y, h4, h5⟩ := repL_get h3 hi
  exact ⟨y, by simp [execOp, h2, Instr.extract, h4], h5⟩
theorem st_makeFunc {f : FuncId} {cap : Array Operand} {xs : List AV} (hx : cap.toList.mapM ev = some xs) (hR : R (.fn f xs) h) : AStep P ⟨d, .makeFunc (.func f) #[] cap, ty, pos, af, gd⟩ ev h R := by
  refine st_val (fun _ G w ec _ he => ⟨.func (.func f) #[] (cap.map ec), by simp [execOp, Instr.makeFunc], ?_⟩) hR
  have key : ∀ (l : List Operand) (xs : List AV), (∀ x ∈ l, x ∈ cap) → l.mapM ev = some xs → repL G w xs (l.map ec) := by
    intro l
    induction l with
    | nil => intro xs _ h1; simp at h1; subst h1; simp only [repL, List.map_nil]
    | cons a l ih =>
      intro xs hm h1
      simp only [List.mapM_cons, Option.bind_eq_bind] at h1
      cases ha : ev a with
      | none => simp [ha] at h1
      | some av =>
        cases hl : l.mapM ev with
        | none => simp [ha, hl] at h1
        | some ys =>
          simp [ha, hl] at h1
          subst h1
          simp only [repL, List.map_cons]
          exact ⟨_, _, rfl, he a (by simpa [Op.operands] using hm a (by simp)) av ha, ih ys (fun x hx => hm x (by simp [hx])) hl⟩
  simp only [rep]
  exact ⟨cap.toList.map ec, by rw [← Array.toList_map], key _ _ (fun x hx => by simpa using hx) hx⟩
theorem st_nilB {x : Operand} {i off : Nat} (hx : ev x = some (.bp i off)) (hR : R (.bp i off) h) : AStep P ⟨d, .nilCheck x, ty, pos, af, gd⟩ ev h R := by
  refine st_val (fun _ G w ec _ he => ?_) hR
  have h1 := he x (by simp [Op.operands]) _ hx
  have h2 := h1
  simp only [rep] at h1
  obtain ⟨b, _, h3⟩ := h1
  exact ⟨ec x, by simp [execOp, h3], h2⟩
theorem st_nilF {x : Operand} {row : List AV} (hx : ev x = some (.fp row)) (hR : R (.fp row) h) : AStep P ⟨d, .nilCheck x, ty, pos, af, gd⟩ ev h R := by
  refine st_val (fun _ G w ec _ he => ?_) hR
  have h1 := he x (by simp [Op.operands]) _ hx
  have h2 := h1
  simp only [rep] at h1
  obtain ⟨b, off, h3, _⟩ := h1
  exact ⟨ec x, by simp [execOp, h3], h2⟩

/-! Addresses. -/
theorem run_fieldAt {T i off sz : Nat} (hf : fldOf P T i = some (off, sz)) (b o : Nat) (w : World) : (Instr.fieldAt T (.pointer (some ⟨b, o, none⟩)) i).run P w = .ok (.pointer (some ⟨b, o + off, none⟩)) w := by
  unfold fldOf at hf
  cases hu : P.underlying T with
  | none => simp [hu] at hf
  | some dsc =>
    cases dsc <;> try (simp [hu] at hf; done)
    case struct fs =>
      cases hfi : fs[i]? with
      | none => simp [hu, hfi] at hf
      | some f =>
        cases hi : P.info? f.type with
        | none => simp [hu, hfi, hi] at hf
        | some inf =>
          by_cases h0 : inf.size = 0
          · simp [hu, hfi, hi, h0] at hf
          · simp [hu, hfi, hi, h0] at hf
            simp [Instr.fieldAt, run_underlying hu, hfi, Instr.sureAddr, fieldPlace, sizeOf, typeInfo, hi, h0, Addr.add_mid, hf.1]
theorem st_fieldB {T : TypeId} {x : Operand} {i j o off sz : Nat} [hf : Fld P T i off sz] (hx : ev x = some (.bp j o)) (hR : R (.bp j (o + off)) h) : AStep P ⟨d, .fieldAddr T x i, ty, pos, af, gd⟩ ev h R := by
  refine st_val (fun _ G w ec _ he => ?_) hR
  have h1 := he x (by simp [Op.operands]) _ hx
  simp only [rep] at h1
  obtain ⟨b, h2, h3⟩ := h1
  exact ⟨.pointer (some ⟨b, o + off, none⟩), by simp [execOp, h3, run_fieldAt hf.eq], by simp only [rep]; exact ⟨b, h2, rfl⟩⟩
theorem st_fieldF {T : TypeId} {x : Operand} {row : List AV} {i off sz : Nat} [hf : Fld P T i off sz] (hx : ev x = some (.fp row)) (hR : R (.fp (row.drop off)) h) : AStep P ⟨d, .fieldAddr T x i, ty, pos, af, gd⟩ ev h R := by
  refine st_val (fun _ G w ec _ he => ?_) hR
  have h1 := he x (by simp [Op.operands]) _ hx
  simp only [rep] at h1
  obtain ⟨b, o, h2, h3⟩ := h1
  exact ⟨.pointer (some ⟨b, o + off, none⟩), by simp [execOp, h2, run_fieldAt hf.eq], by simp only [rep]; exact ⟨b, o + off, rfl, froC_drop h3 off⟩⟩
theorem elm_spec {T E sz bytes : Nat} (he : elmOf P T = some (E, sz, bytes)) : P.underlying T = some (.slice E) ∧ ∃ i z, P.info? E = some i ∧ i.zero = some z ∧ z.cells.size = sz ∧ i.size = sz ∧ i.bytes = bytes ∧ 0 < sz := by
  unfold elmOf at he
  cases hu : P.underlying T with
  | none => simp [hu] at he
  | some dsc =>
    cases dsc <;> try (simp [hu] at he; done)
    case slice E' =>
      cases hi : P.info? E' with
      | none => simp [hu, hi] at he
      | some i =>
        cases hz : i.zero with
        | none => simp [hu, hi, hz] at he
        | some z =>
          simp [hu, hi, hz] at he
          obtain ⟨⟨h1, h2⟩, rfl, rfl, rfl⟩ := he
          exact ⟨rfl, i, z, hi, hz, h1, rfl, rfl, h2⟩
/-- 'l[n]' of a slice. -/
theorem st_index {T : TypeId} {x ix : Operand} {E sz bytes n : Nat} {k : IntKind} {i : Int} {rows : List (List AV)} {tok : Option Nat} {row : List AV} [hE : Elm P T E sz bytes]
    (hx : ev x = some (.sl sz rows tok)) (hi : ev ix = some (.v (.int k i))) (hn : i = (n : Int)) (hrow : rows[n]? = some row) (hR : R (.fp row) h) : AStep P ⟨d, .indexAddr T x ix, ty, pos, af, gd⟩ ev h R := by
  refine st_val (fun _ G w ec _ he => ?_) hR
  have h1 := fro_era _ _ (he x (by simp [Op.operands]) _ hx)
  have h2 := he ix (by simp [Op.operands]) _ hi
  simp only [rep] at h2
  simp only [era, fro] at h1
  obtain ⟨_, A, cap, h3, _, _, h4⟩ := h1
  obtain ⟨hu, inf, z, hinf, _, _, hs, _, _⟩ := elm_spec hE.eq
  have hlt : n < rows.length := (List.getElem?_eq_some_iff.1 hrow).1
  rcases h4 with h4 | ⟨b, off, rfl, h4⟩
  · subst h4; simp at hlt
  · obtain ⟨h5, h6⟩ := froR_get h4 hrow
    subst hn
    refine ⟨.pointer (some ⟨b, off + n * sz, none⟩), ?_, by simp only [rep]; exact ⟨b, _, rfl, h6⟩⟩
    simp [execOp, h2, h3, Instr.indexAt, asIntOf, run_underlying hu, hlt, sizeOf, typeInfo, hinf, hs, Addr.add_mid]

/-! Reading and writing variables. -/
theorem typ_spec {T sz : Nat} {ag : Bool} (ht : typOf P T = some (sz, ag)) : ∃ dsc i, P.underlying T = some dsc ∧ P.info? T = some i ∧ i.size = sz ∧ dsc.isRow = ag := by
  unfold typOf at ht
  cases hu : P.underlying T with
  | none => simp [hu] at ht
  | some dsc =>
    cases hi : P.info? T with
    | none => simp [hu, hi] at ht
    | some i =>
      simp [hu, hi] at ht
      exact ⟨dsc, i, rfl, rfl, ht.1, ht.2⟩
theorem run_load1 {T sz : Nat} (ht : typOf P T = some (sz, false)) {b o : Nat} {w : World} {u : Value} (hc : w.cell? ⟨b, o, none⟩ = some u) : (Instr.loadAt T (.pointer (some ⟨b, o, none⟩))).run P w = .ok u w := by
  obtain ⟨dsc, i, hu, hi, _, hd⟩ := typ_spec ht
  have hagg : (isAgg T).run P w = .ok false w := by
    unfold isAgg
    rw [Sem.run_bind, run_underlying hu w]
    cases dsc <;> simp_all
  simp [Instr.loadAt, Instr.sureAddr, loadVar, hagg, hc]
theorem run_loadN {T : Nat} {cs : List Value} (ht : typOf P T = some (cs.length, true)) {b o : Nat} {w : World} (hc : w.rangeAt b o cs) : (Instr.loadAt T (.pointer (some ⟨b, o, none⟩))).run P w = .ok (.agg cs.toArray) w := by
  obtain ⟨dsc, i, hu, hi, hs, hd⟩ := typ_spec ht
  exact run_loadAt_mid w b o T cs dsc hc hu hd (by rw [hi]; simp [hs])
/-- The cells of a row that stays. -/
theorem froC_cells {St : Nat → Nat → Prop} {w : World} {b : Nat} : ∀ {xs : List AV} {off : Nat}, froC St w b xs off → ∃ us : List Value, froL St w xs us ∧ (∀ u ∈ us, u.oneCell' = true) ∧ w.rangeAt b off us
  | [], _, _ => ⟨[], by simp only [froL], by simp, fun j v hv => by simp at hv⟩
  | x :: xs, off, hc => by
    simp only [froC] at hc
    obtain ⟨⟨_, u, h1, h2, h3⟩, h4⟩ := hc
    obtain ⟨us, k1, k2, k3⟩ := froC_cells h4
    refine ⟨u :: us, by simp only [froL]; exact ⟨u, us, rfl, h3, k1⟩, ?_, fun j v hv => ?_⟩
    · intro y hy
      rcases List.mem_cons.1 hy with e | e
      · rw [e]; exact h2
      · exact k2 y e
    · cases j with
      | zero => simp at hv; subst hv; exact h1
      | succ j =>
        have := k3 j v (by simpa using hv)
        rwa [show off + 1 + j = off + (j + 1) by omega] at this
theorem froL_take {St : Nat → Nat → Prop} {w : World} : ∀ {xs : List AV} {us : List Value}, froL St w xs us → ∀ n, froL St w (xs.take n) (us.take n)
  | [], _, hf, n => by simp only [froL] at hf; subst hf; simp [froL]
  | x :: xs, _, hf, n => by
    simp only [froL] at hf
    obtain ⟨z, zs, rfl, h1, h2⟩ := hf
    cases n with
    | zero => simp [froL]
    | succ n => simp only [List.take_succ_cons, froL]; exact ⟨_, _, rfl, h1, froL_take h2 n⟩
theorem froL_length {St : Nat → Nat → Prop} {w : World} : ∀ {xs : List AV} {ys : List Value}, froL St w xs ys → ys.length = xs.length
  | [], _, hf => by simp only [froL] at hf; rw [hf]; rfl
  | x :: xs, _, hf => by
    simp only [froL] at hf
    obtain ⟨z, zs, rfl, _, h3⟩ := hf
    simp [froL_length h3]
theorem st_loadF1 {T : TypeId} {x : Operand} {sz : Nat} {row : List AV} {av : AV} [ht : Typ P T sz false] (hx : ev x = some (.fp row)) (hr : row[0]? = some av) (hR : R av h) : AStep P ⟨d, .load T x, ty, pos, af, gd⟩ ev h R := by
  refine st_val (fun _ G w ec _ he => ?_) hR
  have h1 := he x (by simp [Op.operands]) _ hx
  simp only [rep] at h1
  obtain ⟨b, o, h2, h3⟩ := h1
  obtain ⟨_, u, h4, _, h5⟩ := froC_get h3 hr
  rw [Nat.add_zero] at h4
  exact ⟨u, by simp [execOp, h2, run_load1 ht.eq h4], rep_fro _ _ h5⟩
theorem st_loadFN {T : TypeId} {x : Operand} {sz : Nat} {row : List AV} [ht : Typ P T sz true] (hx : ev x = some (.fp row)) (hr : Nat.ble sz row.length = true) (hR : R (.agg (row.take sz)) h) : AStep P ⟨d, .load T x, ty, pos, af, gd⟩ ev h R := by
  refine st_val (fun _ G w ec _ he => ?_) hR
  have h1 := he x (by simp [Op.operands]) _ hx
  simp only [rep] at h1
  obtain ⟨b, o, h2, h3⟩ := h1
  obtain ⟨us, h4, _, h5⟩ := froC_cells h3
  have hlen : (us.take sz).length = sz := by
    have := Nat.le_of_ble_eq_true hr
    rw [List.length_take, froL_length h4]
    omega
  have hrng : w.rangeAt b o (us.take sz) := fun j v hv => h5 j v (by
    rw [List.getElem?_take] at hv
    split at hv
    · exact hv
    · cases hv)
  refine ⟨.agg (us.take sz).toArray, by simp only [execOp, h2, Sem.run_bind, run_loadN (by rw [hlen]; exact ht.eq) hrng, Result.andThen_ok, Sem.run_pure], ?_⟩
  simp only [rep]
  exact ⟨_, rfl, repL_fro _ _ (froL_take h4 sz)⟩
theorem st_loadFW {T : TypeId} {x : Operand} {sz : Nat} {row : List AV} [ht : Typ P T sz true] (hx : ev x = some (.fp row)) (hr : Nat.beq row.length sz = true) (hR : R (.agg row) h) : AStep P ⟨d, .load T x, ty, pos, af, gd⟩ ev h R := by
  have hr' : row.length = sz := Nat.eq_of_beq_eq_true hr
  refine st_loadFN (row := row) hx (by rw [hr']; simp) ?_
  rw [← hr', List.take_length]
  exact hR
theorem HRel.boxAt {E : Env} {G : Gh} {w : World} (hr : HRel E G h w) {i b : Nat} {row : List AV} (hb : G.bx[i]? = some b) (hrow : h.bx[i]? = some row) : BoxAt G w b row := hr.box i b row hb hrow
theorem repL_take {G : Gh} {w : World} : ∀ {xs : List AV} {us : List Value}, repL G w xs us → ∀ n, repL G w (xs.take n) (us.take n)
  | [], _, hf, n => by simp only [repL] at hf; subst hf; simp [repL]
  | x :: xs, _, hf, n => by
    simp only [repL] at hf
    obtain ⟨z, zs, rfl, h1, h2⟩ := hf
    cases n with
    | zero => simp [repL]
    | succ n => simp only [List.take_succ_cons, repL]; exact ⟨_, _, rfl, h1, repL_take h2 n⟩
theorem repL_drop {G : Gh} {w : World} : ∀ {xs : List AV} {us : List Value}, repL G w xs us → ∀ n, repL G w (xs.drop n) (us.drop n)
  | [], _, hf, n => by simp only [repL] at hf; subst hf; simp [repL]
  | x :: xs, _, hf, n => by
    cases n with
    | zero => simpa using hf
    | succ n =>
      simp only [repL] at hf
      obtain ⟨z, zs, rfl, h1, h2⟩ := hf
      simp only [List.drop_succ_cons]
      exact repL_drop h2 n
theorem box_range {w : World} {b : Nat} {us : List Value} {T : TypeId} (hb : w.heap[b]? = some (.cells us.toArray T (0, 0))) (off n : Nat) : w.rangeAt b off ((us.drop off).take n) := by
  intro j v hv
  rw [List.getElem?_take] at hv
  split at hv
  · rw [List.getElem?_drop] at hv
    simp only [World.cell?, hb]
    simpa using hv
  · cases hv
theorem st_loadB1 {T : TypeId} {x : Operand} {sz i o : Nat} {row : List AV} {av : AV} [ht : Typ P T sz false] (hx : ev x = some (.bp i o)) (hb : h.bx[i]? = some row) (hr : row[o]? = some av) (hR : R av h) : AStep P ⟨d, .load T x, ty, pos, af, gd⟩ ev h R := by
  refine st_val (fun _ G w ec hrel he => ?_) hR
  have h1 := he x (by simp [Op.operands]) _ hx
  simp only [rep] at h1
  obtain ⟨b, h2, h3⟩ := h1
  obtain ⟨us, T', k1, k2, k3⟩ := hrel.boxAt h2 hb
  obtain ⟨u, k4, k5⟩ := repL_get k2 hr
  have hc : w.cell? ⟨b, o, none⟩ = some u := by simp only [World.cell?, k1]; simpa using k4
  exact ⟨u, by simp [execOp, h3, run_load1 ht.eq hc], k5⟩
theorem st_loadBN {T : TypeId} {x : Operand} {sz i o : Nat} {row : List AV} [ht : Typ P T sz true] (hx : ev x = some (.bp i o)) (hb : h.bx[i]? = some row) (hr : Nat.ble (o + sz) row.length = true) (hR : R (.agg ((row.drop o).take sz)) h) : AStep P ⟨d, .load T x, ty, pos, af, gd⟩ ev h R := by
  refine st_val (fun _ G w ec hrel he => ?_) hR
  have h1 := he x (by simp [Op.operands]) _ hx
  simp only [rep] at h1
  obtain ⟨b, h2, h3⟩ := h1
  obtain ⟨us, T', k1, k2, k3⟩ := hrel.boxAt h2 hb
  have hlen : ((us.drop o).take sz).length = sz := by
    have := Nat.le_of_ble_eq_true hr
    rw [List.length_take, List.length_drop, repL_length k2]
    omega
  refine ⟨.agg ((us.drop o).take sz).toArray, by simp only [execOp, h3, Sem.run_bind, run_loadN (by rw [hlen]; exact ht.eq) (box_range k1 o sz), Result.andThen_ok, Sem.run_pure], ?_⟩
  simp only [rep]
  exact ⟨_, rfl, repL_take (repL_drop k2 o) sz⟩
theorem st_loadBW {T : TypeId} {x : Operand} {sz i : Nat} {row : List AV} [ht : Typ P T sz true] (hx : ev x = some (.bp i 0)) (hb : h.bx[i]? = some row) (hr : Nat.beq row.length sz = true) (hR : R (.agg row) h) : AStep P ⟨d, .load T x, ty, pos, af, gd⟩ ev h R := by
  have hr' : row.length = sz := Nat.eq_of_beq_eq_true hr
  refine st_loadBN (row := row) hx hb (by rw [hr']; simp) ?_
  rw [← hr', List.drop_zero, List.take_length]
  exact hR
end
end Go.Proofs.YtokaaebbmcldaaaGreatDoor
