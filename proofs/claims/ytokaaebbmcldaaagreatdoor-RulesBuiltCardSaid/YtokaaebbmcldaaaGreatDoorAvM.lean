/-
  More operations: bits, comparisons of structs, arrays; calls that change a box, calls that are handed what a box holds.
-/
import Derived.Test.YtokaaebbmcldaaaGreatDoorAvL
import Derived.Laws.StructEq
namespace Go.Proofs.YtokaaebbmcldaaaGreatDoor
open Go.RowKit

def andI (k : IntKind) (a b : Int) : Int := k.wrap ((BitVec.ofInt k.bits a &&& BitVec.ofInt k.bits b).toNat)
def orI (k : IntKind) (a b : Int) : Int := k.wrap ((BitVec.ofInt k.bits a ||| BitVec.ofInt k.bits b).toNat)
def shrI (k : IntKind) (a y : Int) : Int := a.fdiv (2 ^ min y.toNat k.bits)
def shlI (k : IntKind) (a y : Int) : Int := k.wrap (a * 2 ^ min y.toNat k.bits)
section
variable {P : Program} {ev : Operand → Option AV} {h : AH} {R : AV → AH → Prop} {d : Option Tmp} {ty : TypeId} {pos : String} {af : Array Edge} {gd : Option (Nat × Bool)} {ats : Array TypeId}
theorem st_and {T yT : TypeId} {x y : Operand} {k : IntKind} {a b : Int} (hx : ev x = some (.v (.int k a))) (hy : ev y = some (.v (.int k b))) (hR : R (.v (.int k (andI k a b))) h) : AStep P ⟨d, .binOp .and T x y yT, ty, pos, af, gd⟩ ev h R :=
  st_bin hx hy (fun w => by simp [eqGuard, binOp, Op.intBits, andI]) hR
theorem st_or {T yT : TypeId} {x y : Operand} {k : IntKind} {a b : Int} (hx : ev x = some (.v (.int k a))) (hy : ev y = some (.v (.int k b))) (hR : R (.v (.int k (orI k a b))) h) : AStep P ⟨d, .binOp .or T x y yT, ty, pos, af, gd⟩ ev h R :=
  st_bin hx hy (fun w => by simp [eqGuard, binOp, Op.intBits, orI]) hR
theorem st_shr {T yT : TypeId} {x y : Operand} {k k' : IntKind} {a b : Int} (hx : ev x = some (.v (.int k a))) (hy : ev y = some (.v (.int k' b))) (hb : 0 ≤ b) (hR : R (.v (.int k (shrI k a b))) h) : AStep P ⟨d, .binOp .shr T x y yT, ty, pos, af, gd⟩ ev h R :=
  st_bin hx hy (fun w => by
    have : ¬ b < 0 := by omega
    simp [eqGuard, binOp, Op.shift, shrI, this]) hR
theorem st_shl {T yT : TypeId} {x y : Operand} {k k' : IntKind} {a b : Int} (hx : ev x = some (.v (.int k a))) (hy : ev y = some (.v (.int k' b))) (hb : 0 ≤ b) (hR : R (.v (.int k (shlI k a b))) h) : AStep P ⟨d, .binOp .shl T x y yT, ty, pos, af, gd⟩ ev h R :=
  st_bin hx hy (fun w => by
    have : ¬ b < 0 := by omega
    simp [eqGuard, binOp, Op.shift, shlI, this]) hR
theorem st_conv {S T : TypeId} {x : Operand} {k k' : IntKind} {ds : TypeDesc} {a : Int} (hx : ev x = some (.v (.int k a))) (hS : P.underlying S = some ds) (hT : P.underlying T = some (.int k')) (hR : R (.v (.int k' (k'.wrap a))) h) : AStep P ⟨d, .convert S T x, ty, pos, af, gd⟩ ev h R :=
  st_val (fun _ G w ec _ he => ⟨.int k' (k'.wrap a), by
    have h1 := he x (by simp [Op.operands]) _ hx
    simp only [rep] at h1
    simp [execOp, h1, convert, run_underlying hS, run_underlying hT, Conv.intToInt], by simp only [rep]⟩) hR
theorem st_eqlB {T yT : TypeId} {x y : Operand} {a b : Bool} (hu : P.underlying T = some .bool) (hx : ev x = some (.v (.bool a))) (hy : ev y = some (.v (.bool b))) (hR : R (.v (.bool (a == b))) h) : AStep P ⟨d, .binOp .eql T x y yT, ty, pos, af, gd⟩ ev h R :=
  st_bin hx hy (fun w => by simp [eqGuard, binOp, run_equal_bool w T a b hu]) hR
theorem st_neqB {T yT : TypeId} {x y : Operand} {a b : Bool} (hu : P.underlying T = some .bool) (hx : ev x = some (.v (.bool a))) (hy : ev y = some (.v (.bool b))) (hR : R (.v (.bool (!(a == b)))) h) : AStep P ⟨d, .binOp .neq T x y yT, ty, pos, af, gd⟩ ev h R :=
  st_bin hx hy (fun w => by simp [eqGuard, binOp, run_equal_bool w T a b hu]) hR
/-- Trees that are plain values. -/
inductive AllV : List AV → List Value → Prop
  | nil : AllV [] []
  | cons (u : Value) (xs : List AV) (us : List Value) : AllV xs us → AllV (.v u :: xs) (u :: us)
theorem AllV.eq {xs : List AV} {us : List Value} (ha : AllV xs us) {G : Gh} {w : World} : ∀ {ys : List Value}, repL G w xs ys → ys = us := by
  induction ha with
  | nil => intro ys hy; simpa only [repL] using hy
  | cons u xs us _ ih =>
    intro ys hy
    simp only [repL] at hy
    obtain ⟨z, zs, rfl, h1, h2⟩ := hy
    simp only [rep] at h1
    rw [h1, ih h2]
/-- Two structs are compared, by a law of their type. -/
theorem st_binA {op : BinOp} {T yT : TypeId} {x y : Operand} {xs ys : List AV} {us vs : List Value} {z : Value} (hx : ev x = some (.agg xs)) (hy : ev y = some (.agg ys)) (ha : AllV xs us) (hb : AllV ys vs) (hz : ∀ w, (binOp op T (.agg us.toArray) (.agg vs.toArray)).run P w = .ok z w) (hg : P.eqGuardType P.depth T = false) (hR : R (.v z) h) : AStep P ⟨d, .binOp op T x y yT, ty, pos, af, gd⟩ ev h R :=
  st_val (fun _ G w ec _ he => by
    have h1 := he x (by simp [Op.operands]) _ hx
    have h2 := he y (by simp [Op.operands]) _ hy
    simp only [rep] at h1 h2
    obtain ⟨us', e1, e2⟩ := h1
    obtain ⟨vs', e3, e4⟩ := h2
    have e5 := ha.eq e2
    have e6 := hb.eq e4
    subst e5
    subst e6
    refine ⟨z, ?_, by simp only [rep]⟩
    have hgd : (eqGuard op T x y (.agg us'.toArray) (.agg vs'.toArray)).run P w = .ok () w := by
      unfold eqGuard
      cases op <;> simp [hg]
    simp only [execOp]
    rw [e1, e3]
    simp only [Sem.run_bind, hgd, Result.andThen_ok, hz w, Sem.run_pure]) hR
/-- An element of an array in a box. -/
def arrOf (P : Program) (T : Nat) : Option (Nat × Nat) :=
  match P.underlying T with
  | some (.array n e) => (P.info? e).map fun i => (n, i.size)
  | _ => none
theorem st_indexB {T : TypeId} {x ix : Operand} {j o len sz n : Nat} {k : IntKind} {i : Int} (hT : arrOf P T = some (len, sz)) (hx : ev x = some (.bp j o)) (hi : ev ix = some (.v (.int k i))) (hn : i = (n : Int)) (hlt : Nat.blt n len = true) (hR : R (.bp j (o + n * sz)) h) : AStep P ⟨d, .indexAddr T x ix, ty, pos, af, gd⟩ ev h R := by
  refine st_val (fun _ G w ec _ he => ?_) hR
  have h1 := he x (by simp [Op.operands]) _ hx
  have h2 := he ix (by simp [Op.operands]) _ hi
  simp only [rep] at h1 h2
  obtain ⟨b, h3, h4⟩ := h1
  unfold arrOf at hT
  cases hu : P.underlying T with
  | none => simp [hu] at hT
  | some dsc =>
    cases dsc <;> try (simp [hu] at hT; done)
    case array m e =>
      cases hinf : P.info? e with
      | none => simp [hu, hinf] at hT
      | some inf =>
        simp [hu, hinf] at hT
        obtain ⟨rfl, rfl⟩ := hT
        have hlt' : n < m := Nat.le_of_ble_eq_true hlt
        subst hn
        refine ⟨.pointer (some ⟨b, o + n * inf.size, none⟩), ?_, by simp only [rep]; exact ⟨b, h3, rfl⟩⟩
        simp [execOp, h2, h4, Instr.indexAt, Instr.sureAddr, asIntOf, run_underlying hu, hlt', sizeOf, typeInfo, hinf, Addr.add_mid]
end

/-! Calls that change a box. -/
mutual
def inA (i : Nat) : AV → AV
  | .v x => .v x
  | .agg cs => .agg (inAL i cs)
  | .tup cs => .tup (inAL i cs)
  | .sl sz rows _ => .sl sz rows none
  | .fp row => .fp row
  | .bp j o => match Nat.beq j i with
    | true => .bp 0 o
    | false => .any
  | .fn f caps => .fn f (inAL i caps)
  | .any => .any
def inAL (i : Nat) : List AV → List AV
  | [] => []
  | x :: xs => inA i x :: inAL i xs
end
section
variable {G : Gh} {w : World} {i b : Nat} (hb : G.bx[i]? = some b)
include hb
mutual
theorem rep_inA : ∀ (x : AV) (v : Value), rep G w x v → rep ⟨G.St, [b], []⟩ w (inA i x) v
  | .v _, _, h => by simpa only [rep, inA] using h
  | .agg cs, _, h => by
    simp only [rep, inA] at h ⊢
    obtain ⟨ys, h1, h2⟩ := h
    exact ⟨ys, h1, repL_inA cs ys h2⟩
  | .tup cs, _, h => by
    simp only [rep, inA] at h ⊢
    obtain ⟨ys, h1, h2⟩ := h
    exact ⟨ys, h1, repL_inA cs ys h2⟩
  | .sl sz rows none, _, h => by simpa only [rep, inA] using h
  | .sl sz rows (some g), _, h => by simp only [rep, inA] at h ⊢; exact h.1
  | .fp _, _, h => by simpa only [rep, inA] using h
  | .bp j o, v, h => by
    simp only [rep] at h
    obtain ⟨b', h1, h2⟩ := h
    simp only [inA]
    split
    · rename_i e
      have e' : j = i := Nat.eq_of_beq_eq_true e
      subst e'
      rw [hb] at h1
      injection h1 with h1
      subst h1
      simp only [rep]
      exact ⟨b, rfl, h2⟩
    · simp only [rep]
  | .fn f caps, _, h => by
    simp only [rep, inA] at h ⊢
    obtain ⟨ys, h1, h2⟩ := h
    exact ⟨ys, h1, repL_inA caps ys h2⟩
  | .any, _, _ => by simp only [rep, inA]
theorem repL_inA : ∀ (xs : List AV) (vs : List Value), repL G w xs vs → repL ⟨G.St, [b], []⟩ w (inAL i xs) vs
  | [], _, h => by have _ := hb; simpa only [repL, inAL] using h
  | x :: xs, _, h => by
    simp only [repL, inAL] at h ⊢
    obtain ⟨z, zs, h1, h2, h3⟩ := h
    exact ⟨z, zs, h1, rep_inA x z h2, repL_inA xs zs h3⟩
end
end
inductive ArgsB (i : Nat) (ev : Operand → Option AV) : List Operand → List AV → Prop
  | nil : ArgsB i ev [] []
  | cons (o : Operand) (x y : AV) (l : List Operand) (ys : List AV) : ev o = some x → inA i x = y → ArgsB i ev l ys → ArgsB i ev (o :: l) (y :: ys)
theorem ArgsB.rep {i b : Nat} {ev : Operand → Option AV} {l : List Operand} {ys : List AV} (h : ArgsB i ev l ys) {G : Gh} {w : World} {ec : Operand → Value} (hb : G.bx[i]? = some b) (he : ∀ x ∈ l, ∀ av, ev x = some av → rep G w av (ec x)) : repL ⟨G.St, [b], []⟩ w ys (l.map ec) := by
  induction h with
  | nil => simp only [List.map_nil, repL]
  | cons o x y l ys h1 h2 _ ih =>
    simp only [List.map_cons, repL]
    subst h2
    exact ⟨_, _, rfl, rep_inA hb _ _ (he o (by simp) _ h1), ih fun x hx => he x (by simp [hx])⟩
theorem callB_start {E : Env} {G : Gh} {h : AH} {w : World} (hr : HRel E G h w) {i b : Nat} {row : List AV} (hb : G.bx[i]? = some b) (hrow : h.bx[i]? = some row) (hcl : bpLtL 0 0 row = true) : HRel ⟨w, [b], G.St⟩ ⟨G.St, [b], []⟩ ⟨[row], []⟩ w := by
  have hm := List.mem_of_getElem? hb
  refine ⟨fun _ _ h => h, ⟨rfl, rfl, rfl, Nat.le_refl _, fun _ _ _ => rfl⟩, hr.stlt, fun _ _ h => .inl h, rfl, by simp, fun b' hb' => by simp at hb'; subst hb'; exact hr.bxst _ hm, fun b' hb' => .inr hb', ?_, rfl, by simp, by simp, by simp⟩
  intro j b' row' hj hrow'
  cases j with
  | succ j => simp at hj
  | zero =>
    simp at hj hrow'
    subst hj
    subst hrow'
    obtain ⟨us, T, h1, h2, h3⟩ := hr.box i b row hb hrow
    refine ⟨us, T, h1, ?_, h3⟩
    have := repL_trunc 0 0 _ _ hcl h2
    refine repL_mono (ext_clean G.St [b] [] w) _ _ ?_
    simpa using this
theorem callB_merge {E : Env} {G : Gh} {h : AH} {w w' : World} (hr : HRel E G h w) {i b : Nat} {row' : List AV} {Gc : Gh} (hb : G.bx[i]? = some b) (hc : HRel ⟨w, [b], G.St⟩ Gc ⟨[row'], []⟩ w') (he : Ext ⟨G.St, [b], []⟩ w Gc w') (hcl : bpLtL 0 0 row' = true) :
    HRel E ⟨Gc.St, G.bx, G.tk⟩ ⟨h.bx.set i row', h.tk⟩ w' ∧ Ext G w ⟨Gc.St, G.bx, G.tk⟩ w' := by
  have hm := List.mem_of_getElem? hb
  have hblk : ∀ k, k < w.heap.size → k ≠ b → w'.heap[k]? = w.heap[k]? := fun k hk hne => hc.kept.block k hk (by simpa using hne)
  have hsz : w.heap.size ≤ w'.heap.size := hc.kept.size
  have hext : Ext G w ⟨Gc.St, G.bx, G.tk⟩ w' := ⟨fun b o hs => he.st b o hs, fun _ _ h => h, fun g n u hg => ⟨n, u, hg, Nat.le_refl _, fun _ => rfl⟩⟩
  have hstc : ∀ b o, Gc.St b o → b < w.heap.size → G.St b o := fun b o hs hb => (hc.stnew b o hs).resolve_right (by simp only; omega)
  have hcb : Gc.bx = [b] := by
    have h1 := hc.inpre 0 b rfl
    have h2 := hc.bxlen
    match hg : Gc.bx, h2 with
    | [c], _ => rw [hg] at h1; simp at h1; rw [h1]
  refine ⟨⟨hr.inpre, ?_, hc.stlt, ?_, by simp [hr.bxlen], hr.bxnd, ?_, hr.bxown, ?_, hr.tklen, ?_, hr.tkbx, hr.tknd⟩, hext⟩
  · have k := hr.kept
    have k' := hc.kept
    refine ⟨k'.os.trans k.os, k'.tape.trans k.tape, k'.output.trans k.output, Nat.le_trans k.size hsz, fun j hj hn => (hblk j (Nat.lt_of_lt_of_le hj k.size) (fun e => ?_)).trans (k.block j hj hn)⟩
    subst e
    rcases hr.bxown j hm with e | e
    · omega
    · exact hn e
  · intro b' o hs
    rcases hc.stnew b' o hs with h1 | h1
    · exact hr.stnew b' o h1
    · exact .inr (Nat.le_trans hr.kept.size h1)
  · intro b' hb' o hs
    exact hr.bxst b' hb' o (hstc b' o hs (hr.boxlt hb'))
  · intro j b' row hj hrow
    have hmj := List.mem_of_getElem? hj
    by_cases hji : j = i
    · subst hji
      rw [hb] at hj
      injection hj with hj
      subst hj
      have hlt : j < h.bx.length := by rw [← hr.bxlen]; exact (List.getElem?_eq_some_iff.1 hb).1
      simp only at hrow
      rw [List.getElem?_set_self hlt] at hrow
      injection hrow with hrow
      subst hrow
      obtain ⟨us, T, h1, h2, h3⟩ := hc.box 0 b row' (by rw [hcb]; rfl) rfl
      refine ⟨us, T, h1, ?_, h3⟩
      have := repL_trunc 0 0 _ _ hcl h2
      refine repL_mono (ext_clean Gc.St G.bx G.tk w') _ _ ?_
      simpa using this
    · simp only at hrow
      rw [List.getElem?_set_ne (Ne.symm hji)] at hrow
      obtain ⟨us, T, h1, h2, h3⟩ := hr.box j b' row hj hrow
      have hne : b' ≠ b := by
        intro e
        subst e
        obtain ⟨l1, e1⟩ := List.getElem?_eq_some_iff.1 hb
        obtain ⟨l2, e2⟩ := List.getElem?_eq_some_iff.1 hj
        exact hji ((List.getElem_inj hr.bxnd).1 (e2.trans e1.symm))
      exact ⟨us, T, (hblk b' (hr.boxlt hmj) hne).trans h1, repL_mono hext _ _ h2, h3⟩
  · intro g n u T sz rows hg ht
    obtain ⟨k1, ⟨xs, k2⟩, k3⟩ := hr.tok g n u T sz rows hg ht
    refine ⟨k1, ⟨xs, World.ownsRow.kept k2 (w' := w') (row := some b) ⟨hc.kept.os, hc.kept.tape, hc.kept.output, hsz, fun k hk hne => hblk k hk (fun e => hne (by rw [e]))⟩ (.inr fun e => hr.tkbx g n u hg b e hm)⟩, fun b' hb' o ho hs => ?_⟩
    exact k3 b' hb' o ho (hstc b' o hs (hr.toklt hg hb').2)
section
variable {P : Program} {ev : Operand → Option AV} {bx : List (List AV)} {tk : List Tok} {R : AV → AH → Prop} {d : Option Tmp} {ty : TypeId} {pos : String} {af : Array Edge} {gd : Option (Nat × Bool)} {ats : Array TypeId}
/-- A call that changes the box i. -/
theorem s_callB {f : FuncId} {l : List Operand} {ys : List AV} {row : List AV} {R0 : AV → List AV → Prop} (i : Nat) [Fun P f] (hfo : ev (.func f) = some (.fn f [])) (ha : ArgsB i ev l ys) (hrow : bx[i]? = some row) (hcl : bpLtL 0 0 row = true) (hc : AFnB P f ys row R0)
    (hR : ∀ r row', R0 r row' → bpLtL 0 0 row' = true ∧ bpLt 0 0 r = true ∧ ∃ bx', SetAt bx i [row'] bx' ∧ R r ⟨bx', tk⟩) : AStep P ⟨d, .call { callee := .value (.func f), args := l.toArray, argTypes := ats }, ty, pos, af, gd⟩ ev ⟨bx, tk⟩ R := by
  intro E G w ec hr he
  obtain ⟨cs, k1, k2⟩ := func_op (he (.func f) (by simp [Op.operands, Call.operands]) _ hfo)
  simp only [repL] at k2
  subst k2
  have hlt : i < G.bx.length := by rw [hr.bxlen]; exact (List.getElem?_eq_some_iff.1 hrow).1
  have hb : G.bx[i]? = some G.bx[i] := List.getElem?_eq_getElem hlt
  generalize G.bx[i] = b at hb
  refine upon_call k1 ?_
  rw [List.append_nil]
  refine Calls.mono (hc w G.St [b] _ (callB_start hr hb hrow hcl) (ha.rep hb fun x hx av hav => he x (by simp [Op.operands, Call.operands, hx]) av hav)) ?_
  intro e w' h3
  cases e with
  | returned v =>
    obtain ⟨r, bx', tk', Gc, ⟨row', rfl, rfl, hR0⟩, h1, h2, h3⟩ := h3
    obtain ⟨q1, q2, bx2, q3, q4⟩ := hR r row' hR0
    obtain ⟨m1, m2⟩ := callB_merge hr hb h1 h2 q1
    obtain ⟨_, e⟩ := SetAt.one q3
    subst e
    refine ⟨r, _, _, q4, m1, m2, ?_⟩
    have := rep_trunc 0 0 _ _ q2 h3
    refine rep_mono (ext_clean Gc.St G.bx G.tk w') _ _ ?_
    simpa using this
  | panicked c => exact h3.elim
  | outgrown => exact h3.elim
/-- A call that makes a box. -/
theorem s_callN {f : FuncId} {l : List Operand} {ys : List AV} {row : List AV} {n : Nat} {bx' : List (List AV)} [Fun P f] (hfo : ev (.func f) = some (.fn f [])) (ha : Args ev l ys) (hcl : bpLtB 0 0 [row] = true) (hc : ACall P f ys [] (fun r b t => r = .bp 0 0 ∧ b = [row] ∧ t = [])) (hs : SnocAt bx row n bx') (hR : R (.bp n 0) ⟨bx', tk⟩) :
    AStep P ⟨d, .call { callee := .value (.func f), args := l.toArray, argTypes := ats }, ty, pos, af, gd⟩ ev ⟨bx, tk⟩ R := by
  intro E G w ec hr he
  obtain ⟨cs, k1, k2⟩ := func_op (he (.func f) (by simp [Op.operands, Call.operands]) _ hfo)
  simp only [repL] at k2
  subst k2
  refine upon_call k1 ?_
  rw [List.append_nil]
  refine Calls.mono (hc w G.St [] _ (call_start hr) (ha.rep fun x hx av hav => he x (by simp [Op.operands, Call.operands, hx]) av hav)) ?_
  intro e w' h3
  cases e with
  | returned v =>
    obtain ⟨r, bx1, tk1, Gc, ⟨rfl, rfl, rfl⟩, h1, h2, h3⟩ := h3
    obtain ⟨m1, m2⟩ := call_merge hr h1 h2 hcl
    obtain ⟨e1, e2⟩ := hs.eq
    subst e1
    subst e2
    refine ⟨_, _, _, hR, by simpa using m1, m2, ?_⟩
    simp only [rep] at h3 ⊢
    obtain ⟨b, q1, q2⟩ := h3
    refine ⟨b, ?_, q2⟩
    have := hr.bxlen
    simp only at this
    rw [← this, List.getElem?_append_right (Nat.le_refl _), Nat.sub_self]
    exact q1
  | panicked c => exact h3.elim
  | outgrown => exact h3.elim
end
end Go.Proofs.YtokaaebbmcldaaaGreatDoor
