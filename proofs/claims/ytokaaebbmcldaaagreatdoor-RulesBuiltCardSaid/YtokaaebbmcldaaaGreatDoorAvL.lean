/-
  The walk by trees, in the form in which it is used.
-/
import Derived.Test.YtokaaebbmcldaaaGreatDoorAvK
namespace Go.Proofs.YtokaaebbmcldaaaGreatDoor
open Go.RowKit

section
variable {P : Program} {N : Dim} {Q : Exit → AS → Prop} {s : AS} {K : AS → Prop} {l : List (Nat × AV)} {hh : AH} {ops : Array Oper} {rest : List Oper} {op : Op} {ty : TypeId} {pos : String} {af : Array Edge}
theorem aw_cy {c : Operand} {x y : Code} {t : Bool} (hc : evs s.sl c = some (.v (.bool t))) (ht : t = true) (h : AWp P N x Q s) : AWp P N (.cond c x y) Q s := aw_cond hc (fun _ => h) (fun e => by rw [ht] at e; cases e)
theorem aw_cn {c : Operand} {x y : Code} {t : Bool} (hc : evs s.sl c = some (.v (.bool t))) (ht : t = false) (h : AWp P N y Q s) : AWp P N (.cond c x y) Q s := aw_cond hc (fun e => by rw [ht] at e; cases e) (fun _ => h)
theorem x_then (h : K s) : AThen K Q .normal s := h
theorem x_thenR (h : Q .ret s) : AThen K Q .ret s := h
theorem x_thenE {i : Nat} (h : Q (.exit i) s) : AThen K Q (.exit i) s := h
theorem x_thenG {i : Nat} (h : Q (.goto i) s) : AThen K Q (.goto i) s := h
theorem x_blockN {id : Nat} (h : Q .normal s) : ABlock id Q .normal s := h
theorem x_blockR {id : Nat} (h : Q .ret s) : ABlock id Q .ret s := h
theorem x_blockG {id i : Nat} (h : Q (.goto i) s) : ABlock id Q (.goto i) s := h
theorem al_p {d : Nat} (hd : Nat.blt d N.n = true) (h : AStep P ⟨some d, op, ty, pos, af, none⟩ (evs (look l)) hh (fun x h' => AL P N ops Q rest ⟨look ((d, x) :: l), h'⟩)) : AL P N ops Q (⟨some d, op, ty, pos, af, none⟩ :: rest) ⟨look l, hh⟩ := al_plain (s := ⟨look l, hh⟩) rfl hd h
theorem al_p0 (h : AStep P ⟨none, op, ty, pos, af, none⟩ (evs (look l)) hh (fun _ h' => AL P N ops Q rest ⟨look l, h'⟩)) : AL P N ops Q (⟨none, op, ty, pos, af, none⟩ :: rest) ⟨look l, hh⟩ := al_plain (s := ⟨look l, hh⟩) rfl rfl h
/-- A guarded operation: not wanted. -/
theorem al_gn {d j : Nat} {want t : Bool} (hd : Nat.blt d N.n = true) (hy : yv ops (look l) j = some (some t)) (ht : (t == want) = false) (h : AL P N ops Q rest ⟨look ((d, .v undef) :: l), hh⟩) : AL P N ops Q (⟨some d, op, ty, pos, af, some (j, want)⟩ :: rest) ⟨look l, hh⟩ :=
  al_no (s := ⟨look l, hh⟩) (by simp only [wantedA, hy, ht]) hd h
theorem al_gu {d j : Nat} {want : Bool} (hd : Nat.blt d N.n = true) (hy : yv ops (look l) j = some none) (h : AL P N ops Q rest ⟨look ((d, .v undef) :: l), hh⟩) : AL P N ops Q (⟨some d, op, ty, pos, af, some (j, want)⟩ :: rest) ⟨look l, hh⟩ :=
  al_no (s := ⟨look l, hh⟩) (by simp only [wantedA, hy]) hd h
/-- Wanted. -/
theorem al_gy {d j : Nat} {want t : Bool} (hd : Nat.blt d N.n = true) (hy : yv ops (look l) j = some (some t)) (ht : (t == want) = true) (h : AStep P ⟨some d, op, ty, pos, af, some (j, want)⟩ (evs (look l)) hh (fun x h' => AL P N ops Q rest ⟨look ((d, x) :: l), h'⟩)) : AL P N ops Q (⟨some d, op, ty, pos, af, some (j, want)⟩ :: rest) ⟨look l, hh⟩ :=
  al_yes (s := ⟨look l, hh⟩) (by simp only [wantedA, hy, ht]) hd h
/-- Both ways. -/
theorem al_gs {o : Oper} {j : Nat} {t : Bool} (want : Bool) (_hg : o.guard = some (j, want)) (_hy : yv ops (look l) j = some (some t)) (h1 : t = true → AL P N ops Q (o :: rest) ⟨look l, hh⟩) (h2 : t = false → AL P N ops Q (o :: rest) ⟨look l, hh⟩) : AL P N ops Q (o :: rest) ⟨look l, hh⟩ := by
  cases t with
  | true => exact h1 rfl
  | false => exact h2 rfl
theorem al_ps {c : Operand} {t : Bool} (_hc : evs (look l) c = some (.v (.bool t))) (h1 : t = true → AL P N ops Q rest ⟨look l, hh⟩) (h2 : t = false → AL P N ops Q rest ⟨look l, hh⟩) : AL P N ops Q rest ⟨look l, hh⟩ := by
  cases t with
  | true => exact h1 rfl
  | false => exact h2 rfl
theorem beq_tt {t : Bool} (h : t = true) : (t == true) = true := by rw [h]; rfl
theorem beq_ff {t : Bool} (h : t = false) : (t == false) = true := by rw [h]; rfl
theorem beq_tf {t : Bool} (h : t = true) : (t == false) = false := by rw [h]; rfl
theorem beq_ft {t : Bool} (h : t = false) : (t == true) = false := by rw [h]; rfl
end
section
variable {P : Program} {ev : Operand → Option AV} {bx : List (List AV)} {tk : List Tok} {R : AV → AH → Prop} {d : Option Tmp} {ty : TypeId} {pos : String} {af : Array Edge} {gd : Option (Nat × Bool)} {ats : Array TypeId}
theorem s_store {T : TypeId} {x y : Operand} {sz i o : Nat} {ag : Bool} {av : AV} {row row' : List AV} {bx' : List (List AV)} [ht : Typ P T sz ag] (hx : ev x = some (.bp i o)) (hy : ev y = some av) (hb : bx[i]? = some row)
    (h1 : onesA (cellsA av) = true) (hl : Nat.beq (cellsA av).length sz = true) (hpos : Nat.blt 0 sz = true) (hs : SetAt row o (cellsA av) row') (hset : SetAt bx i [row'] bx') (hR : R (.v undef) ⟨bx', tk⟩) : AStep P ⟨d, .store T x y, ty, pos, af, gd⟩ ev ⟨bx, tk⟩ R := st_store (h := ⟨bx, tk⟩) hx hy hb h1 hl hpos hs hset hR
theorem s_box {T : TypeId} {x : Operand} {n : Nat} {av : AV} {bx' : List (List AV)} (hx : ev x = some av) (h1 : onesA (cellsA av) = true) (hs : SnocAt bx (cellsA av) n bx') (hR : R (.bp n 0) ⟨bx', tk⟩) : AStep P ⟨d, .box T x, ty, pos, af, gd⟩ ev ⟨bx, tk⟩ R := st_box (h := ⟨bx, tk⟩) hx h1 hs hR
theorem s_boxA {T : TypeId} {x : Operand} {n : Nat} {cs : List AV} {bx' : List (List AV)} (hx : ev x = some (.agg cs)) (h1 : onesA cs = true) (hs : SnocAt bx cs n bx') (hR : R (.bp n 0) ⟨bx', tk⟩) : AStep P ⟨d, .box T x, ty, pos, af, gd⟩ ev ⟨bx, tk⟩ R := st_box (h := ⟨bx, tk⟩) hx h1 hs hR
theorem s_alloc {T : TypeId} {n : Nat} {row : List AV} {bx' : List (List AV)} [hz : Zer P T row] (hs : SnocAt bx row n bx') (hR : R (.bp n 0) ⟨bx', tk⟩) : AStep P ⟨d, .alloc T, ty, pos, af, gd⟩ ev ⟨bx, tk⟩ R := st_alloc (h := ⟨bx, tk⟩) hs hR
theorem s_append {T : TypeId} {s y : Operand} {T' sz bytes g : Nat} {rows new : List (List AV)} {tok : Option Nat} {tk' : List Tok} [hE : Elm P T T' sz bytes] (hs : ev s = some (.sl sz rows (some g))) (hy : ev y = some (.sl sz new tok)) (hg : tk[g]? = some (T', sz, rows))
    (hsm : rows.length + new.length ≤ 1000000) (hset : SetAt tk g [(T', sz, rows ++ new)] tk') (hR : R (.sl sz (rows ++ new) (some g)) ⟨bx, tk'⟩) : AStep P ⟨d, .call { callee := .builtin .append, args := #[s, y], argTypes := #[T, T] }, ty, pos, af, gd⟩ ev ⟨bx, tk⟩ R := st_append (h := ⟨bx, tk⟩) hs hy hg hsm hset hR
theorem s_append0 {T : TypeId} {s y : Operand} {T' sz bytes n : Nat} {new : List (List AV)} {tok : Option Nat} {tk' : List Tok} [hE : Elm P T T' sz bytes] (hs : ev s = some (.v (.slice none 0 0))) (hy : ev y = some (.sl sz new tok))
    (hsm : new.length ≤ 1000000) (hset : SnocAt tk (T', sz, new) n tk') (hR : R (.sl sz new (some n)) ⟨bx, tk'⟩) : AStep P ⟨d, .call { callee := .builtin .append, args := #[s, y], argTypes := #[T, T] }, ty, pos, af, gd⟩ ev ⟨bx, tk⟩ R := st_append0 (h := ⟨bx, tk⟩) hs hy hsm hset hR
theorem s_slitT {T : TypeId} {len E sz bytes n : Nat} {l : List (Nat × Operand)} {rows : List (List AV)} {tk' : List Tok} [hE : Elm P T E sz bytes] (hd : DenseA sz ev 0 l rows) (hl : Nat.beq l.length len = true) (hsm : Nat.ble len 1000 = true) (hpos : Nat.blt 0 len = true) (hsz : Nat.ble sz 100 = true)
    (hset : SnocAt tk (E, sz, rows) n tk') (hR : R (.sl sz rows (some n)) ⟨bx, tk'⟩) : AStep P ⟨d, .buildSlice T len l.toArray, ty, pos, af, gd⟩ ev ⟨bx, tk⟩ R := st_slitT (h := ⟨bx, tk⟩) hd hl hsm hpos hsz hset hR
theorem s_make0 {T : TypeId} {x y : Operand} {E sz bytes n : Nat} {c : Int} {tk' : List Tok} [hE : Elm P T E sz bytes] (hx : ev x = some (.v (.int .i64 0))) (hy : ev y = some (.v (.int .i64 c))) (hc : 0 ≤ c ∧ c ≤ 1000000)
    (hset : SnocAt tk (E, sz, []) n tk') (hR : R (.sl sz [] (some n)) ⟨bx, tk'⟩) : AStep P ⟨d, .makeSlice T x y, ty, pos, af, gd⟩ ev ⟨bx, tk⟩ R := st_make0 (h := ⟨bx, tk⟩) hx hy hc hset hR
theorem s_callT {f : FuncId} {l : List Operand} {ys : List AV} {F : Option Nat → AV} {t : Tok} {n : Nat} {tk' : List Tok} [Fun P f] (hfo : ev (.func f) = some (.fn f [])) (ha : Args ev l ys) (hc : AFnT P f ys F t) (hF : ∀ k, shT k (F (some 0)) = F (some k)) (hs : SnocAt tk t n tk') (hR : R (F (some n)) ⟨bx, tk'⟩) :
    AStep P ⟨d, .call { callee := .value (.func f), args := l.toArray, argTypes := ats }, ty, pos, af, gd⟩ ev ⟨bx, tk⟩ R := st_callT (h := ⟨bx, tk⟩) hfo ha hc hF hs hR
end
theorem enter {P : Program} {f : FuncId} {fn : Func} {c : Code} {rs : List ResultVar} {xs : List AV} {bx : List (List AV)} {R : AV → List (List AV) → List Tok → Prop} {nn ni : Nat} (hf : P.funcs[f]? = some fn) (hb : fn.body = some c) (hfr : fn.results = rs.toArray) (hN : fn.ntmps = nn) (hle : Nat.ble xs.length nn = true) (hni : bx.length = ni) (n : Nat) (hn : Nat.ble ni n = true)
    (h : AWp P ⟨nn, ni⟩ c (ABody P rs n R) ⟨look (idxL 0 xs), ⟨bx, []⟩⟩) : ACall P f xs bx R := acall_of (N := ⟨nn, ni⟩) hf hb hfr hN hle hni n hn h
end Go.Proofs.YtokaaebbmcldaaaGreatDoor
