/-
  Short forms of the rules: what is found by a look at the state is left out.
-/
import Derived.Test.YtokaaebbmcldaaaGreatDoorAvP
namespace Go.Proofs.YtokaaebbmcldaaaGreatDoor
open Go.RowKit

/-- What a boolean's value says. -/
class BP (b v : Bool) (p : outParam Prop) : Prop where
  imp : b = v → p
instance (priority := low) bp_any (b v : Bool) : BP b v (b = v) := ⟨fun h => h⟩
instance bp_t (p : Prop) [Decidable p] : BP (decide p) true p := ⟨of_decide_eq_true⟩
instance bp_f (p : Prop) [Decidable p] : BP (decide p) false (¬ p) := ⟨of_decide_eq_false⟩
instance bp_nt (b : Bool) (p : Prop) [h : BP b false p] : BP (!b) true p := ⟨fun e => h.imp (by cases b <;> simp_all)⟩
instance bp_nf (b : Bool) (p : Prop) [h : BP b true p] : BP (!b) false p := ⟨fun e => h.imp (by cases b <;> simp_all)⟩
theorem bp {b v : Bool} {p : Prop} [h : BP b v p] (e : b = v) : p := h.imp e
section
variable {P : Program} {N : Dim} {Q : Exit → AS → Prop} {ops : Array Oper} {rest : List Oper} {l : List (Nat × AV)} {hh : AH} {op : Op} {ty : TypeId} {pos : String} {af : Array Edge}
theorem g_n {d j : Nat} {want t : Bool} (h : AL P N ops Q rest ⟨look ((d, .v undef) :: l), hh⟩) (hd : Nat.blt d N.n = true := by rfl) (hy : yv ops (look l) j = some (some t) := by rfl) (ht : (t == want) = false := by first | rfl | exact beq_tf ‹_› | exact beq_ft ‹_› | simp [*]) : AL P N ops Q (⟨some d, op, ty, pos, af, some (j, want)⟩ :: rest) ⟨look l, hh⟩ := al_gn hd hy ht h
theorem g_y {d j : Nat} {want t : Bool} (h : AStep P ⟨some d, op, ty, pos, af, some (j, want)⟩ (evs (look l)) hh (fun x h' => AL P N ops Q rest ⟨look ((d, x) :: l), h'⟩)) (hd : Nat.blt d N.n = true := by rfl) (hy : yv ops (look l) j = some (some t) := by rfl) (ht : (t == want) = true := by first | rfl | exact beq_tt ‹_› | exact beq_ff ‹_› | simp [*]) : AL P N ops Q (⟨some d, op, ty, pos, af, some (j, want)⟩ :: rest) ⟨look l, hh⟩ := al_gy hd hy ht h
end
section
variable {P : Program} {rs : List ResultVar} {R0 : AV → Prop} {s : AS} {xs : List AV}
theorem e_ret (h : R0 (reT none (tupA xs))) (h1 : ResA P s rs xs := by repeat (first | exact ResA.nil | (apply ResA.tmp; (focus exact rfl)) | (apply ResA.cellN; (focus exact inferInstance); (focus exact rfl); (focus exact rfl); (focus exact rfl)) | (apply ResA.cell1; (focus exact inferInstance); (focus exact rfl); (focus exact rfl); (focus exact rfl)))) (h3 : bpLt 0 1 (reT none (tupA xs)) = true := by rfl) : ABody P rs 0 (fun r bx' tk' => bx' = [] ∧ tk' = [] ∧ R0 r) .ret s := abody_ret none h1 rfl h3 rfl (LeA.refl _) ⟨rfl, rfl, h⟩
theorem e_end (h : R0 (reT none (tupA xs))) (h1 : ResA P s rs xs := by repeat (first | exact ResA.nil | (apply ResA.tmp; (focus exact rfl)) | (apply ResA.cellN; (focus exact inferInstance); (focus exact rfl); (focus exact rfl); (focus exact rfl)) | (apply ResA.cell1; (focus exact inferInstance); (focus exact rfl); (focus exact rfl); (focus exact rfl)))) (h3 : bpLt 0 1 (reT none (tupA xs)) = true := by rfl) : ABody P rs 0 (fun r bx' tk' => bx' = [] ∧ tk' = [] ∧ R0 r) .normal s := abody_end none h1 rfl h3 rfl (LeA.refl _) ⟨rfl, rfl, h⟩
end
section
variable {P : Program} {ev : Operand → Option AV} {h : AH} {R : AV → AH → Prop} {d : Option Tmp} {ty : TypeId} {pos : String} {af : Array Edge} {gd : Option (Nat × Bool)} {ats : Array TypeId}
theorem p_t {c a b : Operand} {t : Bool} {av : AV} (hR : R av h) (hc : ev c = some (.v (.bool t)) := by rfl) (ht : t = true := by first | rfl | assumption | simp [*]) (hx : ev a = some av := by rfl) : AStep P ⟨d, .pick c a b, ty, pos, af, gd⟩ ev h R := st_pick_t hc ht hx hR
theorem p_f {c a b : Operand} {t : Bool} {av : AV} (hR : R av h) (hc : ev c = some (.v (.bool t)) := by rfl) (ht : t = false := by first | rfl | assumption | simp [*]) (hx : ev b = some av := by rfl) : AStep P ⟨d, .pick c a b, ty, pos, af, gd⟩ ev h R := st_pick_f hc ht hx hR
theorem q_call {f : FuncId} {l : List Operand} {ys : List AV} {R0 : AV → Prop} [Fun P f] (hc : AFn P f ys R0) (hR : ∀ r, R0 r → R r h) (hfo : ev (.func f) = some (.fn f []) := by rfl) (ha : Args ev l ys := by repeat (first | exact Args.nil | refine Args.cons _ _ _ _ _ rfl (argOk_clean rfl) ?_ | refine Args.cons _ _ _ _ _ rfl (argOk_nil _) ?_ | refine Args.cons _ _ _ _ _ rfl (argOk_era _) ?_ | refine Args.cons _ _ _ _ _ rfl (argOk_le rfl (by repeat (first | exact LeA.refl _ | exact LeA.nil _ | exact LeL.refl _ | refine LeA.agg ?_ | refine LeA.tup ?_ | exact LeL.nil | refine LeL.cons ?_ ?_ | exact LeA.any _))) ?_)) : AStep P ⟨d, .call { callee := .value (.func f), args := l.toArray, argTypes := ats }, ty, pos, af, gd⟩ ev h R := st_call hfo ha hc hR
end
theorem wk {f : Nat → Option AV} {bx : List (List AV)} {tk : List (Nat × Nat × List (List AV))} {l : List (Nat × AV)} {N : Dim} (n m : Nat) {bx' : List (List AV)} {tk' : List (Nat × Nat × List (List AV))} (hn : Nat.ble N.ni n = true := by rfl) (hb : bx.take n = bx' := by rfl) (ht : tk.take m = tk' := by rfl) (hbp : bpLtB n m bx' = true := by rfl) (hl : Sub n m f l := by repeat (first | exact Sub.nil | refine Sub.cons _ _ _ rfl rfl ?_ | refine Sub.any _ _ ?_ | refine Sub.sl _ _ _ _ _ rfl ?_ | refine Sub.slnil _ _ _ rfl ?_)) : Weak N ⟨f, ⟨bx, tk⟩⟩ ⟨look l, ⟨bx', tk'⟩⟩ := weak_of n m hn hb ht hbp hl
section
variable {P : Program} {N : Dim} {l : List Oper} {Q : Exit → AS → Prop} {S : AH → Prop} {tl fuel : Nat} {listed : Array Bool} {m : List (Nat × AV)} {h : AH} {op : Op} {ty : TypeId} {pos : String} {af : Array Edge} {gd : Option (Nat × Bool)}
theorem r_y {i d : Nat} {x : AV} (hi : l[i]? = some ⟨some d, op, ty, pos, af, gd⟩) (hst : AStep P ⟨some d, op, ty, pos, af, gd⟩ (evs (look m)) h (fun x' h' => x' = x ∧ h' = h)) (H : AAny P N l.toArray Q (fun h' => h' = h) tl fuel (listed.setIfInBounds i true) ⟨look ((d, x) :: m), h⟩)
    (hd : Nat.blt d N.n = true := by rfl) (htl : (tailOk l.toArray tl && !Nat.beq i tl && Region.free .any l.toArray listed i && (Region.ready .any l.toArray listed).contains i) = true := by kernel_rfl)
    (hw : wantedA l.toArray (look m) ⟨some d, op, ty, pos, af, gd⟩ = some true := by first | rfl | exact wan_y rfl rfl (beq_tt ‹_›) | exact wan_y rfl rfl (beq_ff ‹_›) | exact wan_y rfl rfl (by simp [*])) : AAny P N l.toArray Q (fun h' => h' = h) tl (fuel + 1) listed ⟨look m, h⟩ := aa_r hi hd htl hw hst H
theorem r_n {i d : Nat} (hi : l[i]? = some ⟨some d, op, ty, pos, af, gd⟩) (hS : S h) (H : AAny P N l.toArray Q S tl fuel (listed.setIfInBounds i true) ⟨look ((d, .v undef) :: m), h⟩)
    (hd : Nat.blt d N.n = true := by rfl) (htl : (tailOk l.toArray tl && !Nat.beq i tl && Region.free .any l.toArray listed i && (Region.ready .any l.toArray listed).contains i) = true := by kernel_rfl)
    (hw : wantedA l.toArray (look m) ⟨some d, op, ty, pos, af, gd⟩ = some false := by first | rfl | exact wan_n rfl rfl (beq_tf ‹_›) | exact wan_n rfl rfl (beq_ft ‹_›) | exact wan_u rfl rfl | exact wan_n rfl rfl (by simp [*])) : AAny P N l.toArray Q S tl (fuel + 1) listed ⟨look m, h⟩ := aa_n hi hd htl hw hS H
end
end Go.Proofs.YtokaaebbmcldaaaGreatDoor
