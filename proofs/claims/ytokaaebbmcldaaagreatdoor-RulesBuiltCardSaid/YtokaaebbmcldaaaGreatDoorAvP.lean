/-
  From the contract by trees to the statement about calls.
-/
import Derived.Test.YtokaaebbmcldaaaGreatDoorAvO
namespace Go.Proofs.YtokaaebbmcldaaaGreatDoor
open Go.RowKit

theorem hrel_start {w : World} {St : Nat → Nat → Prop} (hst : ∀ b o, St b o → b < w.heap.size) : HRel ⟨w, [], St⟩ ⟨St, [], []⟩ ⟨[], []⟩ w :=
  ⟨fun i b h => by simp at h, ⟨rfl, rfl, rfl, Nat.le_refl _, fun _ _ _ => rfl⟩, hst, fun _ _ h => .inl h, rfl, List.nodup_nil, fun b h => by simp at h, fun b h => by simp at h, fun i b row h => by simp at h, rfl, fun g n u T sz rows h => by simp at h, fun g n u h => by simp at h, fun g g' n n' u u' h => by simp at h⟩
theorem calls_of {P : Program} {f : FuncId} {xs : List AV} {z : Value} (h : AFn P f xs fun r => r = .v z) {w : World} (St : Nat → Nat → Prop) (hst : ∀ b o, St b o → b < w.heap.size) {vs : List Value} (hv : repL ⟨St, [], []⟩ w xs vs) :
    Calls P f vs.toArray w fun e w' => e = .returned z ∧ Below w.heap.size w w' := by
  refine Calls.mono (h w St [] vs (hrel_start hst) hv) ?_
  intro e w' h3
  cases e with
  | returned v =>
    obtain ⟨r, b, t, G', ⟨_, _, rfl⟩, k2, _, k4⟩ := h3
    simp only [rep] at k4
    subst k4
    have k := k2.kept
    exact ⟨rfl, ⟨k.os, k.tape, k.output, k.size, fun i hi => k.block i hi (by simp)⟩⟩
  | panicked c => exact h3.elim
  | outgrown => exact h3.elim
theorem repL_v {G : Gh} {w : World} : ∀ (us : List Value), repL G w (us.map AV.v) us
  | [] => by simp only [List.map_nil, repL]
  | u :: us => by simp only [List.map_cons, repL]; exact ⟨u, us, rfl, by simp only [rep], repL_v us⟩
/-- The same, plain values alone. -/
theorem calls_vals {P : Program} {f : FuncId} (us : List Value) {z : Value} (h : AFn P f (us.map AV.v) fun r => r = .v z) (w : World) : Calls P f us.toArray w fun e w' => e = .returned z ∧ Below w.heap.size w w' :=
  calls_of h (fun _ _ => False) (fun _ _ h => h.elim) (repL_v us)
end Go.Proofs.YtokaaebbmcldaaaGreatDoor
