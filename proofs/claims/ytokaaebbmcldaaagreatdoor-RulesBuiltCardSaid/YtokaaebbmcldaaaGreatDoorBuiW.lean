/-
  The walk of RulesBuilt as a statement about calls.
-/
import Derived.Test.YtokaaebbmcldaaaGreatDoorSi
namespace Go.Proofs.YtokaaebbmcldaaaGreatDoor
open Go.RowKit
theorem RulesBuilt_walk {H : Type} {enc : TypeId × Value → H} {sp : Nat → Bool} {held : Bool} {base : Nat} (a : Option Addr) (n c : Nat) (z : Int) (w : World) {d : DataW H} {p : List MemPlace} (h : DataW.Trod enc Tryz.prog w base sp held 22 (.slice a n c) d p) (_ : -9223372036854775808 ≤ z) (_ : z ≤ 9223372036854775807) :
    Calls Tryz.prog 3 #[.slice a n c, .int .i64 z] w fun e w' => e = .returned (.bool true) ∧ Below w.heap.size w w' := walk_intsv [.int .i64 z] (fun l => Lbuilt l z) a n c w h
end Go.Proofs.YtokaaebbmcldaaaGreatDoor
