/-
  The walks of RulesBack and RulesChange as statements about calls.
-/
import Derived.Test.YtokaaebbmcldaaaDoorSx
import Derived.Test.YtokaaebbmcldaaaDoorGs
namespace Go.Proofs.YtokaaebbmcldaaaDoor
open Go.RowKit
theorem RulesBack_walk {H : Type} {enc : TypeId × Value → H} {sp : Nat → Bool} {held : Bool} {base : Nat} (a : Option Addr) (n c : Nat) (w : World) {d : DataW H} {p : List MemPlace} (h : DataW.Trod enc Tryd.prog w base sp held 45 (.slice a n c) d p) :
    Calls Tryd.prog 7 #[.slice a n c] w fun e w' => e = .returned (.bool true) ∧ Below w.heap.size w w' := walk_ints Lback a n c w h
theorem RulesChange_walk {H : Type} {enc : TypeId × Value → H} {sp : Nat → Bool} {held : Bool} {base : Nat} (a : Option Addr) (n c : Nat) (w : World) {d : DataW H} {p : List MemPlace} (h : DataW.Trod enc Tryd.prog w base sp held 45 (.slice a n c) d p) :
    Calls Tryd.prog 5 #[.slice a n c] w fun e w' => e = .returned (.bool true) ∧ Below w.heap.size w w' := walk_ints Lchange a n c w h
end Go.Proofs.YtokaaebbmcldaaaDoor
