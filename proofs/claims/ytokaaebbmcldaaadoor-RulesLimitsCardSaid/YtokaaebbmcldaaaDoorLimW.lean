/-
  The walk of RulesLimits, as a statement about calls.
-/
import Derived.Test.YtokaaebbmcldaaaDoorRn
import Derived.Test.YtokaaebbmcldaaaDoorAvP
namespace Go.Proofs.YtokaaebbmcldaaaDoor
open Go.RowKit
theorem RulesLimits_walk (n kind : Int) (w : World) (h1 : 0 ≤ n) (h2 : n ≤ 255) (h3 : 0 ≤ kind) (h4 : kind ≤ 255) : Calls Tryd.prog 6 #[.int .u8 n, .int .u8 kind] w fun e w' => e = .returned (.bool true) ∧ Below w.heap.size w w' :=
  calls_vals [.int .u8 n, .int .u8 kind] (Llimits n kind ⟨h1, by omega⟩ ⟨h3, by omega⟩) w
end Go.Proofs.YtokaaebbmcldaaaDoor
