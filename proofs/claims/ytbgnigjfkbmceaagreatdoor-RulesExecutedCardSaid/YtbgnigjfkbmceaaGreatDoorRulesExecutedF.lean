/-
  RulesExecuted: the closed facts of its row.
-/
import Derived.Test.YtbgnigjfkbmceaaGreatDoorRows
import Derived.ProofKit
import Derived.JoinedOf
namespace Go.Proofs.YtbgnigjfkbmceaaGreatDoor.RulesExecutedP
theorem closedFacts : joinedFacts Tryz.pinned.checked.prog 3 Tryz.f3 Rows.rulesExecutedSpec Rows.rulesExecutedRow = true := of_decide_eq_true (by kernel_rfl)
end Go.Proofs.YtbgnigjfkbmceaaGreatDoor.RulesExecutedP
