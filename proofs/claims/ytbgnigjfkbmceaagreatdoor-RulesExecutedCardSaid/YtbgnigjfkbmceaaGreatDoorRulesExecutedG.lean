/-
  RulesExecuted: by what its row goes.
-/
import Derived.Test.YtbgnigjfkbmceaaGreatDoorRows
import Derived.ProofKit
import Derived.SevenTiedAt
namespace Go.Proofs.YtbgnigjfkbmceaaGreatDoor.RulesExecutedP
theorem goesFacts : false = Rows.rulesExecutedRow.goesBy Tryz.pinned.checked.prog := by kernel_rfl
end Go.Proofs.YtbgnigjfkbmceaaGreatDoor.RulesExecutedP
