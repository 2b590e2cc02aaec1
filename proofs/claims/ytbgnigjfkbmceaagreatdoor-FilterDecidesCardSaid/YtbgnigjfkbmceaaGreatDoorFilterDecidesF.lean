/-
  FilterDecides: the closed facts of its row.
-/
import Derived.Test.YtbgnigjfkbmceaaGreatDoorRows
import Derived.ProofKit
import Derived.JoinedOf
namespace Go.Proofs.YtbgnigjfkbmceaaGreatDoor.FilterDecidesP
theorem closedFacts : joinedFacts Tryz.pinned.checked.prog 4 Tryz.f4 Rows.filterDecidesSpec Rows.filterDecidesRow = true := of_decide_eq_true (by kernel_rfl)
end Go.Proofs.YtbgnigjfkbmceaaGreatDoor.FilterDecidesP
