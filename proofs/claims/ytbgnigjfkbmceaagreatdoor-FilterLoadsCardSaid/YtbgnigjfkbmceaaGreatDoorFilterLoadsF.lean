/-
  FilterLoads: the closed facts of its row.
-/
import Derived.Test.YtbgnigjfkbmceaaGreatDoorRows
import Derived.ProofKit
import Derived.JoinedOf
namespace Go.Proofs.YtbgnigjfkbmceaaGreatDoor.FilterLoadsP
theorem closedFacts : joinedFacts Tryz.pinned.checked.prog 7 Tryz.f7 Rows.filterLoadsSpec Rows.filterLoadsRow = true := of_decide_eq_true (by kernel_rfl)
end Go.Proofs.YtbgnigjfkbmceaaGreatDoor.FilterLoadsP
