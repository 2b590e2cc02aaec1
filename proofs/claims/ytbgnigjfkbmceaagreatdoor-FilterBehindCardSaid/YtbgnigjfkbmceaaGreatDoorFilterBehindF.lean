/-
  FilterBehind: the closed facts of its row.
-/
import Derived.Test.YtbgnigjfkbmceaaGreatDoorRows
import Derived.ProofKit
import Derived.JoinedOf
namespace Go.Proofs.YtbgnigjfkbmceaaGreatDoor.FilterBehindP
theorem closedFacts : joinedFacts Tryz.pinned.checked.prog 10 Tryz.f10 Rows.filterBehindSpec Rows.filterBehindRow = true := of_decide_eq_true (by kernel_rfl)
end Go.Proofs.YtbgnigjfkbmceaaGreatDoor.FilterBehindP
