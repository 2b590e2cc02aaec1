/-
  FilterContexts: the closed facts of its row.
-/
import Derived.Test.YtbgnigjfkbmceaaGreatDoorRows
import Derived.ProofKit
import Derived.JoinedOf
namespace Go.Proofs.YtbgnigjfkbmceaaGreatDoor.FilterContextsP
theorem closedFacts : joinedFacts Tryz.pinned.checked.prog 5 Tryz.f5 Rows.filterContextsSpec Rows.filterContextsRow = true := of_decide_eq_true (by kernel_rfl)
end Go.Proofs.YtbgnigjfkbmceaaGreatDoor.FilterContextsP
