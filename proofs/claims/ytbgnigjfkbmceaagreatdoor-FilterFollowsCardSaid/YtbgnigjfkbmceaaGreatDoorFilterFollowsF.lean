/-
  FilterFollows: the closed facts of its row.
-/
import Derived.Test.YtbgnigjfkbmceaaGreatDoorRows
import Derived.ProofKit
import Derived.JoinedOf
namespace Go.Proofs.YtbgnigjfkbmceaaGreatDoor.FilterFollowsP
theorem closedFacts : joinedFacts Tryz.pinned.checked.prog 9 Tryz.f9 Rows.filterFollowsSpec Rows.filterFollowsRow = true := of_decide_eq_true (by kernel_rfl)
end Go.Proofs.YtbgnigjfkbmceaaGreatDoor.FilterFollowsP
