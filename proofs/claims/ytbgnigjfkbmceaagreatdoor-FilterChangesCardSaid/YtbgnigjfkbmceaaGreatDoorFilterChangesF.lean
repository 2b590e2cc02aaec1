/-
  FilterChanges: the closed facts of its row.
-/
import Derived.Test.YtbgnigjfkbmceaaGreatDoorRows
import Derived.ProofKit
import Derived.JoinedOf
namespace Go.Proofs.YtbgnigjfkbmceaaGreatDoor.FilterChangesP
theorem closedFacts : joinedFacts Tryz.pinned.checked.prog 11 Tryz.f11 Rows.filterChangesSpec Rows.filterChangesRow = true := of_decide_eq_true (by kernel_rfl)
end Go.Proofs.YtbgnigjfkbmceaaGreatDoor.FilterChangesP
