/-
  FilterSilent: the closed facts of its row.
-/
import Derived.Test.YtbgnigjfkbmceaaGreatDoorRows
import Derived.ProofKit
import Derived.JoinedOf
namespace Go.Proofs.YtbgnigjfkbmceaaGreatDoor.FilterSilentP
theorem closedFacts : joinedFacts Tryz.pinned.checked.prog 6 Tryz.f6 Rows.filterSilentSpec Rows.filterSilentRow = true := of_decide_eq_true (by kernel_rfl)
end Go.Proofs.YtbgnigjfkbmceaaGreatDoor.FilterSilentP
