/-
  FilterSound: the closed facts of its row.
-/
import Derived.Test.YtbgnigjfkbmceaaGreatDoorRows
import Derived.ProofKit
import Derived.JoinedOf
namespace Go.Proofs.YtbgnigjfkbmceaaGreatDoor.FilterSoundP
theorem closedFacts : joinedFacts Tryz.pinned.checked.prog 8 Tryz.f8 Rows.filterSoundSpec Rows.filterSoundRow = true := of_decide_eq_true (by kernel_rfl)
end Go.Proofs.YtbgnigjfkbmceaaGreatDoor.FilterSoundP
