/-
  FilterChanges: by what its row goes.
-/
import Derived.Test.YtbgnigjfkbmceaaGreatDoorRows
import Derived.ProofKit
import Derived.SevenTiedAt
namespace Go.Proofs.YtbgnigjfkbmceaaGreatDoor.FilterChangesP
theorem goesFacts : false = Rows.filterChangesRow.goesBy Tryz.pinned.checked.prog := by kernel_rfl
end Go.Proofs.YtbgnigjfkbmceaaGreatDoor.FilterChangesP
