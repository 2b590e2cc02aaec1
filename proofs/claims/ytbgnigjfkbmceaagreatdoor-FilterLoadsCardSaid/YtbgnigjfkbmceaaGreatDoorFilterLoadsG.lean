/-
  FilterLoads: by what its row goes.
-/
import Derived.Test.YtbgnigjfkbmceaaGreatDoorRows
import Derived.ProofKit
import Derived.SevenTiedAt
namespace Go.Proofs.YtbgnigjfkbmceaaGreatDoor.FilterLoadsP
theorem goesFacts : false = Rows.filterLoadsRow.goesBy Tryz.pinned.checked.prog := by kernel_rfl
end Go.Proofs.YtbgnigjfkbmceaaGreatDoor.FilterLoadsP
