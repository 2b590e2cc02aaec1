/-
  FilterContexts: by what its row goes.
-/
import Derived.Test.YtbgnigjfkbmceaaGreatDoorRows
import Derived.ProofKit
import Derived.SevenTiedAt
namespace Go.Proofs.YtbgnigjfkbmceaaGreatDoor.FilterContextsP
theorem goesFacts : false = Rows.filterContextsRow.goesBy Tryz.pinned.checked.prog := by kernel_rfl
end Go.Proofs.YtbgnigjfkbmceaaGreatDoor.FilterContextsP
