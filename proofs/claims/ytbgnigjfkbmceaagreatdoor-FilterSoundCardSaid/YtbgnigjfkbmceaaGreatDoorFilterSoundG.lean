/-
  FilterSound: by what its row goes.
-/
import Derived.Test.YtbgnigjfkbmceaaGreatDoorRows
import Derived.ProofKit
import Derived.SevenTiedAt
namespace Go.Proofs.YtbgnigjfkbmceaaGreatDoor.FilterSoundP
theorem goesFacts : false = Rows.filterSoundRow.goesBy Tryz.pinned.checked.prog := by kernel_rfl
end Go.Proofs.YtbgnigjfkbmceaaGreatDoor.FilterSoundP
