/-
  DERIVED. GIVEN WITH THE SEED: THE CARDS: each row of YtbglbmnhgbgelaaGreatDoorRows.lean that lists a variable, with what it lists TIED to the program's text (the seventh form; the later family's looks); each row that meets fmt, with fmt's text TOLD by the authors' own Lean function (tested against real Go, not proved from fmt's source: count such statements apart). THE CARD IS WHAT COUNTS. Prove the row's statement (the work); the ties are given (YtbglbmnhgbgelaaGreatDoorTie.lean); close each card by the builder's one call (the guide's Derived/Test/ToyasCard.lean, 'card_holds'). Laid BY PROGRAM, IN A SANDBOX (cutbox-door.mjs). By AI agents, Wed Nov 11 2026. No macro, syntax, notation, axiom, sorry.
-/
import Derived.Test.YtbglbmnhgbgelaaGreatDoorRows
import GoSem.ClaimSeven
namespace Go.Proofs.YtbglbmnhgbgelaaGreatDoor
namespace Rows

/-- THE TIED CARD OF 'kauditlaw17.WatchPlaces'. -/
def watchPlacesCard : Claim7 := { stood := { row := watchPlacesRow, standIns := [], harness := (true, "436409aae5da31fb23ca540aa540f98b93a9697bddc94ac1b81ef018dce0a226"), looks := false }, kinds := [], alts := [], laidByText := true, laidKinds := [.data, .pinned], laidTests := true, laidLooks := .later }
def WatchPlacesCardSaid : Prop := Claim7.holds Tryz.pinned (.plain (OpenSpec.ofChange watchPlacesSpec)) watchPlacesCard

/-- THE TIED CARD OF 'kauditlaw17.WatchCurrent'. -/
def watchCurrentCard : Claim7 := { stood := { row := watchCurrentRow, standIns := [], harness := (true, "436409aae5da31fb23ca540aa540f98b93a9697bddc94ac1b81ef018dce0a226"), looks := false }, kinds := [], alts := [], laidByText := true, laidKinds := [.data, .pinned], laidTests := true, laidLooks := .later }
def WatchCurrentCardSaid : Prop := Claim7.holds Tryz.pinned (.plain (OpenSpec.ofChange watchCurrentSpec)) watchCurrentCard

/-- THE TIED CARD OF 'kauditlaw17.WatchHits'. -/
def watchHitsCard : Claim7 := { stood := { row := watchHitsRow, standIns := [], harness := (true, "436409aae5da31fb23ca540aa540f98b93a9697bddc94ac1b81ef018dce0a226"), looks := false }, kinds := [], alts := [], laidByText := true, laidKinds := [.data, .pinned], laidTests := true, laidLooks := .later }
def WatchHitsCardSaid : Prop := Claim7.holds Tryz.pinned (.plain (OpenSpec.ofChange watchHitsSpec)) watchHitsCard

/-- THE TIED CARD OF 'kauditlaw17.WatchChanges'. -/
def watchChangesCard : Claim7 := { stood := { row := watchChangesRow, standIns := [], harness := (true, "436409aae5da31fb23ca540aa540f98b93a9697bddc94ac1b81ef018dce0a226"), looks := false }, kinds := [], alts := [], laidByText := true, laidKinds := [.data, .pinned], laidTests := true, laidLooks := .later }
def WatchChangesCardSaid : Prop := Claim7.holds Tryz.pinned (.plain (OpenSpec.ofChange watchChangesSpec)) watchChangesCard

/-- THE TIED CARD OF 'kauditlaw17.WatchFollows'. -/
def watchFollowsCard : Claim7 := { stood := { row := watchFollowsRow, standIns := [], harness := (true, "436409aae5da31fb23ca540aa540f98b93a9697bddc94ac1b81ef018dce0a226"), looks := false }, kinds := [], alts := [], laidByText := true, laidKinds := [.data, .pinned], laidTests := true, laidLooks := .later }
def WatchFollowsCardSaid : Prop := Claim7.holds Tryz.pinned (.plain (OpenSpec.ofChange watchFollowsSpec)) watchFollowsCard

/-- THE TIED CARD OF 'kauditlaw17.WatchReplaced'. -/
def watchReplacedCard : Claim7 := { stood := { row := watchReplacedRow, standIns := [], harness := (true, "436409aae5da31fb23ca540aa540f98b93a9697bddc94ac1b81ef018dce0a226"), looks := false }, kinds := [], alts := [], laidByText := true, laidKinds := [.data, .pinned], laidTests := true, laidLooks := .later }
def WatchReplacedCardSaid : Prop := Claim7.holds Tryz.pinned (.plain (OpenSpec.ofChange watchReplacedSpec)) watchReplacedCard

/-- THE TIED CARD OF 'kauditlaw17.WatchTrees'. -/
def watchTreesCard : Claim7 := { stood := { row := watchTreesRow, standIns := [], harness := (true, "436409aae5da31fb23ca540aa540f98b93a9697bddc94ac1b81ef018dce0a226"), looks := false }, kinds := [], alts := [], laidByText := true, laidKinds := [.data, .pinned], laidTests := true, laidLooks := .later }
def WatchTreesCardSaid : Prop := Claim7.holds Tryz.pinned (.plain (OpenSpec.ofChange watchTreesSpec)) watchTreesCard

/-- THE TIED CARD OF 'kauditlaw17.WatchNames'. -/
def watchNamesCard : Claim7 := { stood := { row := watchNamesRow, standIns := [], harness := (true, "436409aae5da31fb23ca540aa540f98b93a9697bddc94ac1b81ef018dce0a226"), looks := false }, kinds := [], alts := [], laidByText := true, laidKinds := [.data, .pinned], laidTests := true, laidLooks := .later }
def WatchNamesCardSaid : Prop := Claim7.holds Tryz.pinned (.plain (OpenSpec.ofChange watchNamesSpec)) watchNamesCard

/-- THE SECOND FORM's CARD OF 'kauditlaw17.WatchPlaces'. -/
def watchPlacesUptoCard : Claim7 := { stood := { row := watchPlacesUptoRow, standIns := [], harness := (true, "436409aae5da31fb23ca540aa540f98b93a9697bddc94ac1b81ef018dce0a226"), looks := false }, kinds := [], alts := [], laidByText := true, laidKinds := [.data, .pinned], laidTests := true, laidLooks := .later }
def WatchPlacesUptoCardSaid : Prop := Claim7.holds Tryz.pinned (.plain (OpenSpec.upto watchPlacesSpec)) watchPlacesUptoCard

/-- THE SECOND FORM's CARD OF 'kauditlaw17.WatchCurrent'. -/
def watchCurrentUptoCard : Claim7 := { stood := { row := watchCurrentUptoRow, standIns := [], harness := (true, "436409aae5da31fb23ca540aa540f98b93a9697bddc94ac1b81ef018dce0a226"), looks := false }, kinds := [], alts := [], laidByText := true, laidKinds := [.data, .pinned], laidTests := true, laidLooks := .later }
def WatchCurrentUptoCardSaid : Prop := Claim7.holds Tryz.pinned (.plain (OpenSpec.upto watchCurrentSpec)) watchCurrentUptoCard

/-- THE SECOND FORM's CARD OF 'kauditlaw17.WatchHits'. -/
def watchHitsUptoCard : Claim7 := { stood := { row := watchHitsUptoRow, standIns := [], harness := (true, "436409aae5da31fb23ca540aa540f98b93a9697bddc94ac1b81ef018dce0a226"), looks := false }, kinds := [], alts := [], laidByText := true, laidKinds := [.data, .pinned], laidTests := true, laidLooks := .later }
def WatchHitsUptoCardSaid : Prop := Claim7.holds Tryz.pinned (.plain (OpenSpec.upto watchHitsSpec)) watchHitsUptoCard

/-- THE SECOND FORM's CARD OF 'kauditlaw17.WatchChanges'. -/
def watchChangesUptoCard : Claim7 := { stood := { row := watchChangesUptoRow, standIns := [], harness := (true, "436409aae5da31fb23ca540aa540f98b93a9697bddc94ac1b81ef018dce0a226"), looks := false }, kinds := [], alts := [], laidByText := true, laidKinds := [.data, .pinned], laidTests := true, laidLooks := .later }
def WatchChangesUptoCardSaid : Prop := Claim7.holds Tryz.pinned (.plain (OpenSpec.upto watchChangesSpec)) watchChangesUptoCard

/-- THE SECOND FORM's CARD OF 'kauditlaw17.WatchFollows'. -/
def watchFollowsUptoCard : Claim7 := { stood := { row := watchFollowsUptoRow, standIns := [], harness := (true, "436409aae5da31fb23ca540aa540f98b93a9697bddc94ac1b81ef018dce0a226"), looks := false }, kinds := [], alts := [], laidByText := true, laidKinds := [.data, .pinned], laidTests := true, laidLooks := .later }
def WatchFollowsUptoCardSaid : Prop := Claim7.holds Tryz.pinned (.plain (OpenSpec.upto watchFollowsSpec)) watchFollowsUptoCard

/-- THE SECOND FORM's CARD OF 'kauditlaw17.WatchReplaced'. -/
def watchReplacedUptoCard : Claim7 := { stood := { row := watchReplacedUptoRow, standIns := [], harness := (true, "436409aae5da31fb23ca540aa540f98b93a9697bddc94ac1b81ef018dce0a226"), looks := false }, kinds := [], alts := [], laidByText := true, laidKinds := [.data, .pinned], laidTests := true, laidLooks := .later }
def WatchReplacedUptoCardSaid : Prop := Claim7.holds Tryz.pinned (.plain (OpenSpec.upto watchReplacedSpec)) watchReplacedUptoCard

/-- THE SECOND FORM's CARD OF 'kauditlaw17.WatchTrees'. -/
def watchTreesUptoCard : Claim7 := { stood := { row := watchTreesUptoRow, standIns := [], harness := (true, "436409aae5da31fb23ca540aa540f98b93a9697bddc94ac1b81ef018dce0a226"), looks := false }, kinds := [], alts := [], laidByText := true, laidKinds := [.data, .pinned], laidTests := true, laidLooks := .later }
def WatchTreesUptoCardSaid : Prop := Claim7.holds Tryz.pinned (.plain (OpenSpec.upto watchTreesSpec)) watchTreesUptoCard

/-- THE SECOND FORM's CARD OF 'kauditlaw17.WatchNames'. -/
def watchNamesUptoCard : Claim7 := { stood := { row := watchNamesUptoRow, standIns := [], harness := (true, "436409aae5da31fb23ca540aa540f98b93a9697bddc94ac1b81ef018dce0a226"), looks := false }, kinds := [], alts := [], laidByText := true, laidKinds := [.data, .pinned], laidTests := true, laidLooks := .later }
def WatchNamesUptoCardSaid : Prop := Claim7.holds Tryz.pinned (.plain (OpenSpec.upto watchNamesSpec)) watchNamesUptoCard
end Rows
end Go.Proofs.YtbglbmnhgbgelaaGreatDoor
