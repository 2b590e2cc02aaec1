/-
  DERIVED. GIVEN WITH THE SEED: THE CARDS: each row of YtobclmbkdhbnpaaGreatDoorRows.lean that lists a variable, with what it lists TIED to the program's text (the seventh form; the later family's looks); each row that meets fmt, with fmt's text TOLD by the authors' own Lean function (tested against real Go, not proved from fmt's source: count such statements apart). THE CARD IS WHAT COUNTS. Prove the row's statement (the work); the ties are given (YtobclmbkdhbnpaaGreatDoorTie.lean); close each card by the builder's one call (the guide's Derived/Test/ToyasCard.lean, 'card_holds'). Laid BY PROGRAM, IN A SANDBOX (cutbox-door.mjs). By AI agents, Wed Nov 11 2026. No macro, syntax, notation, axiom, sorry.
-/
import Derived.Test.YtobclmbkdhbnpaaGreatDoorRows
import GoSem.ClaimSeven
namespace Go.Proofs.YtobclmbkdhbnpaaGreatDoor
namespace Rows

/-- THE TIED CARD OF 'kauditlaw17.WatchReplaced'. -/
def watchReplacedCard : Claim7 := { stood := { row := watchReplacedRow, standIns := [], harness := (true, "b8a2a8fce2f604dc809921fffe01c584640fa5f8e0fe4afbf27fbbab841b0ff0"), looks := false }, kinds := [], alts := [], laidByText := true, laidKinds := [.data, .pinned], laidTests := true, laidLooks := .later }
def WatchReplacedCardSaid : Prop := Claim7.holds Tryz.pinned (.plain (OpenSpec.ofChange watchReplacedSpec)) watchReplacedCard

/-- THE TIED CARD OF 'kauditlaw17.WatchNames'. -/
def watchNamesCard : Claim7 := { stood := { row := watchNamesRow, standIns := [], harness := (true, "b8a2a8fce2f604dc809921fffe01c584640fa5f8e0fe4afbf27fbbab841b0ff0"), looks := false }, kinds := [], alts := [], laidByText := true, laidKinds := [.data, .pinned], laidTests := true, laidLooks := .later }
def WatchNamesCardSaid : Prop := Claim7.holds Tryz.pinned (.plain (OpenSpec.ofChange watchNamesSpec)) watchNamesCard

/-- THE SECOND FORM's CARD OF 'kauditlaw17.WatchReplaced'. -/
def watchReplacedUptoCard : Claim7 := { stood := { row := watchReplacedUptoRow, standIns := [], harness := (true, "b8a2a8fce2f604dc809921fffe01c584640fa5f8e0fe4afbf27fbbab841b0ff0"), looks := false }, kinds := [], alts := [], laidByText := true, laidKinds := [.data, .pinned], laidTests := true, laidLooks := .later }
def WatchReplacedUptoCardSaid : Prop := Claim7.holds Tryz.pinned (.plain (OpenSpec.upto watchReplacedSpec)) watchReplacedUptoCard

/-- THE SECOND FORM's CARD OF 'kauditlaw17.WatchNames'. -/
def watchNamesUptoCard : Claim7 := { stood := { row := watchNamesUptoRow, standIns := [], harness := (true, "b8a2a8fce2f604dc809921fffe01c584640fa5f8e0fe4afbf27fbbab841b0ff0"), looks := false }, kinds := [], alts := [], laidByText := true, laidKinds := [.data, .pinned], laidTests := true, laidLooks := .later }
def WatchNamesUptoCardSaid : Prop := Claim7.holds Tryz.pinned (.plain (OpenSpec.upto watchNamesSpec)) watchNamesUptoCard
end Rows
end Go.Proofs.YtobclmbkdhbnpaaGreatDoor
