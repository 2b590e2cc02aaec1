/-
  DERIVED. GIVEN WITH THE SEED: THE CARDS: each row of YtokaaebbmcldaaaGreatDoorRows.lean that lists a variable, with what it lists TIED to the program's text (the seventh form; the later family's looks); each row that meets fmt, with fmt's text TOLD by the authors' own Lean function (tested against real Go, not proved from fmt's source: count such statements apart). THE CARD IS WHAT COUNTS. Prove the row's statement (the work); the ties are given (YtokaaebbmcldaaaGreatDoorTie.lean); close each card by the builder's one call (the guide's Derived/Test/ToyasCard.lean, 'card_holds'). Laid BY PROGRAM, IN A SANDBOX (cutbox-door.mjs). By AI agents, Wed Nov 11 2026. No macro, syntax, notation, axiom, sorry.
-/
import Derived.Test.YtokaaebbmcldaaaGreatDoorRows
import GoSem.ClaimSeven
namespace Go.Proofs.YtokaaebbmcldaaaGreatDoor
namespace Rows

/-- THE TIED CARD OF 'kauditlaw14.RulesBuilt'. -/
def rulesBuiltCard : Claim7 := { stood := { row := rulesBuiltRow, standIns := [], harness := (true, "fbaa63d22a5891136cdbcd1227e48fad26534219fe85e9b4bee0816b87675e3c"), looks := false }, kinds := [], alts := [], laidByText := true, laidKinds := [.data, .pinned], laidTests := true, laidLooks := .later }
def RulesBuiltCardSaid : Prop := Claim7.holds Tryz.pinned (.plain (OpenSpec.ofChange rulesBuiltSpec)) rulesBuiltCard

/-- THE SECOND FORM's CARD OF 'kauditlaw14.RulesBuilt'. -/
def rulesBuiltUptoCard : Claim7 := { stood := { row := rulesBuiltUptoRow, standIns := [], harness := (true, "fbaa63d22a5891136cdbcd1227e48fad26534219fe85e9b4bee0816b87675e3c"), looks := false }, kinds := [], alts := [], laidByText := true, laidKinds := [.data, .pinned], laidTests := true, laidLooks := .later }
def RulesBuiltUptoCardSaid : Prop := Claim7.holds Tryz.pinned (.plain (OpenSpec.upto rulesBuiltSpec)) rulesBuiltUptoCard
end Rows
end Go.Proofs.YtokaaebbmcldaaaGreatDoor
