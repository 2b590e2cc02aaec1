/-
  DERIVED. GIVEN WITH THE SEED: THE CARDS: each row of YtbgnigjfkbmceaaGreatDoorRows.lean that lists a variable, with what it lists TIED to the program's text (the seventh form; the later family's looks); each row that meets fmt, with fmt's text TOLD by the authors' own Lean function (tested against real Go, not proved from fmt's source: count such statements apart). THE CARD IS WHAT COUNTS. Prove the row's statement (the work); the ties are given (YtbgnigjfkbmceaaGreatDoorTie.lean); close each card by the builder's one call (the guide's Derived/Test/ToyasCard.lean, 'card_holds'). Laid BY PROGRAM, IN A SANDBOX (cutbox-door.mjs). By AI agents, Wed Nov 11 2026. No macro, syntax, notation, axiom, sorry.
-/
import Derived.Test.YtbgnigjfkbmceaaGreatDoorRows
import GoSem.ClaimSeven
namespace Go.Proofs.YtbgnigjfkbmceaaGreatDoor
namespace Rows

/-- THE TIED CARD OF 'kauditlaw14.RulesExecuted'. -/
def rulesExecutedCard : Claim7 := { stood := { row := rulesExecutedRow, standIns := [], harness := (true, "bf4fbf0615b634638ed5892182e4c0903ec352cef939ddaccd094ef60a9bd4df"), looks := false }, kinds := [], alts := [], laidByText := true, laidKinds := [.data, .pinned], laidTests := true, laidLooks := .later }
def RulesExecutedCardSaid : Prop := Claim7.holds Tryz.pinned (.plain (OpenSpec.ofChange rulesExecutedSpec)) rulesExecutedCard

/-- THE TIED CARD OF 'kauditlaw18.FilterDecides'. -/
def filterDecidesCard : Claim7 := { stood := { row := filterDecidesRow, standIns := [], harness := (true, "bf4fbf0615b634638ed5892182e4c0903ec352cef939ddaccd094ef60a9bd4df"), looks := false }, kinds := [], alts := [], laidByText := true, laidKinds := [.data, .pinned], laidTests := true, laidLooks := .later }
def FilterDecidesCardSaid : Prop := Claim7.holds Tryz.pinned (.plain (OpenSpec.ofChange filterDecidesSpec)) filterDecidesCard

/-- THE TIED CARD OF 'kauditlaw18.FilterContexts'. -/
def filterContextsCard : Claim7 := { stood := { row := filterContextsRow, standIns := [], harness := (true, "bf4fbf0615b634638ed5892182e4c0903ec352cef939ddaccd094ef60a9bd4df"), looks := false }, kinds := [], alts := [], laidByText := true, laidKinds := [.data, .pinned], laidTests := true, laidLooks := .later }
def FilterContextsCardSaid : Prop := Claim7.holds Tryz.pinned (.plain (OpenSpec.ofChange filterContextsSpec)) filterContextsCard

/-- THE TIED CARD OF 'kauditlaw18.FilterSilent'. -/
def filterSilentCard : Claim7 := { stood := { row := filterSilentRow, standIns := [], harness := (true, "bf4fbf0615b634638ed5892182e4c0903ec352cef939ddaccd094ef60a9bd4df"), looks := false }, kinds := [], alts := [], laidByText := true, laidKinds := [.data, .pinned], laidTests := true, laidLooks := .later }
def FilterSilentCardSaid : Prop := Claim7.holds Tryz.pinned (.plain (OpenSpec.ofChange filterSilentSpec)) filterSilentCard

/-- THE TIED CARD OF 'kauditlaw18.FilterLoads'. -/
def filterLoadsCard : Claim7 := { stood := { row := filterLoadsRow, standIns := [], harness := (true, "bf4fbf0615b634638ed5892182e4c0903ec352cef939ddaccd094ef60a9bd4df"), looks := false }, kinds := [], alts := [], laidByText := true, laidKinds := [.data, .pinned], laidTests := true, laidLooks := .later }
def FilterLoadsCardSaid : Prop := Claim7.holds Tryz.pinned (.plain (OpenSpec.ofChange filterLoadsSpec)) filterLoadsCard

/-- THE TIED CARD OF 'kauditlaw18.FilterSound'. -/
def filterSoundCard : Claim7 := { stood := { row := filterSoundRow, standIns := [], harness := (true, "bf4fbf0615b634638ed5892182e4c0903ec352cef939ddaccd094ef60a9bd4df"), looks := false }, kinds := [], alts := [], laidByText := true, laidKinds := [.data, .pinned], laidTests := true, laidLooks := .later }
def FilterSoundCardSaid : Prop := Claim7.holds Tryz.pinned (.plain (OpenSpec.ofChange filterSoundSpec)) filterSoundCard

/-- THE TIED CARD OF 'kauditlaw18.FilterFollows'. -/
def filterFollowsCard : Claim7 := { stood := { row := filterFollowsRow, standIns := [], harness := (true, "bf4fbf0615b634638ed5892182e4c0903ec352cef939ddaccd094ef60a9bd4df"), looks := false }, kinds := [], alts := [], laidByText := true, laidKinds := [.data, .pinned], laidTests := true, laidLooks := .later }
def FilterFollowsCardSaid : Prop := Claim7.holds Tryz.pinned (.plain (OpenSpec.ofChange filterFollowsSpec)) filterFollowsCard

/-- THE TIED CARD OF 'kauditlaw18.FilterBehind'. -/
def filterBehindCard : Claim7 := { stood := { row := filterBehindRow, standIns := [], harness := (true, "bf4fbf0615b634638ed5892182e4c0903ec352cef939ddaccd094ef60a9bd4df"), looks := false }, kinds := [], alts := [], laidByText := true, laidKinds := [.data, .pinned], laidTests := true, laidLooks := .later }
def FilterBehindCardSaid : Prop := Claim7.holds Tryz.pinned (.plain (OpenSpec.ofChange filterBehindSpec)) filterBehindCard

/-- THE TIED CARD OF 'kauditlaw18.FilterChanges'. -/
def filterChangesCard : Claim7 := { stood := { row := filterChangesRow, standIns := [], harness := (true, "bf4fbf0615b634638ed5892182e4c0903ec352cef939ddaccd094ef60a9bd4df"), looks := false }, kinds := [], alts := [], laidByText := true, laidKinds := [.data, .pinned], laidTests := true, laidLooks := .later }
def FilterChangesCardSaid : Prop := Claim7.holds Tryz.pinned (.plain (OpenSpec.ofChange filterChangesSpec)) filterChangesCard

/-- THE SECOND FORM's CARD OF 'kauditlaw14.RulesExecuted'. -/
def rulesExecutedUptoCard : Claim7 := { stood := { row := rulesExecutedUptoRow, standIns := [], harness := (true, "bf4fbf0615b634638ed5892182e4c0903ec352cef939ddaccd094ef60a9bd4df"), looks := false }, kinds := [], alts := [], laidByText := true, laidKinds := [.data, .pinned], laidTests := true, laidLooks := .later }
def RulesExecutedUptoCardSaid : Prop := Claim7.holds Tryz.pinned (.plain (OpenSpec.upto rulesExecutedSpec)) rulesExecutedUptoCard

/-- THE SECOND FORM's CARD OF 'kauditlaw18.FilterDecides'. -/
def filterDecidesUptoCard : Claim7 := { stood := { row := filterDecidesUptoRow, standIns := [], harness := (true, "bf4fbf0615b634638ed5892182e4c0903ec352cef939ddaccd094ef60a9bd4df"), looks := false }, kinds := [], alts := [], laidByText := true, laidKinds := [.data, .pinned], laidTests := true, laidLooks := .later }
def FilterDecidesUptoCardSaid : Prop := Claim7.holds Tryz.pinned (.plain (OpenSpec.upto filterDecidesSpec)) filterDecidesUptoCard

/-- THE SECOND FORM's CARD OF 'kauditlaw18.FilterContexts'. -/
def filterContextsUptoCard : Claim7 := { stood := { row := filterContextsUptoRow, standIns := [], harness := (true, "bf4fbf0615b634638ed5892182e4c0903ec352cef939ddaccd094ef60a9bd4df"), looks := false }, kinds := [], alts := [], laidByText := true, laidKinds := [.data, .pinned], laidTests := true, laidLooks := .later }
def FilterContextsUptoCardSaid : Prop := Claim7.holds Tryz.pinned (.plain (OpenSpec.upto filterContextsSpec)) filterContextsUptoCard

/-- THE SECOND FORM's CARD OF 'kauditlaw18.FilterSilent'. -/
def filterSilentUptoCard : Claim7 := { stood := { row := filterSilentUptoRow, standIns := [], harness := (true, "bf4fbf0615b634638ed5892182e4c0903ec352cef939ddaccd094ef60a9bd4df"), looks := false }, kinds := [], alts := [], laidByText := true, laidKinds := [.data, .pinned], laidTests := true, laidLooks := .later }
def FilterSilentUptoCardSaid : Prop := Claim7.holds Tryz.pinned (.plain (OpenSpec.upto filterSilentSpec)) filterSilentUptoCard

/-- THE SECOND FORM's CARD OF 'kauditlaw18.FilterLoads'. -/
def filterLoadsUptoCard : Claim7 := { stood := { row := filterLoadsUptoRow, standIns := [], harness := (true, "bf4fbf0615b634638ed5892182e4c0903ec352cef939ddaccd094ef60a9bd4df"), looks := false }, kinds := [], alts := [], laidByText := true, laidKinds := [.data, .pinned], laidTests := true, laidLooks := .later }
def FilterLoadsUptoCardSaid : Prop := Claim7.holds Tryz.pinned (.plain (OpenSpec.upto filterLoadsSpec)) filterLoadsUptoCard

/-- THE SECOND FORM's CARD OF 'kauditlaw18.FilterSound'. -/
def filterSoundUptoCard : Claim7 := { stood := { row := filterSoundUptoRow, standIns := [], harness := (true, "bf4fbf0615b634638ed5892182e4c0903ec352cef939ddaccd094ef60a9bd4df"), looks := false }, kinds := [], alts := [], laidByText := true, laidKinds := [.data, .pinned], laidTests := true, laidLooks := .later }
def FilterSoundUptoCardSaid : Prop := Claim7.holds Tryz.pinned (.plain (OpenSpec.upto filterSoundSpec)) filterSoundUptoCard

/-- THE SECOND FORM's CARD OF 'kauditlaw18.FilterFollows'. -/
def filterFollowsUptoCard : Claim7 := { stood := { row := filterFollowsUptoRow, standIns := [], harness := (true, "bf4fbf0615b634638ed5892182e4c0903ec352cef939ddaccd094ef60a9bd4df"), looks := false }, kinds := [], alts := [], laidByText := true, laidKinds := [.data, .pinned], laidTests := true, laidLooks := .later }
def FilterFollowsUptoCardSaid : Prop := Claim7.holds Tryz.pinned (.plain (OpenSpec.upto filterFollowsSpec)) filterFollowsUptoCard

/-- THE SECOND FORM's CARD OF 'kauditlaw18.FilterBehind'. -/
def filterBehindUptoCard : Claim7 := { stood := { row := filterBehindUptoRow, standIns := [], harness := (true, "bf4fbf0615b634638ed5892182e4c0903ec352cef939ddaccd094ef60a9bd4df"), looks := false }, kinds := [], alts := [], laidByText := true, laidKinds := [.data, .pinned], laidTests := true, laidLooks := .later }
def FilterBehindUptoCardSaid : Prop := Claim7.holds Tryz.pinned (.plain (OpenSpec.upto filterBehindSpec)) filterBehindUptoCard

/-- THE SECOND FORM's CARD OF 'kauditlaw18.FilterChanges'. -/
def filterChangesUptoCard : Claim7 := { stood := { row := filterChangesUptoRow, standIns := [], harness := (true, "bf4fbf0615b634638ed5892182e4c0903ec352cef939ddaccd094ef60a9bd4df"), looks := false }, kinds := [], alts := [], laidByText := true, laidKinds := [.data, .pinned], laidTests := true, laidLooks := .later }
def FilterChangesUptoCardSaid : Prop := Claim7.holds Tryz.pinned (.plain (OpenSpec.upto filterChangesSpec)) filterChangesUptoCard
end Rows
end Go.Proofs.YtbgnigjfkbmceaaGreatDoor
