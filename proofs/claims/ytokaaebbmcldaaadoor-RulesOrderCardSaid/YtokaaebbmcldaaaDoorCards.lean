/-
  DERIVED. GIVEN WITH THE SEED: THE CARDS: each row of YtokaaebbmcldaaaDoorRows.lean that lists a variable, with what it lists TIED to the program's text (the seventh form; the later family's looks); each row that meets fmt, with fmt's text TOLD by the authors' own Lean function (tested against real Go, not proved from fmt's source: count such statements apart). THE CARD IS WHAT COUNTS. Prove the row's statement (the work); the ties are given (YtokaaebbmcldaaaDoorTie.lean); close each card by the builder's one call (the guide's Derived/Test/ToyasCard.lean, 'card_holds'). Laid BY PROGRAM, IN A SANDBOX (cutbox-door.mjs). By AI agents, Wed Nov 11 2026. No macro, syntax, notation, axiom, sorry.
-/
import Derived.Test.YtokaaebbmcldaaaDoorRows
import GoSem.ClaimSeven
namespace Go.Proofs.YtokaaebbmcldaaaDoor
namespace Rows

/-- THE TIED CARD OF 'kauditlaw14.RulesMatch'. -/
def rulesMatchCard : Claim7 := { stood := { row := rulesMatchRow, standIns := [], harness := (true, "48fd936a4759934e45b352f807679e786576b1d95f069a92170e74fff3fa27c8"), looks := false }, kinds := [], alts := [], laidByText := true, laidKinds := [.data, .pinned], laidTests := true, laidLooks := .later }
def RulesMatchCardSaid : Prop := Claim7.holds Tryd.pinned (.plain (OpenSpec.ofChange rulesMatchSpec)) rulesMatchCard

/-- THE TIED CARD OF 'kauditlaw14.RulesOrder'. -/
def rulesOrderCard : Claim7 := { stood := { row := rulesOrderRow, standIns := [], harness := (true, "48fd936a4759934e45b352f807679e786576b1d95f069a92170e74fff3fa27c8"), looks := false }, kinds := [], alts := [], laidByText := true, laidKinds := [.data, .pinned], laidTests := true, laidLooks := .later }
def RulesOrderCardSaid : Prop := Claim7.holds Tryd.pinned (.plain (OpenSpec.ofChange rulesOrderSpec)) rulesOrderCard

/-- THE TIED CARD OF 'kauditlaw14.RulesChange'. -/
def rulesChangeCard : Claim7 := { stood := { row := rulesChangeRow, standIns := [], harness := (true, "48fd936a4759934e45b352f807679e786576b1d95f069a92170e74fff3fa27c8"), looks := false }, kinds := [], alts := [], laidByText := true, laidKinds := [.data, .pinned], laidTests := true, laidLooks := .later }
def RulesChangeCardSaid : Prop := Claim7.holds Tryd.pinned (.plain (OpenSpec.ofChange rulesChangeSpec)) rulesChangeCard

/-- THE TIED CARD OF 'kauditlaw14.RulesLimits'. -/
def rulesLimitsCard : Claim7 := { stood := { row := rulesLimitsRow, standIns := [], harness := (true, "48fd936a4759934e45b352f807679e786576b1d95f069a92170e74fff3fa27c8"), looks := false }, kinds := [], alts := [], laidByText := true, laidKinds := [.data, .pinned], laidTests := true, laidLooks := .later }
def RulesLimitsCardSaid : Prop := Claim7.holds Tryd.pinned (.plain (OpenSpec.ofChange rulesLimitsSpec)) rulesLimitsCard

/-- THE TIED CARD OF 'kauditlaw14.RulesBack'. -/
def rulesBackCard : Claim7 := { stood := { row := rulesBackRow, standIns := [], harness := (true, "48fd936a4759934e45b352f807679e786576b1d95f069a92170e74fff3fa27c8"), looks := false }, kinds := [], alts := [], laidByText := true, laidKinds := [.data, .pinned], laidTests := true, laidLooks := .later }
def RulesBackCardSaid : Prop := Claim7.holds Tryd.pinned (.plain (OpenSpec.ofChange rulesBackSpec)) rulesBackCard

/-- THE SECOND FORM's CARD OF 'kauditlaw14.RulesMatch'. -/
def rulesMatchUptoCard : Claim7 := { stood := { row := rulesMatchUptoRow, standIns := [], harness := (true, "48fd936a4759934e45b352f807679e786576b1d95f069a92170e74fff3fa27c8"), looks := false }, kinds := [], alts := [], laidByText := true, laidKinds := [.data, .pinned], laidTests := true, laidLooks := .later }
def RulesMatchUptoCardSaid : Prop := Claim7.holds Tryd.pinned (.plain (OpenSpec.upto rulesMatchSpec)) rulesMatchUptoCard

/-- THE SECOND FORM's CARD OF 'kauditlaw14.RulesOrder'. -/
def rulesOrderUptoCard : Claim7 := { stood := { row := rulesOrderUptoRow, standIns := [], harness := (true, "48fd936a4759934e45b352f807679e786576b1d95f069a92170e74fff3fa27c8"), looks := false }, kinds := [], alts := [], laidByText := true, laidKinds := [.data, .pinned], laidTests := true, laidLooks := .later }
def RulesOrderUptoCardSaid : Prop := Claim7.holds Tryd.pinned (.plain (OpenSpec.upto rulesOrderSpec)) rulesOrderUptoCard

/-- THE SECOND FORM's CARD OF 'kauditlaw14.RulesChange'. -/
def rulesChangeUptoCard : Claim7 := { stood := { row := rulesChangeUptoRow, standIns := [], harness := (true, "48fd936a4759934e45b352f807679e786576b1d95f069a92170e74fff3fa27c8"), looks := false }, kinds := [], alts := [], laidByText := true, laidKinds := [.data, .pinned], laidTests := true, laidLooks := .later }
def RulesChangeUptoCardSaid : Prop := Claim7.holds Tryd.pinned (.plain (OpenSpec.upto rulesChangeSpec)) rulesChangeUptoCard

/-- THE SECOND FORM's CARD OF 'kauditlaw14.RulesLimits'. -/
def rulesLimitsUptoCard : Claim7 := { stood := { row := rulesLimitsUptoRow, standIns := [], harness := (true, "48fd936a4759934e45b352f807679e786576b1d95f069a92170e74fff3fa27c8"), looks := false }, kinds := [], alts := [], laidByText := true, laidKinds := [.data, .pinned], laidTests := true, laidLooks := .later }
def RulesLimitsUptoCardSaid : Prop := Claim7.holds Tryd.pinned (.plain (OpenSpec.upto rulesLimitsSpec)) rulesLimitsUptoCard

/-- THE SECOND FORM's CARD OF 'kauditlaw14.RulesBack'. -/
def rulesBackUptoCard : Claim7 := { stood := { row := rulesBackUptoRow, standIns := [], harness := (true, "48fd936a4759934e45b352f807679e786576b1d95f069a92170e74fff3fa27c8"), looks := false }, kinds := [], alts := [], laidByText := true, laidKinds := [.data, .pinned], laidTests := true, laidLooks := .later }
def RulesBackUptoCardSaid : Prop := Claim7.holds Tryd.pinned (.plain (OpenSpec.upto rulesBackSpec)) rulesBackUptoCard
end Rows
end Go.Proofs.YtokaaebbmcldaaaDoor
