/-
  NARROWER THAN 'FOR EVERY INPUT', by the rows' own cells (each row's printed sentence says how): RulesMatch: laid · RulesOrder: laid · RulesChange: laid · RulesLimits: laid · RulesBack: laid.
  DERIVED. THE GIVEN ROWS OF THIS SEAT. 5 by the template 'for every input the law returns true; each argument reads behind the call as it read before'; 0 by the template 'total and deterministic' (their statements: YtokaaebbmcldaaaDoorTotals.lean).
  GIVEN WITH THE SEED: the statements are not yours to turn. If you find one false, say at which input.
  Laid BY PROGRAM, IN A SANDBOX (cutbox-rows.mjs): the forced cells as the released guide's own fill.sh prints them over the translation f1175dce6af0bbb8… (all of the seat's roots in one cut). By AI agents, Wed Nov 11 2026. No macro, syntax, notation, axiom, sorry.
-/
import Derived.Test.YtokaaebbmcldaaaDoorChecked
import GoSem.PinnedTables
import GoSem.Claim
import GoSem.ClaimJoined
import GoSem.ClaimMapViews
import Derived.JoinedTies
import Derived.KernelRfl
namespace Go.Proofs.YtokaaebbmcldaaaDoor
/- THE CELL 'sum', in the pinned program and in every row, IS THE sha256 OF THE DUMP (.gsa) THAT YtokaaebbmcldaaaDoorProg.lean LOADS. Nothing in Lean hashes anything: it is a label: what it is worth is what the hold of that sum in a sandbox is worth. -/
noncomputable def Tryd.pinned : Pinned := { name := "ytokaaebbmcldaaadoor", sum := "f1175dce6af0bbb893ac8fdfbd55713d7faba400775528e28afc30e1105b980f", checked := Tryd.checked }
namespace Rows
def none {H : Type} : Left H := { results := [], args := [] }

/- WHAT THE LISTED PACKAGE-LEVEL VARIABLES READ AS WHEN THE CALL BEGINS. Each datum BY PROGRAM (the guide's laid-datum.mjs) off the statement by which the dump's own 'gosem.cut.vars' lays the variable. In a bare row this is a premise. The card (YtokaaebbmcldaaaDoorCards.lean) ties it to the program's text. -/
def laid_unicode_utf8_acceptRanges {H : Type} : DataW H := .agg [.agg [.lit (.int .u8 128), .lit (.int .u8 191)], .agg [.lit (.int .u8 160), .lit (.int .u8 191)], .agg [.lit (.int .u8 128), .lit (.int .u8 159)], .agg [.lit (.int .u8 144), .lit (.int .u8 191)], .agg [.lit (.int .u8 128), .lit (.int .u8 143)], .agg [.lit (.int .u8 0), .lit (.int .u8 0)], .agg [.lit (.int .u8 0), .lit (.int .u8 0)], .agg [.lit (.int .u8 0), .lit (.int .u8 0)], .agg [.lit (.int .u8 0), .lit (.int .u8 0)], .agg [.lit (.int .u8 0), .lit (.int .u8 0)], .agg [.lit (.int .u8 0), .lit (.int .u8 0)], .agg [.lit (.int .u8 0), .lit (.int .u8 0)], .agg [.lit (.int .u8 0), .lit (.int .u8 0)], .agg [.lit (.int .u8 0), .lit (.int .u8 0)], .agg [.lit (.int .u8 0), .lit (.int .u8 0)], .agg [.lit (.int .u8 0), .lit (.int .u8 0)]]
/-- One of Go's own tables, pinned by name: the form's constant. -/
def laid_unicode_utf8_first : DataW Unit := Go.Pinned.utf8First

/-- 'kauditlaw14.RulesMatch': WHATEVER THE INPUT: true; the input reads as it did. -/
def rulesMatchSpec : ChangeSpec := { name := "rulesMatch", fn := fun _ => fun
  | [d1, d2, d3, d4] => { results := [.lit (.bool true)], args := [d1, d2, d3, d4] }
  | _ => none }
def rulesMatchRow : OpenClaim := { program := "ytokaaebbmcldaaadoor", sum := "f1175dce6af0bbb893ac8fdfbd55713d7faba400775528e28afc30e1105b980f", func := "kaudit/kauditlaw14.RulesMatch", spec := "rulesMatch", inPlace := ["internal/bytealg.IndexByteString", "internal/bytealg.IndexString"], unfollowed := true, recurses := true, named := ["unicode/utf8.first", "unicode/utf8.acceptRanges", "internal/bytealg.MaxLen"], apart := false, laid := [("unicode/utf8.acceptRanges", laid_unicode_utf8_acceptRanges), ("unicode/utf8.first", laid_unicode_utf8_first)] }
def RulesMatchSaid : Prop := rulesMatchRow.holds Tryd.pinned (OpenSpec.ofChange rulesMatchSpec)

/-- ITS FALSE NEIGHBOUR: 'it returns false'. Refute it at one input. -/
def rulesMatchWrong : ChangeSpec := { name := "rulesMatch", fn := fun _ => fun
  | [d1, d2, d3, d4] => { results := [.lit (.bool false)], args := [d1, d2, d3, d4] }
  | _ => none }
def RulesMatchWrongFalsely : Prop := rulesMatchRow.holds Tryd.pinned (OpenSpec.ofChange rulesMatchWrong)

/-- 'kauditlaw14.RulesOrder': WHATEVER THE INPUT: true; the input reads as it did. -/
def rulesOrderSpec : ChangeSpec := { name := "rulesOrder", fn := fun _ => fun
  | [d1, d2] => { results := [.lit (.bool true)], args := [d1, d2] }
  | _ => none }
def rulesOrderRow : OpenClaim := { program := "ytokaaebbmcldaaadoor", sum := "f1175dce6af0bbb893ac8fdfbd55713d7faba400775528e28afc30e1105b980f", func := "kaudit/kauditlaw14.RulesOrder", spec := "rulesOrder", inPlace := ["internal/bytealg.IndexByteString", "internal/bytealg.IndexString"], unfollowed := true, recurses := true, named := ["unicode/utf8.first", "unicode/utf8.acceptRanges", "internal/bytealg.MaxLen"], apart := false, laid := [("unicode/utf8.acceptRanges", laid_unicode_utf8_acceptRanges), ("unicode/utf8.first", laid_unicode_utf8_first)] }
def RulesOrderSaid : Prop := rulesOrderRow.holds Tryd.pinned (OpenSpec.ofChange rulesOrderSpec)

/-- ITS FALSE NEIGHBOUR: 'it returns false'. Refute it at one input. -/
def rulesOrderWrong : ChangeSpec := { name := "rulesOrder", fn := fun _ => fun
  | [d1, d2] => { results := [.lit (.bool false)], args := [d1, d2] }
  | _ => none }
def RulesOrderWrongFalsely : Prop := rulesOrderRow.holds Tryd.pinned (OpenSpec.ofChange rulesOrderWrong)

/-- 'kauditlaw14.RulesChange': WHATEVER THE INPUT: true; the input reads as it did. -/
def rulesChangeSpec : ChangeSpec := { name := "rulesChange", fn := fun _ => fun
  | [d] => { results := [.lit (.bool true)], args := [d] }
  | _ => none }
def rulesChangeRow : OpenClaim := { program := "ytokaaebbmcldaaadoor", sum := "f1175dce6af0bbb893ac8fdfbd55713d7faba400775528e28afc30e1105b980f", func := "kaudit/kauditlaw14.RulesChange", spec := "rulesChange", inPlace := ["internal/bytealg.IndexByteString", "internal/bytealg.IndexString"], unfollowed := true, recurses := true, named := ["unicode/utf8.first", "unicode/utf8.acceptRanges", "internal/bytealg.MaxLen"], apart := false, laid := [("unicode/utf8.acceptRanges", laid_unicode_utf8_acceptRanges), ("unicode/utf8.first", laid_unicode_utf8_first)] }
def RulesChangeSaid : Prop := rulesChangeRow.holds Tryd.pinned (OpenSpec.ofChange rulesChangeSpec)

/-- ITS FALSE NEIGHBOUR: 'it returns false'. Refute it at one input. -/
def rulesChangeWrong : ChangeSpec := { name := "rulesChange", fn := fun _ => fun
  | [d] => { results := [.lit (.bool false)], args := [d] }
  | _ => none }
def RulesChangeWrongFalsely : Prop := rulesChangeRow.holds Tryd.pinned (OpenSpec.ofChange rulesChangeWrong)

/-- 'kauditlaw14.RulesLimits': WHATEVER THE INPUT: true; the input reads as it did. -/
def rulesLimitsSpec : ChangeSpec := { name := "rulesLimits", fn := fun _ => fun
  | [d1, d2] => { results := [.lit (.bool true)], args := [d1, d2] }
  | _ => none }
def rulesLimitsRow : OpenClaim := { program := "ytokaaebbmcldaaadoor", sum := "f1175dce6af0bbb893ac8fdfbd55713d7faba400775528e28afc30e1105b980f", func := "kaudit/kauditlaw14.RulesLimits", spec := "rulesLimits", inPlace := ["internal/bytealg.IndexByteString", "internal/bytealg.IndexString"], unfollowed := true, recurses := true, named := ["unicode/utf8.first", "unicode/utf8.acceptRanges", "internal/bytealg.MaxLen"], apart := false, laid := [("unicode/utf8.acceptRanges", laid_unicode_utf8_acceptRanges), ("unicode/utf8.first", laid_unicode_utf8_first)] }
def RulesLimitsSaid : Prop := rulesLimitsRow.holds Tryd.pinned (OpenSpec.ofChange rulesLimitsSpec)

/-- ITS FALSE NEIGHBOUR: 'it returns false'. Refute it at one input. -/
def rulesLimitsWrong : ChangeSpec := { name := "rulesLimits", fn := fun _ => fun
  | [d1, d2] => { results := [.lit (.bool false)], args := [d1, d2] }
  | _ => none }
def RulesLimitsWrongFalsely : Prop := rulesLimitsRow.holds Tryd.pinned (OpenSpec.ofChange rulesLimitsWrong)

/-- 'kauditlaw14.RulesBack': WHATEVER THE INPUT: true; the input reads as it did. -/
def rulesBackSpec : ChangeSpec := { name := "rulesBack", fn := fun _ => fun
  | [d] => { results := [.lit (.bool true)], args := [d] }
  | _ => none }
def rulesBackRow : OpenClaim := { program := "ytokaaebbmcldaaadoor", sum := "f1175dce6af0bbb893ac8fdfbd55713d7faba400775528e28afc30e1105b980f", func := "kaudit/kauditlaw14.RulesBack", spec := "rulesBack", inPlace := ["internal/bytealg.IndexByteString", "internal/bytealg.IndexString"], unfollowed := true, recurses := true, named := ["unicode/utf8.first", "unicode/utf8.acceptRanges", "internal/bytealg.MaxLen"], apart := false, laid := [("unicode/utf8.acceptRanges", laid_unicode_utf8_acceptRanges), ("unicode/utf8.first", laid_unicode_utf8_first)] }
def RulesBackSaid : Prop := rulesBackRow.holds Tryd.pinned (OpenSpec.ofChange rulesBackSpec)

/-- ITS FALSE NEIGHBOUR: 'it returns false'. Refute it at one input. -/
def rulesBackWrong : ChangeSpec := { name := "rulesBack", fn := fun _ => fun
  | [d] => { results := [.lit (.bool false)], args := [d] }
  | _ => none }
def RulesBackWrongFalsely : Prop := rulesBackRow.holds Tryd.pinned (OpenSpec.ofChange rulesBackWrong)

/- THE SECOND FORM. 'bulk': how many values and letters a reading holds, each counted each time it is reached (what is shared counts as often as it is met; a slice's spare places count too). A statement '..UptoSaid' is the law's where the arguments, and the package variables that the reading takes, are together of bulk at most 1048576: NARROWER than '..Said'. Prove '..Said' where nothing that the law and all that it calls make is longer than what came in: it says more and counts as full. Else prove '..UptoSaid'. A law counts once. -/
mutual
def uptoBulk {H : Type} : DataW H → Nat
  | .lit (.string bytes) => bytes.length + 1
  | .lit _ => 1
  | .nil => 1
  | .ptr d => uptoBulk d + 1
  | .slice elems spare => uptoBulkAll elems + uptoBulkAll spare + 1
  | .agg parts => uptoBulkAll parts + 1
  | .iface _ d => uptoBulk d + 1
  | .map entries => uptoBulkEntries entries + 1
  | .held _ => 1
def uptoBulkAll {H : Type} : List (DataW H) → Nat
  | [] => 0
  | d :: r => uptoBulk d + uptoBulkAll r
def uptoBulkEntries {H : Type} : List (Lit × DataW H) → Nat
  | [] => 0
  | x :: r => uptoBulkEntry x + uptoBulkEntries r
def uptoBulkEntry {H : Type} : Lit × DataW H → Nat
  | (.string bytes, d) => bytes.length + uptoBulk d + 1
  | (_, d) => uptoBulk d + 1
 end
def uptoSmall : (H : Type) → List (DataW H) → Bool := fun _ ds => decide (uptoBulkAll ds ≤ 1048576)
def OpenSpec.upto (s : _root_.Go.ChangeSpec) : _root_.Go.OpenSpec := { _root_.Go.OpenSpec.ofChange s with cond := some uptoSmall }

/-- 'kauditlaw14.RulesMatch', WHERE WHAT IT READS IS OF BULK AT MOST 1048576: true; the input reads as it did. -/
def rulesMatchUptoRow : OpenClaim := { program := "ytokaaebbmcldaaadoor", sum := "f1175dce6af0bbb893ac8fdfbd55713d7faba400775528e28afc30e1105b980f", func := "kaudit/kauditlaw14.RulesMatch", spec := "rulesMatch", inPlace := ["internal/bytealg.IndexByteString", "internal/bytealg.IndexString"], unfollowed := true, recurses := true, named := ["unicode/utf8.first", "unicode/utf8.acceptRanges", "internal/bytealg.MaxLen"], apart := false, laid := [("unicode/utf8.acceptRanges", laid_unicode_utf8_acceptRanges), ("unicode/utf8.first", laid_unicode_utf8_first)], narrowed := true }
def RulesMatchUptoSaid : Prop := rulesMatchUptoRow.holds Tryd.pinned (OpenSpec.upto rulesMatchSpec)

/-- 'kauditlaw14.RulesOrder', WHERE WHAT IT READS IS OF BULK AT MOST 1048576: true; the input reads as it did. -/
def rulesOrderUptoRow : OpenClaim := { program := "ytokaaebbmcldaaadoor", sum := "f1175dce6af0bbb893ac8fdfbd55713d7faba400775528e28afc30e1105b980f", func := "kaudit/kauditlaw14.RulesOrder", spec := "rulesOrder", inPlace := ["internal/bytealg.IndexByteString", "internal/bytealg.IndexString"], unfollowed := true, recurses := true, named := ["unicode/utf8.first", "unicode/utf8.acceptRanges", "internal/bytealg.MaxLen"], apart := false, laid := [("unicode/utf8.acceptRanges", laid_unicode_utf8_acceptRanges), ("unicode/utf8.first", laid_unicode_utf8_first)], narrowed := true }
def RulesOrderUptoSaid : Prop := rulesOrderUptoRow.holds Tryd.pinned (OpenSpec.upto rulesOrderSpec)

/-- 'kauditlaw14.RulesChange', WHERE WHAT IT READS IS OF BULK AT MOST 1048576: true; the input reads as it did. -/
def rulesChangeUptoRow : OpenClaim := { program := "ytokaaebbmcldaaadoor", sum := "f1175dce6af0bbb893ac8fdfbd55713d7faba400775528e28afc30e1105b980f", func := "kaudit/kauditlaw14.RulesChange", spec := "rulesChange", inPlace := ["internal/bytealg.IndexByteString", "internal/bytealg.IndexString"], unfollowed := true, recurses := true, named := ["unicode/utf8.first", "unicode/utf8.acceptRanges", "internal/bytealg.MaxLen"], apart := false, laid := [("unicode/utf8.acceptRanges", laid_unicode_utf8_acceptRanges), ("unicode/utf8.first", laid_unicode_utf8_first)], narrowed := true }
def RulesChangeUptoSaid : Prop := rulesChangeUptoRow.holds Tryd.pinned (OpenSpec.upto rulesChangeSpec)

/-- 'kauditlaw14.RulesLimits', WHERE WHAT IT READS IS OF BULK AT MOST 1048576: true; the input reads as it did. -/
def rulesLimitsUptoRow : OpenClaim := { program := "ytokaaebbmcldaaadoor", sum := "f1175dce6af0bbb893ac8fdfbd55713d7faba400775528e28afc30e1105b980f", func := "kaudit/kauditlaw14.RulesLimits", spec := "rulesLimits", inPlace := ["internal/bytealg.IndexByteString", "internal/bytealg.IndexString"], unfollowed := true, recurses := true, named := ["unicode/utf8.first", "unicode/utf8.acceptRanges", "internal/bytealg.MaxLen"], apart := false, laid := [("unicode/utf8.acceptRanges", laid_unicode_utf8_acceptRanges), ("unicode/utf8.first", laid_unicode_utf8_first)], narrowed := true }
def RulesLimitsUptoSaid : Prop := rulesLimitsUptoRow.holds Tryd.pinned (OpenSpec.upto rulesLimitsSpec)

/-- 'kauditlaw14.RulesBack', WHERE WHAT IT READS IS OF BULK AT MOST 1048576: true; the input reads as it did. -/
def rulesBackUptoRow : OpenClaim := { program := "ytokaaebbmcldaaadoor", sum := "f1175dce6af0bbb893ac8fdfbd55713d7faba400775528e28afc30e1105b980f", func := "kaudit/kauditlaw14.RulesBack", spec := "rulesBack", inPlace := ["internal/bytealg.IndexByteString", "internal/bytealg.IndexString"], unfollowed := true, recurses := true, named := ["unicode/utf8.first", "unicode/utf8.acceptRanges", "internal/bytealg.MaxLen"], apart := false, laid := [("unicode/utf8.acceptRanges", laid_unicode_utf8_acceptRanges), ("unicode/utf8.first", laid_unicode_utf8_first)], narrowed := true }
def RulesBackUptoSaid : Prop := rulesBackUptoRow.holds Tryd.pinned (OpenSpec.upto rulesBackSpec)

end Rows
end Go.Proofs.YtokaaebbmcldaaaDoor
