/-
  NARROWER THAN 'FOR EVERY INPUT', by the rows' own cells (each row's printed sentence says how): RulesExecuted: laid · FilterDecides: laid · FilterContexts: laid · FilterSilent: laid · FilterLoads: laid · FilterSound: laid · FilterFollows: laid · FilterBehind: laid · FilterChanges: laid.
  DERIVED. THE GIVEN ROWS OF THIS SEAT. 9 by the template 'for every input the law returns true; each argument reads behind the call as it read before'; 0 by the template 'total and deterministic' (their statements: YtbgnigjfkbmceaaGreatDoorTotals.lean).
  GIVEN WITH THE SEED: the statements are not yours to turn. If you find one false, say at which input.
  Laid BY PROGRAM, IN A SANDBOX (cutbox-rows.mjs): the forced cells as the released guide's own fill.sh prints them over the translation 94007eb89345e9c3… (all of the seat's roots in one cut). By AI agents, Wed Nov 11 2026. No macro, syntax, notation, axiom, sorry.
-/
import Derived.Test.YtbgnigjfkbmceaaGreatDoorChecked
import GoSem.PinnedTables
import GoSem.Claim
import GoSem.ClaimJoined
import GoSem.ClaimMapViews
import Derived.JoinedTies
import Derived.KernelRfl
namespace Go.Proofs.YtbgnigjfkbmceaaGreatDoor
/- THE CELL 'sum', in the pinned program and in every row, IS THE sha256 OF THE DUMP (.gsa) THAT YtbgnigjfkbmceaaGreatDoorProg.lean LOADS. Nothing in Lean hashes anything: it is a label: what it is worth is what the hold of that sum in a sandbox is worth. -/
noncomputable def Tryz.pinned : Pinned := { name := "ytbgnigjfkbmceaagreatdoor", sum := "94007eb89345e9c3b2c4b29d422507bba098ba17bb362df894efb7709e9bcab0", checked := Tryz.checked }
namespace Rows
def none {H : Type} : Left H := { results := [], args := [] }

/- WHAT THE LISTED PACKAGE-LEVEL VARIABLES READ AS WHEN THE CALL BEGINS. Each datum BY PROGRAM (the guide's laid-datum.mjs) off the statement by which the dump's own 'gosem.cut.vars' lays the variable. In a bare row this is a premise. The card (YtbgnigjfkbmceaaGreatDoorCards.lean) ties it to the program's text. -/
def laid_unicode_utf8_acceptRanges {H : Type} : DataW H := .agg [.agg [.lit (.int .u8 128), .lit (.int .u8 191)], .agg [.lit (.int .u8 160), .lit (.int .u8 191)], .agg [.lit (.int .u8 128), .lit (.int .u8 159)], .agg [.lit (.int .u8 144), .lit (.int .u8 191)], .agg [.lit (.int .u8 128), .lit (.int .u8 143)], .agg [.lit (.int .u8 0), .lit (.int .u8 0)], .agg [.lit (.int .u8 0), .lit (.int .u8 0)], .agg [.lit (.int .u8 0), .lit (.int .u8 0)], .agg [.lit (.int .u8 0), .lit (.int .u8 0)], .agg [.lit (.int .u8 0), .lit (.int .u8 0)], .agg [.lit (.int .u8 0), .lit (.int .u8 0)], .agg [.lit (.int .u8 0), .lit (.int .u8 0)], .agg [.lit (.int .u8 0), .lit (.int .u8 0)], .agg [.lit (.int .u8 0), .lit (.int .u8 0)], .agg [.lit (.int .u8 0), .lit (.int .u8 0)], .agg [.lit (.int .u8 0), .lit (.int .u8 0)]]
/-- One of Go's own tables, pinned by name: the form's constant. -/
def laid_unicode_utf8_first : DataW Unit := Go.Pinned.utf8First

/-- 'kauditlaw14.RulesExecuted': WHATEVER THE INPUT: true; the input reads as it did. -/
def rulesExecutedSpec : ChangeSpec := { name := "rulesExecuted", fn := fun _ => fun
  | [d1, d2] => { results := [.lit (.bool true)], args := [d1, d2] }
  | _ => none }
def rulesExecutedRow : OpenClaim := { program := "ytbgnigjfkbmceaagreatdoor", sum := "94007eb89345e9c3b2c4b29d422507bba098ba17bb362df894efb7709e9bcab0", func := "kaudit/kauditlaw14.RulesExecuted", spec := "rulesExecuted", inPlace := ["internal/bytealg.IndexByteString", "internal/bytealg.IndexString"], unfollowed := true, recurses := true, named := ["unicode/utf8.first", "unicode/utf8.acceptRanges", "internal/bytealg.MaxLen"], apart := false, laid := [("unicode/utf8.acceptRanges", laid_unicode_utf8_acceptRanges), ("unicode/utf8.first", laid_unicode_utf8_first)] }
def RulesExecutedSaid : Prop := rulesExecutedRow.holds Tryz.pinned (OpenSpec.ofChange rulesExecutedSpec)

/-- ITS FALSE NEIGHBOUR: 'it returns false'. Refute it at one input. -/
def rulesExecutedWrong : ChangeSpec := { name := "rulesExecuted", fn := fun _ => fun
  | [d1, d2] => { results := [.lit (.bool false)], args := [d1, d2] }
  | _ => none }
def RulesExecutedWrongFalsely : Prop := rulesExecutedRow.holds Tryz.pinned (OpenSpec.ofChange rulesExecutedWrong)

/-- 'kauditlaw18.FilterDecides': WHATEVER THE INPUT: true; the input reads as it did. -/
def filterDecidesSpec : ChangeSpec := { name := "filterDecides", fn := fun _ => fun
  | [d] => { results := [.lit (.bool true)], args := [d] }
  | _ => none }
def filterDecidesRow : OpenClaim := { program := "ytbgnigjfkbmceaagreatdoor", sum := "94007eb89345e9c3b2c4b29d422507bba098ba17bb362df894efb7709e9bcab0", func := "kaudit/kauditlaw18.FilterDecides", spec := "filterDecides", inPlace := ["internal/bytealg.IndexByteString", "internal/bytealg.IndexString"], unfollowed := true, recurses := true, named := ["unicode/utf8.first", "unicode/utf8.acceptRanges", "internal/bytealg.MaxLen"], apart := false, laid := [("unicode/utf8.acceptRanges", laid_unicode_utf8_acceptRanges), ("unicode/utf8.first", laid_unicode_utf8_first)] }
def FilterDecidesSaid : Prop := filterDecidesRow.holds Tryz.pinned (OpenSpec.ofChange filterDecidesSpec)

/-- ITS FALSE NEIGHBOUR: 'it returns false'. Refute it at one input. -/
def filterDecidesWrong : ChangeSpec := { name := "filterDecides", fn := fun _ => fun
  | [d] => { results := [.lit (.bool false)], args := [d] }
  | _ => none }
def FilterDecidesWrongFalsely : Prop := filterDecidesRow.holds Tryz.pinned (OpenSpec.ofChange filterDecidesWrong)

/-- 'kauditlaw18.FilterContexts': WHATEVER THE INPUT: true; the input reads as it did. -/
def filterContextsSpec : ChangeSpec := { name := "filterContexts", fn := fun _ => fun
  | [d1, d2] => { results := [.lit (.bool true)], args := [d1, d2] }
  | _ => none }
def filterContextsRow : OpenClaim := { program := "ytbgnigjfkbmceaagreatdoor", sum := "94007eb89345e9c3b2c4b29d422507bba098ba17bb362df894efb7709e9bcab0", func := "kaudit/kauditlaw18.FilterContexts", spec := "filterContexts", inPlace := ["internal/bytealg.IndexByteString", "internal/bytealg.IndexString"], unfollowed := true, recurses := true, named := ["unicode/utf8.first", "unicode/utf8.acceptRanges", "internal/bytealg.MaxLen"], apart := false, laid := [("unicode/utf8.acceptRanges", laid_unicode_utf8_acceptRanges), ("unicode/utf8.first", laid_unicode_utf8_first)] }
def FilterContextsSaid : Prop := filterContextsRow.holds Tryz.pinned (OpenSpec.ofChange filterContextsSpec)

/-- ITS FALSE NEIGHBOUR: 'it returns false'. Refute it at one input. -/
def filterContextsWrong : ChangeSpec := { name := "filterContexts", fn := fun _ => fun
  | [d1, d2] => { results := [.lit (.bool false)], args := [d1, d2] }
  | _ => none }
def FilterContextsWrongFalsely : Prop := filterContextsRow.holds Tryz.pinned (OpenSpec.ofChange filterContextsWrong)

/-- 'kauditlaw18.FilterSilent': WHATEVER THE INPUT: true; the input reads as it did. -/
def filterSilentSpec : ChangeSpec := { name := "filterSilent", fn := fun _ => fun
  | [d] => { results := [.lit (.bool true)], args := [d] }
  | _ => none }
def filterSilentRow : OpenClaim := { program := "ytbgnigjfkbmceaagreatdoor", sum := "94007eb89345e9c3b2c4b29d422507bba098ba17bb362df894efb7709e9bcab0", func := "kaudit/kauditlaw18.FilterSilent", spec := "filterSilent", inPlace := ["internal/bytealg.IndexByteString", "internal/bytealg.IndexString"], unfollowed := true, recurses := true, named := ["unicode/utf8.first", "unicode/utf8.acceptRanges", "internal/bytealg.MaxLen"], apart := false, laid := [("unicode/utf8.acceptRanges", laid_unicode_utf8_acceptRanges), ("unicode/utf8.first", laid_unicode_utf8_first)] }
def FilterSilentSaid : Prop := filterSilentRow.holds Tryz.pinned (OpenSpec.ofChange filterSilentSpec)

/-- ITS FALSE NEIGHBOUR: 'it returns false'. Refute it at one input. -/
def filterSilentWrong : ChangeSpec := { name := "filterSilent", fn := fun _ => fun
  | [d] => { results := [.lit (.bool false)], args := [d] }
  | _ => none }
def FilterSilentWrongFalsely : Prop := filterSilentRow.holds Tryz.pinned (OpenSpec.ofChange filterSilentWrong)

/-- 'kauditlaw18.FilterLoads': WHATEVER THE INPUT: true; the input reads as it did. -/
def filterLoadsSpec : ChangeSpec := { name := "filterLoads", fn := fun _ => fun
  | [d] => { results := [.lit (.bool true)], args := [d] }
  | _ => none }
def filterLoadsRow : OpenClaim := { program := "ytbgnigjfkbmceaagreatdoor", sum := "94007eb89345e9c3b2c4b29d422507bba098ba17bb362df894efb7709e9bcab0", func := "kaudit/kauditlaw18.FilterLoads", spec := "filterLoads", inPlace := ["internal/bytealg.IndexByteString", "internal/bytealg.IndexString"], unfollowed := true, recurses := true, named := ["unicode/utf8.first", "unicode/utf8.acceptRanges", "internal/bytealg.MaxLen"], apart := false, laid := [("unicode/utf8.acceptRanges", laid_unicode_utf8_acceptRanges), ("unicode/utf8.first", laid_unicode_utf8_first)] }
def FilterLoadsSaid : Prop := filterLoadsRow.holds Tryz.pinned (OpenSpec.ofChange filterLoadsSpec)

/-- ITS FALSE NEIGHBOUR: 'it returns false'. Refute it at one input. -/
def filterLoadsWrong : ChangeSpec := { name := "filterLoads", fn := fun _ => fun
  | [d] => { results := [.lit (.bool false)], args := [d] }
  | _ => none }
def FilterLoadsWrongFalsely : Prop := filterLoadsRow.holds Tryz.pinned (OpenSpec.ofChange filterLoadsWrong)

/-- 'kauditlaw18.FilterSound': WHATEVER THE INPUT: true; the input reads as it did. -/
def filterSoundSpec : ChangeSpec := { name := "filterSound", fn := fun _ => fun
  | [d] => { results := [.lit (.bool true)], args := [d] }
  | _ => none }
def filterSoundRow : OpenClaim := { program := "ytbgnigjfkbmceaagreatdoor", sum := "94007eb89345e9c3b2c4b29d422507bba098ba17bb362df894efb7709e9bcab0", func := "kaudit/kauditlaw18.FilterSound", spec := "filterSound", inPlace := ["internal/bytealg.IndexByteString", "internal/bytealg.IndexString"], unfollowed := true, recurses := true, named := ["unicode/utf8.first", "unicode/utf8.acceptRanges", "internal/bytealg.MaxLen"], apart := false, laid := [("unicode/utf8.acceptRanges", laid_unicode_utf8_acceptRanges), ("unicode/utf8.first", laid_unicode_utf8_first)] }
def FilterSoundSaid : Prop := filterSoundRow.holds Tryz.pinned (OpenSpec.ofChange filterSoundSpec)

/-- ITS FALSE NEIGHBOUR: 'it returns false'. Refute it at one input. -/
def filterSoundWrong : ChangeSpec := { name := "filterSound", fn := fun _ => fun
  | [d] => { results := [.lit (.bool false)], args := [d] }
  | _ => none }
def FilterSoundWrongFalsely : Prop := filterSoundRow.holds Tryz.pinned (OpenSpec.ofChange filterSoundWrong)

/-- 'kauditlaw18.FilterFollows': WHATEVER THE INPUT: true; the input reads as it did. -/
def filterFollowsSpec : ChangeSpec := { name := "filterFollows", fn := fun _ => fun
  | [d] => { results := [.lit (.bool true)], args := [d] }
  | _ => none }
def filterFollowsRow : OpenClaim := { program := "ytbgnigjfkbmceaagreatdoor", sum := "94007eb89345e9c3b2c4b29d422507bba098ba17bb362df894efb7709e9bcab0", func := "kaudit/kauditlaw18.FilterFollows", spec := "filterFollows", inPlace := ["internal/bytealg.IndexByteString", "internal/bytealg.IndexString"], unfollowed := true, recurses := true, named := ["unicode/utf8.first", "unicode/utf8.acceptRanges", "internal/bytealg.MaxLen"], apart := false, laid := [("unicode/utf8.acceptRanges", laid_unicode_utf8_acceptRanges), ("unicode/utf8.first", laid_unicode_utf8_first)] }
def FilterFollowsSaid : Prop := filterFollowsRow.holds Tryz.pinned (OpenSpec.ofChange filterFollowsSpec)

/-- ITS FALSE NEIGHBOUR: 'it returns false'. Refute it at one input. -/
def filterFollowsWrong : ChangeSpec := { name := "filterFollows", fn := fun _ => fun
  | [d] => { results := [.lit (.bool false)], args := [d] }
  | _ => none }
def FilterFollowsWrongFalsely : Prop := filterFollowsRow.holds Tryz.pinned (OpenSpec.ofChange filterFollowsWrong)

/-- 'kauditlaw18.FilterBehind': WHATEVER THE INPUT: true; the input reads as it did. -/
def filterBehindSpec : ChangeSpec := { name := "filterBehind", fn := fun _ => fun
  | [d] => { results := [.lit (.bool true)], args := [d] }
  | _ => none }
def filterBehindRow : OpenClaim := { program := "ytbgnigjfkbmceaagreatdoor", sum := "94007eb89345e9c3b2c4b29d422507bba098ba17bb362df894efb7709e9bcab0", func := "kaudit/kauditlaw18.FilterBehind", spec := "filterBehind", inPlace := ["internal/bytealg.IndexByteString", "internal/bytealg.IndexString"], unfollowed := true, recurses := true, named := ["unicode/utf8.first", "unicode/utf8.acceptRanges", "internal/bytealg.MaxLen"], apart := false, laid := [("unicode/utf8.acceptRanges", laid_unicode_utf8_acceptRanges), ("unicode/utf8.first", laid_unicode_utf8_first)] }
def FilterBehindSaid : Prop := filterBehindRow.holds Tryz.pinned (OpenSpec.ofChange filterBehindSpec)

/-- ITS FALSE NEIGHBOUR: 'it returns false'. Refute it at one input. -/
def filterBehindWrong : ChangeSpec := { name := "filterBehind", fn := fun _ => fun
  | [d] => { results := [.lit (.bool false)], args := [d] }
  | _ => none }
def FilterBehindWrongFalsely : Prop := filterBehindRow.holds Tryz.pinned (OpenSpec.ofChange filterBehindWrong)

/-- 'kauditlaw18.FilterChanges': WHATEVER THE INPUT: true; the input reads as it did. -/
def filterChangesSpec : ChangeSpec := { name := "filterChanges", fn := fun _ => fun
  | [d] => { results := [.lit (.bool true)], args := [d] }
  | _ => none }
def filterChangesRow : OpenClaim := { program := "ytbgnigjfkbmceaagreatdoor", sum := "94007eb89345e9c3b2c4b29d422507bba098ba17bb362df894efb7709e9bcab0", func := "kaudit/kauditlaw18.FilterChanges", spec := "filterChanges", inPlace := ["internal/bytealg.IndexByteString", "internal/bytealg.IndexString"], unfollowed := true, recurses := true, named := ["unicode/utf8.first", "unicode/utf8.acceptRanges", "internal/bytealg.MaxLen"], apart := false, laid := [("unicode/utf8.acceptRanges", laid_unicode_utf8_acceptRanges), ("unicode/utf8.first", laid_unicode_utf8_first)] }
def FilterChangesSaid : Prop := filterChangesRow.holds Tryz.pinned (OpenSpec.ofChange filterChangesSpec)

/-- ITS FALSE NEIGHBOUR: 'it returns false'. Refute it at one input. -/
def filterChangesWrong : ChangeSpec := { name := "filterChanges", fn := fun _ => fun
  | [d] => { results := [.lit (.bool false)], args := [d] }
  | _ => none }
def FilterChangesWrongFalsely : Prop := filterChangesRow.holds Tryz.pinned (OpenSpec.ofChange filterChangesWrong)

/- THE SECOND FORM. 'bulk': how many values and letters a reading holds, each counted each time it is reached (what is shared counts as often as it is met; a slice's spare places count too). A statement '..UptoSaid' is the law's where the arguments, and the package variables that the reading takes, are together of bulk at most 1048576: NARROWER than '..Said'. Prove '..Said' where nothing that the law and all that it calls make is longer than what came in: it says more and counts as full. Else prove '..UptoSaid'. A law counts once. -/
mutual
def uptoBulk {H : Type} : DataW H → Nat
  | .lit (.string bytes) => bytes.length + 1
  | .lit _ => 1
  | .nil => 1
  | .ptr d => uptoBulk d + 1
  | .slice elems spare => uptoBulkAll elems + uptoBulkAll spare + 1
  | .agg parts => uptoBulkAll parts + 1
  | .iface _ d => uptoBulk d + 1
  | .map entries => uptoBulkEntries entries + 1
  | .held _ => 1
def uptoBulkAll {H : Type} : List (DataW H) → Nat
  | [] => 0
  | d :: r => uptoBulk d + uptoBulkAll r
def uptoBulkEntries {H : Type} : List (Lit × DataW H) → Nat
  | [] => 0
  | x :: r => uptoBulkEntry x + uptoBulkEntries r
def uptoBulkEntry {H : Type} : Lit × DataW H → Nat
  | (.string bytes, d) => bytes.length + uptoBulk d + 1
  | (_, d) => uptoBulk d + 1
 end
def uptoSmall : (H : Type) → List (DataW H) → Bool := fun _ ds => decide (uptoBulkAll ds ≤ 1048576)
def OpenSpec.upto (s : _root_.Go.ChangeSpec) : _root_.Go.OpenSpec := { _root_.Go.OpenSpec.ofChange s with cond := some uptoSmall }

/-- 'kauditlaw14.RulesExecuted', WHERE WHAT IT READS IS OF BULK AT MOST 1048576: true; the input reads as it did. -/
def rulesExecutedUptoRow : OpenClaim := { program := "ytbgnigjfkbmceaagreatdoor", sum := "94007eb89345e9c3b2c4b29d422507bba098ba17bb362df894efb7709e9bcab0", func := "kaudit/kauditlaw14.RulesExecuted", spec := "rulesExecuted", inPlace := ["internal/bytealg.IndexByteString", "internal/bytealg.IndexString"], unfollowed := true, recurses := true, named := ["unicode/utf8.first", "unicode/utf8.acceptRanges", "internal/bytealg.MaxLen"], apart := false, laid := [("unicode/utf8.acceptRanges", laid_unicode_utf8_acceptRanges), ("unicode/utf8.first", laid_unicode_utf8_first)], narrowed := true }
def RulesExecutedUptoSaid : Prop := rulesExecutedUptoRow.holds Tryz.pinned (OpenSpec.upto rulesExecutedSpec)

/-- 'kauditlaw18.FilterDecides', WHERE WHAT IT READS IS OF BULK AT MOST 1048576: true; the input reads as it did. -/
def filterDecidesUptoRow : OpenClaim := { program := "ytbgnigjfkbmceaagreatdoor", sum := "94007eb89345e9c3b2c4b29d422507bba098ba17bb362df894efb7709e9bcab0", func := "kaudit/kauditlaw18.FilterDecides", spec := "filterDecides", inPlace := ["internal/bytealg.IndexByteString", "internal/bytealg.IndexString"], unfollowed := true, recurses := true, named := ["unicode/utf8.first", "unicode/utf8.acceptRanges", "internal/bytealg.MaxLen"], apart := false, laid := [("unicode/utf8.acceptRanges", laid_unicode_utf8_acceptRanges), ("unicode/utf8.first", laid_unicode_utf8_first)], narrowed := true }
def FilterDecidesUptoSaid : Prop := filterDecidesUptoRow.holds Tryz.pinned (OpenSpec.upto filterDecidesSpec)

/-- 'kauditlaw18.FilterContexts', WHERE WHAT IT READS IS OF BULK AT MOST 1048576: true; the input reads as it did. -/
def filterContextsUptoRow : OpenClaim := { program := "ytbgnigjfkbmceaagreatdoor", sum := "94007eb89345e9c3b2c4b29d422507bba098ba17bb362df894efb7709e9bcab0", func := "kaudit/kauditlaw18.FilterContexts", spec := "filterContexts", inPlace := ["internal/bytealg.IndexByteString", "internal/bytealg.IndexString"], unfollowed := true, recurses := true, named := ["unicode/utf8.first", "unicode/utf8.acceptRanges", "internal/bytealg.MaxLen"], apart := false, laid := [("unicode/utf8.acceptRanges", laid_unicode_utf8_acceptRanges), ("unicode/utf8.first", laid_unicode_utf8_first)], narrowed := true }
def FilterContextsUptoSaid : Prop := filterContextsUptoRow.holds Tryz.pinned (OpenSpec.upto filterContextsSpec)

/-- 'kauditlaw18.FilterSilent', WHERE WHAT IT READS IS OF BULK AT MOST 1048576: true; the input reads as it did. -/
def filterSilentUptoRow : OpenClaim := { program := "ytbgnigjfkbmceaagreatdoor", sum := "94007eb89345e9c3b2c4b29d422507bba098ba17bb362df894efb7709e9bcab0", func := "kaudit/kauditlaw18.FilterSilent", spec := "filterSilent", inPlace := ["internal/bytealg.IndexByteString", "internal/bytealg.IndexString"], unfollowed := true, recurses := true, named := ["unicode/utf8.first", "unicode/utf8.acceptRanges", "internal/bytealg.MaxLen"], apart := false, laid := [("unicode/utf8.acceptRanges", laid_unicode_utf8_acceptRanges), ("unicode/utf8.first", laid_unicode_utf8_first)], narrowed := true }
def FilterSilentUptoSaid : Prop := filterSilentUptoRow.holds Tryz.pinned (OpenSpec.upto filterSilentSpec)

/-- 'kauditlaw18.FilterLoads', WHERE WHAT IT READS IS OF BULK AT MOST 1048576: true; the input reads as it did. -/
def filterLoadsUptoRow : OpenClaim := { program := "ytbgnigjfkbmceaagreatdoor", sum := "94007eb89345e9c3b2c4b29d422507bba098ba17bb362df894efb7709e9bcab0", func := "kaudit/kauditlaw18.FilterLoads", spec := "filterLoads", inPlace := ["internal/bytealg.IndexByteString", "internal/bytealg.IndexString"], unfollowed := true, recurses := true, named := ["unicode/utf8.first", "unicode/utf8.acceptRanges", "internal/bytealg.MaxLen"], apart := false, laid := [("unicode/utf8.acceptRanges", laid_unicode_utf8_acceptRanges), ("unicode/utf8.first", laid_unicode_utf8_first)], narrowed := true }
def FilterLoadsUptoSaid : Prop := filterLoadsUptoRow.holds Tryz.pinned (OpenSpec.upto filterLoadsSpec)

/-- 'kauditlaw18.FilterSound', WHERE WHAT IT READS IS OF BULK AT MOST 1048576: true; the input reads as it did. -/
def filterSoundUptoRow : OpenClaim := { program := "ytbgnigjfkbmceaagreatdoor", sum := "94007eb89345e9c3b2c4b29d422507bba098ba17bb362df894efb7709e9bcab0", func := "kaudit/kauditlaw18.FilterSound", spec := "filterSound", inPlace := ["internal/bytealg.IndexByteString", "internal/bytealg.IndexString"], unfollowed := true, recurses := true, named := ["unicode/utf8.first", "unicode/utf8.acceptRanges", "internal/bytealg.MaxLen"], apart := false, laid := [("unicode/utf8.acceptRanges", laid_unicode_utf8_acceptRanges), ("unicode/utf8.first", laid_unicode_utf8_first)], narrowed := true }
def FilterSoundUptoSaid : Prop := filterSoundUptoRow.holds Tryz.pinned (OpenSpec.upto filterSoundSpec)

/-- 'kauditlaw18.FilterFollows', WHERE WHAT IT READS IS OF BULK AT MOST 1048576: true; the input reads as it did. -/
def filterFollowsUptoRow : OpenClaim := { program := "ytbgnigjfkbmceaagreatdoor", sum := "94007eb89345e9c3b2c4b29d422507bba098ba17bb362df894efb7709e9bcab0", func := "kaudit/kauditlaw18.FilterFollows", spec := "filterFollows", inPlace := ["internal/bytealg.IndexByteString", "internal/bytealg.IndexString"], unfollowed := true, recurses := true, named := ["unicode/utf8.first", "unicode/utf8.acceptRanges", "internal/bytealg.MaxLen"], apart := false, laid := [("unicode/utf8.acceptRanges", laid_unicode_utf8_acceptRanges), ("unicode/utf8.first", laid_unicode_utf8_first)], narrowed := true }
def FilterFollowsUptoSaid : Prop := filterFollowsUptoRow.holds Tryz.pinned (OpenSpec.upto filterFollowsSpec)

/-- 'kauditlaw18.FilterBehind', WHERE WHAT IT READS IS OF BULK AT MOST 1048576: true; the input reads as it did. -/
def filterBehindUptoRow : OpenClaim := { program := "ytbgnigjfkbmceaagreatdoor", sum := "94007eb89345e9c3b2c4b29d422507bba098ba17bb362df894efb7709e9bcab0", func := "kaudit/kauditlaw18.FilterBehind", spec := "filterBehind", inPlace := ["internal/bytealg.IndexByteString", "internal/bytealg.IndexString"], unfollowed := true, recurses := true, named := ["unicode/utf8.first", "unicode/utf8.acceptRanges", "internal/bytealg.MaxLen"], apart := false, laid := [("unicode/utf8.acceptRanges", laid_unicode_utf8_acceptRanges), ("unicode/utf8.first", laid_unicode_utf8_first)], narrowed := true }
def FilterBehindUptoSaid : Prop := filterBehindUptoRow.holds Tryz.pinned (OpenSpec.upto filterBehindSpec)

/-- 'kauditlaw18.FilterChanges', WHERE WHAT IT READS IS OF BULK AT MOST 1048576: true; the input reads as it did. -/
def filterChangesUptoRow : OpenClaim := { program := "ytbgnigjfkbmceaagreatdoor", sum := "94007eb89345e9c3b2c4b29d422507bba098ba17bb362df894efb7709e9bcab0", func := "kaudit/kauditlaw18.FilterChanges", spec := "filterChanges", inPlace := ["internal/bytealg.IndexByteString", "internal/bytealg.IndexString"], unfollowed := true, recurses := true, named := ["unicode/utf8.first", "unicode/utf8.acceptRanges", "internal/bytealg.MaxLen"], apart := false, laid := [("unicode/utf8.acceptRanges", laid_unicode_utf8_acceptRanges), ("unicode/utf8.first", laid_unicode_utf8_first)], narrowed := true }
def FilterChangesUptoSaid : Prop := filterChangesUptoRow.holds Tryz.pinned (OpenSpec.upto filterChangesSpec)

end Rows
end Go.Proofs.YtbgnigjfkbmceaaGreatDoor
