/-
  NARROWER THAN 'FOR EVERY INPUT', by the rows' own cells (each row's printed sentence says how): WatchPlaces: laid · WatchCurrent: laid · WatchHits: laid · WatchChanges: laid · WatchFollows: laid · WatchReplaced: laid · WatchTrees: laid · WatchNames: laid.
  DERIVED. THE GIVEN ROWS OF THIS SEAT. 8 by the template 'for every input the law returns true; each argument reads behind the call as it read before'; 0 by the template 'total and deterministic' (their statements: YtbglbmnhgbgelaaGreatDoorTotals.lean).
  GIVEN WITH THE SEED: the statements are not yours to turn. If you find one false, say at which input.
  Laid BY PROGRAM, IN A SANDBOX (cutbox-rows.mjs): the forced cells as the released guide's own fill.sh prints them over the translation ddb582eef46e8baf… (all of the seat's roots in one cut). By AI agents, Wed Nov 11 2026. No macro, syntax, notation, axiom, sorry.
-/
import Derived.Test.YtbglbmnhgbgelaaGreatDoorChecked
import GoSem.PinnedTables
import GoSem.Claim
import GoSem.ClaimJoined
import GoSem.ClaimMapViews
import Derived.JoinedTies
import Derived.KernelRfl
namespace Go.Proofs.YtbglbmnhgbgelaaGreatDoor
/- THE CELL 'sum', in the pinned program and in every row, IS THE sha256 OF THE DUMP (.gsa) THAT YtbglbmnhgbgelaaGreatDoorProg.lean LOADS. Nothing in Lean hashes anything: it is a label: what it is worth is what the hold of that sum in a sandbox is worth. -/
noncomputable def Tryz.pinned : Pinned := { name := "ytbglbmnhgbgelaagreatdoor", sum := "ddb582eef46e8baf371a32ac1ca123f5decba1ecde80ff8eb1c4249dba25db64", checked := Tryz.checked }
namespace Rows
def none {H : Type} : Left H := { results := [], args := [] }

/- WHAT THE LISTED PACKAGE-LEVEL VARIABLES READ AS WHEN THE CALL BEGINS. Each datum BY PROGRAM (the guide's laid-datum.mjs) off the statement by which the dump's own 'gosem.cut.vars' lays the variable. In a bare row this is a premise. The card (YtbglbmnhgbgelaaGreatDoorCards.lean) ties it to the program's text. -/
def laid_unicode_utf8_acceptRanges {H : Type} : DataW H := .agg [.agg [.lit (.int .u8 128), .lit (.int .u8 191)], .agg [.lit (.int .u8 160), .lit (.int .u8 191)], .agg [.lit (.int .u8 128), .lit (.int .u8 159)], .agg [.lit (.int .u8 144), .lit (.int .u8 191)], .agg [.lit (.int .u8 128), .lit (.int .u8 143)], .agg [.lit (.int .u8 0), .lit (.int .u8 0)], .agg [.lit (.int .u8 0), .lit (.int .u8 0)], .agg [.lit (.int .u8 0), .lit (.int .u8 0)], .agg [.lit (.int .u8 0), .lit (.int .u8 0)], .agg [.lit (.int .u8 0), .lit (.int .u8 0)], .agg [.lit (.int .u8 0), .lit (.int .u8 0)], .agg [.lit (.int .u8 0), .lit (.int .u8 0)], .agg [.lit (.int .u8 0), .lit (.int .u8 0)], .agg [.lit (.int .u8 0), .lit (.int .u8 0)], .agg [.lit (.int .u8 0), .lit (.int .u8 0)], .agg [.lit (.int .u8 0), .lit (.int .u8 0)]]
/-- One of Go's own tables, pinned by name: the form's constant. -/
def laid_unicode_utf8_first : DataW Unit := Go.Pinned.utf8First

/-- 'kauditlaw17.WatchPlaces': WHATEVER THE INPUT: true; the input reads as it did. -/
def watchPlacesSpec : ChangeSpec := { name := "watchPlaces", fn := fun _ => fun
  | [d1, d2, d3] => { results := [.lit (.bool true)], args := [d1, d2, d3] }
  | _ => none }
def watchPlacesRow : OpenClaim := { program := "ytbglbmnhgbgelaagreatdoor", sum := "ddb582eef46e8baf371a32ac1ca123f5decba1ecde80ff8eb1c4249dba25db64", func := "kaudit/kauditlaw17.WatchPlaces", spec := "watchPlaces", inPlace := ["internal/bytealg.IndexByteString", "internal/bytealg.IndexString"], unfollowed := true, recurses := true, named := ["unicode/utf8.first", "unicode/utf8.acceptRanges", "internal/bytealg.MaxLen"], apart := false, laid := [("unicode/utf8.acceptRanges", laid_unicode_utf8_acceptRanges), ("unicode/utf8.first", laid_unicode_utf8_first)] }
def WatchPlacesSaid : Prop := watchPlacesRow.holds Tryz.pinned (OpenSpec.ofChange watchPlacesSpec)

/-- ITS FALSE NEIGHBOUR: 'it returns false'. Refute it at one input. -/
def watchPlacesWrong : ChangeSpec := { name := "watchPlaces", fn := fun _ => fun
  | [d1, d2, d3] => { results := [.lit (.bool false)], args := [d1, d2, d3] }
  | _ => none }
def WatchPlacesWrongFalsely : Prop := watchPlacesRow.holds Tryz.pinned (OpenSpec.ofChange watchPlacesWrong)

/-- 'kauditlaw17.WatchCurrent': WHATEVER THE INPUT: true; the input reads as it did. -/
def watchCurrentSpec : ChangeSpec := { name := "watchCurrent", fn := fun _ => fun
  | [d1, d2] => { results := [.lit (.bool true)], args := [d1, d2] }
  | _ => none }
def watchCurrentRow : OpenClaim := { program := "ytbglbmnhgbgelaagreatdoor", sum := "ddb582eef46e8baf371a32ac1ca123f5decba1ecde80ff8eb1c4249dba25db64", func := "kaudit/kauditlaw17.WatchCurrent", spec := "watchCurrent", inPlace := ["internal/bytealg.IndexByteString", "internal/bytealg.IndexString"], unfollowed := true, recurses := true, named := ["unicode/utf8.first", "unicode/utf8.acceptRanges", "internal/bytealg.MaxLen"], apart := false, laid := [("unicode/utf8.acceptRanges", laid_unicode_utf8_acceptRanges), ("unicode/utf8.first", laid_unicode_utf8_first)] }
def WatchCurrentSaid : Prop := watchCurrentRow.holds Tryz.pinned (OpenSpec.ofChange watchCurrentSpec)

/-- ITS FALSE NEIGHBOUR: 'it returns false'. Refute it at one input. -/
def watchCurrentWrong : ChangeSpec := { name := "watchCurrent", fn := fun _ => fun
  | [d1, d2] => { results := [.lit (.bool false)], args := [d1, d2] }
  | _ => none }
def WatchCurrentWrongFalsely : Prop := watchCurrentRow.holds Tryz.pinned (OpenSpec.ofChange watchCurrentWrong)

/-- 'kauditlaw17.WatchHits': WHATEVER THE INPUT: true; the input reads as it did. -/
def watchHitsSpec : ChangeSpec := { name := "watchHits", fn := fun _ => fun
  | [d1, d2, d3] => { results := [.lit (.bool true)], args := [d1, d2, d3] }
  | _ => none }
def watchHitsRow : OpenClaim := { program := "ytbglbmnhgbgelaagreatdoor", sum := "ddb582eef46e8baf371a32ac1ca123f5decba1ecde80ff8eb1c4249dba25db64", func := "kaudit/kauditlaw17.WatchHits", spec := "watchHits", inPlace := ["internal/bytealg.IndexByteString", "internal/bytealg.IndexString"], unfollowed := true, recurses := true, named := ["unicode/utf8.first", "unicode/utf8.acceptRanges", "internal/bytealg.MaxLen"], apart := false, laid := [("unicode/utf8.acceptRanges", laid_unicode_utf8_acceptRanges), ("unicode/utf8.first", laid_unicode_utf8_first)] }
def WatchHitsSaid : Prop := watchHitsRow.holds Tryz.pinned (OpenSpec.ofChange watchHitsSpec)

/-- ITS FALSE NEIGHBOUR: 'it returns false'. Refute it at one input. -/
def watchHitsWrong : ChangeSpec := { name := "watchHits", fn := fun _ => fun
  | [d1, d2, d3] => { results := [.lit (.bool false)], args := [d1, d2, d3] }
  | _ => none }
def WatchHitsWrongFalsely : Prop := watchHitsRow.holds Tryz.pinned (OpenSpec.ofChange watchHitsWrong)

/-- 'kauditlaw17.WatchChanges': WHATEVER THE INPUT: true; the input reads as it did. -/
def watchChangesSpec : ChangeSpec := { name := "watchChanges", fn := fun _ => fun
  | [d1, d2, d3] => { results := [.lit (.bool true)], args := [d1, d2, d3] }
  | _ => none }
def watchChangesRow : OpenClaim := { program := "ytbglbmnhgbgelaagreatdoor", sum := "ddb582eef46e8baf371a32ac1ca123f5decba1ecde80ff8eb1c4249dba25db64", func := "kaudit/kauditlaw17.WatchChanges", spec := "watchChanges", inPlace := ["internal/bytealg.IndexByteString", "internal/bytealg.IndexString"], unfollowed := true, recurses := true, named := ["unicode/utf8.first", "unicode/utf8.acceptRanges", "internal/bytealg.MaxLen"], apart := false, laid := [("unicode/utf8.acceptRanges", laid_unicode_utf8_acceptRanges), ("unicode/utf8.first", laid_unicode_utf8_first)] }
def WatchChangesSaid : Prop := watchChangesRow.holds Tryz.pinned (OpenSpec.ofChange watchChangesSpec)

/-- ITS FALSE NEIGHBOUR: 'it returns false'. Refute it at one input. -/
def watchChangesWrong : ChangeSpec := { name := "watchChanges", fn := fun _ => fun
  | [d1, d2, d3] => { results := [.lit (.bool false)], args := [d1, d2, d3] }
  | _ => none }
def WatchChangesWrongFalsely : Prop := watchChangesRow.holds Tryz.pinned (OpenSpec.ofChange watchChangesWrong)

/-- 'kauditlaw17.WatchFollows': WHATEVER THE INPUT: true; the input reads as it did. -/
def watchFollowsSpec : ChangeSpec := { name := "watchFollows", fn := fun _ => fun
  | [d] => { results := [.lit (.bool true)], args := [d] }
  | _ => none }
def watchFollowsRow : OpenClaim := { program := "ytbglbmnhgbgelaagreatdoor", sum := "ddb582eef46e8baf371a32ac1ca123f5decba1ecde80ff8eb1c4249dba25db64", func := "kaudit/kauditlaw17.WatchFollows", spec := "watchFollows", inPlace := ["internal/bytealg.IndexByteString", "internal/bytealg.IndexString"], unfollowed := true, recurses := true, named := ["unicode/utf8.first", "unicode/utf8.acceptRanges", "internal/bytealg.MaxLen"], apart := false, laid := [("unicode/utf8.acceptRanges", laid_unicode_utf8_acceptRanges), ("unicode/utf8.first", laid_unicode_utf8_first)] }
def WatchFollowsSaid : Prop := watchFollowsRow.holds Tryz.pinned (OpenSpec.ofChange watchFollowsSpec)

/-- ITS FALSE NEIGHBOUR: 'it returns false'. Refute it at one input. -/
def watchFollowsWrong : ChangeSpec := { name := "watchFollows", fn := fun _ => fun
  | [d] => { results := [.lit (.bool false)], args := [d] }
  | _ => none }
def WatchFollowsWrongFalsely : Prop := watchFollowsRow.holds Tryz.pinned (OpenSpec.ofChange watchFollowsWrong)

/-- 'kauditlaw17.WatchReplaced': WHATEVER THE INPUT: true; the input reads as it did. -/
def watchReplacedSpec : ChangeSpec := { name := "watchReplaced", fn := fun _ => fun
  | [d] => { results := [.lit (.bool true)], args := [d] }
  | _ => none }
def watchReplacedRow : OpenClaim := { program := "ytbglbmnhgbgelaagreatdoor", sum := "ddb582eef46e8baf371a32ac1ca123f5decba1ecde80ff8eb1c4249dba25db64", func := "kaudit/kauditlaw17.WatchReplaced", spec := "watchReplaced", inPlace := ["internal/bytealg.IndexByteString", "internal/bytealg.IndexString"], unfollowed := true, recurses := true, named := ["unicode/utf8.first", "unicode/utf8.acceptRanges", "internal/bytealg.MaxLen"], apart := false, laid := [("unicode/utf8.acceptRanges", laid_unicode_utf8_acceptRanges), ("unicode/utf8.first", laid_unicode_utf8_first)] }
def WatchReplacedSaid : Prop := watchReplacedRow.holds Tryz.pinned (OpenSpec.ofChange watchReplacedSpec)

/-- ITS FALSE NEIGHBOUR: 'it returns false'. Refute it at one input. -/
def watchReplacedWrong : ChangeSpec := { name := "watchReplaced", fn := fun _ => fun
  | [d] => { results := [.lit (.bool false)], args := [d] }
  | _ => none }
def WatchReplacedWrongFalsely : Prop := watchReplacedRow.holds Tryz.pinned (OpenSpec.ofChange watchReplacedWrong)

/-- 'kauditlaw17.WatchTrees': WHATEVER THE INPUT: true; the input reads as it did. -/
def watchTreesSpec : ChangeSpec := { name := "watchTrees", fn := fun _ => fun
  | [d] => { results := [.lit (.bool true)], args := [d] }
  | _ => none }
def watchTreesRow : OpenClaim := { program := "ytbglbmnhgbgelaagreatdoor", sum := "ddb582eef46e8baf371a32ac1ca123f5decba1ecde80ff8eb1c4249dba25db64", func := "kaudit/kauditlaw17.WatchTrees", spec := "watchTrees", inPlace := ["internal/bytealg.IndexByteString", "internal/bytealg.IndexString"], unfollowed := true, recurses := true, named := ["unicode/utf8.first", "unicode/utf8.acceptRanges", "internal/bytealg.MaxLen"], apart := false, laid := [("unicode/utf8.acceptRanges", laid_unicode_utf8_acceptRanges), ("unicode/utf8.first", laid_unicode_utf8_first)] }
def WatchTreesSaid : Prop := watchTreesRow.holds Tryz.pinned (OpenSpec.ofChange watchTreesSpec)

/-- ITS FALSE NEIGHBOUR: 'it returns false'. Refute it at one input. -/
def watchTreesWrong : ChangeSpec := { name := "watchTrees", fn := fun _ => fun
  | [d] => { results := [.lit (.bool false)], args := [d] }
  | _ => none }
def WatchTreesWrongFalsely : Prop := watchTreesRow.holds Tryz.pinned (OpenSpec.ofChange watchTreesWrong)

/-- 'kauditlaw17.WatchNames': WHATEVER THE INPUT: true; the input reads as it did. -/
def watchNamesSpec : ChangeSpec := { name := "watchNames", fn := fun _ => fun
  | [d1, d2] => { results := [.lit (.bool true)], args := [d1, d2] }
  | _ => none }
def watchNamesRow : OpenClaim := { program := "ytbglbmnhgbgelaagreatdoor", sum := "ddb582eef46e8baf371a32ac1ca123f5decba1ecde80ff8eb1c4249dba25db64", func := "kaudit/kauditlaw17.WatchNames", spec := "watchNames", inPlace := ["internal/bytealg.IndexByteString", "internal/bytealg.IndexString"], unfollowed := true, recurses := true, named := ["unicode/utf8.first", "unicode/utf8.acceptRanges", "internal/bytealg.MaxLen"], apart := false, laid := [("unicode/utf8.acceptRanges", laid_unicode_utf8_acceptRanges), ("unicode/utf8.first", laid_unicode_utf8_first)] }
def WatchNamesSaid : Prop := watchNamesRow.holds Tryz.pinned (OpenSpec.ofChange watchNamesSpec)

/-- ITS FALSE NEIGHBOUR: 'it returns false'. Refute it at one input. -/
def watchNamesWrong : ChangeSpec := { name := "watchNames", fn := fun _ => fun
  | [d1, d2] => { results := [.lit (.bool false)], args := [d1, d2] }
  | _ => none }
def WatchNamesWrongFalsely : Prop := watchNamesRow.holds Tryz.pinned (OpenSpec.ofChange watchNamesWrong)

/- THE SECOND FORM. 'bulk': how many values and letters a reading holds, each counted each time it is reached (what is shared counts as often as it is met; a slice's spare places count too). A statement '..UptoSaid' is the law's where the arguments, and the package variables that the reading takes, are together of bulk at most 1048576: NARROWER than '..Said'. Prove '..Said' where nothing that the law and all that it calls make is longer than what came in: it says more and counts as full. Else prove '..UptoSaid'. A law counts once. -/
mutual
def uptoBulk {H : Type} : DataW H → Nat
  | .lit (.string bytes) => bytes.length + 1
  | .lit _ => 1
  | .nil => 1
  | .ptr d => uptoBulk d + 1
  | .slice elems spare => uptoBulkAll elems + uptoBulkAll spare + 1
  | .agg parts => uptoBulkAll parts + 1
  | .iface _ d => uptoBulk d + 1
  | .map entries => uptoBulkEntries entries + 1
  | .held _ => 1
def uptoBulkAll {H : Type} : List (DataW H) → Nat
  | [] => 0
  | d :: r => uptoBulk d + uptoBulkAll r
def uptoBulkEntries {H : Type} : List (Lit × DataW H) → Nat
  | [] => 0
  | x :: r => uptoBulkEntry x + uptoBulkEntries r
def uptoBulkEntry {H : Type} : Lit × DataW H → Nat
  | (.string bytes, d) => bytes.length + uptoBulk d + 1
  | (_, d) => uptoBulk d + 1
 end
def uptoSmall : (H : Type) → List (DataW H) → Bool := fun _ ds => decide (uptoBulkAll ds ≤ 1048576)
def OpenSpec.upto (s : _root_.Go.ChangeSpec) : _root_.Go.OpenSpec := { _root_.Go.OpenSpec.ofChange s with cond := some uptoSmall }

/-- 'kauditlaw17.WatchPlaces', WHERE WHAT IT READS IS OF BULK AT MOST 1048576: true; the input reads as it did. -/
def watchPlacesUptoRow : OpenClaim := { program := "ytbglbmnhgbgelaagreatdoor", sum := "ddb582eef46e8baf371a32ac1ca123f5decba1ecde80ff8eb1c4249dba25db64", func := "kaudit/kauditlaw17.WatchPlaces", spec := "watchPlaces", inPlace := ["internal/bytealg.IndexByteString", "internal/bytealg.IndexString"], unfollowed := true, recurses := true, named := ["unicode/utf8.first", "unicode/utf8.acceptRanges", "internal/bytealg.MaxLen"], apart := false, laid := [("unicode/utf8.acceptRanges", laid_unicode_utf8_acceptRanges), ("unicode/utf8.first", laid_unicode_utf8_first)], narrowed := true }
def WatchPlacesUptoSaid : Prop := watchPlacesUptoRow.holds Tryz.pinned (OpenSpec.upto watchPlacesSpec)

/-- 'kauditlaw17.WatchCurrent', WHERE WHAT IT READS IS OF BULK AT MOST 1048576: true; the input reads as it did. -/
def watchCurrentUptoRow : OpenClaim := { program := "ytbglbmnhgbgelaagreatdoor", sum := "ddb582eef46e8baf371a32ac1ca123f5decba1ecde80ff8eb1c4249dba25db64", func := "kaudit/kauditlaw17.WatchCurrent", spec := "watchCurrent", inPlace := ["internal/bytealg.IndexByteString", "internal/bytealg.IndexString"], unfollowed := true, recurses := true, named := ["unicode/utf8.first", "unicode/utf8.acceptRanges", "internal/bytealg.MaxLen"], apart := false, laid := [("unicode/utf8.acceptRanges", laid_unicode_utf8_acceptRanges), ("unicode/utf8.first", laid_unicode_utf8_first)], narrowed := true }
def WatchCurrentUptoSaid : Prop := watchCurrentUptoRow.holds Tryz.pinned (OpenSpec.upto watchCurrentSpec)

/-- 'kauditlaw17.WatchHits', WHERE WHAT IT READS IS OF BULK AT MOST 1048576: true; the input reads as it did. -/
def watchHitsUptoRow : OpenClaim := { program := "ytbglbmnhgbgelaagreatdoor", sum := "ddb582eef46e8baf371a32ac1ca123f5decba1ecde80ff8eb1c4249dba25db64", func := "kaudit/kauditlaw17.WatchHits", spec := "watchHits", inPlace := ["internal/bytealg.IndexByteString", "internal/bytealg.IndexString"], unfollowed := true, recurses := true, named := ["unicode/utf8.first", "unicode/utf8.acceptRanges", "internal/bytealg.MaxLen"], apart := false, laid := [("unicode/utf8.acceptRanges", laid_unicode_utf8_acceptRanges), ("unicode/utf8.first", laid_unicode_utf8_first)], narrowed := true }
def WatchHitsUptoSaid : Prop := watchHitsUptoRow.holds Tryz.pinned (OpenSpec.upto watchHitsSpec)

/-- 'kauditlaw17.WatchChanges', WHERE WHAT IT READS IS OF BULK AT MOST 1048576: true; the input reads as it did. -/
def watchChangesUptoRow : OpenClaim := { program := "ytbglbmnhgbgelaagreatdoor", sum := "ddb582eef46e8baf371a32ac1ca123f5decba1ecde80ff8eb1c4249dba25db64", func := "kaudit/kauditlaw17.WatchChanges", spec := "watchChanges", inPlace := ["internal/bytealg.IndexByteString", "internal/bytealg.IndexString"], unfollowed := true, recurses := true, named := ["unicode/utf8.first", "unicode/utf8.acceptRanges", "internal/bytealg.MaxLen"], apart := false, laid := [("unicode/utf8.acceptRanges", laid_unicode_utf8_acceptRanges), ("unicode/utf8.first", laid_unicode_utf8_first)], narrowed := true }
def WatchChangesUptoSaid : Prop := watchChangesUptoRow.holds Tryz.pinned (OpenSpec.upto watchChangesSpec)

/-- 'kauditlaw17.WatchFollows', WHERE WHAT IT READS IS OF BULK AT MOST 1048576: true; the input reads as it did. -/
def watchFollowsUptoRow : OpenClaim := { program := "ytbglbmnhgbgelaagreatdoor", sum := "ddb582eef46e8baf371a32ac1ca123f5decba1ecde80ff8eb1c4249dba25db64", func := "kaudit/kauditlaw17.WatchFollows", spec := "watchFollows", inPlace := ["internal/bytealg.IndexByteString", "internal/bytealg.IndexString"], unfollowed := true, recurses := true, named := ["unicode/utf8.first", "unicode/utf8.acceptRanges", "internal/bytealg.MaxLen"], apart := false, laid := [("unicode/utf8.acceptRanges", laid_unicode_utf8_acceptRanges), ("unicode/utf8.first", laid_unicode_utf8_first)], narrowed := true }
def WatchFollowsUptoSaid : Prop := watchFollowsUptoRow.holds Tryz.pinned (OpenSpec.upto watchFollowsSpec)

/-- 'kauditlaw17.WatchReplaced', WHERE WHAT IT READS IS OF BULK AT MOST 1048576: true; the input reads as it did. -/
def watchReplacedUptoRow : OpenClaim := { program := "ytbglbmnhgbgelaagreatdoor", sum := "ddb582eef46e8baf371a32ac1ca123f5decba1ecde80ff8eb1c4249dba25db64", func := "kaudit/kauditlaw17.WatchReplaced", spec := "watchReplaced", inPlace := ["internal/bytealg.IndexByteString", "internal/bytealg.IndexString"], unfollowed := true, recurses := true, named := ["unicode/utf8.first", "unicode/utf8.acceptRanges", "internal/bytealg.MaxLen"], apart := false, laid := [("unicode/utf8.acceptRanges", laid_unicode_utf8_acceptRanges), ("unicode/utf8.first", laid_unicode_utf8_first)], narrowed := true }
def WatchReplacedUptoSaid : Prop := watchReplacedUptoRow.holds Tryz.pinned (OpenSpec.upto watchReplacedSpec)

/-- 'kauditlaw17.WatchTrees', WHERE WHAT IT READS IS OF BULK AT MOST 1048576: true; the input reads as it did. -/
def watchTreesUptoRow : OpenClaim := { program := "ytbglbmnhgbgelaagreatdoor", sum := "ddb582eef46e8baf371a32ac1ca123f5decba1ecde80ff8eb1c4249dba25db64", func := "kaudit/kauditlaw17.WatchTrees", spec := "watchTrees", inPlace := ["internal/bytealg.IndexByteString", "internal/bytealg.IndexString"], unfollowed := true, recurses := true, named := ["unicode/utf8.first", "unicode/utf8.acceptRanges", "internal/bytealg.MaxLen"], apart := false, laid := [("unicode/utf8.acceptRanges", laid_unicode_utf8_acceptRanges), ("unicode/utf8.first", laid_unicode_utf8_first)], narrowed := true }
def WatchTreesUptoSaid : Prop := watchTreesUptoRow.holds Tryz.pinned (OpenSpec.upto watchTreesSpec)

/-- 'kauditlaw17.WatchNames', WHERE WHAT IT READS IS OF BULK AT MOST 1048576: true; the input reads as it did. -/
def watchNamesUptoRow : OpenClaim := { program := "ytbglbmnhgbgelaagreatdoor", sum := "ddb582eef46e8baf371a32ac1ca123f5decba1ecde80ff8eb1c4249dba25db64", func := "kaudit/kauditlaw17.WatchNames", spec := "watchNames", inPlace := ["internal/bytealg.IndexByteString", "internal/bytealg.IndexString"], unfollowed := true, recurses := true, named := ["unicode/utf8.first", "unicode/utf8.acceptRanges", "internal/bytealg.MaxLen"], apart := false, laid := [("unicode/utf8.acceptRanges", laid_unicode_utf8_acceptRanges), ("unicode/utf8.first", laid_unicode_utf8_first)], narrowed := true }
def WatchNamesUptoSaid : Prop := watchNamesUptoRow.holds Tryz.pinned (OpenSpec.upto watchNamesSpec)

end Rows
end Go.Proofs.YtbglbmnhgbgelaaGreatDoor
