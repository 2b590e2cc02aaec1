/-
  No cell of these rows narrows 'for every input' (looked for: loops, veiled, ifaces, maps, wideKeys, modest, calm, conditions, laid).
  DERIVED. THE GIVEN ROWS OF THIS SEAT. 12 by the template 'for every input the law returns true; each argument reads behind the call as it read before'; 0 by the template 'total and deterministic' (their statements: YthcbdkmhamhciaaTotals.lean).
  GIVEN WITH THE SEED: the statements are not yours to turn. If you find one false, say at which input.
  Laid BY PROGRAM, IN A SANDBOX (cutbox-rows.mjs): the forced cells as the released guide's own fill.sh prints them over the translation 8f1de487f551ba21… (all of the seat's roots in one cut). By AI agents, Wed Nov 11 2026. No macro, syntax, notation, axiom, sorry.
-/
import Derived.Test.YthcbdkmhamhciaaChecked
import GoSem.Claim
import GoSem.ClaimJoined
import GoSem.ClaimMapViews
import Derived.JoinedTies
import Derived.KernelRfl
namespace Go.Proofs.Ythcbdkmhamhciaa
/- THE CELL 'sum', in the pinned program and in every row, IS THE sha256 OF THE DUMP (.gsa) THAT YthcbdkmhamhciaaProg.lean LOADS. Nothing in Lean hashes anything: it is a label: what it is worth is what the hold of that sum in a sandbox is worth. -/
noncomputable def Try.pinned : Pinned := { name := "ythcbdkmhamhciaa", sum := "8f1de487f551ba210abd14fce0b0135e8c834b1a1f123439f3363b228f203a41", checked := Try.checked }
namespace Rows
def none {H : Type} : Left H := { results := [], args := [] }

/-- 'kauditlaw05.FilesNews': WHATEVER THE INPUT: true; the input reads as it did. -/
def filesNewsSpec : ChangeSpec := { name := "filesNews", fn := fun _ => fun
  | [d] => { results := [.lit (.bool true)], args := [d] }
  | _ => none }
def filesNewsRow : OpenClaim := { program := "ythcbdkmhamhciaa", sum := "8f1de487f551ba210abd14fce0b0135e8c834b1a1f123439f3363b228f203a41", func := "kaudit/kauditlaw05.FilesNews", spec := "filesNews", inPlace := ["internal/bytealg.IndexByteString", "internal/bytealg.IndexString", "slices.overlaps[kaudit/api.Entry]"], unfollowed := true, recurses := true, named := ["internal/bytealg.MaxLen"], apart := false }
def FilesNewsSaid : Prop := filesNewsRow.holds Try.pinned (OpenSpec.ofChange filesNewsSpec)

/-- ITS FALSE NEIGHBOUR: 'it returns false'. Refute it at one input. -/
def filesNewsWrong : ChangeSpec := { name := "filesNews", fn := fun _ => fun
  | [d] => { results := [.lit (.bool false)], args := [d] }
  | _ => none }
def FilesNewsWrongFalsely : Prop := filesNewsRow.holds Try.pinned (OpenSpec.ofChange filesNewsWrong)

/-- 'kauditlaw05.FilesMakes': WHATEVER THE INPUT: true; the input reads as it did. -/
def filesMakesSpec : ChangeSpec := { name := "filesMakes", fn := fun _ => fun
  | [d1, d2] => { results := [.lit (.bool true)], args := [d1, d2] }
  | _ => none }
def filesMakesRow : OpenClaim := { program := "ythcbdkmhamhciaa", sum := "8f1de487f551ba210abd14fce0b0135e8c834b1a1f123439f3363b228f203a41", func := "kaudit/kauditlaw05.FilesMakes", spec := "filesMakes", inPlace := ["internal/bytealg.IndexByteString", "internal/bytealg.IndexString", "slices.overlaps[kaudit/api.Entry]"], unfollowed := true, recurses := true, named := ["internal/bytealg.MaxLen"], apart := false }
def FilesMakesSaid : Prop := filesMakesRow.holds Try.pinned (OpenSpec.ofChange filesMakesSpec)

/-- ITS FALSE NEIGHBOUR: 'it returns false'. Refute it at one input. -/
def filesMakesWrong : ChangeSpec := { name := "filesMakes", fn := fun _ => fun
  | [d1, d2] => { results := [.lit (.bool false)], args := [d1, d2] }
  | _ => none }
def FilesMakesWrongFalsely : Prop := filesMakesRow.holds Try.pinned (OpenSpec.ofChange filesMakesWrong)

/-- 'kauditlaw05.FilesLinks': WHATEVER THE INPUT: true; the input reads as it did. -/
def filesLinksSpec : ChangeSpec := { name := "filesLinks", fn := fun _ => fun
  | [d] => { results := [.lit (.bool true)], args := [d] }
  | _ => none }
def filesLinksRow : OpenClaim := { program := "ythcbdkmhamhciaa", sum := "8f1de487f551ba210abd14fce0b0135e8c834b1a1f123439f3363b228f203a41", func := "kaudit/kauditlaw05.FilesLinks", spec := "filesLinks", inPlace := ["internal/bytealg.IndexByteString", "internal/bytealg.IndexString", "slices.overlaps[kaudit/api.Entry]"], unfollowed := true, recurses := true, named := ["internal/bytealg.MaxLen"], apart := false }
def FilesLinksSaid : Prop := filesLinksRow.holds Try.pinned (OpenSpec.ofChange filesLinksSpec)

/-- ITS FALSE NEIGHBOUR: 'it returns false'. Refute it at one input. -/
def filesLinksWrong : ChangeSpec := { name := "filesLinks", fn := fun _ => fun
  | [d] => { results := [.lit (.bool false)], args := [d] }
  | _ => none }
def FilesLinksWrongFalsely : Prop := filesLinksRow.holds Try.pinned (OpenSpec.ofChange filesLinksWrong)

/-- 'kauditlaw05.FilesSets': WHATEVER THE INPUT: true; the input reads as it did. -/
def filesSetsSpec : ChangeSpec := { name := "filesSets", fn := fun _ => fun
  | [d1, d2, d3, d4] => { results := [.lit (.bool true)], args := [d1, d2, d3, d4] }
  | _ => none }
def filesSetsRow : OpenClaim := { program := "ythcbdkmhamhciaa", sum := "8f1de487f551ba210abd14fce0b0135e8c834b1a1f123439f3363b228f203a41", func := "kaudit/kauditlaw05.FilesSets", spec := "filesSets", inPlace := ["internal/bytealg.IndexByteString", "internal/bytealg.IndexString", "slices.overlaps[kaudit/api.Entry]"], unfollowed := true, recurses := true, named := ["internal/bytealg.MaxLen"], apart := false }
def FilesSetsSaid : Prop := filesSetsRow.holds Try.pinned (OpenSpec.ofChange filesSetsSpec)

/-- ITS FALSE NEIGHBOUR: 'it returns false'. Refute it at one input. -/
def filesSetsWrong : ChangeSpec := { name := "filesSets", fn := fun _ => fun
  | [d1, d2, d3, d4] => { results := [.lit (.bool false)], args := [d1, d2, d3, d4] }
  | _ => none }
def FilesSetsWrongFalsely : Prop := filesSetsRow.holds Try.pinned (OpenSpec.ofChange filesSetsWrong)

/-- 'kauditlaw05.FilesReads': WHATEVER THE INPUT: true; the input reads as it did. -/
def filesReadsSpec : ChangeSpec := { name := "filesReads", fn := fun _ => fun
  | [d1, d2, d3, d4] => { results := [.lit (.bool true)], args := [d1, d2, d3, d4] }
  | _ => none }
def filesReadsRow : OpenClaim := { program := "ythcbdkmhamhciaa", sum := "8f1de487f551ba210abd14fce0b0135e8c834b1a1f123439f3363b228f203a41", func := "kaudit/kauditlaw05.FilesReads", spec := "filesReads", inPlace := ["internal/bytealg.IndexByteString", "internal/bytealg.IndexString", "slices.overlaps[kaudit/api.Entry]"], unfollowed := true, recurses := true, named := ["internal/bytealg.MaxLen"], apart := false }
def FilesReadsSaid : Prop := filesReadsRow.holds Try.pinned (OpenSpec.ofChange filesReadsSpec)

/-- ITS FALSE NEIGHBOUR: 'it returns false'. Refute it at one input. -/
def filesReadsWrong : ChangeSpec := { name := "filesReads", fn := fun _ => fun
  | [d1, d2, d3, d4] => { results := [.lit (.bool false)], args := [d1, d2, d3, d4] }
  | _ => none }
def FilesReadsWrongFalsely : Prop := filesReadsRow.holds Try.pinned (OpenSpec.ofChange filesReadsWrong)

/-- 'kauditlaw05.FilesSpoiled': WHATEVER THE INPUT: true; the input reads as it did. -/
def filesSpoiledSpec : ChangeSpec := { name := "filesSpoiled", fn := fun _ => fun
  | [d] => { results := [.lit (.bool true)], args := [d] }
  | _ => none }
def filesSpoiledRow : OpenClaim := { program := "ythcbdkmhamhciaa", sum := "8f1de487f551ba210abd14fce0b0135e8c834b1a1f123439f3363b228f203a41", func := "kaudit/kauditlaw05.FilesSpoiled", spec := "filesSpoiled", inPlace := ["internal/bytealg.IndexByteString", "internal/bytealg.IndexString", "slices.overlaps[kaudit/api.Entry]"], unfollowed := true, recurses := true, named := ["internal/bytealg.MaxLen"], apart := false }
def FilesSpoiledSaid : Prop := filesSpoiledRow.holds Try.pinned (OpenSpec.ofChange filesSpoiledSpec)

/-- ITS FALSE NEIGHBOUR: 'it returns false'. Refute it at one input. -/
def filesSpoiledWrong : ChangeSpec := { name := "filesSpoiled", fn := fun _ => fun
  | [d] => { results := [.lit (.bool false)], args := [d] }
  | _ => none }
def FilesSpoiledWrongFalsely : Prop := filesSpoiledRow.holds Try.pinned (OpenSpec.ofChange filesSpoiledWrong)

/-- 'kauditlaw05.FilesUnlinked': WHATEVER THE INPUT: true; the input reads as it did. -/
def filesUnlinkedSpec : ChangeSpec := { name := "filesUnlinked", fn := fun _ => fun
  | [d1, d2] => { results := [.lit (.bool true)], args := [d1, d2] }
  | _ => none }
def filesUnlinkedRow : OpenClaim := { program := "ythcbdkmhamhciaa", sum := "8f1de487f551ba210abd14fce0b0135e8c834b1a1f123439f3363b228f203a41", func := "kaudit/kauditlaw05.FilesUnlinked", spec := "filesUnlinked", inPlace := ["internal/bytealg.IndexByteString", "internal/bytealg.IndexString", "slices.overlaps[kaudit/api.Entry]"], unfollowed := true, recurses := true, named := ["internal/bytealg.MaxLen"], apart := false }
def FilesUnlinkedSaid : Prop := filesUnlinkedRow.holds Try.pinned (OpenSpec.ofChange filesUnlinkedSpec)

/-- ITS FALSE NEIGHBOUR: 'it returns false'. Refute it at one input. -/
def filesUnlinkedWrong : ChangeSpec := { name := "filesUnlinked", fn := fun _ => fun
  | [d1, d2] => { results := [.lit (.bool false)], args := [d1, d2] }
  | _ => none }
def FilesUnlinkedWrongFalsely : Prop := filesUnlinkedRow.holds Try.pinned (OpenSpec.ofChange filesUnlinkedWrong)

/-- 'kauditlaw05.FilesRemoves': WHATEVER THE INPUT: true; the input reads as it did. -/
def filesRemovesSpec : ChangeSpec := { name := "filesRemoves", fn := fun _ => fun
  | [d] => { results := [.lit (.bool true)], args := [d] }
  | _ => none }
def filesRemovesRow : OpenClaim := { program := "ythcbdkmhamhciaa", sum := "8f1de487f551ba210abd14fce0b0135e8c834b1a1f123439f3363b228f203a41", func := "kaudit/kauditlaw05.FilesRemoves", spec := "filesRemoves", inPlace := ["internal/bytealg.IndexByteString", "internal/bytealg.IndexString", "slices.overlaps[kaudit/api.Entry]"], unfollowed := true, recurses := true, named := ["internal/bytealg.MaxLen"], apart := false }
def FilesRemovesSaid : Prop := filesRemovesRow.holds Try.pinned (OpenSpec.ofChange filesRemovesSpec)

/-- ITS FALSE NEIGHBOUR: 'it returns false'. Refute it at one input. -/
def filesRemovesWrong : ChangeSpec := { name := "filesRemoves", fn := fun _ => fun
  | [d] => { results := [.lit (.bool false)], args := [d] }
  | _ => none }
def FilesRemovesWrongFalsely : Prop := filesRemovesRow.holds Try.pinned (OpenSpec.ofChange filesRemovesWrong)

/-- 'kauditlaw05.FilesRenames': WHATEVER THE INPUT: true; the input reads as it did. -/
def filesRenamesSpec : ChangeSpec := { name := "filesRenames", fn := fun _ => fun
  | [d] => { results := [.lit (.bool true)], args := [d] }
  | _ => none }
def filesRenamesRow : OpenClaim := { program := "ythcbdkmhamhciaa", sum := "8f1de487f551ba210abd14fce0b0135e8c834b1a1f123439f3363b228f203a41", func := "kaudit/kauditlaw05.FilesRenames", spec := "filesRenames", inPlace := ["internal/bytealg.IndexByteString", "internal/bytealg.IndexString", "slices.overlaps[kaudit/api.Entry]"], unfollowed := true, recurses := true, named := ["internal/bytealg.MaxLen"], apart := false }
def FilesRenamesSaid : Prop := filesRenamesRow.holds Try.pinned (OpenSpec.ofChange filesRenamesSpec)

/-- ITS FALSE NEIGHBOUR: 'it returns false'. Refute it at one input. -/
def filesRenamesWrong : ChangeSpec := { name := "filesRenames", fn := fun _ => fun
  | [d] => { results := [.lit (.bool false)], args := [d] }
  | _ => none }
def FilesRenamesWrongFalsely : Prop := filesRenamesRow.holds Try.pinned (OpenSpec.ofChange filesRenamesWrong)

/-- 'kauditlaw05.FilesThere': WHATEVER THE INPUT: true; the input reads as it did. -/
def filesThereSpec : ChangeSpec := { name := "filesThere", fn := fun _ => fun
  | [d] => { results := [.lit (.bool true)], args := [d] }
  | _ => none }
def filesThereRow : OpenClaim := { program := "ythcbdkmhamhciaa", sum := "8f1de487f551ba210abd14fce0b0135e8c834b1a1f123439f3363b228f203a41", func := "kaudit/kauditlaw05.FilesThere", spec := "filesThere", inPlace := ["internal/bytealg.IndexByteString", "internal/bytealg.IndexString", "slices.overlaps[kaudit/api.Entry]"], unfollowed := true, recurses := true, named := ["internal/bytealg.MaxLen"], apart := false }
def FilesThereSaid : Prop := filesThereRow.holds Try.pinned (OpenSpec.ofChange filesThereSpec)

/-- ITS FALSE NEIGHBOUR: 'it returns false'. Refute it at one input. -/
def filesThereWrong : ChangeSpec := { name := "filesThere", fn := fun _ => fun
  | [d] => { results := [.lit (.bool false)], args := [d] }
  | _ => none }
def FilesThereWrongFalsely : Prop := filesThereRow.holds Try.pinned (OpenSpec.ofChange filesThereWrong)

/-- 'kauditlaw05.FilesKeep': WHATEVER THE INPUT: true; the input reads as it did. -/
def filesKeepSpec : ChangeSpec := { name := "filesKeep", fn := fun _ => fun
  | [d] => { results := [.lit (.bool true)], args := [d] }
  | _ => none }
def filesKeepRow : OpenClaim := { program := "ythcbdkmhamhciaa", sum := "8f1de487f551ba210abd14fce0b0135e8c834b1a1f123439f3363b228f203a41", func := "kaudit/kauditlaw05.FilesKeep", spec := "filesKeep", inPlace := ["internal/bytealg.IndexByteString", "internal/bytealg.IndexString", "slices.overlaps[kaudit/api.Entry]"], unfollowed := true, recurses := true, named := ["internal/bytealg.MaxLen"], apart := false }
def FilesKeepSaid : Prop := filesKeepRow.holds Try.pinned (OpenSpec.ofChange filesKeepSpec)

/-- ITS FALSE NEIGHBOUR: 'it returns false'. Refute it at one input. -/
def filesKeepWrong : ChangeSpec := { name := "filesKeep", fn := fun _ => fun
  | [d] => { results := [.lit (.bool false)], args := [d] }
  | _ => none }
def FilesKeepWrongFalsely : Prop := filesKeepRow.holds Try.pinned (OpenSpec.ofChange filesKeepWrong)

/-- 'kauditlaw05.FilesNever': WHATEVER THE INPUT: true; the input reads as it did. -/
def filesNeverSpec : ChangeSpec := { name := "filesNever", fn := fun _ => fun
  | [d] => { results := [.lit (.bool true)], args := [d] }
  | _ => none }
def filesNeverRow : OpenClaim := { program := "ythcbdkmhamhciaa", sum := "8f1de487f551ba210abd14fce0b0135e8c834b1a1f123439f3363b228f203a41", func := "kaudit/kauditlaw05.FilesNever", spec := "filesNever", inPlace := ["internal/bytealg.IndexByteString", "internal/bytealg.IndexString", "slices.overlaps[kaudit/api.Entry]"], unfollowed := true, recurses := true, named := ["internal/bytealg.MaxLen"], apart := false }
def FilesNeverSaid : Prop := filesNeverRow.holds Try.pinned (OpenSpec.ofChange filesNeverSpec)

/-- ITS FALSE NEIGHBOUR: 'it returns false'. Refute it at one input. -/
def filesNeverWrong : ChangeSpec := { name := "filesNever", fn := fun _ => fun
  | [d] => { results := [.lit (.bool false)], args := [d] }
  | _ => none }
def FilesNeverWrongFalsely : Prop := filesNeverRow.holds Try.pinned (OpenSpec.ofChange filesNeverWrong)

/- THE SECOND FORM. 'bulk': how many values and letters a reading holds, each counted each time it is reached (what is shared counts as often as it is met; a slice's spare places count too). A statement '..UptoSaid' is the law's where the arguments, and the package variables that the reading takes, are together of bulk at most 1048576: NARROWER than '..Said'. Prove '..Said' where nothing that the law and all that it calls make is longer than what came in: it says more and counts as full. Else prove '..UptoSaid'. A law counts once. -/
mutual
def uptoBulk {H : Type} : DataW H → Nat
  | .lit (.string bytes) => bytes.length + 1
  | .lit _ => 1
  | .nil => 1
  | .ptr d => uptoBulk d + 1
  | .slice elems spare => uptoBulkAll elems + uptoBulkAll spare + 1
  | .agg parts => uptoBulkAll parts + 1
  | .iface _ d => uptoBulk d + 1
  | .map entries => uptoBulkEntries entries + 1
  | .held _ => 1
def uptoBulkAll {H : Type} : List (DataW H) → Nat
  | [] => 0
  | d :: r => uptoBulk d + uptoBulkAll r
def uptoBulkEntries {H : Type} : List (Lit × DataW H) → Nat
  | [] => 0
  | x :: r => uptoBulkEntry x + uptoBulkEntries r
def uptoBulkEntry {H : Type} : Lit × DataW H → Nat
  | (.string bytes, d) => bytes.length + uptoBulk d + 1
  | (_, d) => uptoBulk d + 1
 end
def uptoSmall : (H : Type) → List (DataW H) → Bool := fun _ ds => decide (uptoBulkAll ds ≤ 1048576)
def OpenSpec.upto (s : _root_.Go.ChangeSpec) : _root_.Go.OpenSpec := { _root_.Go.OpenSpec.ofChange s with cond := some uptoSmall }

/-- 'kauditlaw05.FilesNews', WHERE WHAT IT READS IS OF BULK AT MOST 1048576: true; the input reads as it did. -/
def filesNewsUptoRow : OpenClaim := { program := "ythcbdkmhamhciaa", sum := "8f1de487f551ba210abd14fce0b0135e8c834b1a1f123439f3363b228f203a41", func := "kaudit/kauditlaw05.FilesNews", spec := "filesNews", inPlace := ["internal/bytealg.IndexByteString", "internal/bytealg.IndexString", "slices.overlaps[kaudit/api.Entry]"], unfollowed := true, recurses := true, named := ["internal/bytealg.MaxLen"], apart := false, narrowed := true }
def FilesNewsUptoSaid : Prop := filesNewsUptoRow.holds Try.pinned (OpenSpec.upto filesNewsSpec)

/-- 'kauditlaw05.FilesMakes', WHERE WHAT IT READS IS OF BULK AT MOST 1048576: true; the input reads as it did. -/
def filesMakesUptoRow : OpenClaim := { program := "ythcbdkmhamhciaa", sum := "8f1de487f551ba210abd14fce0b0135e8c834b1a1f123439f3363b228f203a41", func := "kaudit/kauditlaw05.FilesMakes", spec := "filesMakes", inPlace := ["internal/bytealg.IndexByteString", "internal/bytealg.IndexString", "slices.overlaps[kaudit/api.Entry]"], unfollowed := true, recurses := true, named := ["internal/bytealg.MaxLen"], apart := false, narrowed := true }
def FilesMakesUptoSaid : Prop := filesMakesUptoRow.holds Try.pinned (OpenSpec.upto filesMakesSpec)

/-- 'kauditlaw05.FilesLinks', WHERE WHAT IT READS IS OF BULK AT MOST 1048576: true; the input reads as it did. -/
def filesLinksUptoRow : OpenClaim := { program := "ythcbdkmhamhciaa", sum := "8f1de487f551ba210abd14fce0b0135e8c834b1a1f123439f3363b228f203a41", func := "kaudit/kauditlaw05.FilesLinks", spec := "filesLinks", inPlace := ["internal/bytealg.IndexByteString", "internal/bytealg.IndexString", "slices.overlaps[kaudit/api.Entry]"], unfollowed := true, recurses := true, named := ["internal/bytealg.MaxLen"], apart := false, narrowed := true }
def FilesLinksUptoSaid : Prop := filesLinksUptoRow.holds Try.pinned (OpenSpec.upto filesLinksSpec)

/-- 'kauditlaw05.FilesSets', WHERE WHAT IT READS IS OF BULK AT MOST 1048576: true; the input reads as it did. -/
def filesSetsUptoRow : OpenClaim := { program := "ythcbdkmhamhciaa", sum := "8f1de487f551ba210abd14fce0b0135e8c834b1a1f123439f3363b228f203a41", func := "kaudit/kauditlaw05.FilesSets", spec := "filesSets", inPlace := ["internal/bytealg.IndexByteString", "internal/bytealg.IndexString", "slices.overlaps[kaudit/api.Entry]"], unfollowed := true, recurses := true, named := ["internal/bytealg.MaxLen"], apart := false, narrowed := true }
def FilesSetsUptoSaid : Prop := filesSetsUptoRow.holds Try.pinned (OpenSpec.upto filesSetsSpec)

/-- 'kauditlaw05.FilesReads', WHERE WHAT IT READS IS OF BULK AT MOST 1048576: true; the input reads as it did. -/
def filesReadsUptoRow : OpenClaim := { program := "ythcbdkmhamhciaa", sum := "8f1de487f551ba210abd14fce0b0135e8c834b1a1f123439f3363b228f203a41", func := "kaudit/kauditlaw05.FilesReads", spec := "filesReads", inPlace := ["internal/bytealg.IndexByteString", "internal/bytealg.IndexString", "slices.overlaps[kaudit/api.Entry]"], unfollowed := true, recurses := true, named := ["internal/bytealg.MaxLen"], apart := false, narrowed := true }
def FilesReadsUptoSaid : Prop := filesReadsUptoRow.holds Try.pinned (OpenSpec.upto filesReadsSpec)

/-- 'kauditlaw05.FilesSpoiled', WHERE WHAT IT READS IS OF BULK AT MOST 1048576: true; the input reads as it did. -/
def filesSpoiledUptoRow : OpenClaim := { program := "ythcbdkmhamhciaa", sum := "8f1de487f551ba210abd14fce0b0135e8c834b1a1f123439f3363b228f203a41", func := "kaudit/kauditlaw05.FilesSpoiled", spec := "filesSpoiled", inPlace := ["internal/bytealg.IndexByteString", "internal/bytealg.IndexString", "slices.overlaps[kaudit/api.Entry]"], unfollowed := true, recurses := true, named := ["internal/bytealg.MaxLen"], apart := false, narrowed := true }
def FilesSpoiledUptoSaid : Prop := filesSpoiledUptoRow.holds Try.pinned (OpenSpec.upto filesSpoiledSpec)

/-- 'kauditlaw05.FilesUnlinked', WHERE WHAT IT READS IS OF BULK AT MOST 1048576: true; the input reads as it did. -/
def filesUnlinkedUptoRow : OpenClaim := { program := "ythcbdkmhamhciaa", sum := "8f1de487f551ba210abd14fce0b0135e8c834b1a1f123439f3363b228f203a41", func := "kaudit/kauditlaw05.FilesUnlinked", spec := "filesUnlinked", inPlace := ["internal/bytealg.IndexByteString", "internal/bytealg.IndexString", "slices.overlaps[kaudit/api.Entry]"], unfollowed := true, recurses := true, named := ["internal/bytealg.MaxLen"], apart := false, narrowed := true }
def FilesUnlinkedUptoSaid : Prop := filesUnlinkedUptoRow.holds Try.pinned (OpenSpec.upto filesUnlinkedSpec)

/-- 'kauditlaw05.FilesRemoves', WHERE WHAT IT READS IS OF BULK AT MOST 1048576: true; the input reads as it did. -/
def filesRemovesUptoRow : OpenClaim := { program := "ythcbdkmhamhciaa", sum := "8f1de487f551ba210abd14fce0b0135e8c834b1a1f123439f3363b228f203a41", func := "kaudit/kauditlaw05.FilesRemoves", spec := "filesRemoves", inPlace := ["internal/bytealg.IndexByteString", "internal/bytealg.IndexString", "slices.overlaps[kaudit/api.Entry]"], unfollowed := true, recurses := true, named := ["internal/bytealg.MaxLen"], apart := false, narrowed := true }
def FilesRemovesUptoSaid : Prop := filesRemovesUptoRow.holds Try.pinned (OpenSpec.upto filesRemovesSpec)

/-- 'kauditlaw05.FilesRenames', WHERE WHAT IT READS IS OF BULK AT MOST 1048576: true; the input reads as it did. -/
def filesRenamesUptoRow : OpenClaim := { program := "ythcbdkmhamhciaa", sum := "8f1de487f551ba210abd14fce0b0135e8c834b1a1f123439f3363b228f203a41", func := "kaudit/kauditlaw05.FilesRenames", spec := "filesRenames", inPlace := ["internal/bytealg.IndexByteString", "internal/bytealg.IndexString", "slices.overlaps[kaudit/api.Entry]"], unfollowed := true, recurses := true, named := ["internal/bytealg.MaxLen"], apart := false, narrowed := true }
def FilesRenamesUptoSaid : Prop := filesRenamesUptoRow.holds Try.pinned (OpenSpec.upto filesRenamesSpec)

/-- 'kauditlaw05.FilesThere', WHERE WHAT IT READS IS OF BULK AT MOST 1048576: true; the input reads as it did. -/
def filesThereUptoRow : OpenClaim := { program := "ythcbdkmhamhciaa", sum := "8f1de487f551ba210abd14fce0b0135e8c834b1a1f123439f3363b228f203a41", func := "kaudit/kauditlaw05.FilesThere", spec := "filesThere", inPlace := ["internal/bytealg.IndexByteString", "internal/bytealg.IndexString", "slices.overlaps[kaudit/api.Entry]"], unfollowed := true, recurses := true, named := ["internal/bytealg.MaxLen"], apart := false, narrowed := true }
def FilesThereUptoSaid : Prop := filesThereUptoRow.holds Try.pinned (OpenSpec.upto filesThereSpec)

/-- 'kauditlaw05.FilesKeep', WHERE WHAT IT READS IS OF BULK AT MOST 1048576: true; the input reads as it did. -/
def filesKeepUptoRow : OpenClaim := { program := "ythcbdkmhamhciaa", sum := "8f1de487f551ba210abd14fce0b0135e8c834b1a1f123439f3363b228f203a41", func := "kaudit/kauditlaw05.FilesKeep", spec := "filesKeep", inPlace := ["internal/bytealg.IndexByteString", "internal/bytealg.IndexString", "slices.overlaps[kaudit/api.Entry]"], unfollowed := true, recurses := true, named := ["internal/bytealg.MaxLen"], apart := false, narrowed := true }
def FilesKeepUptoSaid : Prop := filesKeepUptoRow.holds Try.pinned (OpenSpec.upto filesKeepSpec)

/-- 'kauditlaw05.FilesNever', WHERE WHAT IT READS IS OF BULK AT MOST 1048576: true; the input reads as it did. -/
def filesNeverUptoRow : OpenClaim := { program := "ythcbdkmhamhciaa", sum := "8f1de487f551ba210abd14fce0b0135e8c834b1a1f123439f3363b228f203a41", func := "kaudit/kauditlaw05.FilesNever", spec := "filesNever", inPlace := ["internal/bytealg.IndexByteString", "internal/bytealg.IndexString", "slices.overlaps[kaudit/api.Entry]"], unfollowed := true, recurses := true, named := ["internal/bytealg.MaxLen"], apart := false, narrowed := true }
def FilesNeverUptoSaid : Prop := filesNeverUptoRow.holds Try.pinned (OpenSpec.upto filesNeverSpec)

end Rows
end Go.Proofs.Ythcbdkmhamhciaa
