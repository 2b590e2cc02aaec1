/-
  No cell of these rows narrows 'for every input' (looked for: loops, veiled, ifaces, maps, wideKeys, modest, calm, conditions, laid).
  DERIVED. THE GIVEN ROWS OF THIS SEAT. 6 by the template 'for every input the law returns true; each argument reads behind the call as it read before'; 0 by the template 'total and deterministic' (their statements: YtaidkbnbfnaihaaTotals.lean).
  GIVEN WITH THE SEED: the statements are not yours to turn. If you find one false, say at which input.
  Laid BY PROGRAM, IN A SANDBOX (cutbox-rows.mjs): the forced cells as the released guide's own fill.sh prints them over the translation 4722c7ca54a64e66… (all of the seat's roots in one cut). By AI agents, Wed Nov 11 2026. No macro, syntax, notation, axiom, sorry.
-/
import Derived.Test.YtaidkbnbfnaihaaChecked
import GoSem.Claim
import GoSem.ClaimJoined
import GoSem.ClaimMapViews
import Derived.JoinedTies
import Derived.KernelRfl
namespace Go.Proofs.Ytaidkbnbfnaihaa
/- THE CELL 'sum', in the pinned program and in every row, IS THE sha256 OF THE DUMP (.gsa) THAT YtaidkbnbfnaihaaProg.lean LOADS. Nothing in Lean hashes anything: it is a label: what it is worth is what the hold of that sum in a sandbox is worth. -/
noncomputable def Try.pinned : Pinned := { name := "ytaidkbnbfnaihaa", sum := "4722c7ca54a64e66ffa94b49a0c8567acecd9c02d593afbdc9623626947ea800", checked := Try.checked }
namespace Rows
def none {H : Type} : Left H := { results := [], args := [] }

/-- 'kauditlaw07.LookupReturns': WHATEVER THE INPUT: true; the input reads as it did. -/
def lookupReturnsSpec : ChangeSpec := { name := "lookupReturns", fn := fun _ => fun
  | [d] => { results := [.lit (.bool true)], args := [d] }
  | _ => none }
def lookupReturnsRow : OpenClaim := { program := "ytaidkbnbfnaihaa", sum := "4722c7ca54a64e66ffa94b49a0c8567acecd9c02d593afbdc9623626947ea800", func := "kaudit/kauditlaw07.LookupReturns", spec := "lookupReturns", inPlace := ["internal/bytealg.IndexByteString", "internal/bytealg.IndexString"], unfollowed := true, recurses := true, named := ["internal/bytealg.MaxLen"], apart := false }
def LookupReturnsSaid : Prop := lookupReturnsRow.holds Try.pinned (OpenSpec.ofChange lookupReturnsSpec)

/-- ITS FALSE NEIGHBOUR: 'it returns false'. Refute it at one input. -/
def lookupReturnsWrong : ChangeSpec := { name := "lookupReturns", fn := fun _ => fun
  | [d] => { results := [.lit (.bool false)], args := [d] }
  | _ => none }
def LookupReturnsWrongFalsely : Prop := lookupReturnsRow.holds Try.pinned (OpenSpec.ofChange lookupReturnsWrong)

/-- 'kauditlaw07.LookupVisible': WHATEVER THE INPUT: true; the input reads as it did. -/
def lookupVisibleSpec : ChangeSpec := { name := "lookupVisible", fn := fun _ => fun
  | [d] => { results := [.lit (.bool true)], args := [d] }
  | _ => none }
def lookupVisibleRow : OpenClaim := { program := "ytaidkbnbfnaihaa", sum := "4722c7ca54a64e66ffa94b49a0c8567acecd9c02d593afbdc9623626947ea800", func := "kaudit/kauditlaw07.LookupVisible", spec := "lookupVisible", inPlace := ["internal/bytealg.IndexByteString", "internal/bytealg.IndexString"], unfollowed := true, recurses := true, named := ["internal/bytealg.MaxLen"], apart := false }
def LookupVisibleSaid : Prop := lookupVisibleRow.holds Try.pinned (OpenSpec.ofChange lookupVisibleSpec)

/-- ITS FALSE NEIGHBOUR: 'it returns false'. Refute it at one input. -/
def lookupVisibleWrong : ChangeSpec := { name := "lookupVisible", fn := fun _ => fun
  | [d] => { results := [.lit (.bool false)], args := [d] }
  | _ => none }
def LookupVisibleWrongFalsely : Prop := lookupVisibleRow.holds Try.pinned (OpenSpec.ofChange lookupVisibleWrong)

/-- 'kauditlaw07.LookupAbsolute': WHATEVER THE INPUT: true; the input reads as it did. -/
def lookupAbsoluteSpec : ChangeSpec := { name := "lookupAbsolute", fn := fun _ => fun
  | [d] => { results := [.lit (.bool true)], args := [d] }
  | _ => none }
def lookupAbsoluteRow : OpenClaim := { program := "ytaidkbnbfnaihaa", sum := "4722c7ca54a64e66ffa94b49a0c8567acecd9c02d593afbdc9623626947ea800", func := "kaudit/kauditlaw07.LookupAbsolute", spec := "lookupAbsolute", inPlace := ["internal/bytealg.IndexByteString", "internal/bytealg.IndexString"], unfollowed := true, recurses := true, named := ["internal/bytealg.MaxLen"], apart := false }
def LookupAbsoluteSaid : Prop := lookupAbsoluteRow.holds Try.pinned (OpenSpec.ofChange lookupAbsoluteSpec)

/-- ITS FALSE NEIGHBOUR: 'it returns false'. Refute it at one input. -/
def lookupAbsoluteWrong : ChangeSpec := { name := "lookupAbsolute", fn := fun _ => fun
  | [d] => { results := [.lit (.bool false)], args := [d] }
  | _ => none }
def LookupAbsoluteWrongFalsely : Prop := lookupAbsoluteRow.holds Try.pinned (OpenSpec.ofChange lookupAbsoluteWrong)

/-- 'kauditlaw07.LookupSplices': WHATEVER THE INPUT: true; the input reads as it did. -/
def lookupSplicesSpec : ChangeSpec := { name := "lookupSplices", fn := fun _ => fun
  | [d] => { results := [.lit (.bool true)], args := [d] }
  | _ => none }
def lookupSplicesRow : OpenClaim := { program := "ytaidkbnbfnaihaa", sum := "4722c7ca54a64e66ffa94b49a0c8567acecd9c02d593afbdc9623626947ea800", func := "kaudit/kauditlaw07.LookupSplices", spec := "lookupSplices", inPlace := ["internal/bytealg.IndexByteString", "internal/bytealg.IndexString"], unfollowed := true, recurses := true, named := ["internal/bytealg.MaxLen"], apart := false }
def LookupSplicesSaid : Prop := lookupSplicesRow.holds Try.pinned (OpenSpec.ofChange lookupSplicesSpec)

/-- ITS FALSE NEIGHBOUR: 'it returns false'. Refute it at one input. -/
def lookupSplicesWrong : ChangeSpec := { name := "lookupSplices", fn := fun _ => fun
  | [d] => { results := [.lit (.bool false)], args := [d] }
  | _ => none }
def LookupSplicesWrongFalsely : Prop := lookupSplicesRow.holds Try.pinned (OpenSpec.ofChange lookupSplicesWrong)

/-- 'kauditlaw07.LookupLoops': WHATEVER THE INPUT: true; the input reads as it did. -/
def lookupLoopsSpec : ChangeSpec := { name := "lookupLoops", fn := fun _ => fun
  | [d] => { results := [.lit (.bool true)], args := [d] }
  | _ => none }
def lookupLoopsRow : OpenClaim := { program := "ytaidkbnbfnaihaa", sum := "4722c7ca54a64e66ffa94b49a0c8567acecd9c02d593afbdc9623626947ea800", func := "kaudit/kauditlaw07.LookupLoops", spec := "lookupLoops", inPlace := ["internal/bytealg.IndexByteString", "internal/bytealg.IndexString"], unfollowed := true, recurses := true, named := ["internal/bytealg.MaxLen"], apart := false }
def LookupLoopsSaid : Prop := lookupLoopsRow.holds Try.pinned (OpenSpec.ofChange lookupLoopsSpec)

/-- ITS FALSE NEIGHBOUR: 'it returns false'. Refute it at one input. -/
def lookupLoopsWrong : ChangeSpec := { name := "lookupLoops", fn := fun _ => fun
  | [d] => { results := [.lit (.bool false)], args := [d] }
  | _ => none }
def LookupLoopsWrongFalsely : Prop := lookupLoopsRow.holds Try.pinned (OpenSpec.ofChange lookupLoopsWrong)

/-- 'kauditlaw07.LookupDots': WHATEVER THE INPUT: true; the input reads as it did. -/
def lookupDotsSpec : ChangeSpec := { name := "lookupDots", fn := fun _ => fun
  | [d] => { results := [.lit (.bool true)], args := [d] }
  | _ => none }
def lookupDotsRow : OpenClaim := { program := "ytaidkbnbfnaihaa", sum := "4722c7ca54a64e66ffa94b49a0c8567acecd9c02d593afbdc9623626947ea800", func := "kaudit/kauditlaw07.LookupDots", spec := "lookupDots", inPlace := ["internal/bytealg.IndexByteString", "internal/bytealg.IndexString"], unfollowed := true, recurses := true, named := ["internal/bytealg.MaxLen"], apart := false }
def LookupDotsSaid : Prop := lookupDotsRow.holds Try.pinned (OpenSpec.ofChange lookupDotsSpec)

/-- ITS FALSE NEIGHBOUR: 'it returns false'. Refute it at one input. -/
def lookupDotsWrong : ChangeSpec := { name := "lookupDots", fn := fun _ => fun
  | [d] => { results := [.lit (.bool false)], args := [d] }
  | _ => none }
def LookupDotsWrongFalsely : Prop := lookupDotsRow.holds Try.pinned (OpenSpec.ofChange lookupDotsWrong)

/- THE SECOND FORM. 'bulk': how many values and letters a reading holds, each counted each time it is reached (what is shared counts as often as it is met; a slice's spare places count too). A statement '..UptoSaid' is the law's where the arguments, and the package variables that the reading takes, are together of bulk at most 1048576: NARROWER than '..Said'. Prove '..Said' where nothing that the law and all that it calls make is longer than what came in: it says more and counts as full. Else prove '..UptoSaid'. A law counts once. -/
mutual
def uptoBulk {H : Type} : DataW H → Nat
  | .lit (.string bytes) => bytes.length + 1
  | .lit _ => 1
  | .nil => 1
  | .ptr d => uptoBulk d + 1
  | .slice elems spare => uptoBulkAll elems + uptoBulkAll spare + 1
  | .agg parts => uptoBulkAll parts + 1
  | .iface _ d => uptoBulk d + 1
  | .map entries => uptoBulkEntries entries + 1
  | .held _ => 1
def uptoBulkAll {H : Type} : List (DataW H) → Nat
  | [] => 0
  | d :: r => uptoBulk d + uptoBulkAll r
def uptoBulkEntries {H : Type} : List (Lit × DataW H) → Nat
  | [] => 0
  | x :: r => uptoBulkEntry x + uptoBulkEntries r
def uptoBulkEntry {H : Type} : Lit × DataW H → Nat
  | (.string bytes, d) => bytes.length + uptoBulk d + 1
  | (_, d) => uptoBulk d + 1
 end
def uptoSmall : (H : Type) → List (DataW H) → Bool := fun _ ds => decide (uptoBulkAll ds ≤ 1048576)
def OpenSpec.upto (s : _root_.Go.ChangeSpec) : _root_.Go.OpenSpec := { _root_.Go.OpenSpec.ofChange s with cond := some uptoSmall }

/-- 'kauditlaw07.LookupReturns', WHERE WHAT IT READS IS OF BULK AT MOST 1048576: true; the input reads as it did. -/
def lookupReturnsUptoRow : OpenClaim := { program := "ytaidkbnbfnaihaa", sum := "4722c7ca54a64e66ffa94b49a0c8567acecd9c02d593afbdc9623626947ea800", func := "kaudit/kauditlaw07.LookupReturns", spec := "lookupReturns", inPlace := ["internal/bytealg.IndexByteString", "internal/bytealg.IndexString"], unfollowed := true, recurses := true, named := ["internal/bytealg.MaxLen"], apart := false, narrowed := true }
def LookupReturnsUptoSaid : Prop := lookupReturnsUptoRow.holds Try.pinned (OpenSpec.upto lookupReturnsSpec)

/-- 'kauditlaw07.LookupVisible', WHERE WHAT IT READS IS OF BULK AT MOST 1048576: true; the input reads as it did. -/
def lookupVisibleUptoRow : OpenClaim := { program := "ytaidkbnbfnaihaa", sum := "4722c7ca54a64e66ffa94b49a0c8567acecd9c02d593afbdc9623626947ea800", func := "kaudit/kauditlaw07.LookupVisible", spec := "lookupVisible", inPlace := ["internal/bytealg.IndexByteString", "internal/bytealg.IndexString"], unfollowed := true, recurses := true, named := ["internal/bytealg.MaxLen"], apart := false, narrowed := true }
def LookupVisibleUptoSaid : Prop := lookupVisibleUptoRow.holds Try.pinned (OpenSpec.upto lookupVisibleSpec)

/-- 'kauditlaw07.LookupAbsolute', WHERE WHAT IT READS IS OF BULK AT MOST 1048576: true; the input reads as it did. -/
def lookupAbsoluteUptoRow : OpenClaim := { program := "ytaidkbnbfnaihaa", sum := "4722c7ca54a64e66ffa94b49a0c8567acecd9c02d593afbdc9623626947ea800", func := "kaudit/kauditlaw07.LookupAbsolute", spec := "lookupAbsolute", inPlace := ["internal/bytealg.IndexByteString", "internal/bytealg.IndexString"], unfollowed := true, recurses := true, named := ["internal/bytealg.MaxLen"], apart := false, narrowed := true }
def LookupAbsoluteUptoSaid : Prop := lookupAbsoluteUptoRow.holds Try.pinned (OpenSpec.upto lookupAbsoluteSpec)

/-- 'kauditlaw07.LookupSplices', WHERE WHAT IT READS IS OF BULK AT MOST 1048576: true; the input reads as it did. -/
def lookupSplicesUptoRow : OpenClaim := { program := "ytaidkbnbfnaihaa", sum := "4722c7ca54a64e66ffa94b49a0c8567acecd9c02d593afbdc9623626947ea800", func := "kaudit/kauditlaw07.LookupSplices", spec := "lookupSplices", inPlace := ["internal/bytealg.IndexByteString", "internal/bytealg.IndexString"], unfollowed := true, recurses := true, named := ["internal/bytealg.MaxLen"], apart := false, narrowed := true }
def LookupSplicesUptoSaid : Prop := lookupSplicesUptoRow.holds Try.pinned (OpenSpec.upto lookupSplicesSpec)

/-- 'kauditlaw07.LookupLoops', WHERE WHAT IT READS IS OF BULK AT MOST 1048576: true; the input reads as it did. -/
def lookupLoopsUptoRow : OpenClaim := { program := "ytaidkbnbfnaihaa", sum := "4722c7ca54a64e66ffa94b49a0c8567acecd9c02d593afbdc9623626947ea800", func := "kaudit/kauditlaw07.LookupLoops", spec := "lookupLoops", inPlace := ["internal/bytealg.IndexByteString", "internal/bytealg.IndexString"], unfollowed := true, recurses := true, named := ["internal/bytealg.MaxLen"], apart := false, narrowed := true }
def LookupLoopsUptoSaid : Prop := lookupLoopsUptoRow.holds Try.pinned (OpenSpec.upto lookupLoopsSpec)

/-- 'kauditlaw07.LookupDots', WHERE WHAT IT READS IS OF BULK AT MOST 1048576: true; the input reads as it did. -/
def lookupDotsUptoRow : OpenClaim := { program := "ytaidkbnbfnaihaa", sum := "4722c7ca54a64e66ffa94b49a0c8567acecd9c02d593afbdc9623626947ea800", func := "kaudit/kauditlaw07.LookupDots", spec := "lookupDots", inPlace := ["internal/bytealg.IndexByteString", "internal/bytealg.IndexString"], unfollowed := true, recurses := true, named := ["internal/bytealg.MaxLen"], apart := false, narrowed := true }
def LookupDotsUptoSaid : Prop := lookupDotsUptoRow.holds Try.pinned (OpenSpec.upto lookupDotsSpec)

end Rows
end Go.Proofs.Ytaidkbnbfnaihaa
