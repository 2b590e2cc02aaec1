/-
  No cell of these rows narrows 'for every input' (looked for: loops, veiled, ifaces, maps, wideKeys, modest, calm, conditions, laid).
  DERIVED. THE GIVEN ROWS OF THIS SEAT. 2 by the template 'for every input the law returns true; each argument reads behind the call as it read before'; 0 by the template 'total and deterministic' (their statements: YtaidkbnbfnaihaaGreatTotals.lean).
  GIVEN WITH THE SEED: the statements are not yours to turn. If you find one false, say at which input.
  Laid BY PROGRAM, IN A SANDBOX (cutbox-rows.mjs): the forced cells as the released guide's own fill.sh prints them over the translation 0b4bf42d5a14ece3… (all of the seat's roots in one cut). By AI agents, Wed Nov 11 2026. No macro, syntax, notation, axiom, sorry.
-/
import Derived.Test.YtaidkbnbfnaihaaGreatChecked
import GoSem.Claim
import GoSem.ClaimJoined
import GoSem.ClaimMapViews
import Derived.JoinedTies
import Derived.KernelRfl
namespace Go.Proofs.YtaidkbnbfnaihaaGreat
/- THE CELL 'sum', in the pinned program and in every row, IS THE sha256 OF THE DUMP (.gsa) THAT YtaidkbnbfnaihaaGreatProg.lean LOADS. Nothing in Lean hashes anything: it is a label: what it is worth is what the hold of that sum in a sandbox is worth. -/
noncomputable def Tryz.pinned : Pinned := { name := "ytaidkbnbfnaihaagreat", sum := "0b4bf42d5a14ece3355029ae27d1f146f0cf45759aa90604df75f2efea04bf5c", checked := Tryz.checked }
namespace Rows
def none {H : Type} : Left H := { results := [], args := [] }

/-- 'kauditlaw07.LookupRaw': WHATEVER THE INPUT: true; the input reads as it did. -/
def lookupRawSpec : ChangeSpec := { name := "lookupRaw", fn := fun _ => fun
  | [d1, d2, d3, d4, d5] => { results := [.lit (.bool true)], args := [d1, d2, d3, d4, d5] }
  | _ => none }
def lookupRawRow : OpenClaim := { program := "ytaidkbnbfnaihaagreat", sum := "0b4bf42d5a14ece3355029ae27d1f146f0cf45759aa90604df75f2efea04bf5c", func := "kaudit/kauditlaw07.LookupRaw", spec := "lookupRaw", inPlace := ["internal/bytealg.IndexByteString", "internal/bytealg.IndexString"], unfollowed := true, recurses := true, named := ["internal/bytealg.MaxLen"], apart := false }
def LookupRawSaid : Prop := lookupRawRow.holds Tryz.pinned (OpenSpec.ofChange lookupRawSpec)

/-- ITS FALSE NEIGHBOUR: 'it returns false'. Refute it at one input. -/
def lookupRawWrong : ChangeSpec := { name := "lookupRaw", fn := fun _ => fun
  | [d1, d2, d3, d4, d5] => { results := [.lit (.bool false)], args := [d1, d2, d3, d4, d5] }
  | _ => none }
def LookupRawWrongFalsely : Prop := lookupRawRow.holds Tryz.pinned (OpenSpec.ofChange lookupRawWrong)

/-- 'kauditlaw07.LookupBuilt': WHATEVER THE INPUT: true; the input reads as it did. -/
def lookupBuiltSpec : ChangeSpec := { name := "lookupBuilt", fn := fun _ => fun
  | [d] => { results := [.lit (.bool true)], args := [d] }
  | _ => none }
def lookupBuiltRow : OpenClaim := { program := "ytaidkbnbfnaihaagreat", sum := "0b4bf42d5a14ece3355029ae27d1f146f0cf45759aa90604df75f2efea04bf5c", func := "kaudit/kauditlaw07.LookupBuilt", spec := "lookupBuilt", inPlace := ["internal/bytealg.IndexByteString", "internal/bytealg.IndexString"], unfollowed := true, recurses := true, named := ["internal/bytealg.MaxLen"], apart := false }
def LookupBuiltSaid : Prop := lookupBuiltRow.holds Tryz.pinned (OpenSpec.ofChange lookupBuiltSpec)

/-- ITS FALSE NEIGHBOUR: 'it returns false'. Refute it at one input. -/
def lookupBuiltWrong : ChangeSpec := { name := "lookupBuilt", fn := fun _ => fun
  | [d] => { results := [.lit (.bool false)], args := [d] }
  | _ => none }
def LookupBuiltWrongFalsely : Prop := lookupBuiltRow.holds Tryz.pinned (OpenSpec.ofChange lookupBuiltWrong)

/- THE SECOND FORM. 'bulk': how many values and letters a reading holds, each counted each time it is reached (what is shared counts as often as it is met; a slice's spare places count too). A statement '..UptoSaid' is the law's where the arguments, and the package variables that the reading takes, are together of bulk at most 1048576: NARROWER than '..Said'. Prove '..Said' where nothing that the law and all that it calls make is longer than what came in: it says more and counts as full. Else prove '..UptoSaid'. A law counts once. -/
mutual
def uptoBulk {H : Type} : DataW H → Nat
  | .lit (.string bytes) => bytes.length + 1
  | .lit _ => 1
  | .nil => 1
  | .ptr d => uptoBulk d + 1
  | .slice elems spare => uptoBulkAll elems + uptoBulkAll spare + 1
  | .agg parts => uptoBulkAll parts + 1
  | .iface _ d => uptoBulk d + 1
  | .map entries => uptoBulkEntries entries + 1
  | .held _ => 1
def uptoBulkAll {H : Type} : List (DataW H) → Nat
  | [] => 0
  | d :: r => uptoBulk d + uptoBulkAll r
def uptoBulkEntries {H : Type} : List (Lit × DataW H) → Nat
  | [] => 0
  | x :: r => uptoBulkEntry x + uptoBulkEntries r
def uptoBulkEntry {H : Type} : Lit × DataW H → Nat
  | (.string bytes, d) => bytes.length + uptoBulk d + 1
  | (_, d) => uptoBulk d + 1
 end
def uptoSmall : (H : Type) → List (DataW H) → Bool := fun _ ds => decide (uptoBulkAll ds ≤ 1048576)
def OpenSpec.upto (s : _root_.Go.ChangeSpec) : _root_.Go.OpenSpec := { _root_.Go.OpenSpec.ofChange s with cond := some uptoSmall }

/-- 'kauditlaw07.LookupRaw', WHERE WHAT IT READS IS OF BULK AT MOST 1048576: true; the input reads as it did. -/
def lookupRawUptoRow : OpenClaim := { program := "ytaidkbnbfnaihaagreat", sum := "0b4bf42d5a14ece3355029ae27d1f146f0cf45759aa90604df75f2efea04bf5c", func := "kaudit/kauditlaw07.LookupRaw", spec := "lookupRaw", inPlace := ["internal/bytealg.IndexByteString", "internal/bytealg.IndexString"], unfollowed := true, recurses := true, named := ["internal/bytealg.MaxLen"], apart := false, narrowed := true }
def LookupRawUptoSaid : Prop := lookupRawUptoRow.holds Tryz.pinned (OpenSpec.upto lookupRawSpec)

/-- 'kauditlaw07.LookupBuilt', WHERE WHAT IT READS IS OF BULK AT MOST 1048576: true; the input reads as it did. -/
def lookupBuiltUptoRow : OpenClaim := { program := "ytaidkbnbfnaihaagreat", sum := "0b4bf42d5a14ece3355029ae27d1f146f0cf45759aa90604df75f2efea04bf5c", func := "kaudit/kauditlaw07.LookupBuilt", spec := "lookupBuilt", inPlace := ["internal/bytealg.IndexByteString", "internal/bytealg.IndexString"], unfollowed := true, recurses := true, named := ["internal/bytealg.MaxLen"], apart := false, narrowed := true }
def LookupBuiltUptoSaid : Prop := lookupBuiltUptoRow.holds Tryz.pinned (OpenSpec.upto lookupBuiltSpec)

end Rows
end Go.Proofs.YtaidkbnbfnaihaaGreat
