/-
  No cell of these rows narrows 'for every input' (looked for: loops, veiled, ifaces, maps, wideKeys, modest, calm, conditions, laid).
  DERIVED. THE GIVEN ROWS OF THIS SEAT. 8 by the template 'for every input the law returns true; each argument reads behind the call as it read before'; 0 by the template 'total and deterministic' (their statements: YtgliiknfmlmddaaTotals.lean).
  GIVEN WITH THE SEED: the statements are not yours to turn. If you find one false, say at which input.
  Laid BY PROGRAM, IN A SANDBOX (cutbox-rows.mjs): the forced cells as the released guide's own fill.sh prints them over the translation c058ff625dfe2db9… (all of the seat's roots in one cut). By AI agents, Wed Nov 11 2026. No macro, syntax, notation, axiom, sorry.
-/
import Derived.Test.YtgliiknfmlmddaaChecked
import GoSem.Claim
import GoSem.ClaimJoined
import GoSem.ClaimMapViews
import Derived.JoinedTies
import Derived.KernelRfl
namespace Go.Proofs.Ytgliiknfmlmddaa
/- THE CELL 'sum', in the pinned program and in every row, IS THE sha256 OF THE DUMP (.gsa) THAT YtgliiknfmlmddaaProg.lean LOADS. Nothing in Lean hashes anything: it is a label: what it is worth is what the hold of that sum in a sandbox is worth. -/
noncomputable def Try.pinned : Pinned := { name := "ytgliiknfmlmddaa", sum := "c058ff625dfe2db95efa9c0979ededf1473e79db3b24ab2ac79799240a1ed268", checked := Try.checked }
namespace Rows
def none {H : Type} : Left H := { results := [], args := [] }

/-- 'kauditlaw06.MountsAdds': WHATEVER THE INPUT: true; the input reads as it did. -/
def mountsAddsSpec : ChangeSpec := { name := "mountsAdds", fn := fun _ => fun
  | [d1, d2, d3] => { results := [.lit (.bool true)], args := [d1, d2, d3] }
  | _ => none }
def mountsAddsRow : OpenClaim := { program := "ytgliiknfmlmddaa", sum := "c058ff625dfe2db95efa9c0979ededf1473e79db3b24ab2ac79799240a1ed268", func := "kaudit/kauditlaw06.MountsAdds", spec := "mountsAdds", unfollowed := true, recurses := true, apart := false }
def MountsAddsSaid : Prop := mountsAddsRow.holds Try.pinned (OpenSpec.ofChange mountsAddsSpec)

/-- ITS FALSE NEIGHBOUR: 'it returns false'. Refute it at one input. -/
def mountsAddsWrong : ChangeSpec := { name := "mountsAdds", fn := fun _ => fun
  | [d1, d2, d3] => { results := [.lit (.bool false)], args := [d1, d2, d3] }
  | _ => none }
def MountsAddsWrongFalsely : Prop := mountsAddsRow.holds Try.pinned (OpenSpec.ofChange mountsAddsWrong)

/-- 'kauditlaw06.MountsWithin': WHATEVER THE INPUT: true; the input reads as it did. -/
def mountsWithinSpec : ChangeSpec := { name := "mountsWithin", fn := fun _ => fun
  | [d] => { results := [.lit (.bool true)], args := [d] }
  | _ => none }
def mountsWithinRow : OpenClaim := { program := "ytgliiknfmlmddaa", sum := "c058ff625dfe2db95efa9c0979ededf1473e79db3b24ab2ac79799240a1ed268", func := "kaudit/kauditlaw06.MountsWithin", spec := "mountsWithin", unfollowed := true, recurses := true, apart := false }
def MountsWithinSaid : Prop := mountsWithinRow.holds Try.pinned (OpenSpec.ofChange mountsWithinSpec)

/-- ITS FALSE NEIGHBOUR: 'it returns false'. Refute it at one input. -/
def mountsWithinWrong : ChangeSpec := { name := "mountsWithin", fn := fun _ => fun
  | [d] => { results := [.lit (.bool false)], args := [d] }
  | _ => none }
def MountsWithinWrongFalsely : Prop := mountsWithinRow.holds Try.pinned (OpenSpec.ofChange mountsWithinWrong)

/-- 'kauditlaw06.MountsOrder': WHATEVER THE INPUT: true; the input reads as it did. -/
def mountsOrderSpec : ChangeSpec := { name := "mountsOrder", fn := fun _ => fun
  | [d] => { results := [.lit (.bool true)], args := [d] }
  | _ => none }
def mountsOrderRow : OpenClaim := { program := "ytgliiknfmlmddaa", sum := "c058ff625dfe2db95efa9c0979ededf1473e79db3b24ab2ac79799240a1ed268", func := "kaudit/kauditlaw06.MountsOrder", spec := "mountsOrder", unfollowed := true, recurses := true, apart := false }
def MountsOrderSaid : Prop := mountsOrderRow.holds Try.pinned (OpenSpec.ofChange mountsOrderSpec)

/-- ITS FALSE NEIGHBOUR: 'it returns false'. Refute it at one input. -/
def mountsOrderWrong : ChangeSpec := { name := "mountsOrder", fn := fun _ => fun
  | [d] => { results := [.lit (.bool false)], args := [d] }
  | _ => none }
def MountsOrderWrongFalsely : Prop := mountsOrderRow.holds Try.pinned (OpenSpec.ofChange mountsOrderWrong)

/-- 'kauditlaw06.MountsWalks': WHATEVER THE INPUT: true; the input reads as it did. -/
def mountsWalksSpec : ChangeSpec := { name := "mountsWalks", fn := fun _ => fun
  | [d] => { results := [.lit (.bool true)], args := [d] }
  | _ => none }
def mountsWalksRow : OpenClaim := { program := "ytgliiknfmlmddaa", sum := "c058ff625dfe2db95efa9c0979ededf1473e79db3b24ab2ac79799240a1ed268", func := "kaudit/kauditlaw06.MountsWalks", spec := "mountsWalks", unfollowed := true, recurses := true, apart := false }
def MountsWalksSaid : Prop := mountsWalksRow.holds Try.pinned (OpenSpec.ofChange mountsWalksSpec)

/-- ITS FALSE NEIGHBOUR: 'it returns false'. Refute it at one input. -/
def mountsWalksWrong : ChangeSpec := { name := "mountsWalks", fn := fun _ => fun
  | [d] => { results := [.lit (.bool false)], args := [d] }
  | _ => none }
def MountsWalksWrongFalsely : Prop := mountsWalksRow.holds Try.pinned (OpenSpec.ofChange mountsWalksWrong)

/-- 'kauditlaw06.MountsPaths': WHATEVER THE INPUT: true; the input reads as it did. -/
def mountsPathsSpec : ChangeSpec := { name := "mountsPaths", fn := fun _ => fun
  | [d] => { results := [.lit (.bool true)], args := [d] }
  | _ => none }
def mountsPathsRow : OpenClaim := { program := "ytgliiknfmlmddaa", sum := "c058ff625dfe2db95efa9c0979ededf1473e79db3b24ab2ac79799240a1ed268", func := "kaudit/kauditlaw06.MountsPaths", spec := "mountsPaths", unfollowed := true, recurses := true, apart := false }
def MountsPathsSaid : Prop := mountsPathsRow.holds Try.pinned (OpenSpec.ofChange mountsPathsSpec)

/-- ITS FALSE NEIGHBOUR: 'it returns false'. Refute it at one input. -/
def mountsPathsWrong : ChangeSpec := { name := "mountsPaths", fn := fun _ => fun
  | [d] => { results := [.lit (.bool false)], args := [d] }
  | _ => none }
def MountsPathsWrongFalsely : Prop := mountsPathsRow.holds Try.pinned (OpenSpec.ofChange mountsPathsWrong)

/-- 'kauditlaw06.MountsRemoves': WHATEVER THE INPUT: true; the input reads as it did. -/
def mountsRemovesSpec : ChangeSpec := { name := "mountsRemoves", fn := fun _ => fun
  | [d1, d2] => { results := [.lit (.bool true)], args := [d1, d2] }
  | _ => none }
def mountsRemovesRow : OpenClaim := { program := "ytgliiknfmlmddaa", sum := "c058ff625dfe2db95efa9c0979ededf1473e79db3b24ab2ac79799240a1ed268", func := "kaudit/kauditlaw06.MountsRemoves", spec := "mountsRemoves", unfollowed := true, recurses := true, apart := false }
def MountsRemovesSaid : Prop := mountsRemovesRow.holds Try.pinned (OpenSpec.ofChange mountsRemovesSpec)

/-- ITS FALSE NEIGHBOUR: 'it returns false'. Refute it at one input. -/
def mountsRemovesWrong : ChangeSpec := { name := "mountsRemoves", fn := fun _ => fun
  | [d1, d2] => { results := [.lit (.bool false)], args := [d1, d2] }
  | _ => none }
def MountsRemovesWrongFalsely : Prop := mountsRemovesRow.holds Try.pinned (OpenSpec.ofChange mountsRemovesWrong)

/-- 'kauditlaw06.MountsBack': WHATEVER THE INPUT: true; the input reads as it did. -/
def mountsBackSpec : ChangeSpec := { name := "mountsBack", fn := fun _ => fun
  | [d] => { results := [.lit (.bool true)], args := [d] }
  | _ => none }
def mountsBackRow : OpenClaim := { program := "ytgliiknfmlmddaa", sum := "c058ff625dfe2db95efa9c0979ededf1473e79db3b24ab2ac79799240a1ed268", func := "kaudit/kauditlaw06.MountsBack", spec := "mountsBack", unfollowed := true, recurses := true, apart := false }
def MountsBackSaid : Prop := mountsBackRow.holds Try.pinned (OpenSpec.ofChange mountsBackSpec)

/-- ITS FALSE NEIGHBOUR: 'it returns false'. Refute it at one input. -/
def mountsBackWrong : ChangeSpec := { name := "mountsBack", fn := fun _ => fun
  | [d] => { results := [.lit (.bool false)], args := [d] }
  | _ => none }
def MountsBackWrongFalsely : Prop := mountsBackRow.holds Try.pinned (OpenSpec.ofChange mountsBackWrong)

/-- 'kauditlaw06.MountsValid': WHATEVER THE INPUT: true; the input reads as it did. -/
def mountsValidSpec : ChangeSpec := { name := "mountsValid", fn := fun _ => fun
  | [d1, d2] => { results := [.lit (.bool true)], args := [d1, d2] }
  | _ => none }
def mountsValidRow : OpenClaim := { program := "ytgliiknfmlmddaa", sum := "c058ff625dfe2db95efa9c0979ededf1473e79db3b24ab2ac79799240a1ed268", func := "kaudit/kauditlaw06.MountsValid", spec := "mountsValid", inPlace := ["internal/bytealg.IndexByteString", "internal/bytealg.IndexString"], unfollowed := true, recurses := true, named := ["internal/bytealg.MaxLen"], apart := false }
def MountsValidSaid : Prop := mountsValidRow.holds Try.pinned (OpenSpec.ofChange mountsValidSpec)

/-- ITS FALSE NEIGHBOUR: 'it returns false'. Refute it at one input. -/
def mountsValidWrong : ChangeSpec := { name := "mountsValid", fn := fun _ => fun
  | [d1, d2] => { results := [.lit (.bool false)], args := [d1, d2] }
  | _ => none }
def MountsValidWrongFalsely : Prop := mountsValidRow.holds Try.pinned (OpenSpec.ofChange mountsValidWrong)

/- THE SECOND FORM. 'bulk': how many values and letters a reading holds, each counted each time it is reached (what is shared counts as often as it is met; a slice's spare places count too). A statement '..UptoSaid' is the law's where the arguments, and the package variables that the reading takes, are together of bulk at most 1048576: NARROWER than '..Said'. Prove '..Said' where nothing that the law and all that it calls make is longer than what came in: it says more and counts as full. Else prove '..UptoSaid'. A law counts once. -/
mutual
def uptoBulk {H : Type} : DataW H → Nat
  | .lit (.string bytes) => bytes.length + 1
  | .lit _ => 1
  | .nil => 1
  | .ptr d => uptoBulk d + 1
  | .slice elems spare => uptoBulkAll elems + uptoBulkAll spare + 1
  | .agg parts => uptoBulkAll parts + 1
  | .iface _ d => uptoBulk d + 1
  | .map entries => uptoBulkEntries entries + 1
  | .held _ => 1
def uptoBulkAll {H : Type} : List (DataW H) → Nat
  | [] => 0
  | d :: r => uptoBulk d + uptoBulkAll r
def uptoBulkEntries {H : Type} : List (Lit × DataW H) → Nat
  | [] => 0
  | x :: r => uptoBulkEntry x + uptoBulkEntries r
def uptoBulkEntry {H : Type} : Lit × DataW H → Nat
  | (.string bytes, d) => bytes.length + uptoBulk d + 1
  | (_, d) => uptoBulk d + 1
 end
def uptoSmall : (H : Type) → List (DataW H) → Bool := fun _ ds => decide (uptoBulkAll ds ≤ 1048576)
def OpenSpec.upto (s : _root_.Go.ChangeSpec) : _root_.Go.OpenSpec := { _root_.Go.OpenSpec.ofChange s with cond := some uptoSmall }

/-- 'kauditlaw06.MountsAdds', WHERE WHAT IT READS IS OF BULK AT MOST 1048576: true; the input reads as it did. -/
def mountsAddsUptoRow : OpenClaim := { program := "ytgliiknfmlmddaa", sum := "c058ff625dfe2db95efa9c0979ededf1473e79db3b24ab2ac79799240a1ed268", func := "kaudit/kauditlaw06.MountsAdds", spec := "mountsAdds", unfollowed := true, recurses := true, apart := false, narrowed := true }
def MountsAddsUptoSaid : Prop := mountsAddsUptoRow.holds Try.pinned (OpenSpec.upto mountsAddsSpec)

/-- 'kauditlaw06.MountsWithin', WHERE WHAT IT READS IS OF BULK AT MOST 1048576: true; the input reads as it did. -/
def mountsWithinUptoRow : OpenClaim := { program := "ytgliiknfmlmddaa", sum := "c058ff625dfe2db95efa9c0979ededf1473e79db3b24ab2ac79799240a1ed268", func := "kaudit/kauditlaw06.MountsWithin", spec := "mountsWithin", unfollowed := true, recurses := true, apart := false, narrowed := true }
def MountsWithinUptoSaid : Prop := mountsWithinUptoRow.holds Try.pinned (OpenSpec.upto mountsWithinSpec)

/-- 'kauditlaw06.MountsOrder', WHERE WHAT IT READS IS OF BULK AT MOST 1048576: true; the input reads as it did. -/
def mountsOrderUptoRow : OpenClaim := { program := "ytgliiknfmlmddaa", sum := "c058ff625dfe2db95efa9c0979ededf1473e79db3b24ab2ac79799240a1ed268", func := "kaudit/kauditlaw06.MountsOrder", spec := "mountsOrder", unfollowed := true, recurses := true, apart := false, narrowed := true }
def MountsOrderUptoSaid : Prop := mountsOrderUptoRow.holds Try.pinned (OpenSpec.upto mountsOrderSpec)

/-- 'kauditlaw06.MountsWalks', WHERE WHAT IT READS IS OF BULK AT MOST 1048576: true; the input reads as it did. -/
def mountsWalksUptoRow : OpenClaim := { program := "ytgliiknfmlmddaa", sum := "c058ff625dfe2db95efa9c0979ededf1473e79db3b24ab2ac79799240a1ed268", func := "kaudit/kauditlaw06.MountsWalks", spec := "mountsWalks", unfollowed := true, recurses := true, apart := false, narrowed := true }
def MountsWalksUptoSaid : Prop := mountsWalksUptoRow.holds Try.pinned (OpenSpec.upto mountsWalksSpec)

/-- 'kauditlaw06.MountsPaths', WHERE WHAT IT READS IS OF BULK AT MOST 1048576: true; the input reads as it did. -/
def mountsPathsUptoRow : OpenClaim := { program := "ytgliiknfmlmddaa", sum := "c058ff625dfe2db95efa9c0979ededf1473e79db3b24ab2ac79799240a1ed268", func := "kaudit/kauditlaw06.MountsPaths", spec := "mountsPaths", unfollowed := true, recurses := true, apart := false, narrowed := true }
def MountsPathsUptoSaid : Prop := mountsPathsUptoRow.holds Try.pinned (OpenSpec.upto mountsPathsSpec)

/-- 'kauditlaw06.MountsRemoves', WHERE WHAT IT READS IS OF BULK AT MOST 1048576: true; the input reads as it did. -/
def mountsRemovesUptoRow : OpenClaim := { program := "ytgliiknfmlmddaa", sum := "c058ff625dfe2db95efa9c0979ededf1473e79db3b24ab2ac79799240a1ed268", func := "kaudit/kauditlaw06.MountsRemoves", spec := "mountsRemoves", unfollowed := true, recurses := true, apart := false, narrowed := true }
def MountsRemovesUptoSaid : Prop := mountsRemovesUptoRow.holds Try.pinned (OpenSpec.upto mountsRemovesSpec)

/-- 'kauditlaw06.MountsBack', WHERE WHAT IT READS IS OF BULK AT MOST 1048576: true; the input reads as it did. -/
def mountsBackUptoRow : OpenClaim := { program := "ytgliiknfmlmddaa", sum := "c058ff625dfe2db95efa9c0979ededf1473e79db3b24ab2ac79799240a1ed268", func := "kaudit/kauditlaw06.MountsBack", spec := "mountsBack", unfollowed := true, recurses := true, apart := false, narrowed := true }
def MountsBackUptoSaid : Prop := mountsBackUptoRow.holds Try.pinned (OpenSpec.upto mountsBackSpec)

/-- 'kauditlaw06.MountsValid', WHERE WHAT IT READS IS OF BULK AT MOST 1048576: true; the input reads as it did. -/
def mountsValidUptoRow : OpenClaim := { program := "ytgliiknfmlmddaa", sum := "c058ff625dfe2db95efa9c0979ededf1473e79db3b24ab2ac79799240a1ed268", func := "kaudit/kauditlaw06.MountsValid", spec := "mountsValid", inPlace := ["internal/bytealg.IndexByteString", "internal/bytealg.IndexString"], unfollowed := true, recurses := true, named := ["internal/bytealg.MaxLen"], apart := false, narrowed := true }
def MountsValidUptoSaid : Prop := mountsValidUptoRow.holds Try.pinned (OpenSpec.upto mountsValidSpec)

end Rows
end Go.Proofs.Ytgliiknfmlmddaa
