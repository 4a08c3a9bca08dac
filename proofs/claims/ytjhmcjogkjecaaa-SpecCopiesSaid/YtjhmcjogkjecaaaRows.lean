/-
  No cell of these rows narrows 'for every input' (looked for: loops, veiled, ifaces, maps, wideKeys, modest, calm, conditions, laid).
  DERIVED. THE GIVEN ROWS OF THIS SEAT. 7 by the template 'for every input the law returns true; each argument reads behind the call as it read before'; 0 by the template 'total and deterministic' (their statements: YtjhmcjogkjecaaaTotals.lean).
  GIVEN WITH THE SEED: the statements are not yours to turn. If you find one false, say at which input.
  Laid BY PROGRAM, IN A SANDBOX (cutbox-rows.mjs): the forced cells as the released guide's own fill.sh prints them over the translation 91a20b5dc5b8786e… (all of the seat's roots in one cut). By AI agents, Wed Nov 11 2026. No macro, syntax, notation, axiom, sorry.
-/
import Derived.Test.YtjhmcjogkjecaaaChecked
import GoSem.Claim
import GoSem.ClaimJoined
import GoSem.ClaimMapViews
import Derived.JoinedTies
import Derived.KernelRfl
namespace Go.Proofs.Ytjhmcjogkjecaaa
/- THE CELL 'sum', in the pinned program and in every row, IS THE sha256 OF THE DUMP (.gsa) THAT YtjhmcjogkjecaaaProg.lean LOADS. Nothing in Lean hashes anything: it is a label: what it is worth is what the hold of that sum in a sandbox is worth. -/
noncomputable def Try.pinned : Pinned := { name := "ytjhmcjogkjecaaa", sum := "91a20b5dc5b8786ec7ba683b199c2d92849f983806e202fc367fef7c2fd5aee3", checked := Try.checked }
namespace Rows
def none {H : Type} : Left H := { results := [], args := [] }

/-- 'bedrocklaw51.SpecQueues': WHATEVER THE INPUT: true; the input reads as it did. -/
def specQueuesSpec : ChangeSpec := { name := "specQueues", fn := fun _ => fun
  | [d1, d2] => { results := [.lit (.bool true)], args := [d1, d2] }
  | _ => none }
def specQueuesRow : OpenClaim := { program := "ytjhmcjogkjecaaa", sum := "91a20b5dc5b8786ec7ba683b199c2d92849f983806e202fc367fef7c2fd5aee3", func := "bedrock/bedrocklaw51.SpecQueues", spec := "specQueues", unfollowed := true, recurses := true, apart := false }
def SpecQueuesSaid : Prop := specQueuesRow.holds Try.pinned (OpenSpec.ofChange specQueuesSpec)

/-- ITS FALSE NEIGHBOUR: 'it returns false'. Refute it at one input. -/
def specQueuesWrong : ChangeSpec := { name := "specQueues", fn := fun _ => fun
  | [d1, d2] => { results := [.lit (.bool false)], args := [d1, d2] }
  | _ => none }
def SpecQueuesWrongFalsely : Prop := specQueuesRow.holds Try.pinned (OpenSpec.ofChange specQueuesWrong)

/-- 'bedrocklaw51.SpecFrom': WHATEVER THE INPUT: true; the input reads as it did. -/
def specFromSpec : ChangeSpec := { name := "specFrom", fn := fun _ => fun
  | [d1, d2] => { results := [.lit (.bool true)], args := [d1, d2] }
  | _ => none }
def specFromRow : OpenClaim := { program := "ytjhmcjogkjecaaa", sum := "91a20b5dc5b8786ec7ba683b199c2d92849f983806e202fc367fef7c2fd5aee3", func := "bedrock/bedrocklaw51.SpecFrom", spec := "specFrom", unfollowed := true, recurses := true, apart := false }
def SpecFromSaid : Prop := specFromRow.holds Try.pinned (OpenSpec.ofChange specFromSpec)

/-- ITS FALSE NEIGHBOUR: 'it returns false'. Refute it at one input. -/
def specFromWrong : ChangeSpec := { name := "specFrom", fn := fun _ => fun
  | [d1, d2] => { results := [.lit (.bool false)], args := [d1, d2] }
  | _ => none }
def SpecFromWrongFalsely : Prop := specFromRow.holds Try.pinned (OpenSpec.ofChange specFromWrong)

/-- 'bedrocklaw51.SpecApplies': WHATEVER THE INPUT: true; the input reads as it did. -/
def specAppliesSpec : ChangeSpec := { name := "specApplies", fn := fun _ => fun
  | [d1, d2] => { results := [.lit (.bool true)], args := [d1, d2] }
  | _ => none }
def specAppliesRow : OpenClaim := { program := "ytjhmcjogkjecaaa", sum := "91a20b5dc5b8786ec7ba683b199c2d92849f983806e202fc367fef7c2fd5aee3", func := "bedrock/bedrocklaw51.SpecApplies", spec := "specApplies", unfollowed := true, recurses := true, apart := false }
def SpecAppliesSaid : Prop := specAppliesRow.holds Try.pinned (OpenSpec.ofChange specAppliesSpec)

/-- ITS FALSE NEIGHBOUR: 'it returns false'. Refute it at one input. -/
def specAppliesWrong : ChangeSpec := { name := "specApplies", fn := fun _ => fun
  | [d1, d2] => { results := [.lit (.bool false)], args := [d1, d2] }
  | _ => none }
def SpecAppliesWrongFalsely : Prop := specAppliesRow.holds Try.pinned (OpenSpec.ofChange specAppliesWrong)

/-- 'bedrocklaw51.SpecNew': WHATEVER THE INPUT: true; the input reads as it did. -/
def specNewSpec : ChangeSpec := { name := "specNew", fn := fun _ => fun
  | [d] => { results := [.lit (.bool true)], args := [d] }
  | _ => none }
def specNewRow : OpenClaim := { program := "ytjhmcjogkjecaaa", sum := "91a20b5dc5b8786ec7ba683b199c2d92849f983806e202fc367fef7c2fd5aee3", func := "bedrock/bedrocklaw51.SpecNew", spec := "specNew", unfollowed := true, recurses := true, apart := false }
def SpecNewSaid : Prop := specNewRow.holds Try.pinned (OpenSpec.ofChange specNewSpec)

/-- ITS FALSE NEIGHBOUR: 'it returns false'. Refute it at one input. -/
def specNewWrong : ChangeSpec := { name := "specNew", fn := fun _ => fun
  | [d] => { results := [.lit (.bool false)], args := [d] }
  | _ => none }
def SpecNewWrongFalsely : Prop := specNewRow.holds Try.pinned (OpenSpec.ofChange specNewWrong)

/-- 'bedrocklaw51.SpecCopies': WHATEVER THE INPUT: true; the input reads as it did. -/
def specCopiesSpec : ChangeSpec := { name := "specCopies", fn := fun _ => fun
  | [d1, d2, d3] => { results := [.lit (.bool true)], args := [d1, d2, d3] }
  | _ => none }
def specCopiesRow : OpenClaim := { program := "ytjhmcjogkjecaaa", sum := "91a20b5dc5b8786ec7ba683b199c2d92849f983806e202fc367fef7c2fd5aee3", func := "bedrock/bedrocklaw51.SpecCopies", spec := "specCopies", unfollowed := true, recurses := true, apart := false }
def SpecCopiesSaid : Prop := specCopiesRow.holds Try.pinned (OpenSpec.ofChange specCopiesSpec)

/-- ITS FALSE NEIGHBOUR: 'it returns false'. Refute it at one input. -/
def specCopiesWrong : ChangeSpec := { name := "specCopies", fn := fun _ => fun
  | [d1, d2, d3] => { results := [.lit (.bool false)], args := [d1, d2, d3] }
  | _ => none }
def SpecCopiesWrongFalsely : Prop := specCopiesRow.holds Try.pinned (OpenSpec.ofChange specCopiesWrong)

/-- 'bedrocklaw51.SpecEqual': WHATEVER THE INPUT: true; the input reads as it did. -/
def specEqualSpec : ChangeSpec := { name := "specEqual", fn := fun _ => fun
  | [d1, d2, d3] => { results := [.lit (.bool true)], args := [d1, d2, d3] }
  | _ => none }
def specEqualRow : OpenClaim := { program := "ytjhmcjogkjecaaa", sum := "91a20b5dc5b8786ec7ba683b199c2d92849f983806e202fc367fef7c2fd5aee3", func := "bedrock/bedrocklaw51.SpecEqual", spec := "specEqual", unfollowed := true, recurses := true, apart := false }
def SpecEqualSaid : Prop := specEqualRow.holds Try.pinned (OpenSpec.ofChange specEqualSpec)

/-- ITS FALSE NEIGHBOUR: 'it returns false'. Refute it at one input. -/
def specEqualWrong : ChangeSpec := { name := "specEqual", fn := fun _ => fun
  | [d1, d2, d3] => { results := [.lit (.bool false)], args := [d1, d2, d3] }
  | _ => none }
def SpecEqualWrongFalsely : Prop := specEqualRow.holds Try.pinned (OpenSpec.ofChange specEqualWrong)

/-- 'bedrocklaw51.SpecMaps': WHATEVER THE INPUT: true; the input reads as it did. -/
def specMapsSpec : ChangeSpec := { name := "specMaps", fn := fun _ => fun
  | [d1, d2, d3] => { results := [.lit (.bool true)], args := [d1, d2, d3] }
  | _ => none }
def specMapsRow : OpenClaim := { program := "ytjhmcjogkjecaaa", sum := "91a20b5dc5b8786ec7ba683b199c2d92849f983806e202fc367fef7c2fd5aee3", func := "bedrock/bedrocklaw51.SpecMaps", spec := "specMaps", unfollowed := true, recurses := true, apart := false }
def SpecMapsSaid : Prop := specMapsRow.holds Try.pinned (OpenSpec.ofChange specMapsSpec)

/-- ITS FALSE NEIGHBOUR: 'it returns false'. Refute it at one input. -/
def specMapsWrong : ChangeSpec := { name := "specMaps", fn := fun _ => fun
  | [d1, d2, d3] => { results := [.lit (.bool false)], args := [d1, d2, d3] }
  | _ => none }
def SpecMapsWrongFalsely : Prop := specMapsRow.holds Try.pinned (OpenSpec.ofChange specMapsWrong)

/- THE SECOND FORM. 'bulk': how many values and letters a reading holds, each counted each time it is reached (what is shared counts as often as it is met; a slice's spare places count too). A statement '..UptoSaid' is the law's where the arguments, and the package variables that the reading takes, are together of bulk at most 1048576: NARROWER than '..Said'. Prove '..Said' where nothing that the law and all that it calls make is longer than what came in: it says more and counts as full. Else prove '..UptoSaid'. A law counts once. -/
mutual
def uptoBulk {H : Type} : DataW H → Nat
  | .lit (.string bytes) => bytes.length + 1
  | .lit _ => 1
  | .nil => 1
  | .ptr d => uptoBulk d + 1
  | .slice elems spare => uptoBulkAll elems + uptoBulkAll spare + 1
  | .agg parts => uptoBulkAll parts + 1
  | .iface _ d => uptoBulk d + 1
  | .map entries => uptoBulkEntries entries + 1
  | .held _ => 1
def uptoBulkAll {H : Type} : List (DataW H) → Nat
  | [] => 0
  | d :: r => uptoBulk d + uptoBulkAll r
def uptoBulkEntries {H : Type} : List (Lit × DataW H) → Nat
  | [] => 0
  | x :: r => uptoBulkEntry x + uptoBulkEntries r
def uptoBulkEntry {H : Type} : Lit × DataW H → Nat
  | (.string bytes, d) => bytes.length + uptoBulk d + 1
  | (_, d) => uptoBulk d + 1
 end
def uptoSmall : (H : Type) → List (DataW H) → Bool := fun _ ds => decide (uptoBulkAll ds ≤ 1048576)
def OpenSpec.upto (s : _root_.Go.ChangeSpec) : _root_.Go.OpenSpec := { _root_.Go.OpenSpec.ofChange s with cond := some uptoSmall }

/-- 'bedrocklaw51.SpecQueues', WHERE WHAT IT READS IS OF BULK AT MOST 1048576: true; the input reads as it did. -/
def specQueuesUptoRow : OpenClaim := { program := "ytjhmcjogkjecaaa", sum := "91a20b5dc5b8786ec7ba683b199c2d92849f983806e202fc367fef7c2fd5aee3", func := "bedrock/bedrocklaw51.SpecQueues", spec := "specQueues", unfollowed := true, recurses := true, apart := false, narrowed := true }
def SpecQueuesUptoSaid : Prop := specQueuesUptoRow.holds Try.pinned (OpenSpec.upto specQueuesSpec)

/-- 'bedrocklaw51.SpecFrom', WHERE WHAT IT READS IS OF BULK AT MOST 1048576: true; the input reads as it did. -/
def specFromUptoRow : OpenClaim := { program := "ytjhmcjogkjecaaa", sum := "91a20b5dc5b8786ec7ba683b199c2d92849f983806e202fc367fef7c2fd5aee3", func := "bedrock/bedrocklaw51.SpecFrom", spec := "specFrom", unfollowed := true, recurses := true, apart := false, narrowed := true }
def SpecFromUptoSaid : Prop := specFromUptoRow.holds Try.pinned (OpenSpec.upto specFromSpec)

/-- 'bedrocklaw51.SpecApplies', WHERE WHAT IT READS IS OF BULK AT MOST 1048576: true; the input reads as it did. -/
def specAppliesUptoRow : OpenClaim := { program := "ytjhmcjogkjecaaa", sum := "91a20b5dc5b8786ec7ba683b199c2d92849f983806e202fc367fef7c2fd5aee3", func := "bedrock/bedrocklaw51.SpecApplies", spec := "specApplies", unfollowed := true, recurses := true, apart := false, narrowed := true }
def SpecAppliesUptoSaid : Prop := specAppliesUptoRow.holds Try.pinned (OpenSpec.upto specAppliesSpec)

/-- 'bedrocklaw51.SpecNew', WHERE WHAT IT READS IS OF BULK AT MOST 1048576: true; the input reads as it did. -/
def specNewUptoRow : OpenClaim := { program := "ytjhmcjogkjecaaa", sum := "91a20b5dc5b8786ec7ba683b199c2d92849f983806e202fc367fef7c2fd5aee3", func := "bedrock/bedrocklaw51.SpecNew", spec := "specNew", unfollowed := true, recurses := true, apart := false, narrowed := true }
def SpecNewUptoSaid : Prop := specNewUptoRow.holds Try.pinned (OpenSpec.upto specNewSpec)

/-- 'bedrocklaw51.SpecCopies', WHERE WHAT IT READS IS OF BULK AT MOST 1048576: true; the input reads as it did. -/
def specCopiesUptoRow : OpenClaim := { program := "ytjhmcjogkjecaaa", sum := "91a20b5dc5b8786ec7ba683b199c2d92849f983806e202fc367fef7c2fd5aee3", func := "bedrock/bedrocklaw51.SpecCopies", spec := "specCopies", unfollowed := true, recurses := true, apart := false, narrowed := true }
def SpecCopiesUptoSaid : Prop := specCopiesUptoRow.holds Try.pinned (OpenSpec.upto specCopiesSpec)

/-- 'bedrocklaw51.SpecEqual', WHERE WHAT IT READS IS OF BULK AT MOST 1048576: true; the input reads as it did. -/
def specEqualUptoRow : OpenClaim := { program := "ytjhmcjogkjecaaa", sum := "91a20b5dc5b8786ec7ba683b199c2d92849f983806e202fc367fef7c2fd5aee3", func := "bedrock/bedrocklaw51.SpecEqual", spec := "specEqual", unfollowed := true, recurses := true, apart := false, narrowed := true }
def SpecEqualUptoSaid : Prop := specEqualUptoRow.holds Try.pinned (OpenSpec.upto specEqualSpec)

/-- 'bedrocklaw51.SpecMaps', WHERE WHAT IT READS IS OF BULK AT MOST 1048576: true; the input reads as it did. -/
def specMapsUptoRow : OpenClaim := { program := "ytjhmcjogkjecaaa", sum := "91a20b5dc5b8786ec7ba683b199c2d92849f983806e202fc367fef7c2fd5aee3", func := "bedrock/bedrocklaw51.SpecMaps", spec := "specMaps", unfollowed := true, recurses := true, apart := false, narrowed := true }
def SpecMapsUptoSaid : Prop := specMapsUptoRow.holds Try.pinned (OpenSpec.upto specMapsSpec)

end Rows
end Go.Proofs.Ytjhmcjogkjecaaa
