/-
  No cell of these rows narrows 'for every input' (looked for: loops, veiled, ifaces, maps, wideKeys, modest, calm, conditions, laid).
  DERIVED. THE GIVEN ROWS OF THIS SEAT. 4 by the template 'for every input the law returns true; each argument reads behind the call as it read before'; 0 by the template 'total and deterministic' (their statements: YtokjbncjapndgaaTotals.lean).
  GIVEN WITH THE SEED: the statements are not yours to turn. If you find one false, say at which input.
  Laid BY PROGRAM, IN A SANDBOX (cutbox-rows.mjs): the forced cells as the released guide's own fill.sh prints them over the translation b0915388ac529f5e… (all of the seat's roots in one cut). By AI agents, Wed Nov 11 2026. No macro, syntax, notation, axiom, sorry.
-/
import Derived.Test.YtokjbncjapndgaaChecked
import GoSem.Claim
import GoSem.ClaimJoined
import GoSem.ClaimMapViews
import Derived.JoinedTies
import Derived.KernelRfl
namespace Go.Proofs.Ytokjbncjapndgaa
/- THE CELL 'sum', in the pinned program and in every row, IS THE sha256 OF THE DUMP (.gsa) THAT YtokjbncjapndgaaProg.lean LOADS. Nothing in Lean hashes anything: it is a label: what it is worth is what the hold of that sum in a sandbox is worth. -/
noncomputable def Try.pinned : Pinned := { name := "ytokjbncjapndgaa", sum := "b0915388ac529f5e9544f3f3b3e562538ef61f3c08112f785148f3885240e18f", checked := Try.checked }
namespace Rows
def none {H : Type} : Left H := { results := [], args := [] }

/-- 'factotumlaw09.NodeWrites': WHATEVER THE INPUT: true; the input reads as it did. -/
def nodeWritesSpec : ChangeSpec := { name := "nodeWrites", fn := fun _ => fun
  | [d] => { results := [.lit (.bool true)], args := [d] }
  | _ => none }
def nodeWritesRow : OpenClaim := { program := "ytokjbncjapndgaa", sum := "b0915388ac529f5e9544f3f3b3e562538ef61f3c08112f785148f3885240e18f", func := "factotum/factotumlaw09.NodeWrites", spec := "nodeWrites", inPlace := ["slices.overlaps[factotum/api.Pair]", "internal/abi.NoEscape", "internal/bytealg.MakeNoZero"], unfollowed := true, recurses := true, apart := false }
def NodeWritesSaid : Prop := nodeWritesRow.holds Try.pinned (OpenSpec.ofChange nodeWritesSpec)

/-- ITS FALSE NEIGHBOUR: 'it returns false'. Refute it at one input. -/
def nodeWritesWrong : ChangeSpec := { name := "nodeWrites", fn := fun _ => fun
  | [d] => { results := [.lit (.bool false)], args := [d] }
  | _ => none }
def NodeWritesWrongFalsely : Prop := nodeWritesRow.holds Try.pinned (OpenSpec.ofChange nodeWritesWrong)

/-- 'factotumlaw09.NodeFinds': WHATEVER THE INPUT: true; the input reads as it did. -/
def nodeFindsSpec : ChangeSpec := { name := "nodeFinds", fn := fun _ => fun
  | [d1, d2] => { results := [.lit (.bool true)], args := [d1, d2] }
  | _ => none }
def nodeFindsRow : OpenClaim := { program := "ytokjbncjapndgaa", sum := "b0915388ac529f5e9544f3f3b3e562538ef61f3c08112f785148f3885240e18f", func := "factotum/factotumlaw09.NodeFinds", spec := "nodeFinds", inPlace := ["slices.overlaps[factotum/api.Pair]", "internal/abi.NoEscape", "internal/bytealg.MakeNoZero"], unfollowed := true, recurses := true, apart := false }
def NodeFindsSaid : Prop := nodeFindsRow.holds Try.pinned (OpenSpec.ofChange nodeFindsSpec)

/-- ITS FALSE NEIGHBOUR: 'it returns false'. Refute it at one input. -/
def nodeFindsWrong : ChangeSpec := { name := "nodeFinds", fn := fun _ => fun
  | [d1, d2] => { results := [.lit (.bool false)], args := [d1, d2] }
  | _ => none }
def NodeFindsWrongFalsely : Prop := nodeFindsRow.holds Try.pinned (OpenSpec.ofChange nodeFindsWrong)

/-- 'factotumlaw09.NodeSplits': WHATEVER THE INPUT: true; the input reads as it did. -/
def nodeSplitsSpec : ChangeSpec := { name := "nodeSplits", fn := fun _ => fun
  | [d1, d2, d3] => { results := [.lit (.bool true)], args := [d1, d2, d3] }
  | _ => none }
def nodeSplitsRow : OpenClaim := { program := "ytokjbncjapndgaa", sum := "b0915388ac529f5e9544f3f3b3e562538ef61f3c08112f785148f3885240e18f", func := "factotum/factotumlaw09.NodeSplits", spec := "nodeSplits", inPlace := ["slices.overlaps[factotum/api.Pair]", "internal/abi.NoEscape", "internal/bytealg.MakeNoZero"], unfollowed := true, recurses := true, apart := false }
def NodeSplitsSaid : Prop := nodeSplitsRow.holds Try.pinned (OpenSpec.ofChange nodeSplitsSpec)

/-- ITS FALSE NEIGHBOUR: 'it returns false'. Refute it at one input. -/
def nodeSplitsWrong : ChangeSpec := { name := "nodeSplits", fn := fun _ => fun
  | [d1, d2, d3] => { results := [.lit (.bool false)], args := [d1, d2, d3] }
  | _ => none }
def NodeSplitsWrongFalsely : Prop := nodeSplitsRow.holds Try.pinned (OpenSpec.ofChange nodeSplitsWrong)

/-- 'factotumlaw09.NodeParts': WHATEVER THE INPUT: true; the input reads as it did. -/
def nodePartsSpec : ChangeSpec := { name := "nodeParts", fn := fun _ => fun
  | [d] => { results := [.lit (.bool true)], args := [d] }
  | _ => none }
def nodePartsRow : OpenClaim := { program := "ytokjbncjapndgaa", sum := "b0915388ac529f5e9544f3f3b3e562538ef61f3c08112f785148f3885240e18f", func := "factotum/factotumlaw09.NodeParts", spec := "nodeParts", inPlace := ["slices.overlaps[factotum/api.Pair]", "internal/abi.NoEscape", "internal/bytealg.MakeNoZero"], unfollowed := true, recurses := true, apart := false }
def NodePartsSaid : Prop := nodePartsRow.holds Try.pinned (OpenSpec.ofChange nodePartsSpec)

/-- ITS FALSE NEIGHBOUR: 'it returns false'. Refute it at one input. -/
def nodePartsWrong : ChangeSpec := { name := "nodeParts", fn := fun _ => fun
  | [d] => { results := [.lit (.bool false)], args := [d] }
  | _ => none }
def NodePartsWrongFalsely : Prop := nodePartsRow.holds Try.pinned (OpenSpec.ofChange nodePartsWrong)

/- THE SECOND FORM. 'bulk': how many values and letters a reading holds, each counted each time it is reached (what is shared counts as often as it is met; a slice's spare places count too). A statement '..UptoSaid' is the law's where the arguments, and the package variables that the reading takes, are together of bulk at most 1048576: NARROWER than '..Said'. Prove '..Said' where nothing that the law and all that it calls make is longer than what came in: it says more and counts as full. Else prove '..UptoSaid'. A law counts once. -/
mutual
def uptoBulk {H : Type} : DataW H → Nat
  | .lit (.string bytes) => bytes.length + 1
  | .lit _ => 1
  | .nil => 1
  | .ptr d => uptoBulk d + 1
  | .slice elems spare => uptoBulkAll elems + uptoBulkAll spare + 1
  | .agg parts => uptoBulkAll parts + 1
  | .iface _ d => uptoBulk d + 1
  | .map entries => uptoBulkEntries entries + 1
  | .held _ => 1
def uptoBulkAll {H : Type} : List (DataW H) → Nat
  | [] => 0
  | d :: r => uptoBulk d + uptoBulkAll r
def uptoBulkEntries {H : Type} : List (Lit × DataW H) → Nat
  | [] => 0
  | x :: r => uptoBulkEntry x + uptoBulkEntries r
def uptoBulkEntry {H : Type} : Lit × DataW H → Nat
  | (.string bytes, d) => bytes.length + uptoBulk d + 1
  | (_, d) => uptoBulk d + 1
 end
def uptoSmall : (H : Type) → List (DataW H) → Bool := fun _ ds => decide (uptoBulkAll ds ≤ 1048576)
def OpenSpec.upto (s : _root_.Go.ChangeSpec) : _root_.Go.OpenSpec := { _root_.Go.OpenSpec.ofChange s with cond := some uptoSmall }

/-- 'factotumlaw09.NodeWrites', WHERE WHAT IT READS IS OF BULK AT MOST 1048576: true; the input reads as it did. -/
def nodeWritesUptoRow : OpenClaim := { program := "ytokjbncjapndgaa", sum := "b0915388ac529f5e9544f3f3b3e562538ef61f3c08112f785148f3885240e18f", func := "factotum/factotumlaw09.NodeWrites", spec := "nodeWrites", inPlace := ["slices.overlaps[factotum/api.Pair]", "internal/abi.NoEscape", "internal/bytealg.MakeNoZero"], unfollowed := true, recurses := true, apart := false, narrowed := true }
def NodeWritesUptoSaid : Prop := nodeWritesUptoRow.holds Try.pinned (OpenSpec.upto nodeWritesSpec)

/-- 'factotumlaw09.NodeFinds', WHERE WHAT IT READS IS OF BULK AT MOST 1048576: true; the input reads as it did. -/
def nodeFindsUptoRow : OpenClaim := { program := "ytokjbncjapndgaa", sum := "b0915388ac529f5e9544f3f3b3e562538ef61f3c08112f785148f3885240e18f", func := "factotum/factotumlaw09.NodeFinds", spec := "nodeFinds", inPlace := ["slices.overlaps[factotum/api.Pair]", "internal/abi.NoEscape", "internal/bytealg.MakeNoZero"], unfollowed := true, recurses := true, apart := false, narrowed := true }
def NodeFindsUptoSaid : Prop := nodeFindsUptoRow.holds Try.pinned (OpenSpec.upto nodeFindsSpec)

/-- 'factotumlaw09.NodeSplits', WHERE WHAT IT READS IS OF BULK AT MOST 1048576: true; the input reads as it did. -/
def nodeSplitsUptoRow : OpenClaim := { program := "ytokjbncjapndgaa", sum := "b0915388ac529f5e9544f3f3b3e562538ef61f3c08112f785148f3885240e18f", func := "factotum/factotumlaw09.NodeSplits", spec := "nodeSplits", inPlace := ["slices.overlaps[factotum/api.Pair]", "internal/abi.NoEscape", "internal/bytealg.MakeNoZero"], unfollowed := true, recurses := true, apart := false, narrowed := true }
def NodeSplitsUptoSaid : Prop := nodeSplitsUptoRow.holds Try.pinned (OpenSpec.upto nodeSplitsSpec)

/-- 'factotumlaw09.NodeParts', WHERE WHAT IT READS IS OF BULK AT MOST 1048576: true; the input reads as it did. -/
def nodePartsUptoRow : OpenClaim := { program := "ytokjbncjapndgaa", sum := "b0915388ac529f5e9544f3f3b3e562538ef61f3c08112f785148f3885240e18f", func := "factotum/factotumlaw09.NodeParts", spec := "nodeParts", inPlace := ["slices.overlaps[factotum/api.Pair]", "internal/abi.NoEscape", "internal/bytealg.MakeNoZero"], unfollowed := true, recurses := true, apart := false, narrowed := true }
def NodePartsUptoSaid : Prop := nodePartsUptoRow.holds Try.pinned (OpenSpec.upto nodePartsSpec)

end Rows
end Go.Proofs.Ytokjbncjapndgaa
