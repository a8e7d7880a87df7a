/-
  DERIVED. GIVEN WITH THE SEED: THE CARDS: each row of YtokjbncjapndgaaDoorRows.lean that lists a variable, with what it lists TIED to the program's text (the seventh form; the later family's looks); each row that meets fmt, with fmt's text TOLD by the authors' own Lean function (tested against real Go, not proved from fmt's source: count such statements apart). THE CARD IS WHAT COUNTS. Prove the row's statement (the work); the ties are given (YtokjbncjapndgaaDoorTie.lean); close each card by the builder's one call (the guide's Derived/Test/ToyasCard.lean, 'card_holds'). Laid BY PROGRAM, IN A SANDBOX (cutbox-door.mjs). By AI agents, Wed Nov 11 2026. No macro, syntax, notation, axiom, sorry.
-/
import Derived.Test.YtokjbncjapndgaaDoorRows
import GoSem.ClaimSeven
namespace Go.Proofs.YtokjbncjapndgaaDoor
namespace Rows

/-- THE TIED CARD OF 'factotumlaw09.NodeReads'. -/
def nodeReadsCard : Claim7 := { stood := { row := nodeReadsRow, standIns := [], harness := (true, "d80b396b9669a95c8f15840dc0da473c8ae0882960d07c0073285eb37c487c28"), looks := false }, kinds := [], alts := [], laidByText := true, laidKinds := [.data, .pinned], laidTests := true, laidLooks := .later }
def NodeReadsCardSaid : Prop := Claim7.holds Tryd.pinned (.plain (OpenSpec.ofChange nodeReadsSpec)) nodeReadsCard

/-- THE TIED CARD OF 'factotumlaw09.NodeBack'. -/
def nodeBackCard : Claim7 := { stood := { row := nodeBackRow, standIns := [], harness := (true, "d80b396b9669a95c8f15840dc0da473c8ae0882960d07c0073285eb37c487c28"), looks := false }, kinds := [], alts := [], laidByText := true, laidKinds := [.data, .pinned], laidTests := true, laidLooks := .later }
def NodeBackCardSaid : Prop := Claim7.holds Tryd.pinned (.plain (OpenSpec.ofChange nodeBackSpec)) nodeBackCard

/-- THE SECOND FORM's CARD OF 'factotumlaw09.NodeReads'. -/
def nodeReadsUptoCard : Claim7 := { stood := { row := nodeReadsUptoRow, standIns := [], harness := (true, "d80b396b9669a95c8f15840dc0da473c8ae0882960d07c0073285eb37c487c28"), looks := false }, kinds := [], alts := [], laidByText := true, laidKinds := [.data, .pinned], laidTests := true, laidLooks := .later }
def NodeReadsUptoCardSaid : Prop := Claim7.holds Tryd.pinned (.plain (OpenSpec.upto nodeReadsSpec)) nodeReadsUptoCard

/-- THE SECOND FORM's CARD OF 'factotumlaw09.NodeBack'. -/
def nodeBackUptoCard : Claim7 := { stood := { row := nodeBackUptoRow, standIns := [], harness := (true, "d80b396b9669a95c8f15840dc0da473c8ae0882960d07c0073285eb37c487c28"), looks := false }, kinds := [], alts := [], laidByText := true, laidKinds := [.data, .pinned], laidTests := true, laidLooks := .later }
def NodeBackUptoCardSaid : Prop := Claim7.holds Tryd.pinned (.plain (OpenSpec.upto nodeBackSpec)) nodeBackUptoCard
end Rows
end Go.Proofs.YtokjbncjapndgaaDoor
