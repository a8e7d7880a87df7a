/-
  DERIVED. GIVEN WITH THE SEED: THE CARDS: each row of YtobjnhkjahhfnaaDoorRows.lean that lists a variable, with what it lists TIED to the program's text (the seventh form; the later family's looks); each row that meets fmt, with fmt's text TOLD by the authors' own Lean function (tested against real Go, not proved from fmt's source: count such statements apart). THE CARD IS WHAT COUNTS. Prove the row's statement (the work); the ties are given (YtobjnhkjahhfnaaDoorTie.lean); close each card by the builder's one call (the guide's Derived/Test/ToyasCard.lean, 'card_holds'). Laid BY PROGRAM, IN A SANDBOX (cutbox-door.mjs). By AI agents, Wed Nov 11 2026. No macro, syntax, notation, axiom, sorry.
-/
import Derived.Test.YtobjnhkjahhfnaaDoorRows
import GoSem.ClaimSeven
namespace Go.Proofs.YtobjnhkjahhfnaaDoor
namespace Rows

/-- THE TIED CARD OF 'factotumlaw21.FlowsBegin'. -/
def flowsBeginCard : Claim7 := { stood := { row := flowsBeginRow, standIns := [], harness := (true, "ca8f276cb91b12fd551eefbb8cbc37026bee63847ee1ee7a377db4f48cbf6716"), looks := false }, kinds := [], alts := [], laidByText := true, laidKinds := [.data, .pinned], laidTests := true, laidLooks := .later }
def FlowsBeginCardSaid : Prop := Claim7.holds Tryd.pinned (.plain (OpenSpec.ofChange flowsBeginSpec)) flowsBeginCard

/-- THE TIED CARD OF 'factotumlaw21.FlowsNext'. -/
def flowsNextCard : Claim7 := { stood := { row := flowsNextRow, standIns := [], harness := (true, "ca8f276cb91b12fd551eefbb8cbc37026bee63847ee1ee7a377db4f48cbf6716"), looks := false }, kinds := [], alts := [], laidByText := true, laidKinds := [.data, .pinned], laidTests := true, laidLooks := .later }
def FlowsNextCardSaid : Prop := Claim7.holds Tryd.pinned (.plain (OpenSpec.ofChange flowsNextSpec)) flowsNextCard

/-- THE TIED CARD OF 'factotumlaw21.FlowsEnd'. -/
def flowsEndCard : Claim7 := { stood := { row := flowsEndRow, standIns := [], harness := (true, "ca8f276cb91b12fd551eefbb8cbc37026bee63847ee1ee7a377db4f48cbf6716"), looks := false }, kinds := [], alts := [], laidByText := true, laidKinds := [.data, .pinned], laidTests := true, laidLooks := .later }
def FlowsEndCardSaid : Prop := Claim7.holds Tryd.pinned (.plain (OpenSpec.ofChange flowsEndSpec)) flowsEndCard

/-- THE TIED CARD OF 'factotumlaw21.FlowsWake'. -/
def flowsWakeCard : Claim7 := { stood := { row := flowsWakeRow, standIns := [], harness := (true, "ca8f276cb91b12fd551eefbb8cbc37026bee63847ee1ee7a377db4f48cbf6716"), looks := false }, kinds := [], alts := [], laidByText := true, laidKinds := [.data, .pinned], laidTests := true, laidLooks := .later }
def FlowsWakeCardSaid : Prop := Claim7.holds Tryd.pinned (.plain (OpenSpec.ofChange flowsWakeSpec)) flowsWakeCard

/-- THE TIED CARD OF 'factotumlaw21.FlowsBytes'. -/
def flowsBytesCard : Claim7 := { stood := { row := flowsBytesRow, standIns := [], harness := (true, "ca8f276cb91b12fd551eefbb8cbc37026bee63847ee1ee7a377db4f48cbf6716"), looks := false }, kinds := [], alts := [], laidByText := true, laidKinds := [.data, .pinned], laidTests := true, laidLooks := .later }
def FlowsBytesCardSaid : Prop := Claim7.holds Tryd.pinned (.plain (OpenSpec.ofChange flowsBytesSpec)) flowsBytesCard

/-- THE SECOND FORM's CARD OF 'factotumlaw21.FlowsBegin'. -/
def flowsBeginUptoCard : Claim7 := { stood := { row := flowsBeginUptoRow, standIns := [], harness := (true, "ca8f276cb91b12fd551eefbb8cbc37026bee63847ee1ee7a377db4f48cbf6716"), looks := false }, kinds := [], alts := [], laidByText := true, laidKinds := [.data, .pinned], laidTests := true, laidLooks := .later }
def FlowsBeginUptoCardSaid : Prop := Claim7.holds Tryd.pinned (.plain (OpenSpec.upto flowsBeginSpec)) flowsBeginUptoCard

/-- THE SECOND FORM's CARD OF 'factotumlaw21.FlowsNext'. -/
def flowsNextUptoCard : Claim7 := { stood := { row := flowsNextUptoRow, standIns := [], harness := (true, "ca8f276cb91b12fd551eefbb8cbc37026bee63847ee1ee7a377db4f48cbf6716"), looks := false }, kinds := [], alts := [], laidByText := true, laidKinds := [.data, .pinned], laidTests := true, laidLooks := .later }
def FlowsNextUptoCardSaid : Prop := Claim7.holds Tryd.pinned (.plain (OpenSpec.upto flowsNextSpec)) flowsNextUptoCard

/-- THE SECOND FORM's CARD OF 'factotumlaw21.FlowsEnd'. -/
def flowsEndUptoCard : Claim7 := { stood := { row := flowsEndUptoRow, standIns := [], harness := (true, "ca8f276cb91b12fd551eefbb8cbc37026bee63847ee1ee7a377db4f48cbf6716"), looks := false }, kinds := [], alts := [], laidByText := true, laidKinds := [.data, .pinned], laidTests := true, laidLooks := .later }
def FlowsEndUptoCardSaid : Prop := Claim7.holds Tryd.pinned (.plain (OpenSpec.upto flowsEndSpec)) flowsEndUptoCard

/-- THE SECOND FORM's CARD OF 'factotumlaw21.FlowsWake'. -/
def flowsWakeUptoCard : Claim7 := { stood := { row := flowsWakeUptoRow, standIns := [], harness := (true, "ca8f276cb91b12fd551eefbb8cbc37026bee63847ee1ee7a377db4f48cbf6716"), looks := false }, kinds := [], alts := [], laidByText := true, laidKinds := [.data, .pinned], laidTests := true, laidLooks := .later }
def FlowsWakeUptoCardSaid : Prop := Claim7.holds Tryd.pinned (.plain (OpenSpec.upto flowsWakeSpec)) flowsWakeUptoCard

/-- THE SECOND FORM's CARD OF 'factotumlaw21.FlowsBytes'. -/
def flowsBytesUptoCard : Claim7 := { stood := { row := flowsBytesUptoRow, standIns := [], harness := (true, "ca8f276cb91b12fd551eefbb8cbc37026bee63847ee1ee7a377db4f48cbf6716"), looks := false }, kinds := [], alts := [], laidByText := true, laidKinds := [.data, .pinned], laidTests := true, laidLooks := .later }
def FlowsBytesUptoCardSaid : Prop := Claim7.holds Tryd.pinned (.plain (OpenSpec.upto flowsBytesSpec)) flowsBytesUptoCard
end Rows
end Go.Proofs.YtobjnhkjahhfnaaDoor
