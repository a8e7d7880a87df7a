/-
  DERIVED. GIVEN WITH THE SEED: THE CARDS: each row of YtekaeddagaejiaaDoorRows.lean that lists a variable, with what it lists TIED to the program's text (the seventh form; the later family's looks); each row that meets fmt, with fmt's text TOLD by the authors' own Lean function (tested against real Go, not proved from fmt's source: count such statements apart). THE CARD IS WHAT COUNTS. Prove the row's statement (the work); the ties are given (YtekaeddagaejiaaDoorTie.lean); close each card by the builder's one call (the guide's Derived/Test/ToyasCard.lean, 'card_holds'). Laid BY PROGRAM, IN A SANDBOX (cutbox-door.mjs). By AI agents, Wed Nov 11 2026. No macro, syntax, notation, axiom, sorry.
-/
import Derived.Test.YtekaeddagaejiaaDoorRows
import GoSem.ClaimSeven
namespace Go.Proofs.YtekaeddagaejiaaDoor
namespace Rows

/-- THE TIED CARD OF 'factotumlaw03.RowsFit'. -/
def rowsFitCard : Claim7 := { stood := { row := rowsFitRow, standIns := [], harness := (true, "b85a628afe3d779b04e8fa5801f3964484c86a9a1ebe000996fb65ad714c79bd"), looks := false }, kinds := [], alts := [], laidByText := true, laidKinds := [.data, .pinned], laidTests := true, laidLooks := .later }
def RowsFitCardSaid : Prop := Claim7.holds Tryd.pinned (.plain (OpenSpec.ofChange rowsFitSpec)) rowsFitCard

/-- THE TIED CARD OF 'factotumlaw03.RowsWrite'. -/
def rowsWriteCard : Claim7 := { stood := { row := rowsWriteRow, standIns := [], harness := (true, "b85a628afe3d779b04e8fa5801f3964484c86a9a1ebe000996fb65ad714c79bd"), looks := false }, kinds := [], alts := [], laidByText := true, laidKinds := [.data, .pinned], laidTests := true, laidLooks := .later }
def RowsWriteCardSaid : Prop := Claim7.holds Tryd.pinned (.plain (OpenSpec.ofChange rowsWriteSpec)) rowsWriteCard

/-- THE TIED CARD OF 'factotumlaw03.RowsRead'. -/
def rowsReadCard : Claim7 := { stood := { row := rowsReadRow, standIns := [], harness := (true, "b85a628afe3d779b04e8fa5801f3964484c86a9a1ebe000996fb65ad714c79bd"), looks := false }, kinds := [], alts := [], laidByText := true, laidKinds := [.data, .pinned], laidTests := true, laidLooks := .later }
def RowsReadCardSaid : Prop := Claim7.holds Tryd.pinned (.plain (OpenSpec.ofChange rowsReadSpec)) rowsReadCard

/-- THE TIED CARD OF 'factotumlaw03.RowsBack'. -/
def rowsBackCard : Claim7 := { stood := { row := rowsBackRow, standIns := [], harness := (true, "b85a628afe3d779b04e8fa5801f3964484c86a9a1ebe000996fb65ad714c79bd"), looks := false }, kinds := [], alts := [], laidByText := true, laidKinds := [.data, .pinned], laidTests := true, laidLooks := .later }
def RowsBackCardSaid : Prop := Claim7.holds Tryd.pinned (.plain (OpenSpec.ofChange rowsBackSpec)) rowsBackCard

/-- THE TIED CARD OF 'factotumlaw03.RowsOnly'. -/
def rowsOnlyCard : Claim7 := { stood := { row := rowsOnlyRow, standIns := [], harness := (true, "b85a628afe3d779b04e8fa5801f3964484c86a9a1ebe000996fb65ad714c79bd"), looks := false }, kinds := [], alts := [], laidByText := true, laidKinds := [.data, .pinned], laidTests := true, laidLooks := .later }
def RowsOnlyCardSaid : Prop := Claim7.holds Tryd.pinned (.plain (OpenSpec.ofChange rowsOnlySpec)) rowsOnlyCard

/-- THE TIED CARD OF 'factotumlaw03.RowsSchemas'. -/
def rowsSchemasCard : Claim7 := { stood := { row := rowsSchemasRow, standIns := [], harness := (true, "b85a628afe3d779b04e8fa5801f3964484c86a9a1ebe000996fb65ad714c79bd"), looks := false }, kinds := [], alts := [], laidByText := true, laidKinds := [.data, .pinned], laidTests := true, laidLooks := .later }
def RowsSchemasCardSaid : Prop := Claim7.holds Tryd.pinned (.plain (OpenSpec.ofChange rowsSchemasSpec)) rowsSchemasCard

/-- THE TIED CARD OF 'factotumlaw03.RowsOrder'. -/
def rowsOrderCard : Claim7 := { stood := { row := rowsOrderRow, standIns := [], harness := (true, "b85a628afe3d779b04e8fa5801f3964484c86a9a1ebe000996fb65ad714c79bd"), looks := false }, kinds := [], alts := [], laidByText := true, laidKinds := [.data, .pinned], laidTests := true, laidLooks := .later }
def RowsOrderCardSaid : Prop := Claim7.holds Tryd.pinned (.plain (OpenSpec.ofChange rowsOrderSpec)) rowsOrderCard

/-- THE SECOND FORM's CARD OF 'factotumlaw03.RowsFit'. -/
def rowsFitUptoCard : Claim7 := { stood := { row := rowsFitUptoRow, standIns := [], harness := (true, "b85a628afe3d779b04e8fa5801f3964484c86a9a1ebe000996fb65ad714c79bd"), looks := false }, kinds := [], alts := [], laidByText := true, laidKinds := [.data, .pinned], laidTests := true, laidLooks := .later }
def RowsFitUptoCardSaid : Prop := Claim7.holds Tryd.pinned (.plain (OpenSpec.upto rowsFitSpec)) rowsFitUptoCard

/-- THE SECOND FORM's CARD OF 'factotumlaw03.RowsWrite'. -/
def rowsWriteUptoCard : Claim7 := { stood := { row := rowsWriteUptoRow, standIns := [], harness := (true, "b85a628afe3d779b04e8fa5801f3964484c86a9a1ebe000996fb65ad714c79bd"), looks := false }, kinds := [], alts := [], laidByText := true, laidKinds := [.data, .pinned], laidTests := true, laidLooks := .later }
def RowsWriteUptoCardSaid : Prop := Claim7.holds Tryd.pinned (.plain (OpenSpec.upto rowsWriteSpec)) rowsWriteUptoCard

/-- THE SECOND FORM's CARD OF 'factotumlaw03.RowsRead'. -/
def rowsReadUptoCard : Claim7 := { stood := { row := rowsReadUptoRow, standIns := [], harness := (true, "b85a628afe3d779b04e8fa5801f3964484c86a9a1ebe000996fb65ad714c79bd"), looks := false }, kinds := [], alts := [], laidByText := true, laidKinds := [.data, .pinned], laidTests := true, laidLooks := .later }
def RowsReadUptoCardSaid : Prop := Claim7.holds Tryd.pinned (.plain (OpenSpec.upto rowsReadSpec)) rowsReadUptoCard

/-- THE SECOND FORM's CARD OF 'factotumlaw03.RowsBack'. -/
def rowsBackUptoCard : Claim7 := { stood := { row := rowsBackUptoRow, standIns := [], harness := (true, "b85a628afe3d779b04e8fa5801f3964484c86a9a1ebe000996fb65ad714c79bd"), looks := false }, kinds := [], alts := [], laidByText := true, laidKinds := [.data, .pinned], laidTests := true, laidLooks := .later }
def RowsBackUptoCardSaid : Prop := Claim7.holds Tryd.pinned (.plain (OpenSpec.upto rowsBackSpec)) rowsBackUptoCard

/-- THE SECOND FORM's CARD OF 'factotumlaw03.RowsOnly'. -/
def rowsOnlyUptoCard : Claim7 := { stood := { row := rowsOnlyUptoRow, standIns := [], harness := (true, "b85a628afe3d779b04e8fa5801f3964484c86a9a1ebe000996fb65ad714c79bd"), looks := false }, kinds := [], alts := [], laidByText := true, laidKinds := [.data, .pinned], laidTests := true, laidLooks := .later }
def RowsOnlyUptoCardSaid : Prop := Claim7.holds Tryd.pinned (.plain (OpenSpec.upto rowsOnlySpec)) rowsOnlyUptoCard

/-- THE SECOND FORM's CARD OF 'factotumlaw03.RowsSchemas'. -/
def rowsSchemasUptoCard : Claim7 := { stood := { row := rowsSchemasUptoRow, standIns := [], harness := (true, "b85a628afe3d779b04e8fa5801f3964484c86a9a1ebe000996fb65ad714c79bd"), looks := false }, kinds := [], alts := [], laidByText := true, laidKinds := [.data, .pinned], laidTests := true, laidLooks := .later }
def RowsSchemasUptoCardSaid : Prop := Claim7.holds Tryd.pinned (.plain (OpenSpec.upto rowsSchemasSpec)) rowsSchemasUptoCard

/-- THE SECOND FORM's CARD OF 'factotumlaw03.RowsOrder'. -/
def rowsOrderUptoCard : Claim7 := { stood := { row := rowsOrderUptoRow, standIns := [], harness := (true, "b85a628afe3d779b04e8fa5801f3964484c86a9a1ebe000996fb65ad714c79bd"), looks := false }, kinds := [], alts := [], laidByText := true, laidKinds := [.data, .pinned], laidTests := true, laidLooks := .later }
def RowsOrderUptoCardSaid : Prop := Claim7.holds Tryd.pinned (.plain (OpenSpec.upto rowsOrderSpec)) rowsOrderUptoCard
end Rows
end Go.Proofs.YtekaeddagaejiaaDoor
