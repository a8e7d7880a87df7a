/-
  DERIVED. GIVEN WITH THE SEED: THE CARDS: each row of YtbdmfpgiolaooaaDoorRows.lean that lists a variable, with what it lists TIED to the program's text (the seventh form; the later family's looks); each row that meets fmt, with fmt's text TOLD by the authors' own Lean function (tested against real Go, not proved from fmt's source: count such statements apart). THE CARD IS WHAT COUNTS. Prove the row's statement (the work); the ties are given (YtbdmfpgiolaooaaDoorTie.lean); close each card by the builder's one call (the guide's Derived/Test/ToyasCard.lean, 'card_holds'). Laid BY PROGRAM, IN A SANDBOX (cutbox-door.mjs). By AI agents, Wed Nov 11 2026. No macro, syntax, notation, axiom, sorry.
-/
import Derived.Test.YtbdmfpgiolaooaaDoorRows
import GoSem.ClaimSeven
namespace Go.Proofs.YtbdmfpgiolaooaaDoor
namespace Rows

/-- THE TIED CARD OF 'factotumlaw15.CheckAll'. -/
def checkAllCard : Claim7 := { stood := { row := checkAllRow, standIns := [], harness := (true, "3823a6ddbd02331023a669753e5ec4ad4535ae518da76fde9af8085f1b6db2e5"), looks := false }, kinds := [], alts := [], laidByText := true, laidKinds := [.data, .pinned], laidTests := true, laidLooks := .later }
def CheckAllCardSaid : Prop := Claim7.holds Tryd.pinned (.plain (OpenSpec.ofChange checkAllSpec)) checkAllCard

/-- THE TIED CARD OF 'factotumlaw15.CheckOne'. -/
def checkOneCard : Claim7 := { stood := { row := checkOneRow, standIns := [], harness := (true, "3823a6ddbd02331023a669753e5ec4ad4535ae518da76fde9af8085f1b6db2e5"), looks := false }, kinds := [], alts := [], laidByText := true, laidKinds := [.data, .pinned], laidTests := true, laidLooks := .later }
def CheckOneCardSaid : Prop := Claim7.holds Tryd.pinned (.plain (OpenSpec.ofChange checkOneSpec)) checkOneCard

/-- THE TIED CARD OF 'factotumlaw15.CheckReached'. -/
def checkReachedCard : Claim7 := { stood := { row := checkReachedRow, standIns := [], harness := (true, "3823a6ddbd02331023a669753e5ec4ad4535ae518da76fde9af8085f1b6db2e5"), looks := false }, kinds := [], alts := [], laidByText := true, laidKinds := [.data, .pinned], laidTests := true, laidLooks := .later }
def CheckReachedCardSaid : Prop := Claim7.holds Tryd.pinned (.plain (OpenSpec.ofChange checkReachedSpec)) checkReachedCard

/-- THE TIED CARD OF 'factotumlaw15.CheckStays'. -/
def checkStaysCard : Claim7 := { stood := { row := checkStaysRow, standIns := [], harness := (true, "3823a6ddbd02331023a669753e5ec4ad4535ae518da76fde9af8085f1b6db2e5"), looks := false }, kinds := [], alts := [], laidByText := true, laidKinds := [.data, .pinned], laidTests := true, laidLooks := .later }
def CheckStaysCardSaid : Prop := Claim7.holds Tryd.pinned (.plain (OpenSpec.ofChange checkStaysSpec)) checkStaysCard

/-- THE TIED CARD OF 'factotumlaw15.CheckHeads'. -/
def checkHeadsCard : Claim7 := { stood := { row := checkHeadsRow, standIns := [], harness := (true, "3823a6ddbd02331023a669753e5ec4ad4535ae518da76fde9af8085f1b6db2e5"), looks := false }, kinds := [], alts := [], laidByText := true, laidKinds := [.data, .pinned], laidTests := true, laidLooks := .later }
def CheckHeadsCardSaid : Prop := Claim7.holds Tryd.pinned (.plain (OpenSpec.ofChange checkHeadsSpec)) checkHeadsCard

/-- THE SECOND FORM's CARD OF 'factotumlaw15.CheckAll'. -/
def checkAllUptoCard : Claim7 := { stood := { row := checkAllUptoRow, standIns := [], harness := (true, "3823a6ddbd02331023a669753e5ec4ad4535ae518da76fde9af8085f1b6db2e5"), looks := false }, kinds := [], alts := [], laidByText := true, laidKinds := [.data, .pinned], laidTests := true, laidLooks := .later }
def CheckAllUptoCardSaid : Prop := Claim7.holds Tryd.pinned (.plain (OpenSpec.upto checkAllSpec)) checkAllUptoCard

/-- THE SECOND FORM's CARD OF 'factotumlaw15.CheckOne'. -/
def checkOneUptoCard : Claim7 := { stood := { row := checkOneUptoRow, standIns := [], harness := (true, "3823a6ddbd02331023a669753e5ec4ad4535ae518da76fde9af8085f1b6db2e5"), looks := false }, kinds := [], alts := [], laidByText := true, laidKinds := [.data, .pinned], laidTests := true, laidLooks := .later }
def CheckOneUptoCardSaid : Prop := Claim7.holds Tryd.pinned (.plain (OpenSpec.upto checkOneSpec)) checkOneUptoCard

/-- THE SECOND FORM's CARD OF 'factotumlaw15.CheckReached'. -/
def checkReachedUptoCard : Claim7 := { stood := { row := checkReachedUptoRow, standIns := [], harness := (true, "3823a6ddbd02331023a669753e5ec4ad4535ae518da76fde9af8085f1b6db2e5"), looks := false }, kinds := [], alts := [], laidByText := true, laidKinds := [.data, .pinned], laidTests := true, laidLooks := .later }
def CheckReachedUptoCardSaid : Prop := Claim7.holds Tryd.pinned (.plain (OpenSpec.upto checkReachedSpec)) checkReachedUptoCard

/-- THE SECOND FORM's CARD OF 'factotumlaw15.CheckStays'. -/
def checkStaysUptoCard : Claim7 := { stood := { row := checkStaysUptoRow, standIns := [], harness := (true, "3823a6ddbd02331023a669753e5ec4ad4535ae518da76fde9af8085f1b6db2e5"), looks := false }, kinds := [], alts := [], laidByText := true, laidKinds := [.data, .pinned], laidTests := true, laidLooks := .later }
def CheckStaysUptoCardSaid : Prop := Claim7.holds Tryd.pinned (.plain (OpenSpec.upto checkStaysSpec)) checkStaysUptoCard

/-- THE SECOND FORM's CARD OF 'factotumlaw15.CheckHeads'. -/
def checkHeadsUptoCard : Claim7 := { stood := { row := checkHeadsUptoRow, standIns := [], harness := (true, "3823a6ddbd02331023a669753e5ec4ad4535ae518da76fde9af8085f1b6db2e5"), looks := false }, kinds := [], alts := [], laidByText := true, laidKinds := [.data, .pinned], laidTests := true, laidLooks := .later }
def CheckHeadsUptoCardSaid : Prop := Claim7.holds Tryd.pinned (.plain (OpenSpec.upto checkHeadsSpec)) checkHeadsUptoCard
end Rows
end Go.Proofs.YtbdmfpgiolaooaaDoor
