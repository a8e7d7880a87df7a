/-
  DERIVED. GIVEN WITH THE SEED: THE CARDS: each row of YtamohmpapdecdaaDoorRows.lean that lists a variable, with what it lists TIED to the program's text (the seventh form; the later family's looks); each row that meets fmt, with fmt's text TOLD by the authors' own Lean function (tested against real Go, not proved from fmt's source: count such statements apart). THE CARD IS WHAT COUNTS. Prove the row's statement (the work); the ties are given (YtamohmpapdecdaaDoorTie.lean); close each card by the builder's one call (the guide's Derived/Test/ToyasCard.lean, 'card_holds'). Laid BY PROGRAM, IN A SANDBOX (cutbox-door.mjs). By AI agents, Wed Nov 11 2026. No macro, syntax, notation, axiom, sorry.
-/
import Derived.Test.YtamohmpapdecdaaDoorRows
import GoSem.ClaimSeven
namespace Go.Proofs.YtamohmpapdecdaaDoor
namespace Rows

/-- THE TIED CARD OF 'factotumlaw02.KeysWrite'. -/
def keysWriteCard : Claim7 := { stood := { row := keysWriteRow, standIns := [], harness := (true, "edb22bfd931fc1f5a53efa391ae0630ed601b94b291b4febc9c737df8d191d34"), looks := false }, kinds := [], alts := [], laidByText := true, laidKinds := [.data, .pinned], laidTests := true, laidLooks := .later }
def KeysWriteCardSaid : Prop := Claim7.holds Tryd.pinned (.plain (OpenSpec.ofChange keysWriteSpec)) keysWriteCard

/-- THE TIED CARD OF 'factotumlaw02.KeysRead'. -/
def keysReadCard : Claim7 := { stood := { row := keysReadRow, standIns := [], harness := (true, "edb22bfd931fc1f5a53efa391ae0630ed601b94b291b4febc9c737df8d191d34"), looks := false }, kinds := [], alts := [], laidByText := true, laidKinds := [.data, .pinned], laidTests := true, laidLooks := .later }
def KeysReadCardSaid : Prop := Claim7.holds Tryd.pinned (.plain (OpenSpec.ofChange keysReadSpec)) keysReadCard

/-- THE TIED CARD OF 'factotumlaw02.KeysBack'. -/
def keysBackCard : Claim7 := { stood := { row := keysBackRow, standIns := [], harness := (true, "edb22bfd931fc1f5a53efa391ae0630ed601b94b291b4febc9c737df8d191d34"), looks := false }, kinds := [], alts := [], laidByText := true, laidKinds := [.data, .pinned], laidTests := true, laidLooks := .later }
def KeysBackCardSaid : Prop := Claim7.holds Tryd.pinned (.plain (OpenSpec.ofChange keysBackSpec)) keysBackCard

/-- THE TIED CARD OF 'factotumlaw02.KeysHeads'. -/
def keysHeadsCard : Claim7 := { stood := { row := keysHeadsRow, standIns := [], harness := (true, "edb22bfd931fc1f5a53efa391ae0630ed601b94b291b4febc9c737df8d191d34"), looks := false }, kinds := [], alts := [], laidByText := true, laidKinds := [.data, .pinned], laidTests := true, laidLooks := .later }
def KeysHeadsCardSaid : Prop := Claim7.holds Tryd.pinned (.plain (OpenSpec.ofChange keysHeadsSpec)) keysHeadsCard

/-- THE TIED CARD OF 'factotumlaw02.KeysNext'. -/
def keysNextCard : Claim7 := { stood := { row := keysNextRow, standIns := [], harness := (true, "edb22bfd931fc1f5a53efa391ae0630ed601b94b291b4febc9c737df8d191d34"), looks := false }, kinds := [], alts := [], laidByText := true, laidKinds := [.data, .pinned], laidTests := true, laidLooks := .later }
def KeysNextCardSaid : Prop := Claim7.holds Tryd.pinned (.plain (OpenSpec.ofChange keysNextSpec)) keysNextCard

/-- THE TIED CARD OF 'factotumlaw02.KeysOrder'. -/
def keysOrderCard : Claim7 := { stood := { row := keysOrderRow, standIns := [], harness := (true, "edb22bfd931fc1f5a53efa391ae0630ed601b94b291b4febc9c737df8d191d34"), looks := false }, kinds := [], alts := [], laidByText := true, laidKinds := [.data, .pinned], laidTests := true, laidLooks := .later }
def KeysOrderCardSaid : Prop := Claim7.holds Tryd.pinned (.plain (OpenSpec.ofChange keysOrderSpec)) keysOrderCard

/-- THE TIED CARD OF 'factotumlaw02.KeysCompare'. -/
def keysCompareCard : Claim7 := { stood := { row := keysCompareRow, standIns := [], harness := (true, "edb22bfd931fc1f5a53efa391ae0630ed601b94b291b4febc9c737df8d191d34"), looks := false }, kinds := [], alts := [], laidByText := true, laidKinds := [.data, .pinned], laidTests := true, laidLooks := .later }
def KeysCompareCardSaid : Prop := Claim7.holds Tryd.pinned (.plain (OpenSpec.ofChange keysCompareSpec)) keysCompareCard

/-- THE SECOND FORM's CARD OF 'factotumlaw02.KeysWrite'. -/
def keysWriteUptoCard : Claim7 := { stood := { row := keysWriteUptoRow, standIns := [], harness := (true, "edb22bfd931fc1f5a53efa391ae0630ed601b94b291b4febc9c737df8d191d34"), looks := false }, kinds := [], alts := [], laidByText := true, laidKinds := [.data, .pinned], laidTests := true, laidLooks := .later }
def KeysWriteUptoCardSaid : Prop := Claim7.holds Tryd.pinned (.plain (OpenSpec.upto keysWriteSpec)) keysWriteUptoCard

/-- THE SECOND FORM's CARD OF 'factotumlaw02.KeysRead'. -/
def keysReadUptoCard : Claim7 := { stood := { row := keysReadUptoRow, standIns := [], harness := (true, "edb22bfd931fc1f5a53efa391ae0630ed601b94b291b4febc9c737df8d191d34"), looks := false }, kinds := [], alts := [], laidByText := true, laidKinds := [.data, .pinned], laidTests := true, laidLooks := .later }
def KeysReadUptoCardSaid : Prop := Claim7.holds Tryd.pinned (.plain (OpenSpec.upto keysReadSpec)) keysReadUptoCard

/-- THE SECOND FORM's CARD OF 'factotumlaw02.KeysBack'. -/
def keysBackUptoCard : Claim7 := { stood := { row := keysBackUptoRow, standIns := [], harness := (true, "edb22bfd931fc1f5a53efa391ae0630ed601b94b291b4febc9c737df8d191d34"), looks := false }, kinds := [], alts := [], laidByText := true, laidKinds := [.data, .pinned], laidTests := true, laidLooks := .later }
def KeysBackUptoCardSaid : Prop := Claim7.holds Tryd.pinned (.plain (OpenSpec.upto keysBackSpec)) keysBackUptoCard

/-- THE SECOND FORM's CARD OF 'factotumlaw02.KeysHeads'. -/
def keysHeadsUptoCard : Claim7 := { stood := { row := keysHeadsUptoRow, standIns := [], harness := (true, "edb22bfd931fc1f5a53efa391ae0630ed601b94b291b4febc9c737df8d191d34"), looks := false }, kinds := [], alts := [], laidByText := true, laidKinds := [.data, .pinned], laidTests := true, laidLooks := .later }
def KeysHeadsUptoCardSaid : Prop := Claim7.holds Tryd.pinned (.plain (OpenSpec.upto keysHeadsSpec)) keysHeadsUptoCard

/-- THE SECOND FORM's CARD OF 'factotumlaw02.KeysNext'. -/
def keysNextUptoCard : Claim7 := { stood := { row := keysNextUptoRow, standIns := [], harness := (true, "edb22bfd931fc1f5a53efa391ae0630ed601b94b291b4febc9c737df8d191d34"), looks := false }, kinds := [], alts := [], laidByText := true, laidKinds := [.data, .pinned], laidTests := true, laidLooks := .later }
def KeysNextUptoCardSaid : Prop := Claim7.holds Tryd.pinned (.plain (OpenSpec.upto keysNextSpec)) keysNextUptoCard

/-- THE SECOND FORM's CARD OF 'factotumlaw02.KeysOrder'. -/
def keysOrderUptoCard : Claim7 := { stood := { row := keysOrderUptoRow, standIns := [], harness := (true, "edb22bfd931fc1f5a53efa391ae0630ed601b94b291b4febc9c737df8d191d34"), looks := false }, kinds := [], alts := [], laidByText := true, laidKinds := [.data, .pinned], laidTests := true, laidLooks := .later }
def KeysOrderUptoCardSaid : Prop := Claim7.holds Tryd.pinned (.plain (OpenSpec.upto keysOrderSpec)) keysOrderUptoCard

/-- THE SECOND FORM's CARD OF 'factotumlaw02.KeysCompare'. -/
def keysCompareUptoCard : Claim7 := { stood := { row := keysCompareUptoRow, standIns := [], harness := (true, "edb22bfd931fc1f5a53efa391ae0630ed601b94b291b4febc9c737df8d191d34"), looks := false }, kinds := [], alts := [], laidByText := true, laidKinds := [.data, .pinned], laidTests := true, laidLooks := .later }
def KeysCompareUptoCardSaid : Prop := Claim7.holds Tryd.pinned (.plain (OpenSpec.upto keysCompareSpec)) keysCompareUptoCard
end Rows
end Go.Proofs.YtamohmpapdecdaaDoor
