/-
  DERIVED. GIVEN WITH THE SEED: THE CARDS: each row of YtnlfppfdfdopiaaDoorRows.lean that lists a variable, with what it lists TIED to the program's text (the seventh form; the later family's looks); each row that meets fmt, with fmt's text TOLD by the authors' own Lean function (tested against real Go, not proved from fmt's source: count such statements apart). THE CARD IS WHAT COUNTS. Prove the row's statement (the work); the ties are given (YtnlfppfdfdopiaaDoorTie.lean); close each card by the builder's one call (the guide's Derived/Test/ToyasCard.lean, 'card_holds'). Laid BY PROGRAM, IN A SANDBOX (cutbox-door.mjs). By AI agents, Wed Nov 11 2026. No macro, syntax, notation, axiom, sorry.
-/
import Derived.Test.YtnlfppfdfdopiaaDoorRows
import GoSem.ClaimSeven
namespace Go.Proofs.YtnlfppfdfdopiaaDoor
namespace Rows

/-- THE TIED CARD OF 'factotumlaw19.OutboxDense'. -/
def outboxDenseCard : Claim7 := { stood := { row := outboxDenseRow, standIns := [], harness := (true, "f231d48e6a578e36e60900b9653f1c6f0016041372917315e4f306b9f1c45d48"), looks := false }, kinds := [], alts := [], laidByText := true, laidKinds := [.data, .pinned], laidTests := true, laidLooks := .later }
def OutboxDenseCardSaid : Prop := Claim7.holds Tryd.pinned (.plain (OpenSpec.ofChange outboxDenseSpec)) outboxDenseCard

/-- THE TIED CARD OF 'factotumlaw19.OutboxParts'. -/
def outboxPartsCard : Claim7 := { stood := { row := outboxPartsRow, standIns := [], harness := (true, "f231d48e6a578e36e60900b9653f1c6f0016041372917315e4f306b9f1c45d48"), looks := false }, kinds := [], alts := [], laidByText := true, laidKinds := [.data, .pinned], laidTests := true, laidLooks := .later }
def OutboxPartsCardSaid : Prop := Claim7.holds Tryd.pinned (.plain (OpenSpec.ofChange outboxPartsSpec)) outboxPartsCard

/-- THE TIED CARD OF 'factotumlaw19.OutboxPlays'. -/
def outboxPlaysCard : Claim7 := { stood := { row := outboxPlaysRow, standIns := [], harness := (true, "f231d48e6a578e36e60900b9653f1c6f0016041372917315e4f306b9f1c45d48"), looks := false }, kinds := [], alts := [], laidByText := true, laidKinds := [.data, .pinned], laidTests := true, laidLooks := .later }
def OutboxPlaysCardSaid : Prop := Claim7.holds Tryd.pinned (.plain (OpenSpec.ofChange outboxPlaysSpec)) outboxPlaysCard

/-- THE TIED CARD OF 'factotumlaw19.OutboxNil'. -/
def outboxNilCard : Claim7 := { stood := { row := outboxNilRow, standIns := [], harness := (true, "f231d48e6a578e36e60900b9653f1c6f0016041372917315e4f306b9f1c45d48"), looks := false }, kinds := [], alts := [], laidByText := true, laidKinds := [.data, .pinned], laidTests := true, laidLooks := .later }
def OutboxNilCardSaid : Prop := Claim7.holds Tryd.pinned (.plain (OpenSpec.ofChange outboxNilSpec)) outboxNilCard

/-- THE TIED CARD OF 'factotumlaw19.OutboxBytes'. -/
def outboxBytesCard : Claim7 := { stood := { row := outboxBytesRow, standIns := [], harness := (true, "f231d48e6a578e36e60900b9653f1c6f0016041372917315e4f306b9f1c45d48"), looks := false }, kinds := [], alts := [], laidByText := true, laidKinds := [.data, .pinned], laidTests := true, laidLooks := .later }
def OutboxBytesCardSaid : Prop := Claim7.holds Tryd.pinned (.plain (OpenSpec.ofChange outboxBytesSpec)) outboxBytesCard

/-- THE SECOND FORM's CARD OF 'factotumlaw19.OutboxDense'. -/
def outboxDenseUptoCard : Claim7 := { stood := { row := outboxDenseUptoRow, standIns := [], harness := (true, "f231d48e6a578e36e60900b9653f1c6f0016041372917315e4f306b9f1c45d48"), looks := false }, kinds := [], alts := [], laidByText := true, laidKinds := [.data, .pinned], laidTests := true, laidLooks := .later }
def OutboxDenseUptoCardSaid : Prop := Claim7.holds Tryd.pinned (.plain (OpenSpec.upto outboxDenseSpec)) outboxDenseUptoCard

/-- THE SECOND FORM's CARD OF 'factotumlaw19.OutboxParts'. -/
def outboxPartsUptoCard : Claim7 := { stood := { row := outboxPartsUptoRow, standIns := [], harness := (true, "f231d48e6a578e36e60900b9653f1c6f0016041372917315e4f306b9f1c45d48"), looks := false }, kinds := [], alts := [], laidByText := true, laidKinds := [.data, .pinned], laidTests := true, laidLooks := .later }
def OutboxPartsUptoCardSaid : Prop := Claim7.holds Tryd.pinned (.plain (OpenSpec.upto outboxPartsSpec)) outboxPartsUptoCard

/-- THE SECOND FORM's CARD OF 'factotumlaw19.OutboxPlays'. -/
def outboxPlaysUptoCard : Claim7 := { stood := { row := outboxPlaysUptoRow, standIns := [], harness := (true, "f231d48e6a578e36e60900b9653f1c6f0016041372917315e4f306b9f1c45d48"), looks := false }, kinds := [], alts := [], laidByText := true, laidKinds := [.data, .pinned], laidTests := true, laidLooks := .later }
def OutboxPlaysUptoCardSaid : Prop := Claim7.holds Tryd.pinned (.plain (OpenSpec.upto outboxPlaysSpec)) outboxPlaysUptoCard

/-- THE SECOND FORM's CARD OF 'factotumlaw19.OutboxNil'. -/
def outboxNilUptoCard : Claim7 := { stood := { row := outboxNilUptoRow, standIns := [], harness := (true, "f231d48e6a578e36e60900b9653f1c6f0016041372917315e4f306b9f1c45d48"), looks := false }, kinds := [], alts := [], laidByText := true, laidKinds := [.data, .pinned], laidTests := true, laidLooks := .later }
def OutboxNilUptoCardSaid : Prop := Claim7.holds Tryd.pinned (.plain (OpenSpec.upto outboxNilSpec)) outboxNilUptoCard

/-- THE SECOND FORM's CARD OF 'factotumlaw19.OutboxBytes'. -/
def outboxBytesUptoCard : Claim7 := { stood := { row := outboxBytesUptoRow, standIns := [], harness := (true, "f231d48e6a578e36e60900b9653f1c6f0016041372917315e4f306b9f1c45d48"), looks := false }, kinds := [], alts := [], laidByText := true, laidKinds := [.data, .pinned], laidTests := true, laidLooks := .later }
def OutboxBytesUptoCardSaid : Prop := Claim7.holds Tryd.pinned (.plain (OpenSpec.upto outboxBytesSpec)) outboxBytesUptoCard
end Rows
end Go.Proofs.YtnlfppfdfdopiaaDoor
