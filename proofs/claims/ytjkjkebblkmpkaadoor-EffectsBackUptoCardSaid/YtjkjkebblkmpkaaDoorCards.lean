/-
  DERIVED. GIVEN WITH THE SEED: THE CARDS: each row of YtjkjkebblkmpkaaDoorRows.lean that lists a variable, with what it lists TIED to the program's text (the seventh form; the later family's looks); each row that meets fmt, with fmt's text TOLD by the authors' own Lean function (tested against real Go, not proved from fmt's source: count such statements apart). THE CARD IS WHAT COUNTS. Prove the row's statement (the work); the ties are given (YtjkjkebblkmpkaaDoorTie.lean); close each card by the builder's one call (the guide's Derived/Test/ToyasCard.lean, 'card_holds'). Laid BY PROGRAM, IN A SANDBOX (cutbox-door.mjs). By AI agents, Wed Nov 11 2026. No macro, syntax, notation, axiom, sorry.
-/
import Derived.Test.YtjkjkebblkmpkaaDoorRows
import GoSem.ClaimSeven
namespace Go.Proofs.YtjkjkebblkmpkaaDoor
namespace Rows

/-- THE TIED CARD OF 'factotumlaw17.EffectsValues'. -/
def effectsValuesCard : Claim7 := { stood := { row := effectsValuesRow, standIns := [], harness := (true, "ba57e622e0da55ab0dd86afee06b745c413d672bbaeb616c7ca6b05d3875b530"), looks := false }, kinds := [], alts := [], laidByText := true, laidKinds := [.data, .pinned], laidTests := true, laidLooks := .later }
def EffectsValuesCardSaid : Prop := Claim7.holds Tryd.pinned (.plain (OpenSpec.ofChange effectsValuesSpec)) effectsValuesCard

/-- THE TIED CARD OF 'factotumlaw17.EffectsRecords'. -/
def effectsRecordsCard : Claim7 := { stood := { row := effectsRecordsRow, standIns := [], harness := (true, "ba57e622e0da55ab0dd86afee06b745c413d672bbaeb616c7ca6b05d3875b530"), looks := false }, kinds := [], alts := [], laidByText := true, laidKinds := [.data, .pinned], laidTests := true, laidLooks := .later }
def EffectsRecordsCardSaid : Prop := Claim7.holds Tryd.pinned (.plain (OpenSpec.ofChange effectsRecordsSpec)) effectsRecordsCard

/-- THE TIED CARD OF 'factotumlaw17.EffectsReads'. -/
def effectsReadsCard : Claim7 := { stood := { row := effectsReadsRow, standIns := [], harness := (true, "ba57e622e0da55ab0dd86afee06b745c413d672bbaeb616c7ca6b05d3875b530"), looks := false }, kinds := [], alts := [], laidByText := true, laidKinds := [.data, .pinned], laidTests := true, laidLooks := .later }
def EffectsReadsCardSaid : Prop := Claim7.holds Tryd.pinned (.plain (OpenSpec.ofChange effectsReadsSpec)) effectsReadsCard

/-- THE TIED CARD OF 'factotumlaw17.EffectsPieces'. -/
def effectsPiecesCard : Claim7 := { stood := { row := effectsPiecesRow, standIns := [], harness := (true, "ba57e622e0da55ab0dd86afee06b745c413d672bbaeb616c7ca6b05d3875b530"), looks := false }, kinds := [], alts := [], laidByText := true, laidKinds := [.data, .pinned], laidTests := true, laidLooks := .later }
def EffectsPiecesCardSaid : Prop := Claim7.holds Tryd.pinned (.plain (OpenSpec.ofChange effectsPiecesSpec)) effectsPiecesCard

/-- THE TIED CARD OF 'factotumlaw17.EffectsBack'. -/
def effectsBackCard : Claim7 := { stood := { row := effectsBackRow, standIns := [], harness := (true, "ba57e622e0da55ab0dd86afee06b745c413d672bbaeb616c7ca6b05d3875b530"), looks := false }, kinds := [], alts := [], laidByText := true, laidKinds := [.data, .pinned], laidTests := true, laidLooks := .later }
def EffectsBackCardSaid : Prop := Claim7.holds Tryd.pinned (.plain (OpenSpec.ofChange effectsBackSpec)) effectsBackCard

/-- THE SECOND FORM's CARD OF 'factotumlaw17.EffectsValues'. -/
def effectsValuesUptoCard : Claim7 := { stood := { row := effectsValuesUptoRow, standIns := [], harness := (true, "ba57e622e0da55ab0dd86afee06b745c413d672bbaeb616c7ca6b05d3875b530"), looks := false }, kinds := [], alts := [], laidByText := true, laidKinds := [.data, .pinned], laidTests := true, laidLooks := .later }
def EffectsValuesUptoCardSaid : Prop := Claim7.holds Tryd.pinned (.plain (OpenSpec.upto effectsValuesSpec)) effectsValuesUptoCard

/-- THE SECOND FORM's CARD OF 'factotumlaw17.EffectsRecords'. -/
def effectsRecordsUptoCard : Claim7 := { stood := { row := effectsRecordsUptoRow, standIns := [], harness := (true, "ba57e622e0da55ab0dd86afee06b745c413d672bbaeb616c7ca6b05d3875b530"), looks := false }, kinds := [], alts := [], laidByText := true, laidKinds := [.data, .pinned], laidTests := true, laidLooks := .later }
def EffectsRecordsUptoCardSaid : Prop := Claim7.holds Tryd.pinned (.plain (OpenSpec.upto effectsRecordsSpec)) effectsRecordsUptoCard

/-- THE SECOND FORM's CARD OF 'factotumlaw17.EffectsReads'. -/
def effectsReadsUptoCard : Claim7 := { stood := { row := effectsReadsUptoRow, standIns := [], harness := (true, "ba57e622e0da55ab0dd86afee06b745c413d672bbaeb616c7ca6b05d3875b530"), looks := false }, kinds := [], alts := [], laidByText := true, laidKinds := [.data, .pinned], laidTests := true, laidLooks := .later }
def EffectsReadsUptoCardSaid : Prop := Claim7.holds Tryd.pinned (.plain (OpenSpec.upto effectsReadsSpec)) effectsReadsUptoCard

/-- THE SECOND FORM's CARD OF 'factotumlaw17.EffectsPieces'. -/
def effectsPiecesUptoCard : Claim7 := { stood := { row := effectsPiecesUptoRow, standIns := [], harness := (true, "ba57e622e0da55ab0dd86afee06b745c413d672bbaeb616c7ca6b05d3875b530"), looks := false }, kinds := [], alts := [], laidByText := true, laidKinds := [.data, .pinned], laidTests := true, laidLooks := .later }
def EffectsPiecesUptoCardSaid : Prop := Claim7.holds Tryd.pinned (.plain (OpenSpec.upto effectsPiecesSpec)) effectsPiecesUptoCard

/-- THE SECOND FORM's CARD OF 'factotumlaw17.EffectsBack'. -/
def effectsBackUptoCard : Claim7 := { stood := { row := effectsBackUptoRow, standIns := [], harness := (true, "ba57e622e0da55ab0dd86afee06b745c413d672bbaeb616c7ca6b05d3875b530"), looks := false }, kinds := [], alts := [], laidByText := true, laidKinds := [.data, .pinned], laidTests := true, laidLooks := .later }
def EffectsBackUptoCardSaid : Prop := Claim7.holds Tryd.pinned (.plain (OpenSpec.upto effectsBackSpec)) effectsBackUptoCard
end Rows
end Go.Proofs.YtjkjkebblkmpkaaDoor
