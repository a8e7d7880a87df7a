/-
  NARROWER THAN 'FOR EVERY INPUT', by the rows' own cells (each row's printed sentence says how): EffectsValues: laid · EffectsRecords: laid · EffectsReads: laid · EffectsPieces: laid · EffectsBack: laid.
  DERIVED. THE GIVEN ROWS OF THIS SEAT. 5 by the template 'for every input the law returns true; each argument reads behind the call as it read before'; 0 by the template 'total and deterministic' (their statements: YtjkjkebblkmpkaaDoorTotals.lean).
  GIVEN WITH THE SEED: the statements are not yours to turn. If you find one false, say at which input.
  Laid BY PROGRAM, IN A SANDBOX (cutbox-rows.mjs): the forced cells as the released guide's own fill.sh prints them over the translation 57715edf5c0b5dbb… (all of the seat's roots in one cut). By AI agents, Wed Nov 11 2026. No macro, syntax, notation, axiom, sorry.
-/
import Derived.Test.YtjkjkebblkmpkaaDoorChecked
import GoSem.PinnedTables
import GoSem.Claim
import GoSem.ClaimJoined
import GoSem.ClaimMapViews
import Derived.JoinedTies
import Derived.KernelRfl
namespace Go.Proofs.YtjkjkebblkmpkaaDoor
/- THE CELL 'sum', in the pinned program and in every row, IS THE sha256 OF THE DUMP (.gsa) THAT YtjkjkebblkmpkaaDoorProg.lean LOADS. Nothing in Lean hashes anything: it is a label: what it is worth is what the hold of that sum in a sandbox is worth. -/
noncomputable def Tryd.pinned : Pinned := { name := "ytjkjkebblkmpkaadoor", sum := "57715edf5c0b5dbb539c3990d06065b833ffff42803613b59edfdebc7946ce18", checked := Tryd.checked }
namespace Rows
def none {H : Type} : Left H := { results := [], args := [] }

/- WHAT THE LISTED PACKAGE-LEVEL VARIABLES READ AS WHEN THE CALL BEGINS. Each datum BY PROGRAM (the guide's laid-datum.mjs) off the statement by which the dump's own 'gosem.cut.vars' lays the variable. In a bare row this is a premise. The card (YtjkjkebblkmpkaaDoorCards.lean) ties it to the program's text. -/
def laid_unicode_utf8_acceptRanges {H : Type} : DataW H := .agg [.agg [.lit (.int .u8 128), .lit (.int .u8 191)], .agg [.lit (.int .u8 160), .lit (.int .u8 191)], .agg [.lit (.int .u8 128), .lit (.int .u8 159)], .agg [.lit (.int .u8 144), .lit (.int .u8 191)], .agg [.lit (.int .u8 128), .lit (.int .u8 143)], .agg [.lit (.int .u8 0), .lit (.int .u8 0)], .agg [.lit (.int .u8 0), .lit (.int .u8 0)], .agg [.lit (.int .u8 0), .lit (.int .u8 0)], .agg [.lit (.int .u8 0), .lit (.int .u8 0)], .agg [.lit (.int .u8 0), .lit (.int .u8 0)], .agg [.lit (.int .u8 0), .lit (.int .u8 0)], .agg [.lit (.int .u8 0), .lit (.int .u8 0)], .agg [.lit (.int .u8 0), .lit (.int .u8 0)], .agg [.lit (.int .u8 0), .lit (.int .u8 0)], .agg [.lit (.int .u8 0), .lit (.int .u8 0)], .agg [.lit (.int .u8 0), .lit (.int .u8 0)]]
/-- One of Go's own tables, pinned by name: the form's constant. -/
def laid_unicode_utf8_first : DataW Unit := Go.Pinned.utf8First

/-- 'factotumlaw17.EffectsValues': WHATEVER THE INPUT: true; the input reads as it did. -/
def effectsValuesSpec : ChangeSpec := { name := "effectsValues", fn := fun _ => fun
  | [d1, d2] => { results := [.lit (.bool true)], args := [d1, d2] }
  | _ => none }
def effectsValuesRow : OpenClaim := { program := "ytjkjkebblkmpkaadoor", sum := "57715edf5c0b5dbb539c3990d06065b833ffff42803613b59edfdebc7946ce18", func := "factotum/factotumlaw17.EffectsValues", spec := "effectsValues", inPlace := ["internal/bytealg.CountString", "internal/bytealg.IndexByteString", "internal/bytealg.IndexString", "internal/abi.NoEscape", "internal/bytealg.MakeNoZero"], unfollowed := true, recurses := true, named := ["internal/bytealg.MaxLen", "unicode/utf8.first", "unicode/utf8.acceptRanges"], apart := false, laid := [("unicode/utf8.acceptRanges", laid_unicode_utf8_acceptRanges), ("unicode/utf8.first", laid_unicode_utf8_first)] }
def EffectsValuesSaid : Prop := effectsValuesRow.holds Tryd.pinned (OpenSpec.ofChange effectsValuesSpec)

/-- ITS FALSE NEIGHBOUR: 'it returns false'. Refute it at one input. -/
def effectsValuesWrong : ChangeSpec := { name := "effectsValues", fn := fun _ => fun
  | [d1, d2] => { results := [.lit (.bool false)], args := [d1, d2] }
  | _ => none }
def EffectsValuesWrongFalsely : Prop := effectsValuesRow.holds Tryd.pinned (OpenSpec.ofChange effectsValuesWrong)

/-- 'factotumlaw17.EffectsRecords': WHATEVER THE INPUT: true; the input reads as it did. -/
def effectsRecordsSpec : ChangeSpec := { name := "effectsRecords", fn := fun _ => fun
  | [d1, d2] => { results := [.lit (.bool true)], args := [d1, d2] }
  | _ => none }
def effectsRecordsRow : OpenClaim := { program := "ytjkjkebblkmpkaadoor", sum := "57715edf5c0b5dbb539c3990d06065b833ffff42803613b59edfdebc7946ce18", func := "factotum/factotumlaw17.EffectsRecords", spec := "effectsRecords", inPlace := ["internal/bytealg.CountString", "internal/bytealg.IndexByteString", "internal/bytealg.IndexString", "internal/abi.NoEscape", "internal/bytealg.MakeNoZero"], unfollowed := true, recurses := true, named := ["internal/bytealg.MaxLen", "unicode/utf8.first", "unicode/utf8.acceptRanges"], apart := false, laid := [("unicode/utf8.acceptRanges", laid_unicode_utf8_acceptRanges), ("unicode/utf8.first", laid_unicode_utf8_first)] }
def EffectsRecordsSaid : Prop := effectsRecordsRow.holds Tryd.pinned (OpenSpec.ofChange effectsRecordsSpec)

/-- ITS FALSE NEIGHBOUR: 'it returns false'. Refute it at one input. -/
def effectsRecordsWrong : ChangeSpec := { name := "effectsRecords", fn := fun _ => fun
  | [d1, d2] => { results := [.lit (.bool false)], args := [d1, d2] }
  | _ => none }
def EffectsRecordsWrongFalsely : Prop := effectsRecordsRow.holds Tryd.pinned (OpenSpec.ofChange effectsRecordsWrong)

/-- 'factotumlaw17.EffectsReads': WHATEVER THE INPUT: true; the input reads as it did. -/
def effectsReadsSpec : ChangeSpec := { name := "effectsReads", fn := fun _ => fun
  | [d] => { results := [.lit (.bool true)], args := [d] }
  | _ => none }
def effectsReadsRow : OpenClaim := { program := "ytjkjkebblkmpkaadoor", sum := "57715edf5c0b5dbb539c3990d06065b833ffff42803613b59edfdebc7946ce18", func := "factotum/factotumlaw17.EffectsReads", spec := "effectsReads", inPlace := ["internal/bytealg.CountString", "internal/bytealg.IndexByteString", "internal/bytealg.IndexString", "internal/abi.NoEscape", "internal/bytealg.MakeNoZero"], unfollowed := true, recurses := true, named := ["internal/bytealg.MaxLen", "unicode/utf8.first", "unicode/utf8.acceptRanges"], apart := false, laid := [("unicode/utf8.acceptRanges", laid_unicode_utf8_acceptRanges), ("unicode/utf8.first", laid_unicode_utf8_first)] }
def EffectsReadsSaid : Prop := effectsReadsRow.holds Tryd.pinned (OpenSpec.ofChange effectsReadsSpec)

/-- ITS FALSE NEIGHBOUR: 'it returns false'. Refute it at one input. -/
def effectsReadsWrong : ChangeSpec := { name := "effectsReads", fn := fun _ => fun
  | [d] => { results := [.lit (.bool false)], args := [d] }
  | _ => none }
def EffectsReadsWrongFalsely : Prop := effectsReadsRow.holds Tryd.pinned (OpenSpec.ofChange effectsReadsWrong)

/-- 'factotumlaw17.EffectsPieces': WHATEVER THE INPUT: true; the input reads as it did. -/
def effectsPiecesSpec : ChangeSpec := { name := "effectsPieces", fn := fun _ => fun
  | [d1, d2] => { results := [.lit (.bool true)], args := [d1, d2] }
  | _ => none }
def effectsPiecesRow : OpenClaim := { program := "ytjkjkebblkmpkaadoor", sum := "57715edf5c0b5dbb539c3990d06065b833ffff42803613b59edfdebc7946ce18", func := "factotum/factotumlaw17.EffectsPieces", spec := "effectsPieces", inPlace := ["internal/bytealg.CountString", "internal/bytealg.IndexByteString", "internal/bytealg.IndexString", "internal/abi.NoEscape", "internal/bytealg.MakeNoZero"], unfollowed := true, recurses := true, named := ["internal/bytealg.MaxLen", "unicode/utf8.first", "unicode/utf8.acceptRanges"], apart := false, laid := [("unicode/utf8.acceptRanges", laid_unicode_utf8_acceptRanges), ("unicode/utf8.first", laid_unicode_utf8_first)] }
def EffectsPiecesSaid : Prop := effectsPiecesRow.holds Tryd.pinned (OpenSpec.ofChange effectsPiecesSpec)

/-- ITS FALSE NEIGHBOUR: 'it returns false'. Refute it at one input. -/
def effectsPiecesWrong : ChangeSpec := { name := "effectsPieces", fn := fun _ => fun
  | [d1, d2] => { results := [.lit (.bool false)], args := [d1, d2] }
  | _ => none }
def EffectsPiecesWrongFalsely : Prop := effectsPiecesRow.holds Tryd.pinned (OpenSpec.ofChange effectsPiecesWrong)

/-- 'factotumlaw17.EffectsBack': WHATEVER THE INPUT: true; the input reads as it did. -/
def effectsBackSpec : ChangeSpec := { name := "effectsBack", fn := fun _ => fun
  | [d1, d2] => { results := [.lit (.bool true)], args := [d1, d2] }
  | _ => none }
def effectsBackRow : OpenClaim := { program := "ytjkjkebblkmpkaadoor", sum := "57715edf5c0b5dbb539c3990d06065b833ffff42803613b59edfdebc7946ce18", func := "factotum/factotumlaw17.EffectsBack", spec := "effectsBack", inPlace := ["internal/bytealg.CountString", "internal/bytealg.IndexByteString", "internal/bytealg.IndexString", "internal/abi.NoEscape", "internal/bytealg.MakeNoZero"], unfollowed := true, recurses := true, named := ["internal/bytealg.MaxLen", "unicode/utf8.first", "unicode/utf8.acceptRanges"], apart := false, laid := [("unicode/utf8.acceptRanges", laid_unicode_utf8_acceptRanges), ("unicode/utf8.first", laid_unicode_utf8_first)] }
def EffectsBackSaid : Prop := effectsBackRow.holds Tryd.pinned (OpenSpec.ofChange effectsBackSpec)

/-- ITS FALSE NEIGHBOUR: 'it returns false'. Refute it at one input. -/
def effectsBackWrong : ChangeSpec := { name := "effectsBack", fn := fun _ => fun
  | [d1, d2] => { results := [.lit (.bool false)], args := [d1, d2] }
  | _ => none }
def EffectsBackWrongFalsely : Prop := effectsBackRow.holds Tryd.pinned (OpenSpec.ofChange effectsBackWrong)

/- THE SECOND FORM. 'bulk': how many values and letters a reading holds, each counted each time it is reached (what is shared counts as often as it is met; a slice's spare places count too). A statement '..UptoSaid' is the law's where the arguments, and the package variables that the reading takes, are together of bulk at most 1048576: NARROWER than '..Said'. Prove '..Said' where nothing that the law and all that it calls make is longer than what came in: it says more and counts as full. Else prove '..UptoSaid'. A law counts once. -/
mutual
def uptoBulk {H : Type} : DataW H → Nat
  | .lit (.string bytes) => bytes.length + 1
  | .lit _ => 1
  | .nil => 1
  | .ptr d => uptoBulk d + 1
  | .slice elems spare => uptoBulkAll elems + uptoBulkAll spare + 1
  | .agg parts => uptoBulkAll parts + 1
  | .iface _ d => uptoBulk d + 1
  | .map entries => uptoBulkEntries entries + 1
  | .held _ => 1
def uptoBulkAll {H : Type} : List (DataW H) → Nat
  | [] => 0
  | d :: r => uptoBulk d + uptoBulkAll r
def uptoBulkEntries {H : Type} : List (Lit × DataW H) → Nat
  | [] => 0
  | x :: r => uptoBulkEntry x + uptoBulkEntries r
def uptoBulkEntry {H : Type} : Lit × DataW H → Nat
  | (.string bytes, d) => bytes.length + uptoBulk d + 1
  | (_, d) => uptoBulk d + 1
 end
def uptoSmall : (H : Type) → List (DataW H) → Bool := fun _ ds => decide (uptoBulkAll ds ≤ 1048576)
def OpenSpec.upto (s : _root_.Go.ChangeSpec) : _root_.Go.OpenSpec := { _root_.Go.OpenSpec.ofChange s with cond := some uptoSmall }

/-- 'factotumlaw17.EffectsValues', WHERE WHAT IT READS IS OF BULK AT MOST 1048576: true; the input reads as it did. -/
def effectsValuesUptoRow : OpenClaim := { program := "ytjkjkebblkmpkaadoor", sum := "57715edf5c0b5dbb539c3990d06065b833ffff42803613b59edfdebc7946ce18", func := "factotum/factotumlaw17.EffectsValues", spec := "effectsValues", inPlace := ["internal/bytealg.CountString", "internal/bytealg.IndexByteString", "internal/bytealg.IndexString", "internal/abi.NoEscape", "internal/bytealg.MakeNoZero"], unfollowed := true, recurses := true, named := ["internal/bytealg.MaxLen", "unicode/utf8.first", "unicode/utf8.acceptRanges"], apart := false, laid := [("unicode/utf8.acceptRanges", laid_unicode_utf8_acceptRanges), ("unicode/utf8.first", laid_unicode_utf8_first)], narrowed := true }
def EffectsValuesUptoSaid : Prop := effectsValuesUptoRow.holds Tryd.pinned (OpenSpec.upto effectsValuesSpec)

/-- 'factotumlaw17.EffectsRecords', WHERE WHAT IT READS IS OF BULK AT MOST 1048576: true; the input reads as it did. -/
def effectsRecordsUptoRow : OpenClaim := { program := "ytjkjkebblkmpkaadoor", sum := "57715edf5c0b5dbb539c3990d06065b833ffff42803613b59edfdebc7946ce18", func := "factotum/factotumlaw17.EffectsRecords", spec := "effectsRecords", inPlace := ["internal/bytealg.CountString", "internal/bytealg.IndexByteString", "internal/bytealg.IndexString", "internal/abi.NoEscape", "internal/bytealg.MakeNoZero"], unfollowed := true, recurses := true, named := ["internal/bytealg.MaxLen", "unicode/utf8.first", "unicode/utf8.acceptRanges"], apart := false, laid := [("unicode/utf8.acceptRanges", laid_unicode_utf8_acceptRanges), ("unicode/utf8.first", laid_unicode_utf8_first)], narrowed := true }
def EffectsRecordsUptoSaid : Prop := effectsRecordsUptoRow.holds Tryd.pinned (OpenSpec.upto effectsRecordsSpec)

/-- 'factotumlaw17.EffectsReads', WHERE WHAT IT READS IS OF BULK AT MOST 1048576: true; the input reads as it did. -/
def effectsReadsUptoRow : OpenClaim := { program := "ytjkjkebblkmpkaadoor", sum := "57715edf5c0b5dbb539c3990d06065b833ffff42803613b59edfdebc7946ce18", func := "factotum/factotumlaw17.EffectsReads", spec := "effectsReads", inPlace := ["internal/bytealg.CountString", "internal/bytealg.IndexByteString", "internal/bytealg.IndexString", "internal/abi.NoEscape", "internal/bytealg.MakeNoZero"], unfollowed := true, recurses := true, named := ["internal/bytealg.MaxLen", "unicode/utf8.first", "unicode/utf8.acceptRanges"], apart := false, laid := [("unicode/utf8.acceptRanges", laid_unicode_utf8_acceptRanges), ("unicode/utf8.first", laid_unicode_utf8_first)], narrowed := true }
def EffectsReadsUptoSaid : Prop := effectsReadsUptoRow.holds Tryd.pinned (OpenSpec.upto effectsReadsSpec)

/-- 'factotumlaw17.EffectsPieces', WHERE WHAT IT READS IS OF BULK AT MOST 1048576: true; the input reads as it did. -/
def effectsPiecesUptoRow : OpenClaim := { program := "ytjkjkebblkmpkaadoor", sum := "57715edf5c0b5dbb539c3990d06065b833ffff42803613b59edfdebc7946ce18", func := "factotum/factotumlaw17.EffectsPieces", spec := "effectsPieces", inPlace := ["internal/bytealg.CountString", "internal/bytealg.IndexByteString", "internal/bytealg.IndexString", "internal/abi.NoEscape", "internal/bytealg.MakeNoZero"], unfollowed := true, recurses := true, named := ["internal/bytealg.MaxLen", "unicode/utf8.first", "unicode/utf8.acceptRanges"], apart := false, laid := [("unicode/utf8.acceptRanges", laid_unicode_utf8_acceptRanges), ("unicode/utf8.first", laid_unicode_utf8_first)], narrowed := true }
def EffectsPiecesUptoSaid : Prop := effectsPiecesUptoRow.holds Tryd.pinned (OpenSpec.upto effectsPiecesSpec)

/-- 'factotumlaw17.EffectsBack', WHERE WHAT IT READS IS OF BULK AT MOST 1048576: true; the input reads as it did. -/
def effectsBackUptoRow : OpenClaim := { program := "ytjkjkebblkmpkaadoor", sum := "57715edf5c0b5dbb539c3990d06065b833ffff42803613b59edfdebc7946ce18", func := "factotum/factotumlaw17.EffectsBack", spec := "effectsBack", inPlace := ["internal/bytealg.CountString", "internal/bytealg.IndexByteString", "internal/bytealg.IndexString", "internal/abi.NoEscape", "internal/bytealg.MakeNoZero"], unfollowed := true, recurses := true, named := ["internal/bytealg.MaxLen", "unicode/utf8.first", "unicode/utf8.acceptRanges"], apart := false, laid := [("unicode/utf8.acceptRanges", laid_unicode_utf8_acceptRanges), ("unicode/utf8.first", laid_unicode_utf8_first)], narrowed := true }
def EffectsBackUptoSaid : Prop := effectsBackUptoRow.holds Tryd.pinned (OpenSpec.upto effectsBackSpec)

end Rows
end Go.Proofs.YtjkjkebblkmpkaaDoor
