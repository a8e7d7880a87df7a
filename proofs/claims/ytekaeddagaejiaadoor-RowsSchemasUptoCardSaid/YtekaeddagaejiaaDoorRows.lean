/-
  NARROWER THAN 'FOR EVERY INPUT', by the rows' own cells (each row's printed sentence says how): RowsFit: laid · RowsWrite: laid · RowsRead: laid · RowsBack: laid · RowsOnly: laid · RowsSchemas: laid · RowsOrder: laid.
  DERIVED. THE GIVEN ROWS OF THIS SEAT. 7 by the template 'for every input the law returns true; each argument reads behind the call as it read before'; 0 by the template 'total and deterministic' (their statements: YtekaeddagaejiaaDoorTotals.lean).
  GIVEN WITH THE SEED: the statements are not yours to turn. If you find one false, say at which input.
  Laid BY PROGRAM, IN A SANDBOX (cutbox-rows.mjs): the forced cells as the released guide's own fill.sh prints them over the translation 9e451d2a6423029f… (all of the seat's roots in one cut). By AI agents, Wed Nov 11 2026. No macro, syntax, notation, axiom, sorry.
-/
import Derived.Test.YtekaeddagaejiaaDoorChecked
import GoSem.PinnedTables
import GoSem.Claim
import GoSem.ClaimJoined
import GoSem.ClaimMapViews
import Derived.JoinedTies
import Derived.KernelRfl
namespace Go.Proofs.YtekaeddagaejiaaDoor
/- THE CELL 'sum', in the pinned program and in every row, IS THE sha256 OF THE DUMP (.gsa) THAT YtekaeddagaejiaaDoorProg.lean LOADS. Nothing in Lean hashes anything: it is a label: what it is worth is what the hold of that sum in a sandbox is worth. -/
noncomputable def Tryd.pinned : Pinned := { name := "ytekaeddagaejiaadoor", sum := "9e451d2a6423029f4144efb7b72c30af9efd8e0cab8065d047c9a313999465cc", checked := Tryd.checked }
namespace Rows
def none {H : Type} : Left H := { results := [], args := [] }

/- WHAT THE LISTED PACKAGE-LEVEL VARIABLES READ AS WHEN THE CALL BEGINS. Each datum BY PROGRAM (the guide's laid-datum.mjs) off the statement by which the dump's own 'gosem.cut.vars' lays the variable. In a bare row this is a premise. The card (YtekaeddagaejiaaDoorCards.lean) ties it to the program's text. -/
def laid_unicode_utf8_acceptRanges {H : Type} : DataW H := .agg [.agg [.lit (.int .u8 128), .lit (.int .u8 191)], .agg [.lit (.int .u8 160), .lit (.int .u8 191)], .agg [.lit (.int .u8 128), .lit (.int .u8 159)], .agg [.lit (.int .u8 144), .lit (.int .u8 191)], .agg [.lit (.int .u8 128), .lit (.int .u8 143)], .agg [.lit (.int .u8 0), .lit (.int .u8 0)], .agg [.lit (.int .u8 0), .lit (.int .u8 0)], .agg [.lit (.int .u8 0), .lit (.int .u8 0)], .agg [.lit (.int .u8 0), .lit (.int .u8 0)], .agg [.lit (.int .u8 0), .lit (.int .u8 0)], .agg [.lit (.int .u8 0), .lit (.int .u8 0)], .agg [.lit (.int .u8 0), .lit (.int .u8 0)], .agg [.lit (.int .u8 0), .lit (.int .u8 0)], .agg [.lit (.int .u8 0), .lit (.int .u8 0)], .agg [.lit (.int .u8 0), .lit (.int .u8 0)], .agg [.lit (.int .u8 0), .lit (.int .u8 0)]]
/-- One of Go's own tables, pinned by name: the form's constant. -/
def laid_unicode_utf8_first : DataW Unit := Go.Pinned.utf8First

/-- 'factotumlaw03.RowsFit': WHATEVER THE INPUT: true; the input reads as it did. -/
def rowsFitSpec : ChangeSpec := { name := "rowsFit", fn := fun _ => fun
  | [d1, d2, d3] => { results := [.lit (.bool true)], args := [d1, d2, d3] }
  | _ => none }
def rowsFitRow : OpenClaim := { program := "ytekaeddagaejiaadoor", sum := "9e451d2a6423029f4144efb7b72c30af9efd8e0cab8065d047c9a313999465cc", func := "factotum/factotumlaw03.RowsFit", spec := "rowsFit", inPlace := ["internal/bytealg.CountString", "internal/bytealg.IndexByteString", "internal/bytealg.IndexString", "internal/abi.NoEscape", "internal/bytealg.MakeNoZero"], unfollowed := true, recurses := true, named := ["internal/bytealg.MaxLen", "unicode/utf8.first", "unicode/utf8.acceptRanges"], apart := false, laid := [("unicode/utf8.acceptRanges", laid_unicode_utf8_acceptRanges), ("unicode/utf8.first", laid_unicode_utf8_first)] }
def RowsFitSaid : Prop := rowsFitRow.holds Tryd.pinned (OpenSpec.ofChange rowsFitSpec)

/-- ITS FALSE NEIGHBOUR: 'it returns false'. Refute it at one input. -/
def rowsFitWrong : ChangeSpec := { name := "rowsFit", fn := fun _ => fun
  | [d1, d2, d3] => { results := [.lit (.bool false)], args := [d1, d2, d3] }
  | _ => none }
def RowsFitWrongFalsely : Prop := rowsFitRow.holds Tryd.pinned (OpenSpec.ofChange rowsFitWrong)

/-- 'factotumlaw03.RowsWrite': WHATEVER THE INPUT: true; the input reads as it did. -/
def rowsWriteSpec : ChangeSpec := { name := "rowsWrite", fn := fun _ => fun
  | [d1, d2] => { results := [.lit (.bool true)], args := [d1, d2] }
  | _ => none }
def rowsWriteRow : OpenClaim := { program := "ytekaeddagaejiaadoor", sum := "9e451d2a6423029f4144efb7b72c30af9efd8e0cab8065d047c9a313999465cc", func := "factotum/factotumlaw03.RowsWrite", spec := "rowsWrite", inPlace := ["internal/bytealg.CountString", "internal/bytealg.IndexByteString", "internal/bytealg.IndexString", "internal/abi.NoEscape", "internal/bytealg.MakeNoZero"], unfollowed := true, recurses := true, named := ["internal/bytealg.MaxLen", "unicode/utf8.first", "unicode/utf8.acceptRanges"], apart := false, laid := [("unicode/utf8.acceptRanges", laid_unicode_utf8_acceptRanges), ("unicode/utf8.first", laid_unicode_utf8_first)] }
def RowsWriteSaid : Prop := rowsWriteRow.holds Tryd.pinned (OpenSpec.ofChange rowsWriteSpec)

/-- ITS FALSE NEIGHBOUR: 'it returns false'. Refute it at one input. -/
def rowsWriteWrong : ChangeSpec := { name := "rowsWrite", fn := fun _ => fun
  | [d1, d2] => { results := [.lit (.bool false)], args := [d1, d2] }
  | _ => none }
def RowsWriteWrongFalsely : Prop := rowsWriteRow.holds Tryd.pinned (OpenSpec.ofChange rowsWriteWrong)

/-- 'factotumlaw03.RowsRead': WHATEVER THE INPUT: true; the input reads as it did. -/
def rowsReadSpec : ChangeSpec := { name := "rowsRead", fn := fun _ => fun
  | [d1, d2, d3] => { results := [.lit (.bool true)], args := [d1, d2, d3] }
  | _ => none }
def rowsReadRow : OpenClaim := { program := "ytekaeddagaejiaadoor", sum := "9e451d2a6423029f4144efb7b72c30af9efd8e0cab8065d047c9a313999465cc", func := "factotum/factotumlaw03.RowsRead", spec := "rowsRead", inPlace := ["internal/bytealg.CountString", "internal/bytealg.IndexByteString", "internal/bytealg.IndexString", "internal/abi.NoEscape", "internal/bytealg.MakeNoZero"], unfollowed := true, recurses := true, named := ["internal/bytealg.MaxLen", "unicode/utf8.first", "unicode/utf8.acceptRanges"], apart := false, laid := [("unicode/utf8.acceptRanges", laid_unicode_utf8_acceptRanges), ("unicode/utf8.first", laid_unicode_utf8_first)] }
def RowsReadSaid : Prop := rowsReadRow.holds Tryd.pinned (OpenSpec.ofChange rowsReadSpec)

/-- ITS FALSE NEIGHBOUR: 'it returns false'. Refute it at one input. -/
def rowsReadWrong : ChangeSpec := { name := "rowsRead", fn := fun _ => fun
  | [d1, d2, d3] => { results := [.lit (.bool false)], args := [d1, d2, d3] }
  | _ => none }
def RowsReadWrongFalsely : Prop := rowsReadRow.holds Tryd.pinned (OpenSpec.ofChange rowsReadWrong)

/-- 'factotumlaw03.RowsBack': WHATEVER THE INPUT: true; the input reads as it did. -/
def rowsBackSpec : ChangeSpec := { name := "rowsBack", fn := fun _ => fun
  | [d1, d2] => { results := [.lit (.bool true)], args := [d1, d2] }
  | _ => none }
def rowsBackRow : OpenClaim := { program := "ytekaeddagaejiaadoor", sum := "9e451d2a6423029f4144efb7b72c30af9efd8e0cab8065d047c9a313999465cc", func := "factotum/factotumlaw03.RowsBack", spec := "rowsBack", inPlace := ["internal/bytealg.CountString", "internal/bytealg.IndexByteString", "internal/bytealg.IndexString", "internal/abi.NoEscape", "internal/bytealg.MakeNoZero"], unfollowed := true, recurses := true, named := ["internal/bytealg.MaxLen", "unicode/utf8.first", "unicode/utf8.acceptRanges"], apart := false, laid := [("unicode/utf8.acceptRanges", laid_unicode_utf8_acceptRanges), ("unicode/utf8.first", laid_unicode_utf8_first)] }
def RowsBackSaid : Prop := rowsBackRow.holds Tryd.pinned (OpenSpec.ofChange rowsBackSpec)

/-- ITS FALSE NEIGHBOUR: 'it returns false'. Refute it at one input. -/
def rowsBackWrong : ChangeSpec := { name := "rowsBack", fn := fun _ => fun
  | [d1, d2] => { results := [.lit (.bool false)], args := [d1, d2] }
  | _ => none }
def RowsBackWrongFalsely : Prop := rowsBackRow.holds Tryd.pinned (OpenSpec.ofChange rowsBackWrong)

/-- 'factotumlaw03.RowsOnly': WHATEVER THE INPUT: true; the input reads as it did. -/
def rowsOnlySpec : ChangeSpec := { name := "rowsOnly", fn := fun _ => fun
  | [d1, d2, d3] => { results := [.lit (.bool true)], args := [d1, d2, d3] }
  | _ => none }
def rowsOnlyRow : OpenClaim := { program := "ytekaeddagaejiaadoor", sum := "9e451d2a6423029f4144efb7b72c30af9efd8e0cab8065d047c9a313999465cc", func := "factotum/factotumlaw03.RowsOnly", spec := "rowsOnly", inPlace := ["internal/bytealg.CountString", "internal/bytealg.IndexByteString", "internal/bytealg.IndexString", "internal/abi.NoEscape", "internal/bytealg.MakeNoZero"], unfollowed := true, recurses := true, named := ["internal/bytealg.MaxLen", "unicode/utf8.first", "unicode/utf8.acceptRanges"], apart := false, laid := [("unicode/utf8.acceptRanges", laid_unicode_utf8_acceptRanges), ("unicode/utf8.first", laid_unicode_utf8_first)] }
def RowsOnlySaid : Prop := rowsOnlyRow.holds Tryd.pinned (OpenSpec.ofChange rowsOnlySpec)

/-- ITS FALSE NEIGHBOUR: 'it returns false'. Refute it at one input. -/
def rowsOnlyWrong : ChangeSpec := { name := "rowsOnly", fn := fun _ => fun
  | [d1, d2, d3] => { results := [.lit (.bool false)], args := [d1, d2, d3] }
  | _ => none }
def RowsOnlyWrongFalsely : Prop := rowsOnlyRow.holds Tryd.pinned (OpenSpec.ofChange rowsOnlyWrong)

/-- 'factotumlaw03.RowsSchemas': WHATEVER THE INPUT: true; the input reads as it did. -/
def rowsSchemasSpec : ChangeSpec := { name := "rowsSchemas", fn := fun _ => fun
  | [d1, d2] => { results := [.lit (.bool true)], args := [d1, d2] }
  | _ => none }
def rowsSchemasRow : OpenClaim := { program := "ytekaeddagaejiaadoor", sum := "9e451d2a6423029f4144efb7b72c30af9efd8e0cab8065d047c9a313999465cc", func := "factotum/factotumlaw03.RowsSchemas", spec := "rowsSchemas", inPlace := ["internal/bytealg.CountString", "internal/bytealg.IndexByteString", "internal/bytealg.IndexString", "internal/abi.NoEscape", "internal/bytealg.MakeNoZero"], unfollowed := true, recurses := true, named := ["internal/bytealg.MaxLen", "unicode/utf8.first", "unicode/utf8.acceptRanges"], apart := false, laid := [("unicode/utf8.acceptRanges", laid_unicode_utf8_acceptRanges), ("unicode/utf8.first", laid_unicode_utf8_first)] }
def RowsSchemasSaid : Prop := rowsSchemasRow.holds Tryd.pinned (OpenSpec.ofChange rowsSchemasSpec)

/-- ITS FALSE NEIGHBOUR: 'it returns false'. Refute it at one input. -/
def rowsSchemasWrong : ChangeSpec := { name := "rowsSchemas", fn := fun _ => fun
  | [d1, d2] => { results := [.lit (.bool false)], args := [d1, d2] }
  | _ => none }
def RowsSchemasWrongFalsely : Prop := rowsSchemasRow.holds Tryd.pinned (OpenSpec.ofChange rowsSchemasWrong)

/-- 'factotumlaw03.RowsOrder': WHATEVER THE INPUT: true; the input reads as it did. -/
def rowsOrderSpec : ChangeSpec := { name := "rowsOrder", fn := fun _ => fun
  | [d1, d2, d3] => { results := [.lit (.bool true)], args := [d1, d2, d3] }
  | _ => none }
def rowsOrderRow : OpenClaim := { program := "ytekaeddagaejiaadoor", sum := "9e451d2a6423029f4144efb7b72c30af9efd8e0cab8065d047c9a313999465cc", func := "factotum/factotumlaw03.RowsOrder", spec := "rowsOrder", inPlace := ["internal/bytealg.CountString", "internal/bytealg.IndexByteString", "internal/bytealg.IndexString", "internal/abi.NoEscape", "internal/bytealg.MakeNoZero"], unfollowed := true, recurses := true, named := ["internal/bytealg.MaxLen", "unicode/utf8.first", "unicode/utf8.acceptRanges"], apart := false, laid := [("unicode/utf8.acceptRanges", laid_unicode_utf8_acceptRanges), ("unicode/utf8.first", laid_unicode_utf8_first)] }
def RowsOrderSaid : Prop := rowsOrderRow.holds Tryd.pinned (OpenSpec.ofChange rowsOrderSpec)

/-- ITS FALSE NEIGHBOUR: 'it returns false'. Refute it at one input. -/
def rowsOrderWrong : ChangeSpec := { name := "rowsOrder", fn := fun _ => fun
  | [d1, d2, d3] => { results := [.lit (.bool false)], args := [d1, d2, d3] }
  | _ => none }
def RowsOrderWrongFalsely : Prop := rowsOrderRow.holds Tryd.pinned (OpenSpec.ofChange rowsOrderWrong)

/- THE SECOND FORM. 'bulk': how many values and letters a reading holds, each counted each time it is reached (what is shared counts as often as it is met; a slice's spare places count too). A statement '..UptoSaid' is the law's where the arguments, and the package variables that the reading takes, are together of bulk at most 1048576: NARROWER than '..Said'. Prove '..Said' where nothing that the law and all that it calls make is longer than what came in: it says more and counts as full. Else prove '..UptoSaid'. A law counts once. -/
mutual
def uptoBulk {H : Type} : DataW H → Nat
  | .lit (.string bytes) => bytes.length + 1
  | .lit _ => 1
  | .nil => 1
  | .ptr d => uptoBulk d + 1
  | .slice elems spare => uptoBulkAll elems + uptoBulkAll spare + 1
  | .agg parts => uptoBulkAll parts + 1
  | .iface _ d => uptoBulk d + 1
  | .map entries => uptoBulkEntries entries + 1
  | .held _ => 1
def uptoBulkAll {H : Type} : List (DataW H) → Nat
  | [] => 0
  | d :: r => uptoBulk d + uptoBulkAll r
def uptoBulkEntries {H : Type} : List (Lit × DataW H) → Nat
  | [] => 0
  | x :: r => uptoBulkEntry x + uptoBulkEntries r
def uptoBulkEntry {H : Type} : Lit × DataW H → Nat
  | (.string bytes, d) => bytes.length + uptoBulk d + 1
  | (_, d) => uptoBulk d + 1
 end
def uptoSmall : (H : Type) → List (DataW H) → Bool := fun _ ds => decide (uptoBulkAll ds ≤ 1048576)
def OpenSpec.upto (s : _root_.Go.ChangeSpec) : _root_.Go.OpenSpec := { _root_.Go.OpenSpec.ofChange s with cond := some uptoSmall }

/-- 'factotumlaw03.RowsFit', WHERE WHAT IT READS IS OF BULK AT MOST 1048576: true; the input reads as it did. -/
def rowsFitUptoRow : OpenClaim := { program := "ytekaeddagaejiaadoor", sum := "9e451d2a6423029f4144efb7b72c30af9efd8e0cab8065d047c9a313999465cc", func := "factotum/factotumlaw03.RowsFit", spec := "rowsFit", inPlace := ["internal/bytealg.CountString", "internal/bytealg.IndexByteString", "internal/bytealg.IndexString", "internal/abi.NoEscape", "internal/bytealg.MakeNoZero"], unfollowed := true, recurses := true, named := ["internal/bytealg.MaxLen", "unicode/utf8.first", "unicode/utf8.acceptRanges"], apart := false, laid := [("unicode/utf8.acceptRanges", laid_unicode_utf8_acceptRanges), ("unicode/utf8.first", laid_unicode_utf8_first)], narrowed := true }
def RowsFitUptoSaid : Prop := rowsFitUptoRow.holds Tryd.pinned (OpenSpec.upto rowsFitSpec)

/-- 'factotumlaw03.RowsWrite', WHERE WHAT IT READS IS OF BULK AT MOST 1048576: true; the input reads as it did. -/
def rowsWriteUptoRow : OpenClaim := { program := "ytekaeddagaejiaadoor", sum := "9e451d2a6423029f4144efb7b72c30af9efd8e0cab8065d047c9a313999465cc", func := "factotum/factotumlaw03.RowsWrite", spec := "rowsWrite", inPlace := ["internal/bytealg.CountString", "internal/bytealg.IndexByteString", "internal/bytealg.IndexString", "internal/abi.NoEscape", "internal/bytealg.MakeNoZero"], unfollowed := true, recurses := true, named := ["internal/bytealg.MaxLen", "unicode/utf8.first", "unicode/utf8.acceptRanges"], apart := false, laid := [("unicode/utf8.acceptRanges", laid_unicode_utf8_acceptRanges), ("unicode/utf8.first", laid_unicode_utf8_first)], narrowed := true }
def RowsWriteUptoSaid : Prop := rowsWriteUptoRow.holds Tryd.pinned (OpenSpec.upto rowsWriteSpec)

/-- 'factotumlaw03.RowsRead', WHERE WHAT IT READS IS OF BULK AT MOST 1048576: true; the input reads as it did. -/
def rowsReadUptoRow : OpenClaim := { program := "ytekaeddagaejiaadoor", sum := "9e451d2a6423029f4144efb7b72c30af9efd8e0cab8065d047c9a313999465cc", func := "factotum/factotumlaw03.RowsRead", spec := "rowsRead", inPlace := ["internal/bytealg.CountString", "internal/bytealg.IndexByteString", "internal/bytealg.IndexString", "internal/abi.NoEscape", "internal/bytealg.MakeNoZero"], unfollowed := true, recurses := true, named := ["internal/bytealg.MaxLen", "unicode/utf8.first", "unicode/utf8.acceptRanges"], apart := false, laid := [("unicode/utf8.acceptRanges", laid_unicode_utf8_acceptRanges), ("unicode/utf8.first", laid_unicode_utf8_first)], narrowed := true }
def RowsReadUptoSaid : Prop := rowsReadUptoRow.holds Tryd.pinned (OpenSpec.upto rowsReadSpec)

/-- 'factotumlaw03.RowsBack', WHERE WHAT IT READS IS OF BULK AT MOST 1048576: true; the input reads as it did. -/
def rowsBackUptoRow : OpenClaim := { program := "ytekaeddagaejiaadoor", sum := "9e451d2a6423029f4144efb7b72c30af9efd8e0cab8065d047c9a313999465cc", func := "factotum/factotumlaw03.RowsBack", spec := "rowsBack", inPlace := ["internal/bytealg.CountString", "internal/bytealg.IndexByteString", "internal/bytealg.IndexString", "internal/abi.NoEscape", "internal/bytealg.MakeNoZero"], unfollowed := true, recurses := true, named := ["internal/bytealg.MaxLen", "unicode/utf8.first", "unicode/utf8.acceptRanges"], apart := false, laid := [("unicode/utf8.acceptRanges", laid_unicode_utf8_acceptRanges), ("unicode/utf8.first", laid_unicode_utf8_first)], narrowed := true }
def RowsBackUptoSaid : Prop := rowsBackUptoRow.holds Tryd.pinned (OpenSpec.upto rowsBackSpec)

/-- 'factotumlaw03.RowsOnly', WHERE WHAT IT READS IS OF BULK AT MOST 1048576: true; the input reads as it did. -/
def rowsOnlyUptoRow : OpenClaim := { program := "ytekaeddagaejiaadoor", sum := "9e451d2a6423029f4144efb7b72c30af9efd8e0cab8065d047c9a313999465cc", func := "factotum/factotumlaw03.RowsOnly", spec := "rowsOnly", inPlace := ["internal/bytealg.CountString", "internal/bytealg.IndexByteString", "internal/bytealg.IndexString", "internal/abi.NoEscape", "internal/bytealg.MakeNoZero"], unfollowed := true, recurses := true, named := ["internal/bytealg.MaxLen", "unicode/utf8.first", "unicode/utf8.acceptRanges"], apart := false, laid := [("unicode/utf8.acceptRanges", laid_unicode_utf8_acceptRanges), ("unicode/utf8.first", laid_unicode_utf8_first)], narrowed := true }
def RowsOnlyUptoSaid : Prop := rowsOnlyUptoRow.holds Tryd.pinned (OpenSpec.upto rowsOnlySpec)

/-- 'factotumlaw03.RowsSchemas', WHERE WHAT IT READS IS OF BULK AT MOST 1048576: true; the input reads as it did. -/
def rowsSchemasUptoRow : OpenClaim := { program := "ytekaeddagaejiaadoor", sum := "9e451d2a6423029f4144efb7b72c30af9efd8e0cab8065d047c9a313999465cc", func := "factotum/factotumlaw03.RowsSchemas", spec := "rowsSchemas", inPlace := ["internal/bytealg.CountString", "internal/bytealg.IndexByteString", "internal/bytealg.IndexString", "internal/abi.NoEscape", "internal/bytealg.MakeNoZero"], unfollowed := true, recurses := true, named := ["internal/bytealg.MaxLen", "unicode/utf8.first", "unicode/utf8.acceptRanges"], apart := false, laid := [("unicode/utf8.acceptRanges", laid_unicode_utf8_acceptRanges), ("unicode/utf8.first", laid_unicode_utf8_first)], narrowed := true }
def RowsSchemasUptoSaid : Prop := rowsSchemasUptoRow.holds Tryd.pinned (OpenSpec.upto rowsSchemasSpec)

/-- 'factotumlaw03.RowsOrder', WHERE WHAT IT READS IS OF BULK AT MOST 1048576: true; the input reads as it did. -/
def rowsOrderUptoRow : OpenClaim := { program := "ytekaeddagaejiaadoor", sum := "9e451d2a6423029f4144efb7b72c30af9efd8e0cab8065d047c9a313999465cc", func := "factotum/factotumlaw03.RowsOrder", spec := "rowsOrder", inPlace := ["internal/bytealg.CountString", "internal/bytealg.IndexByteString", "internal/bytealg.IndexString", "internal/abi.NoEscape", "internal/bytealg.MakeNoZero"], unfollowed := true, recurses := true, named := ["internal/bytealg.MaxLen", "unicode/utf8.first", "unicode/utf8.acceptRanges"], apart := false, laid := [("unicode/utf8.acceptRanges", laid_unicode_utf8_acceptRanges), ("unicode/utf8.first", laid_unicode_utf8_first)], narrowed := true }
def RowsOrderUptoSaid : Prop := rowsOrderUptoRow.holds Tryd.pinned (OpenSpec.upto rowsOrderSpec)

end Rows
end Go.Proofs.YtekaeddagaejiaaDoor
