/-
  NARROWER THAN 'FOR EVERY INPUT', by the rows' own cells (each row's printed sentence says how): KeysWrite: laid · KeysRead: laid · KeysBack: laid · KeysHeads: laid · KeysNext: laid · KeysOrder: laid · KeysCompare: laid.
  DERIVED. THE GIVEN ROWS OF THIS SEAT. 7 by the template 'for every input the law returns true; each argument reads behind the call as it read before'; 0 by the template 'total and deterministic' (their statements: YtamohmpapdecdaaDoorTotals.lean).
  GIVEN WITH THE SEED: the statements are not yours to turn. If you find one false, say at which input.
  Laid BY PROGRAM, IN A SANDBOX (cutbox-rows.mjs): the forced cells as the released guide's own fill.sh prints them over the translation 54b6463d6ff88645… (all of the seat's roots in one cut). By AI agents, Wed Nov 11 2026. No macro, syntax, notation, axiom, sorry.
-/
import Derived.Test.YtamohmpapdecdaaDoorChecked
import GoSem.PinnedTables
import GoSem.Claim
import GoSem.ClaimJoined
import GoSem.ClaimMapViews
import Derived.JoinedTies
import Derived.KernelRfl
namespace Go.Proofs.YtamohmpapdecdaaDoor
/- THE CELL 'sum', in the pinned program and in every row, IS THE sha256 OF THE DUMP (.gsa) THAT YtamohmpapdecdaaDoorProg.lean LOADS. Nothing in Lean hashes anything: it is a label: what it is worth is what the hold of that sum in a sandbox is worth. -/
noncomputable def Tryd.pinned : Pinned := { name := "ytamohmpapdecdaadoor", sum := "54b6463d6ff886452ae97f9d527703945953d2a4881c2fb81449058fa4f6bf3c", checked := Tryd.checked }
namespace Rows
def none {H : Type} : Left H := { results := [], args := [] }

/- WHAT THE LISTED PACKAGE-LEVEL VARIABLES READ AS WHEN THE CALL BEGINS. Each datum BY PROGRAM (the guide's laid-datum.mjs) off the statement by which the dump's own 'gosem.cut.vars' lays the variable. In a bare row this is a premise. The card (YtamohmpapdecdaaDoorCards.lean) ties it to the program's text. -/
def laid_unicode_utf8_acceptRanges {H : Type} : DataW H := .agg [.agg [.lit (.int .u8 128), .lit (.int .u8 191)], .agg [.lit (.int .u8 160), .lit (.int .u8 191)], .agg [.lit (.int .u8 128), .lit (.int .u8 159)], .agg [.lit (.int .u8 144), .lit (.int .u8 191)], .agg [.lit (.int .u8 128), .lit (.int .u8 143)], .agg [.lit (.int .u8 0), .lit (.int .u8 0)], .agg [.lit (.int .u8 0), .lit (.int .u8 0)], .agg [.lit (.int .u8 0), .lit (.int .u8 0)], .agg [.lit (.int .u8 0), .lit (.int .u8 0)], .agg [.lit (.int .u8 0), .lit (.int .u8 0)], .agg [.lit (.int .u8 0), .lit (.int .u8 0)], .agg [.lit (.int .u8 0), .lit (.int .u8 0)], .agg [.lit (.int .u8 0), .lit (.int .u8 0)], .agg [.lit (.int .u8 0), .lit (.int .u8 0)], .agg [.lit (.int .u8 0), .lit (.int .u8 0)], .agg [.lit (.int .u8 0), .lit (.int .u8 0)]]
/-- One of Go's own tables, pinned by name: the form's constant. -/
def laid_unicode_utf8_first : DataW Unit := Go.Pinned.utf8First

/-- 'factotumlaw02.KeysWrite': WHATEVER THE INPUT: true; the input reads as it did. -/
def keysWriteSpec : ChangeSpec := { name := "keysWrite", fn := fun _ => fun
  | [d] => { results := [.lit (.bool true)], args := [d] }
  | _ => none }
def keysWriteRow : OpenClaim := { program := "ytamohmpapdecdaadoor", sum := "54b6463d6ff886452ae97f9d527703945953d2a4881c2fb81449058fa4f6bf3c", func := "factotum/factotumlaw02.KeysWrite", spec := "keysWrite", inPlace := ["internal/bytealg.CountString", "internal/bytealg.IndexByteString", "internal/bytealg.IndexString", "internal/abi.NoEscape", "internal/bytealg.MakeNoZero"], unfollowed := true, recurses := true, named := ["internal/bytealg.MaxLen", "unicode/utf8.first", "unicode/utf8.acceptRanges"], apart := false, laid := [("unicode/utf8.acceptRanges", laid_unicode_utf8_acceptRanges), ("unicode/utf8.first", laid_unicode_utf8_first)] }
def KeysWriteSaid : Prop := keysWriteRow.holds Tryd.pinned (OpenSpec.ofChange keysWriteSpec)

/-- ITS FALSE NEIGHBOUR: 'it returns false'. Refute it at one input. -/
def keysWriteWrong : ChangeSpec := { name := "keysWrite", fn := fun _ => fun
  | [d] => { results := [.lit (.bool false)], args := [d] }
  | _ => none }
def KeysWriteWrongFalsely : Prop := keysWriteRow.holds Tryd.pinned (OpenSpec.ofChange keysWriteWrong)

/-- 'factotumlaw02.KeysRead': WHATEVER THE INPUT: true; the input reads as it did. -/
def keysReadSpec : ChangeSpec := { name := "keysRead", fn := fun _ => fun
  | [d] => { results := [.lit (.bool true)], args := [d] }
  | _ => none }
def keysReadRow : OpenClaim := { program := "ytamohmpapdecdaadoor", sum := "54b6463d6ff886452ae97f9d527703945953d2a4881c2fb81449058fa4f6bf3c", func := "factotum/factotumlaw02.KeysRead", spec := "keysRead", inPlace := ["internal/bytealg.CountString", "internal/bytealg.IndexByteString", "internal/bytealg.IndexString", "internal/abi.NoEscape", "internal/bytealg.MakeNoZero"], unfollowed := true, recurses := true, named := ["internal/bytealg.MaxLen", "unicode/utf8.first", "unicode/utf8.acceptRanges"], apart := false, laid := [("unicode/utf8.acceptRanges", laid_unicode_utf8_acceptRanges), ("unicode/utf8.first", laid_unicode_utf8_first)] }
def KeysReadSaid : Prop := keysReadRow.holds Tryd.pinned (OpenSpec.ofChange keysReadSpec)

/-- ITS FALSE NEIGHBOUR: 'it returns false'. Refute it at one input. -/
def keysReadWrong : ChangeSpec := { name := "keysRead", fn := fun _ => fun
  | [d] => { results := [.lit (.bool false)], args := [d] }
  | _ => none }
def KeysReadWrongFalsely : Prop := keysReadRow.holds Tryd.pinned (OpenSpec.ofChange keysReadWrong)

/-- 'factotumlaw02.KeysBack': WHATEVER THE INPUT: true; the input reads as it did. -/
def keysBackSpec : ChangeSpec := { name := "keysBack", fn := fun _ => fun
  | [d1, d2] => { results := [.lit (.bool true)], args := [d1, d2] }
  | _ => none }
def keysBackRow : OpenClaim := { program := "ytamohmpapdecdaadoor", sum := "54b6463d6ff886452ae97f9d527703945953d2a4881c2fb81449058fa4f6bf3c", func := "factotum/factotumlaw02.KeysBack", spec := "keysBack", inPlace := ["internal/bytealg.CountString", "internal/bytealg.IndexByteString", "internal/bytealg.IndexString", "internal/abi.NoEscape", "internal/bytealg.MakeNoZero"], unfollowed := true, recurses := true, named := ["internal/bytealg.MaxLen", "unicode/utf8.first", "unicode/utf8.acceptRanges"], apart := false, laid := [("unicode/utf8.acceptRanges", laid_unicode_utf8_acceptRanges), ("unicode/utf8.first", laid_unicode_utf8_first)] }
def KeysBackSaid : Prop := keysBackRow.holds Tryd.pinned (OpenSpec.ofChange keysBackSpec)

/-- ITS FALSE NEIGHBOUR: 'it returns false'. Refute it at one input. -/
def keysBackWrong : ChangeSpec := { name := "keysBack", fn := fun _ => fun
  | [d1, d2] => { results := [.lit (.bool false)], args := [d1, d2] }
  | _ => none }
def KeysBackWrongFalsely : Prop := keysBackRow.holds Tryd.pinned (OpenSpec.ofChange keysBackWrong)

/-- 'factotumlaw02.KeysHeads': WHATEVER THE INPUT: true; the input reads as it did. -/
def keysHeadsSpec : ChangeSpec := { name := "keysHeads", fn := fun _ => fun
  | [d1, d2] => { results := [.lit (.bool true)], args := [d1, d2] }
  | _ => none }
def keysHeadsRow : OpenClaim := { program := "ytamohmpapdecdaadoor", sum := "54b6463d6ff886452ae97f9d527703945953d2a4881c2fb81449058fa4f6bf3c", func := "factotum/factotumlaw02.KeysHeads", spec := "keysHeads", inPlace := ["internal/bytealg.CountString", "internal/bytealg.IndexByteString", "internal/bytealg.IndexString", "internal/abi.NoEscape", "internal/bytealg.MakeNoZero"], unfollowed := true, recurses := true, named := ["internal/bytealg.MaxLen", "unicode/utf8.first", "unicode/utf8.acceptRanges"], apart := false, laid := [("unicode/utf8.acceptRanges", laid_unicode_utf8_acceptRanges), ("unicode/utf8.first", laid_unicode_utf8_first)] }
def KeysHeadsSaid : Prop := keysHeadsRow.holds Tryd.pinned (OpenSpec.ofChange keysHeadsSpec)

/-- ITS FALSE NEIGHBOUR: 'it returns false'. Refute it at one input. -/
def keysHeadsWrong : ChangeSpec := { name := "keysHeads", fn := fun _ => fun
  | [d1, d2] => { results := [.lit (.bool false)], args := [d1, d2] }
  | _ => none }
def KeysHeadsWrongFalsely : Prop := keysHeadsRow.holds Tryd.pinned (OpenSpec.ofChange keysHeadsWrong)

/-- 'factotumlaw02.KeysNext': WHATEVER THE INPUT: true; the input reads as it did. -/
def keysNextSpec : ChangeSpec := { name := "keysNext", fn := fun _ => fun
  | [d1, d2] => { results := [.lit (.bool true)], args := [d1, d2] }
  | _ => none }
def keysNextRow : OpenClaim := { program := "ytamohmpapdecdaadoor", sum := "54b6463d6ff886452ae97f9d527703945953d2a4881c2fb81449058fa4f6bf3c", func := "factotum/factotumlaw02.KeysNext", spec := "keysNext", inPlace := ["internal/bytealg.CountString", "internal/bytealg.IndexByteString", "internal/bytealg.IndexString", "internal/abi.NoEscape", "internal/bytealg.MakeNoZero"], unfollowed := true, recurses := true, named := ["internal/bytealg.MaxLen", "unicode/utf8.first", "unicode/utf8.acceptRanges"], apart := false, laid := [("unicode/utf8.acceptRanges", laid_unicode_utf8_acceptRanges), ("unicode/utf8.first", laid_unicode_utf8_first)] }
def KeysNextSaid : Prop := keysNextRow.holds Tryd.pinned (OpenSpec.ofChange keysNextSpec)

/-- ITS FALSE NEIGHBOUR: 'it returns false'. Refute it at one input. -/
def keysNextWrong : ChangeSpec := { name := "keysNext", fn := fun _ => fun
  | [d1, d2] => { results := [.lit (.bool false)], args := [d1, d2] }
  | _ => none }
def KeysNextWrongFalsely : Prop := keysNextRow.holds Tryd.pinned (OpenSpec.ofChange keysNextWrong)

/-- 'factotumlaw02.KeysOrder': WHATEVER THE INPUT: true; the input reads as it did. -/
def keysOrderSpec : ChangeSpec := { name := "keysOrder", fn := fun _ => fun
  | [d1, d2] => { results := [.lit (.bool true)], args := [d1, d2] }
  | _ => none }
def keysOrderRow : OpenClaim := { program := "ytamohmpapdecdaadoor", sum := "54b6463d6ff886452ae97f9d527703945953d2a4881c2fb81449058fa4f6bf3c", func := "factotum/factotumlaw02.KeysOrder", spec := "keysOrder", inPlace := ["internal/bytealg.CountString", "internal/bytealg.IndexByteString", "internal/bytealg.IndexString", "internal/abi.NoEscape", "internal/bytealg.MakeNoZero"], unfollowed := true, recurses := true, named := ["internal/bytealg.MaxLen", "unicode/utf8.first", "unicode/utf8.acceptRanges"], apart := false, laid := [("unicode/utf8.acceptRanges", laid_unicode_utf8_acceptRanges), ("unicode/utf8.first", laid_unicode_utf8_first)] }
def KeysOrderSaid : Prop := keysOrderRow.holds Tryd.pinned (OpenSpec.ofChange keysOrderSpec)

/-- ITS FALSE NEIGHBOUR: 'it returns false'. Refute it at one input. -/
def keysOrderWrong : ChangeSpec := { name := "keysOrder", fn := fun _ => fun
  | [d1, d2] => { results := [.lit (.bool false)], args := [d1, d2] }
  | _ => none }
def KeysOrderWrongFalsely : Prop := keysOrderRow.holds Tryd.pinned (OpenSpec.ofChange keysOrderWrong)

/-- 'factotumlaw02.KeysCompare': WHATEVER THE INPUT: true; the input reads as it did. -/
def keysCompareSpec : ChangeSpec := { name := "keysCompare", fn := fun _ => fun
  | [d1, d2] => { results := [.lit (.bool true)], args := [d1, d2] }
  | _ => none }
def keysCompareRow : OpenClaim := { program := "ytamohmpapdecdaadoor", sum := "54b6463d6ff886452ae97f9d527703945953d2a4881c2fb81449058fa4f6bf3c", func := "factotum/factotumlaw02.KeysCompare", spec := "keysCompare", inPlace := ["internal/bytealg.CountString", "internal/bytealg.IndexByteString", "internal/bytealg.IndexString", "internal/abi.NoEscape", "internal/bytealg.MakeNoZero"], unfollowed := true, recurses := true, named := ["internal/bytealg.MaxLen", "unicode/utf8.first", "unicode/utf8.acceptRanges"], apart := false, laid := [("unicode/utf8.acceptRanges", laid_unicode_utf8_acceptRanges), ("unicode/utf8.first", laid_unicode_utf8_first)] }
def KeysCompareSaid : Prop := keysCompareRow.holds Tryd.pinned (OpenSpec.ofChange keysCompareSpec)

/-- ITS FALSE NEIGHBOUR: 'it returns false'. Refute it at one input. -/
def keysCompareWrong : ChangeSpec := { name := "keysCompare", fn := fun _ => fun
  | [d1, d2] => { results := [.lit (.bool false)], args := [d1, d2] }
  | _ => none }
def KeysCompareWrongFalsely : Prop := keysCompareRow.holds Tryd.pinned (OpenSpec.ofChange keysCompareWrong)

/- THE SECOND FORM. 'bulk': how many values and letters a reading holds, each counted each time it is reached (what is shared counts as often as it is met; a slice's spare places count too). A statement '..UptoSaid' is the law's where the arguments, and the package variables that the reading takes, are together of bulk at most 1048576: NARROWER than '..Said'. Prove '..Said' where nothing that the law and all that it calls make is longer than what came in: it says more and counts as full. Else prove '..UptoSaid'. A law counts once. -/
mutual
def uptoBulk {H : Type} : DataW H → Nat
  | .lit (.string bytes) => bytes.length + 1
  | .lit _ => 1
  | .nil => 1
  | .ptr d => uptoBulk d + 1
  | .slice elems spare => uptoBulkAll elems + uptoBulkAll spare + 1
  | .agg parts => uptoBulkAll parts + 1
  | .iface _ d => uptoBulk d + 1
  | .map entries => uptoBulkEntries entries + 1
  | .held _ => 1
def uptoBulkAll {H : Type} : List (DataW H) → Nat
  | [] => 0
  | d :: r => uptoBulk d + uptoBulkAll r
def uptoBulkEntries {H : Type} : List (Lit × DataW H) → Nat
  | [] => 0
  | x :: r => uptoBulkEntry x + uptoBulkEntries r
def uptoBulkEntry {H : Type} : Lit × DataW H → Nat
  | (.string bytes, d) => bytes.length + uptoBulk d + 1
  | (_, d) => uptoBulk d + 1
 end
def uptoSmall : (H : Type) → List (DataW H) → Bool := fun _ ds => decide (uptoBulkAll ds ≤ 1048576)
def OpenSpec.upto (s : _root_.Go.ChangeSpec) : _root_.Go.OpenSpec := { _root_.Go.OpenSpec.ofChange s with cond := some uptoSmall }

/-- 'factotumlaw02.KeysWrite', WHERE WHAT IT READS IS OF BULK AT MOST 1048576: true; the input reads as it did. -/
def keysWriteUptoRow : OpenClaim := { program := "ytamohmpapdecdaadoor", sum := "54b6463d6ff886452ae97f9d527703945953d2a4881c2fb81449058fa4f6bf3c", func := "factotum/factotumlaw02.KeysWrite", spec := "keysWrite", inPlace := ["internal/bytealg.CountString", "internal/bytealg.IndexByteString", "internal/bytealg.IndexString", "internal/abi.NoEscape", "internal/bytealg.MakeNoZero"], unfollowed := true, recurses := true, named := ["internal/bytealg.MaxLen", "unicode/utf8.first", "unicode/utf8.acceptRanges"], apart := false, laid := [("unicode/utf8.acceptRanges", laid_unicode_utf8_acceptRanges), ("unicode/utf8.first", laid_unicode_utf8_first)], narrowed := true }
def KeysWriteUptoSaid : Prop := keysWriteUptoRow.holds Tryd.pinned (OpenSpec.upto keysWriteSpec)

/-- 'factotumlaw02.KeysRead', WHERE WHAT IT READS IS OF BULK AT MOST 1048576: true; the input reads as it did. -/
def keysReadUptoRow : OpenClaim := { program := "ytamohmpapdecdaadoor", sum := "54b6463d6ff886452ae97f9d527703945953d2a4881c2fb81449058fa4f6bf3c", func := "factotum/factotumlaw02.KeysRead", spec := "keysRead", inPlace := ["internal/bytealg.CountString", "internal/bytealg.IndexByteString", "internal/bytealg.IndexString", "internal/abi.NoEscape", "internal/bytealg.MakeNoZero"], unfollowed := true, recurses := true, named := ["internal/bytealg.MaxLen", "unicode/utf8.first", "unicode/utf8.acceptRanges"], apart := false, laid := [("unicode/utf8.acceptRanges", laid_unicode_utf8_acceptRanges), ("unicode/utf8.first", laid_unicode_utf8_first)], narrowed := true }
def KeysReadUptoSaid : Prop := keysReadUptoRow.holds Tryd.pinned (OpenSpec.upto keysReadSpec)

/-- 'factotumlaw02.KeysBack', WHERE WHAT IT READS IS OF BULK AT MOST 1048576: true; the input reads as it did. -/
def keysBackUptoRow : OpenClaim := { program := "ytamohmpapdecdaadoor", sum := "54b6463d6ff886452ae97f9d527703945953d2a4881c2fb81449058fa4f6bf3c", func := "factotum/factotumlaw02.KeysBack", spec := "keysBack", inPlace := ["internal/bytealg.CountString", "internal/bytealg.IndexByteString", "internal/bytealg.IndexString", "internal/abi.NoEscape", "internal/bytealg.MakeNoZero"], unfollowed := true, recurses := true, named := ["internal/bytealg.MaxLen", "unicode/utf8.first", "unicode/utf8.acceptRanges"], apart := false, laid := [("unicode/utf8.acceptRanges", laid_unicode_utf8_acceptRanges), ("unicode/utf8.first", laid_unicode_utf8_first)], narrowed := true }
def KeysBackUptoSaid : Prop := keysBackUptoRow.holds Tryd.pinned (OpenSpec.upto keysBackSpec)

/-- 'factotumlaw02.KeysHeads', WHERE WHAT IT READS IS OF BULK AT MOST 1048576: true; the input reads as it did. -/
def keysHeadsUptoRow : OpenClaim := { program := "ytamohmpapdecdaadoor", sum := "54b6463d6ff886452ae97f9d527703945953d2a4881c2fb81449058fa4f6bf3c", func := "factotum/factotumlaw02.KeysHeads", spec := "keysHeads", inPlace := ["internal/bytealg.CountString", "internal/bytealg.IndexByteString", "internal/bytealg.IndexString", "internal/abi.NoEscape", "internal/bytealg.MakeNoZero"], unfollowed := true, recurses := true, named := ["internal/bytealg.MaxLen", "unicode/utf8.first", "unicode/utf8.acceptRanges"], apart := false, laid := [("unicode/utf8.acceptRanges", laid_unicode_utf8_acceptRanges), ("unicode/utf8.first", laid_unicode_utf8_first)], narrowed := true }
def KeysHeadsUptoSaid : Prop := keysHeadsUptoRow.holds Tryd.pinned (OpenSpec.upto keysHeadsSpec)

/-- 'factotumlaw02.KeysNext', WHERE WHAT IT READS IS OF BULK AT MOST 1048576: true; the input reads as it did. -/
def keysNextUptoRow : OpenClaim := { program := "ytamohmpapdecdaadoor", sum := "54b6463d6ff886452ae97f9d527703945953d2a4881c2fb81449058fa4f6bf3c", func := "factotum/factotumlaw02.KeysNext", spec := "keysNext", inPlace := ["internal/bytealg.CountString", "internal/bytealg.IndexByteString", "internal/bytealg.IndexString", "internal/abi.NoEscape", "internal/bytealg.MakeNoZero"], unfollowed := true, recurses := true, named := ["internal/bytealg.MaxLen", "unicode/utf8.first", "unicode/utf8.acceptRanges"], apart := false, laid := [("unicode/utf8.acceptRanges", laid_unicode_utf8_acceptRanges), ("unicode/utf8.first", laid_unicode_utf8_first)], narrowed := true }
def KeysNextUptoSaid : Prop := keysNextUptoRow.holds Tryd.pinned (OpenSpec.upto keysNextSpec)

/-- 'factotumlaw02.KeysOrder', WHERE WHAT IT READS IS OF BULK AT MOST 1048576: true; the input reads as it did. -/
def keysOrderUptoRow : OpenClaim := { program := "ytamohmpapdecdaadoor", sum := "54b6463d6ff886452ae97f9d527703945953d2a4881c2fb81449058fa4f6bf3c", func := "factotum/factotumlaw02.KeysOrder", spec := "keysOrder", inPlace := ["internal/bytealg.CountString", "internal/bytealg.IndexByteString", "internal/bytealg.IndexString", "internal/abi.NoEscape", "internal/bytealg.MakeNoZero"], unfollowed := true, recurses := true, named := ["internal/bytealg.MaxLen", "unicode/utf8.first", "unicode/utf8.acceptRanges"], apart := false, laid := [("unicode/utf8.acceptRanges", laid_unicode_utf8_acceptRanges), ("unicode/utf8.first", laid_unicode_utf8_first)], narrowed := true }
def KeysOrderUptoSaid : Prop := keysOrderUptoRow.holds Tryd.pinned (OpenSpec.upto keysOrderSpec)

/-- 'factotumlaw02.KeysCompare', WHERE WHAT IT READS IS OF BULK AT MOST 1048576: true; the input reads as it did. -/
def keysCompareUptoRow : OpenClaim := { program := "ytamohmpapdecdaadoor", sum := "54b6463d6ff886452ae97f9d527703945953d2a4881c2fb81449058fa4f6bf3c", func := "factotum/factotumlaw02.KeysCompare", spec := "keysCompare", inPlace := ["internal/bytealg.CountString", "internal/bytealg.IndexByteString", "internal/bytealg.IndexString", "internal/abi.NoEscape", "internal/bytealg.MakeNoZero"], unfollowed := true, recurses := true, named := ["internal/bytealg.MaxLen", "unicode/utf8.first", "unicode/utf8.acceptRanges"], apart := false, laid := [("unicode/utf8.acceptRanges", laid_unicode_utf8_acceptRanges), ("unicode/utf8.first", laid_unicode_utf8_first)], narrowed := true }
def KeysCompareUptoSaid : Prop := keysCompareUptoRow.holds Tryd.pinned (OpenSpec.upto keysCompareSpec)

end Rows
end Go.Proofs.YtamohmpapdecdaaDoor
