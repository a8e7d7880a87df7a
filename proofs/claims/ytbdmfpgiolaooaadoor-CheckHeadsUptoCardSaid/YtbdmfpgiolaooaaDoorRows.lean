/-
  NARROWER THAN 'FOR EVERY INPUT', by the rows' own cells (each row's printed sentence says how): CheckAll: laid · CheckOne: laid · CheckReached: laid · CheckStays: laid · CheckHeads: laid.
  DERIVED. THE GIVEN ROWS OF THIS SEAT. 5 by the template 'for every input the law returns true; each argument reads behind the call as it read before'; 0 by the template 'total and deterministic' (their statements: YtbdmfpgiolaooaaDoorTotals.lean).
  GIVEN WITH THE SEED: the statements are not yours to turn. If you find one false, say at which input.
  Laid BY PROGRAM, IN A SANDBOX (cutbox-rows.mjs): the forced cells as the released guide's own fill.sh prints them over the translation f148a769ad74c4ad… (all of the seat's roots in one cut). By AI agents, Wed Nov 11 2026. No macro, syntax, notation, axiom, sorry.
-/
import Derived.Test.YtbdmfpgiolaooaaDoorChecked
import GoSem.PinnedTables
import GoSem.Claim
import GoSem.ClaimJoined
import GoSem.ClaimMapViews
import Derived.JoinedTies
import Derived.KernelRfl
namespace Go.Proofs.YtbdmfpgiolaooaaDoor
/- THE CELL 'sum', in the pinned program and in every row, IS THE sha256 OF THE DUMP (.gsa) THAT YtbdmfpgiolaooaaDoorProg.lean LOADS. Nothing in Lean hashes anything: it is a label: what it is worth is what the hold of that sum in a sandbox is worth. -/
noncomputable def Tryd.pinned : Pinned := { name := "ytbdmfpgiolaooaadoor", sum := "f148a769ad74c4ad04560c356e7574d6204876684784271d4d79b9a41e293701", checked := Tryd.checked }
namespace Rows
def none {H : Type} : Left H := { results := [], args := [] }

/- WHAT THE LISTED PACKAGE-LEVEL VARIABLES READ AS WHEN THE CALL BEGINS. Each datum BY PROGRAM (the guide's laid-datum.mjs) off the statement by which the dump's own 'gosem.cut.vars' lays the variable. In a bare row this is a premise. The card (YtbdmfpgiolaooaaDoorCards.lean) ties it to the program's text. -/
def laid_unicode_utf8_acceptRanges {H : Type} : DataW H := .agg [.agg [.lit (.int .u8 128), .lit (.int .u8 191)], .agg [.lit (.int .u8 160), .lit (.int .u8 191)], .agg [.lit (.int .u8 128), .lit (.int .u8 159)], .agg [.lit (.int .u8 144), .lit (.int .u8 191)], .agg [.lit (.int .u8 128), .lit (.int .u8 143)], .agg [.lit (.int .u8 0), .lit (.int .u8 0)], .agg [.lit (.int .u8 0), .lit (.int .u8 0)], .agg [.lit (.int .u8 0), .lit (.int .u8 0)], .agg [.lit (.int .u8 0), .lit (.int .u8 0)], .agg [.lit (.int .u8 0), .lit (.int .u8 0)], .agg [.lit (.int .u8 0), .lit (.int .u8 0)], .agg [.lit (.int .u8 0), .lit (.int .u8 0)], .agg [.lit (.int .u8 0), .lit (.int .u8 0)], .agg [.lit (.int .u8 0), .lit (.int .u8 0)], .agg [.lit (.int .u8 0), .lit (.int .u8 0)], .agg [.lit (.int .u8 0), .lit (.int .u8 0)]]
/-- One of Go's own tables, pinned by name: the form's constant. -/
def laid_unicode_utf8_first : DataW Unit := Go.Pinned.utf8First

/-- 'factotumlaw15.CheckAll': WHATEVER THE INPUT: true; the input reads as it did. -/
def checkAllSpec : ChangeSpec := { name := "checkAll", fn := fun _ => fun
  | [d] => { results := [.lit (.bool true)], args := [d] }
  | _ => none }
def checkAllRow : OpenClaim := { program := "ytbdmfpgiolaooaadoor", sum := "f148a769ad74c4ad04560c356e7574d6204876684784271d4d79b9a41e293701", func := "factotum/factotumlaw15.CheckAll", spec := "checkAll", inPlace := ["internal/bytealg.CountString", "internal/bytealg.IndexByteString", "internal/bytealg.IndexString", "internal/abi.NoEscape", "internal/bytealg.MakeNoZero"], unfollowed := true, recurses := true, named := ["internal/bytealg.MaxLen", "unicode/utf8.first", "unicode/utf8.acceptRanges"], apart := false, laid := [("unicode/utf8.acceptRanges", laid_unicode_utf8_acceptRanges), ("unicode/utf8.first", laid_unicode_utf8_first)] }
def CheckAllSaid : Prop := checkAllRow.holds Tryd.pinned (OpenSpec.ofChange checkAllSpec)

/-- ITS FALSE NEIGHBOUR: 'it returns false'. Refute it at one input. -/
def checkAllWrong : ChangeSpec := { name := "checkAll", fn := fun _ => fun
  | [d] => { results := [.lit (.bool false)], args := [d] }
  | _ => none }
def CheckAllWrongFalsely : Prop := checkAllRow.holds Tryd.pinned (OpenSpec.ofChange checkAllWrong)

/-- 'factotumlaw15.CheckOne': WHATEVER THE INPUT: true; the input reads as it did. -/
def checkOneSpec : ChangeSpec := { name := "checkOne", fn := fun _ => fun
  | [d] => { results := [.lit (.bool true)], args := [d] }
  | _ => none }
def checkOneRow : OpenClaim := { program := "ytbdmfpgiolaooaadoor", sum := "f148a769ad74c4ad04560c356e7574d6204876684784271d4d79b9a41e293701", func := "factotum/factotumlaw15.CheckOne", spec := "checkOne", inPlace := ["internal/bytealg.CountString", "internal/bytealg.IndexByteString", "internal/bytealg.IndexString", "internal/abi.NoEscape", "internal/bytealg.MakeNoZero"], unfollowed := true, recurses := true, named := ["internal/bytealg.MaxLen", "unicode/utf8.first", "unicode/utf8.acceptRanges"], apart := false, laid := [("unicode/utf8.acceptRanges", laid_unicode_utf8_acceptRanges), ("unicode/utf8.first", laid_unicode_utf8_first)] }
def CheckOneSaid : Prop := checkOneRow.holds Tryd.pinned (OpenSpec.ofChange checkOneSpec)

/-- ITS FALSE NEIGHBOUR: 'it returns false'. Refute it at one input. -/
def checkOneWrong : ChangeSpec := { name := "checkOne", fn := fun _ => fun
  | [d] => { results := [.lit (.bool false)], args := [d] }
  | _ => none }
def CheckOneWrongFalsely : Prop := checkOneRow.holds Tryd.pinned (OpenSpec.ofChange checkOneWrong)

/-- 'factotumlaw15.CheckReached': WHATEVER THE INPUT: true; the input reads as it did. -/
def checkReachedSpec : ChangeSpec := { name := "checkReached", fn := fun _ => fun
  | [d] => { results := [.lit (.bool true)], args := [d] }
  | _ => none }
def checkReachedRow : OpenClaim := { program := "ytbdmfpgiolaooaadoor", sum := "f148a769ad74c4ad04560c356e7574d6204876684784271d4d79b9a41e293701", func := "factotum/factotumlaw15.CheckReached", spec := "checkReached", inPlace := ["internal/bytealg.CountString", "internal/bytealg.IndexByteString", "internal/bytealg.IndexString", "internal/abi.NoEscape", "internal/bytealg.MakeNoZero"], unfollowed := true, recurses := true, named := ["internal/bytealg.MaxLen", "unicode/utf8.first", "unicode/utf8.acceptRanges"], apart := false, laid := [("unicode/utf8.acceptRanges", laid_unicode_utf8_acceptRanges), ("unicode/utf8.first", laid_unicode_utf8_first)] }
def CheckReachedSaid : Prop := checkReachedRow.holds Tryd.pinned (OpenSpec.ofChange checkReachedSpec)

/-- ITS FALSE NEIGHBOUR: 'it returns false'. Refute it at one input. -/
def checkReachedWrong : ChangeSpec := { name := "checkReached", fn := fun _ => fun
  | [d] => { results := [.lit (.bool false)], args := [d] }
  | _ => none }
def CheckReachedWrongFalsely : Prop := checkReachedRow.holds Tryd.pinned (OpenSpec.ofChange checkReachedWrong)

/-- 'factotumlaw15.CheckStays': WHATEVER THE INPUT: true; the input reads as it did. -/
def checkStaysSpec : ChangeSpec := { name := "checkStays", fn := fun _ => fun
  | [d] => { results := [.lit (.bool true)], args := [d] }
  | _ => none }
def checkStaysRow : OpenClaim := { program := "ytbdmfpgiolaooaadoor", sum := "f148a769ad74c4ad04560c356e7574d6204876684784271d4d79b9a41e293701", func := "factotum/factotumlaw15.CheckStays", spec := "checkStays", inPlace := ["internal/bytealg.CountString", "internal/bytealg.IndexByteString", "internal/bytealg.IndexString", "internal/abi.NoEscape", "internal/bytealg.MakeNoZero"], unfollowed := true, recurses := true, named := ["internal/bytealg.MaxLen", "unicode/utf8.first", "unicode/utf8.acceptRanges"], apart := false, laid := [("unicode/utf8.acceptRanges", laid_unicode_utf8_acceptRanges), ("unicode/utf8.first", laid_unicode_utf8_first)] }
def CheckStaysSaid : Prop := checkStaysRow.holds Tryd.pinned (OpenSpec.ofChange checkStaysSpec)

/-- ITS FALSE NEIGHBOUR: 'it returns false'. Refute it at one input. -/
def checkStaysWrong : ChangeSpec := { name := "checkStays", fn := fun _ => fun
  | [d] => { results := [.lit (.bool false)], args := [d] }
  | _ => none }
def CheckStaysWrongFalsely : Prop := checkStaysRow.holds Tryd.pinned (OpenSpec.ofChange checkStaysWrong)

/-- 'factotumlaw15.CheckHeads': WHATEVER THE INPUT: true; the input reads as it did. -/
def checkHeadsSpec : ChangeSpec := { name := "checkHeads", fn := fun _ => fun
  | [d1, d2] => { results := [.lit (.bool true)], args := [d1, d2] }
  | _ => none }
def checkHeadsRow : OpenClaim := { program := "ytbdmfpgiolaooaadoor", sum := "f148a769ad74c4ad04560c356e7574d6204876684784271d4d79b9a41e293701", func := "factotum/factotumlaw15.CheckHeads", spec := "checkHeads", inPlace := ["internal/bytealg.CountString", "internal/bytealg.IndexByteString", "internal/bytealg.IndexString", "internal/abi.NoEscape", "internal/bytealg.MakeNoZero"], unfollowed := true, recurses := true, named := ["internal/bytealg.MaxLen", "unicode/utf8.first", "unicode/utf8.acceptRanges"], apart := false, laid := [("unicode/utf8.acceptRanges", laid_unicode_utf8_acceptRanges), ("unicode/utf8.first", laid_unicode_utf8_first)] }
def CheckHeadsSaid : Prop := checkHeadsRow.holds Tryd.pinned (OpenSpec.ofChange checkHeadsSpec)

/-- ITS FALSE NEIGHBOUR: 'it returns false'. Refute it at one input. -/
def checkHeadsWrong : ChangeSpec := { name := "checkHeads", fn := fun _ => fun
  | [d1, d2] => { results := [.lit (.bool false)], args := [d1, d2] }
  | _ => none }
def CheckHeadsWrongFalsely : Prop := checkHeadsRow.holds Tryd.pinned (OpenSpec.ofChange checkHeadsWrong)

/- THE SECOND FORM. 'bulk': how many values and letters a reading holds, each counted each time it is reached (what is shared counts as often as it is met; a slice's spare places count too). A statement '..UptoSaid' is the law's where the arguments, and the package variables that the reading takes, are together of bulk at most 1048576: NARROWER than '..Said'. Prove '..Said' where nothing that the law and all that it calls make is longer than what came in: it says more and counts as full. Else prove '..UptoSaid'. A law counts once. -/
mutual
def uptoBulk {H : Type} : DataW H → Nat
  | .lit (.string bytes) => bytes.length + 1
  | .lit _ => 1
  | .nil => 1
  | .ptr d => uptoBulk d + 1
  | .slice elems spare => uptoBulkAll elems + uptoBulkAll spare + 1
  | .agg parts => uptoBulkAll parts + 1
  | .iface _ d => uptoBulk d + 1
  | .map entries => uptoBulkEntries entries + 1
  | .held _ => 1
def uptoBulkAll {H : Type} : List (DataW H) → Nat
  | [] => 0
  | d :: r => uptoBulk d + uptoBulkAll r
def uptoBulkEntries {H : Type} : List (Lit × DataW H) → Nat
  | [] => 0
  | x :: r => uptoBulkEntry x + uptoBulkEntries r
def uptoBulkEntry {H : Type} : Lit × DataW H → Nat
  | (.string bytes, d) => bytes.length + uptoBulk d + 1
  | (_, d) => uptoBulk d + 1
 end
def uptoSmall : (H : Type) → List (DataW H) → Bool := fun _ ds => decide (uptoBulkAll ds ≤ 1048576)
def OpenSpec.upto (s : _root_.Go.ChangeSpec) : _root_.Go.OpenSpec := { _root_.Go.OpenSpec.ofChange s with cond := some uptoSmall }

/-- 'factotumlaw15.CheckAll', WHERE WHAT IT READS IS OF BULK AT MOST 1048576: true; the input reads as it did. -/
def checkAllUptoRow : OpenClaim := { program := "ytbdmfpgiolaooaadoor", sum := "f148a769ad74c4ad04560c356e7574d6204876684784271d4d79b9a41e293701", func := "factotum/factotumlaw15.CheckAll", spec := "checkAll", inPlace := ["internal/bytealg.CountString", "internal/bytealg.IndexByteString", "internal/bytealg.IndexString", "internal/abi.NoEscape", "internal/bytealg.MakeNoZero"], unfollowed := true, recurses := true, named := ["internal/bytealg.MaxLen", "unicode/utf8.first", "unicode/utf8.acceptRanges"], apart := false, laid := [("unicode/utf8.acceptRanges", laid_unicode_utf8_acceptRanges), ("unicode/utf8.first", laid_unicode_utf8_first)], narrowed := true }
def CheckAllUptoSaid : Prop := checkAllUptoRow.holds Tryd.pinned (OpenSpec.upto checkAllSpec)

/-- 'factotumlaw15.CheckOne', WHERE WHAT IT READS IS OF BULK AT MOST 1048576: true; the input reads as it did. -/
def checkOneUptoRow : OpenClaim := { program := "ytbdmfpgiolaooaadoor", sum := "f148a769ad74c4ad04560c356e7574d6204876684784271d4d79b9a41e293701", func := "factotum/factotumlaw15.CheckOne", spec := "checkOne", inPlace := ["internal/bytealg.CountString", "internal/bytealg.IndexByteString", "internal/bytealg.IndexString", "internal/abi.NoEscape", "internal/bytealg.MakeNoZero"], unfollowed := true, recurses := true, named := ["internal/bytealg.MaxLen", "unicode/utf8.first", "unicode/utf8.acceptRanges"], apart := false, laid := [("unicode/utf8.acceptRanges", laid_unicode_utf8_acceptRanges), ("unicode/utf8.first", laid_unicode_utf8_first)], narrowed := true }
def CheckOneUptoSaid : Prop := checkOneUptoRow.holds Tryd.pinned (OpenSpec.upto checkOneSpec)

/-- 'factotumlaw15.CheckReached', WHERE WHAT IT READS IS OF BULK AT MOST 1048576: true; the input reads as it did. -/
def checkReachedUptoRow : OpenClaim := { program := "ytbdmfpgiolaooaadoor", sum := "f148a769ad74c4ad04560c356e7574d6204876684784271d4d79b9a41e293701", func := "factotum/factotumlaw15.CheckReached", spec := "checkReached", inPlace := ["internal/bytealg.CountString", "internal/bytealg.IndexByteString", "internal/bytealg.IndexString", "internal/abi.NoEscape", "internal/bytealg.MakeNoZero"], unfollowed := true, recurses := true, named := ["internal/bytealg.MaxLen", "unicode/utf8.first", "unicode/utf8.acceptRanges"], apart := false, laid := [("unicode/utf8.acceptRanges", laid_unicode_utf8_acceptRanges), ("unicode/utf8.first", laid_unicode_utf8_first)], narrowed := true }
def CheckReachedUptoSaid : Prop := checkReachedUptoRow.holds Tryd.pinned (OpenSpec.upto checkReachedSpec)

/-- 'factotumlaw15.CheckStays', WHERE WHAT IT READS IS OF BULK AT MOST 1048576: true; the input reads as it did. -/
def checkStaysUptoRow : OpenClaim := { program := "ytbdmfpgiolaooaadoor", sum := "f148a769ad74c4ad04560c356e7574d6204876684784271d4d79b9a41e293701", func := "factotum/factotumlaw15.CheckStays", spec := "checkStays", inPlace := ["internal/bytealg.CountString", "internal/bytealg.IndexByteString", "internal/bytealg.IndexString", "internal/abi.NoEscape", "internal/bytealg.MakeNoZero"], unfollowed := true, recurses := true, named := ["internal/bytealg.MaxLen", "unicode/utf8.first", "unicode/utf8.acceptRanges"], apart := false, laid := [("unicode/utf8.acceptRanges", laid_unicode_utf8_acceptRanges), ("unicode/utf8.first", laid_unicode_utf8_first)], narrowed := true }
def CheckStaysUptoSaid : Prop := checkStaysUptoRow.holds Tryd.pinned (OpenSpec.upto checkStaysSpec)

/-- 'factotumlaw15.CheckHeads', WHERE WHAT IT READS IS OF BULK AT MOST 1048576: true; the input reads as it did. -/
def checkHeadsUptoRow : OpenClaim := { program := "ytbdmfpgiolaooaadoor", sum := "f148a769ad74c4ad04560c356e7574d6204876684784271d4d79b9a41e293701", func := "factotum/factotumlaw15.CheckHeads", spec := "checkHeads", inPlace := ["internal/bytealg.CountString", "internal/bytealg.IndexByteString", "internal/bytealg.IndexString", "internal/abi.NoEscape", "internal/bytealg.MakeNoZero"], unfollowed := true, recurses := true, named := ["internal/bytealg.MaxLen", "unicode/utf8.first", "unicode/utf8.acceptRanges"], apart := false, laid := [("unicode/utf8.acceptRanges", laid_unicode_utf8_acceptRanges), ("unicode/utf8.first", laid_unicode_utf8_first)], narrowed := true }
def CheckHeadsUptoSaid : Prop := checkHeadsUptoRow.holds Tryd.pinned (OpenSpec.upto checkHeadsSpec)

end Rows
end Go.Proofs.YtbdmfpgiolaooaaDoor
