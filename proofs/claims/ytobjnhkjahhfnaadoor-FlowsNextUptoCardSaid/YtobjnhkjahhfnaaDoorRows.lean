/-
  NARROWER THAN 'FOR EVERY INPUT', by the rows' own cells (each row's printed sentence says how): FlowsBegin: laid · FlowsNext: laid · FlowsEnd: laid · FlowsWake: laid · FlowsBytes: laid.
  DERIVED. THE GIVEN ROWS OF THIS SEAT. 5 by the template 'for every input the law returns true; each argument reads behind the call as it read before'; 0 by the template 'total and deterministic' (their statements: YtobjnhkjahhfnaaDoorTotals.lean).
  GIVEN WITH THE SEED: the statements are not yours to turn. If you find one false, say at which input.
  Laid BY PROGRAM, IN A SANDBOX (cutbox-rows.mjs): the forced cells as the released guide's own fill.sh prints them over the translation 84cc9190491ada90… (all of the seat's roots in one cut). By AI agents, Wed Nov 11 2026. No macro, syntax, notation, axiom, sorry.
-/
import Derived.Test.YtobjnhkjahhfnaaDoorChecked
import GoSem.PinnedTables
import GoSem.Claim
import GoSem.ClaimJoined
import GoSem.ClaimMapViews
import Derived.JoinedTies
import Derived.KernelRfl
namespace Go.Proofs.YtobjnhkjahhfnaaDoor
/- THE CELL 'sum', in the pinned program and in every row, IS THE sha256 OF THE DUMP (.gsa) THAT YtobjnhkjahhfnaaDoorProg.lean LOADS. Nothing in Lean hashes anything: it is a label: what it is worth is what the hold of that sum in a sandbox is worth. -/
noncomputable def Tryd.pinned : Pinned := { name := "ytobjnhkjahhfnaadoor", sum := "84cc9190491ada9059a01729dfda41f420ef0920694e61a567f4c495ebef1e9f", checked := Tryd.checked }
namespace Rows
def none {H : Type} : Left H := { results := [], args := [] }

/- WHAT THE LISTED PACKAGE-LEVEL VARIABLES READ AS WHEN THE CALL BEGINS. Each datum BY PROGRAM (the guide's laid-datum.mjs) off the statement by which the dump's own 'gosem.cut.vars' lays the variable. In a bare row this is a premise. The card (YtobjnhkjahhfnaaDoorCards.lean) ties it to the program's text. -/
def laid_unicode_utf8_acceptRanges {H : Type} : DataW H := .agg [.agg [.lit (.int .u8 128), .lit (.int .u8 191)], .agg [.lit (.int .u8 160), .lit (.int .u8 191)], .agg [.lit (.int .u8 128), .lit (.int .u8 159)], .agg [.lit (.int .u8 144), .lit (.int .u8 191)], .agg [.lit (.int .u8 128), .lit (.int .u8 143)], .agg [.lit (.int .u8 0), .lit (.int .u8 0)], .agg [.lit (.int .u8 0), .lit (.int .u8 0)], .agg [.lit (.int .u8 0), .lit (.int .u8 0)], .agg [.lit (.int .u8 0), .lit (.int .u8 0)], .agg [.lit (.int .u8 0), .lit (.int .u8 0)], .agg [.lit (.int .u8 0), .lit (.int .u8 0)], .agg [.lit (.int .u8 0), .lit (.int .u8 0)], .agg [.lit (.int .u8 0), .lit (.int .u8 0)], .agg [.lit (.int .u8 0), .lit (.int .u8 0)], .agg [.lit (.int .u8 0), .lit (.int .u8 0)], .agg [.lit (.int .u8 0), .lit (.int .u8 0)]]
/-- One of Go's own tables, pinned by name: the form's constant. -/
def laid_unicode_utf8_first : DataW Unit := Go.Pinned.utf8First

/-- 'factotumlaw21.FlowsBegin': WHATEVER THE INPUT: true; the input reads as it did. -/
def flowsBeginSpec : ChangeSpec := { name := "flowsBegin", fn := fun _ => fun
  | [d1, d2, d3] => { results := [.lit (.bool true)], args := [d1, d2, d3] }
  | _ => none }
def flowsBeginRow : OpenClaim := { program := "ytobjnhkjahhfnaadoor", sum := "84cc9190491ada9059a01729dfda41f420ef0920694e61a567f4c495ebef1e9f", func := "factotum/factotumlaw21.FlowsBegin", spec := "flowsBegin", inPlace := ["internal/bytealg.CountString", "internal/bytealg.IndexByteString", "internal/bytealg.IndexString", "internal/abi.NoEscape", "internal/bytealg.MakeNoZero"], unfollowed := true, recurses := true, named := ["internal/bytealg.MaxLen", "unicode/utf8.first", "unicode/utf8.acceptRanges"], apart := false, laid := [("unicode/utf8.acceptRanges", laid_unicode_utf8_acceptRanges), ("unicode/utf8.first", laid_unicode_utf8_first)] }
def FlowsBeginSaid : Prop := flowsBeginRow.holds Tryd.pinned (OpenSpec.ofChange flowsBeginSpec)

/-- ITS FALSE NEIGHBOUR: 'it returns false'. Refute it at one input. -/
def flowsBeginWrong : ChangeSpec := { name := "flowsBegin", fn := fun _ => fun
  | [d1, d2, d3] => { results := [.lit (.bool false)], args := [d1, d2, d3] }
  | _ => none }
def FlowsBeginWrongFalsely : Prop := flowsBeginRow.holds Tryd.pinned (OpenSpec.ofChange flowsBeginWrong)

/-- 'factotumlaw21.FlowsNext': WHATEVER THE INPUT: true; the input reads as it did. -/
def flowsNextSpec : ChangeSpec := { name := "flowsNext", fn := fun _ => fun
  | [d1, d2, d3] => { results := [.lit (.bool true)], args := [d1, d2, d3] }
  | _ => none }
def flowsNextRow : OpenClaim := { program := "ytobjnhkjahhfnaadoor", sum := "84cc9190491ada9059a01729dfda41f420ef0920694e61a567f4c495ebef1e9f", func := "factotum/factotumlaw21.FlowsNext", spec := "flowsNext", inPlace := ["internal/bytealg.CountString", "internal/bytealg.IndexByteString", "internal/bytealg.IndexString", "internal/abi.NoEscape", "internal/bytealg.MakeNoZero"], unfollowed := true, recurses := true, named := ["internal/bytealg.MaxLen", "unicode/utf8.first", "unicode/utf8.acceptRanges"], apart := false, laid := [("unicode/utf8.acceptRanges", laid_unicode_utf8_acceptRanges), ("unicode/utf8.first", laid_unicode_utf8_first)] }
def FlowsNextSaid : Prop := flowsNextRow.holds Tryd.pinned (OpenSpec.ofChange flowsNextSpec)

/-- ITS FALSE NEIGHBOUR: 'it returns false'. Refute it at one input. -/
def flowsNextWrong : ChangeSpec := { name := "flowsNext", fn := fun _ => fun
  | [d1, d2, d3] => { results := [.lit (.bool false)], args := [d1, d2, d3] }
  | _ => none }
def FlowsNextWrongFalsely : Prop := flowsNextRow.holds Tryd.pinned (OpenSpec.ofChange flowsNextWrong)

/-- 'factotumlaw21.FlowsEnd': WHATEVER THE INPUT: true; the input reads as it did. -/
def flowsEndSpec : ChangeSpec := { name := "flowsEnd", fn := fun _ => fun
  | [d1, d2, d3] => { results := [.lit (.bool true)], args := [d1, d2, d3] }
  | _ => none }
def flowsEndRow : OpenClaim := { program := "ytobjnhkjahhfnaadoor", sum := "84cc9190491ada9059a01729dfda41f420ef0920694e61a567f4c495ebef1e9f", func := "factotum/factotumlaw21.FlowsEnd", spec := "flowsEnd", inPlace := ["internal/bytealg.CountString", "internal/bytealg.IndexByteString", "internal/bytealg.IndexString", "internal/abi.NoEscape", "internal/bytealg.MakeNoZero"], unfollowed := true, recurses := true, named := ["internal/bytealg.MaxLen", "unicode/utf8.first", "unicode/utf8.acceptRanges"], apart := false, laid := [("unicode/utf8.acceptRanges", laid_unicode_utf8_acceptRanges), ("unicode/utf8.first", laid_unicode_utf8_first)] }
def FlowsEndSaid : Prop := flowsEndRow.holds Tryd.pinned (OpenSpec.ofChange flowsEndSpec)

/-- ITS FALSE NEIGHBOUR: 'it returns false'. Refute it at one input. -/
def flowsEndWrong : ChangeSpec := { name := "flowsEnd", fn := fun _ => fun
  | [d1, d2, d3] => { results := [.lit (.bool false)], args := [d1, d2, d3] }
  | _ => none }
def FlowsEndWrongFalsely : Prop := flowsEndRow.holds Tryd.pinned (OpenSpec.ofChange flowsEndWrong)

/-- 'factotumlaw21.FlowsWake': WHATEVER THE INPUT: true; the input reads as it did. -/
def flowsWakeSpec : ChangeSpec := { name := "flowsWake", fn := fun _ => fun
  | [d1, d2, d3] => { results := [.lit (.bool true)], args := [d1, d2, d3] }
  | _ => none }
def flowsWakeRow : OpenClaim := { program := "ytobjnhkjahhfnaadoor", sum := "84cc9190491ada9059a01729dfda41f420ef0920694e61a567f4c495ebef1e9f", func := "factotum/factotumlaw21.FlowsWake", spec := "flowsWake", inPlace := ["internal/bytealg.CountString", "internal/bytealg.IndexByteString", "internal/bytealg.IndexString", "internal/abi.NoEscape", "internal/bytealg.MakeNoZero"], unfollowed := true, recurses := true, named := ["internal/bytealg.MaxLen", "unicode/utf8.first", "unicode/utf8.acceptRanges"], apart := false, laid := [("unicode/utf8.acceptRanges", laid_unicode_utf8_acceptRanges), ("unicode/utf8.first", laid_unicode_utf8_first)] }
def FlowsWakeSaid : Prop := flowsWakeRow.holds Tryd.pinned (OpenSpec.ofChange flowsWakeSpec)

/-- ITS FALSE NEIGHBOUR: 'it returns false'. Refute it at one input. -/
def flowsWakeWrong : ChangeSpec := { name := "flowsWake", fn := fun _ => fun
  | [d1, d2, d3] => { results := [.lit (.bool false)], args := [d1, d2, d3] }
  | _ => none }
def FlowsWakeWrongFalsely : Prop := flowsWakeRow.holds Tryd.pinned (OpenSpec.ofChange flowsWakeWrong)

/-- 'factotumlaw21.FlowsBytes': WHATEVER THE INPUT: true; the input reads as it did. -/
def flowsBytesSpec : ChangeSpec := { name := "flowsBytes", fn := fun _ => fun
  | [d1, d2, d3] => { results := [.lit (.bool true)], args := [d1, d2, d3] }
  | _ => none }
def flowsBytesRow : OpenClaim := { program := "ytobjnhkjahhfnaadoor", sum := "84cc9190491ada9059a01729dfda41f420ef0920694e61a567f4c495ebef1e9f", func := "factotum/factotumlaw21.FlowsBytes", spec := "flowsBytes", inPlace := ["internal/bytealg.CountString", "internal/bytealg.IndexByteString", "internal/bytealg.IndexString", "internal/abi.NoEscape", "internal/bytealg.MakeNoZero"], unfollowed := true, recurses := true, named := ["internal/bytealg.MaxLen", "unicode/utf8.first", "unicode/utf8.acceptRanges"], apart := false, laid := [("unicode/utf8.acceptRanges", laid_unicode_utf8_acceptRanges), ("unicode/utf8.first", laid_unicode_utf8_first)] }
def FlowsBytesSaid : Prop := flowsBytesRow.holds Tryd.pinned (OpenSpec.ofChange flowsBytesSpec)

/-- ITS FALSE NEIGHBOUR: 'it returns false'. Refute it at one input. -/
def flowsBytesWrong : ChangeSpec := { name := "flowsBytes", fn := fun _ => fun
  | [d1, d2, d3] => { results := [.lit (.bool false)], args := [d1, d2, d3] }
  | _ => none }
def FlowsBytesWrongFalsely : Prop := flowsBytesRow.holds Tryd.pinned (OpenSpec.ofChange flowsBytesWrong)

/- THE SECOND FORM. 'bulk': how many values and letters a reading holds, each counted each time it is reached (what is shared counts as often as it is met; a slice's spare places count too). A statement '..UptoSaid' is the law's where the arguments, and the package variables that the reading takes, are together of bulk at most 1048576: NARROWER than '..Said'. Prove '..Said' where nothing that the law and all that it calls make is longer than what came in: it says more and counts as full. Else prove '..UptoSaid'. A law counts once. -/
mutual
def uptoBulk {H : Type} : DataW H → Nat
  | .lit (.string bytes) => bytes.length + 1
  | .lit _ => 1
  | .nil => 1
  | .ptr d => uptoBulk d + 1
  | .slice elems spare => uptoBulkAll elems + uptoBulkAll spare + 1
  | .agg parts => uptoBulkAll parts + 1
  | .iface _ d => uptoBulk d + 1
  | .map entries => uptoBulkEntries entries + 1
  | .held _ => 1
def uptoBulkAll {H : Type} : List (DataW H) → Nat
  | [] => 0
  | d :: r => uptoBulk d + uptoBulkAll r
def uptoBulkEntries {H : Type} : List (Lit × DataW H) → Nat
  | [] => 0
  | x :: r => uptoBulkEntry x + uptoBulkEntries r
def uptoBulkEntry {H : Type} : Lit × DataW H → Nat
  | (.string bytes, d) => bytes.length + uptoBulk d + 1
  | (_, d) => uptoBulk d + 1
 end
def uptoSmall : (H : Type) → List (DataW H) → Bool := fun _ ds => decide (uptoBulkAll ds ≤ 1048576)
def OpenSpec.upto (s : _root_.Go.ChangeSpec) : _root_.Go.OpenSpec := { _root_.Go.OpenSpec.ofChange s with cond := some uptoSmall }

/-- 'factotumlaw21.FlowsBegin', WHERE WHAT IT READS IS OF BULK AT MOST 1048576: true; the input reads as it did. -/
def flowsBeginUptoRow : OpenClaim := { program := "ytobjnhkjahhfnaadoor", sum := "84cc9190491ada9059a01729dfda41f420ef0920694e61a567f4c495ebef1e9f", func := "factotum/factotumlaw21.FlowsBegin", spec := "flowsBegin", inPlace := ["internal/bytealg.CountString", "internal/bytealg.IndexByteString", "internal/bytealg.IndexString", "internal/abi.NoEscape", "internal/bytealg.MakeNoZero"], unfollowed := true, recurses := true, named := ["internal/bytealg.MaxLen", "unicode/utf8.first", "unicode/utf8.acceptRanges"], apart := false, laid := [("unicode/utf8.acceptRanges", laid_unicode_utf8_acceptRanges), ("unicode/utf8.first", laid_unicode_utf8_first)], narrowed := true }
def FlowsBeginUptoSaid : Prop := flowsBeginUptoRow.holds Tryd.pinned (OpenSpec.upto flowsBeginSpec)

/-- 'factotumlaw21.FlowsNext', WHERE WHAT IT READS IS OF BULK AT MOST 1048576: true; the input reads as it did. -/
def flowsNextUptoRow : OpenClaim := { program := "ytobjnhkjahhfnaadoor", sum := "84cc9190491ada9059a01729dfda41f420ef0920694e61a567f4c495ebef1e9f", func := "factotum/factotumlaw21.FlowsNext", spec := "flowsNext", inPlace := ["internal/bytealg.CountString", "internal/bytealg.IndexByteString", "internal/bytealg.IndexString", "internal/abi.NoEscape", "internal/bytealg.MakeNoZero"], unfollowed := true, recurses := true, named := ["internal/bytealg.MaxLen", "unicode/utf8.first", "unicode/utf8.acceptRanges"], apart := false, laid := [("unicode/utf8.acceptRanges", laid_unicode_utf8_acceptRanges), ("unicode/utf8.first", laid_unicode_utf8_first)], narrowed := true }
def FlowsNextUptoSaid : Prop := flowsNextUptoRow.holds Tryd.pinned (OpenSpec.upto flowsNextSpec)

/-- 'factotumlaw21.FlowsEnd', WHERE WHAT IT READS IS OF BULK AT MOST 1048576: true; the input reads as it did. -/
def flowsEndUptoRow : OpenClaim := { program := "ytobjnhkjahhfnaadoor", sum := "84cc9190491ada9059a01729dfda41f420ef0920694e61a567f4c495ebef1e9f", func := "factotum/factotumlaw21.FlowsEnd", spec := "flowsEnd", inPlace := ["internal/bytealg.CountString", "internal/bytealg.IndexByteString", "internal/bytealg.IndexString", "internal/abi.NoEscape", "internal/bytealg.MakeNoZero"], unfollowed := true, recurses := true, named := ["internal/bytealg.MaxLen", "unicode/utf8.first", "unicode/utf8.acceptRanges"], apart := false, laid := [("unicode/utf8.acceptRanges", laid_unicode_utf8_acceptRanges), ("unicode/utf8.first", laid_unicode_utf8_first)], narrowed := true }
def FlowsEndUptoSaid : Prop := flowsEndUptoRow.holds Tryd.pinned (OpenSpec.upto flowsEndSpec)

/-- 'factotumlaw21.FlowsWake', WHERE WHAT IT READS IS OF BULK AT MOST 1048576: true; the input reads as it did. -/
def flowsWakeUptoRow : OpenClaim := { program := "ytobjnhkjahhfnaadoor", sum := "84cc9190491ada9059a01729dfda41f420ef0920694e61a567f4c495ebef1e9f", func := "factotum/factotumlaw21.FlowsWake", spec := "flowsWake", inPlace := ["internal/bytealg.CountString", "internal/bytealg.IndexByteString", "internal/bytealg.IndexString", "internal/abi.NoEscape", "internal/bytealg.MakeNoZero"], unfollowed := true, recurses := true, named := ["internal/bytealg.MaxLen", "unicode/utf8.first", "unicode/utf8.acceptRanges"], apart := false, laid := [("unicode/utf8.acceptRanges", laid_unicode_utf8_acceptRanges), ("unicode/utf8.first", laid_unicode_utf8_first)], narrowed := true }
def FlowsWakeUptoSaid : Prop := flowsWakeUptoRow.holds Tryd.pinned (OpenSpec.upto flowsWakeSpec)

/-- 'factotumlaw21.FlowsBytes', WHERE WHAT IT READS IS OF BULK AT MOST 1048576: true; the input reads as it did. -/
def flowsBytesUptoRow : OpenClaim := { program := "ytobjnhkjahhfnaadoor", sum := "84cc9190491ada9059a01729dfda41f420ef0920694e61a567f4c495ebef1e9f", func := "factotum/factotumlaw21.FlowsBytes", spec := "flowsBytes", inPlace := ["internal/bytealg.CountString", "internal/bytealg.IndexByteString", "internal/bytealg.IndexString", "internal/abi.NoEscape", "internal/bytealg.MakeNoZero"], unfollowed := true, recurses := true, named := ["internal/bytealg.MaxLen", "unicode/utf8.first", "unicode/utf8.acceptRanges"], apart := false, laid := [("unicode/utf8.acceptRanges", laid_unicode_utf8_acceptRanges), ("unicode/utf8.first", laid_unicode_utf8_first)], narrowed := true }
def FlowsBytesUptoSaid : Prop := flowsBytesUptoRow.holds Tryd.pinned (OpenSpec.upto flowsBytesSpec)

end Rows
end Go.Proofs.YtobjnhkjahhfnaaDoor
