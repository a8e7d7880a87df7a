/-
  NARROWER THAN 'FOR EVERY INPUT', by the rows' own cells (each row's printed sentence says how): OutboxDense: laid · OutboxParts: laid · OutboxPlays: laid · OutboxNil: laid · OutboxBytes: laid.
  DERIVED. THE GIVEN ROWS OF THIS SEAT. 5 by the template 'for every input the law returns true; each argument reads behind the call as it read before'; 0 by the template 'total and deterministic' (their statements: YtnlfppfdfdopiaaDoorTotals.lean).
  GIVEN WITH THE SEED: the statements are not yours to turn. If you find one false, say at which input.
  Laid BY PROGRAM, IN A SANDBOX (cutbox-rows.mjs): the forced cells as the released guide's own fill.sh prints them over the translation 64cebfa54100f3bf… (all of the seat's roots in one cut). By AI agents, Wed Nov 11 2026. No macro, syntax, notation, axiom, sorry.
-/
import Derived.Test.YtnlfppfdfdopiaaDoorChecked
import GoSem.PinnedTables
import GoSem.Claim
import GoSem.ClaimJoined
import GoSem.ClaimMapViews
import Derived.JoinedTies
import Derived.KernelRfl
namespace Go.Proofs.YtnlfppfdfdopiaaDoor
/- THE CELL 'sum', in the pinned program and in every row, IS THE sha256 OF THE DUMP (.gsa) THAT YtnlfppfdfdopiaaDoorProg.lean LOADS. Nothing in Lean hashes anything: it is a label: what it is worth is what the hold of that sum in a sandbox is worth. -/
noncomputable def Tryd.pinned : Pinned := { name := "ytnlfppfdfdopiaadoor", sum := "64cebfa54100f3bf2f3d5ec55ef544b93b49104a726a5458de9ffda8eeef9e19", checked := Tryd.checked }
namespace Rows
def none {H : Type} : Left H := { results := [], args := [] }

/- WHAT THE LISTED PACKAGE-LEVEL VARIABLES READ AS WHEN THE CALL BEGINS. Each datum BY PROGRAM (the guide's laid-datum.mjs) off the statement by which the dump's own 'gosem.cut.vars' lays the variable. In a bare row this is a premise. The card (YtnlfppfdfdopiaaDoorCards.lean) ties it to the program's text. -/
def laid_unicode_utf8_acceptRanges {H : Type} : DataW H := .agg [.agg [.lit (.int .u8 128), .lit (.int .u8 191)], .agg [.lit (.int .u8 160), .lit (.int .u8 191)], .agg [.lit (.int .u8 128), .lit (.int .u8 159)], .agg [.lit (.int .u8 144), .lit (.int .u8 191)], .agg [.lit (.int .u8 128), .lit (.int .u8 143)], .agg [.lit (.int .u8 0), .lit (.int .u8 0)], .agg [.lit (.int .u8 0), .lit (.int .u8 0)], .agg [.lit (.int .u8 0), .lit (.int .u8 0)], .agg [.lit (.int .u8 0), .lit (.int .u8 0)], .agg [.lit (.int .u8 0), .lit (.int .u8 0)], .agg [.lit (.int .u8 0), .lit (.int .u8 0)], .agg [.lit (.int .u8 0), .lit (.int .u8 0)], .agg [.lit (.int .u8 0), .lit (.int .u8 0)], .agg [.lit (.int .u8 0), .lit (.int .u8 0)], .agg [.lit (.int .u8 0), .lit (.int .u8 0)], .agg [.lit (.int .u8 0), .lit (.int .u8 0)]]
/-- One of Go's own tables, pinned by name: the form's constant. -/
def laid_unicode_utf8_first : DataW Unit := Go.Pinned.utf8First

/-- 'factotumlaw19.OutboxDense': WHATEVER THE INPUT: true; the input reads as it did. -/
def outboxDenseSpec : ChangeSpec := { name := "outboxDense", fn := fun _ => fun
  | [d] => { results := [.lit (.bool true)], args := [d] }
  | _ => none }
def outboxDenseRow : OpenClaim := { program := "ytnlfppfdfdopiaadoor", sum := "64cebfa54100f3bf2f3d5ec55ef544b93b49104a726a5458de9ffda8eeef9e19", func := "factotum/factotumlaw19.OutboxDense", spec := "outboxDense", inPlace := ["internal/bytealg.CountString", "internal/bytealg.IndexByteString", "internal/bytealg.IndexString", "internal/abi.NoEscape", "internal/bytealg.MakeNoZero"], unfollowed := true, recurses := true, named := ["internal/bytealg.MaxLen", "unicode/utf8.first", "unicode/utf8.acceptRanges"], apart := false, laid := [("unicode/utf8.acceptRanges", laid_unicode_utf8_acceptRanges), ("unicode/utf8.first", laid_unicode_utf8_first)] }
def OutboxDenseSaid : Prop := outboxDenseRow.holds Tryd.pinned (OpenSpec.ofChange outboxDenseSpec)

/-- ITS FALSE NEIGHBOUR: 'it returns false'. Refute it at one input. -/
def outboxDenseWrong : ChangeSpec := { name := "outboxDense", fn := fun _ => fun
  | [d] => { results := [.lit (.bool false)], args := [d] }
  | _ => none }
def OutboxDenseWrongFalsely : Prop := outboxDenseRow.holds Tryd.pinned (OpenSpec.ofChange outboxDenseWrong)

/-- 'factotumlaw19.OutboxParts': WHATEVER THE INPUT: true; the input reads as it did. -/
def outboxPartsSpec : ChangeSpec := { name := "outboxParts", fn := fun _ => fun
  | [d1, d2] => { results := [.lit (.bool true)], args := [d1, d2] }
  | _ => none }
def outboxPartsRow : OpenClaim := { program := "ytnlfppfdfdopiaadoor", sum := "64cebfa54100f3bf2f3d5ec55ef544b93b49104a726a5458de9ffda8eeef9e19", func := "factotum/factotumlaw19.OutboxParts", spec := "outboxParts", inPlace := ["internal/bytealg.CountString", "internal/bytealg.IndexByteString", "internal/bytealg.IndexString", "internal/abi.NoEscape", "internal/bytealg.MakeNoZero"], unfollowed := true, recurses := true, named := ["internal/bytealg.MaxLen", "unicode/utf8.first", "unicode/utf8.acceptRanges"], apart := false, laid := [("unicode/utf8.acceptRanges", laid_unicode_utf8_acceptRanges), ("unicode/utf8.first", laid_unicode_utf8_first)] }
def OutboxPartsSaid : Prop := outboxPartsRow.holds Tryd.pinned (OpenSpec.ofChange outboxPartsSpec)

/-- ITS FALSE NEIGHBOUR: 'it returns false'. Refute it at one input. -/
def outboxPartsWrong : ChangeSpec := { name := "outboxParts", fn := fun _ => fun
  | [d1, d2] => { results := [.lit (.bool false)], args := [d1, d2] }
  | _ => none }
def OutboxPartsWrongFalsely : Prop := outboxPartsRow.holds Tryd.pinned (OpenSpec.ofChange outboxPartsWrong)

/-- 'factotumlaw19.OutboxPlays': WHATEVER THE INPUT: true; the input reads as it did. -/
def outboxPlaysSpec : ChangeSpec := { name := "outboxPlays", fn := fun _ => fun
  | [d] => { results := [.lit (.bool true)], args := [d] }
  | _ => none }
def outboxPlaysRow : OpenClaim := { program := "ytnlfppfdfdopiaadoor", sum := "64cebfa54100f3bf2f3d5ec55ef544b93b49104a726a5458de9ffda8eeef9e19", func := "factotum/factotumlaw19.OutboxPlays", spec := "outboxPlays", inPlace := ["internal/bytealg.CountString", "internal/bytealg.IndexByteString", "internal/bytealg.IndexString", "internal/abi.NoEscape", "internal/bytealg.MakeNoZero"], unfollowed := true, recurses := true, named := ["internal/bytealg.MaxLen", "unicode/utf8.first", "unicode/utf8.acceptRanges"], apart := false, laid := [("unicode/utf8.acceptRanges", laid_unicode_utf8_acceptRanges), ("unicode/utf8.first", laid_unicode_utf8_first)] }
def OutboxPlaysSaid : Prop := outboxPlaysRow.holds Tryd.pinned (OpenSpec.ofChange outboxPlaysSpec)

/-- ITS FALSE NEIGHBOUR: 'it returns false'. Refute it at one input. -/
def outboxPlaysWrong : ChangeSpec := { name := "outboxPlays", fn := fun _ => fun
  | [d] => { results := [.lit (.bool false)], args := [d] }
  | _ => none }
def OutboxPlaysWrongFalsely : Prop := outboxPlaysRow.holds Tryd.pinned (OpenSpec.ofChange outboxPlaysWrong)

/-- 'factotumlaw19.OutboxNil': WHATEVER THE INPUT: true; the input reads as it did. -/
def outboxNilSpec : ChangeSpec := { name := "outboxNil", fn := fun _ => fun
  | [d] => { results := [.lit (.bool true)], args := [d] }
  | _ => none }
def outboxNilRow : OpenClaim := { program := "ytnlfppfdfdopiaadoor", sum := "64cebfa54100f3bf2f3d5ec55ef544b93b49104a726a5458de9ffda8eeef9e19", func := "factotum/factotumlaw19.OutboxNil", spec := "outboxNil", inPlace := ["internal/bytealg.CountString", "internal/bytealg.IndexByteString", "internal/bytealg.IndexString", "internal/abi.NoEscape", "internal/bytealg.MakeNoZero"], unfollowed := true, recurses := true, named := ["internal/bytealg.MaxLen", "unicode/utf8.first", "unicode/utf8.acceptRanges"], apart := false, laid := [("unicode/utf8.acceptRanges", laid_unicode_utf8_acceptRanges), ("unicode/utf8.first", laid_unicode_utf8_first)] }
def OutboxNilSaid : Prop := outboxNilRow.holds Tryd.pinned (OpenSpec.ofChange outboxNilSpec)

/-- ITS FALSE NEIGHBOUR: 'it returns false'. Refute it at one input. -/
def outboxNilWrong : ChangeSpec := { name := "outboxNil", fn := fun _ => fun
  | [d] => { results := [.lit (.bool false)], args := [d] }
  | _ => none }
def OutboxNilWrongFalsely : Prop := outboxNilRow.holds Tryd.pinned (OpenSpec.ofChange outboxNilWrong)

/-- 'factotumlaw19.OutboxBytes': WHATEVER THE INPUT: true; the input reads as it did. -/
def outboxBytesSpec : ChangeSpec := { name := "outboxBytes", fn := fun _ => fun
  | [d1, d2, d3] => { results := [.lit (.bool true)], args := [d1, d2, d3] }
  | _ => none }
def outboxBytesRow : OpenClaim := { program := "ytnlfppfdfdopiaadoor", sum := "64cebfa54100f3bf2f3d5ec55ef544b93b49104a726a5458de9ffda8eeef9e19", func := "factotum/factotumlaw19.OutboxBytes", spec := "outboxBytes", inPlace := ["internal/bytealg.CountString", "internal/bytealg.IndexByteString", "internal/bytealg.IndexString", "internal/abi.NoEscape", "internal/bytealg.MakeNoZero"], unfollowed := true, recurses := true, named := ["internal/bytealg.MaxLen", "unicode/utf8.first", "unicode/utf8.acceptRanges"], apart := false, laid := [("unicode/utf8.acceptRanges", laid_unicode_utf8_acceptRanges), ("unicode/utf8.first", laid_unicode_utf8_first)] }
def OutboxBytesSaid : Prop := outboxBytesRow.holds Tryd.pinned (OpenSpec.ofChange outboxBytesSpec)

/-- ITS FALSE NEIGHBOUR: 'it returns false'. Refute it at one input. -/
def outboxBytesWrong : ChangeSpec := { name := "outboxBytes", fn := fun _ => fun
  | [d1, d2, d3] => { results := [.lit (.bool false)], args := [d1, d2, d3] }
  | _ => none }
def OutboxBytesWrongFalsely : Prop := outboxBytesRow.holds Tryd.pinned (OpenSpec.ofChange outboxBytesWrong)

/- THE SECOND FORM. 'bulk': how many values and letters a reading holds, each counted each time it is reached (what is shared counts as often as it is met; a slice's spare places count too). A statement '..UptoSaid' is the law's where the arguments, and the package variables that the reading takes, are together of bulk at most 1048576: NARROWER than '..Said'. Prove '..Said' where nothing that the law and all that it calls make is longer than what came in: it says more and counts as full. Else prove '..UptoSaid'. A law counts once. -/
mutual
def uptoBulk {H : Type} : DataW H → Nat
  | .lit (.string bytes) => bytes.length + 1
  | .lit _ => 1
  | .nil => 1
  | .ptr d => uptoBulk d + 1
  | .slice elems spare => uptoBulkAll elems + uptoBulkAll spare + 1
  | .agg parts => uptoBulkAll parts + 1
  | .iface _ d => uptoBulk d + 1
  | .map entries => uptoBulkEntries entries + 1
  | .held _ => 1
def uptoBulkAll {H : Type} : List (DataW H) → Nat
  | [] => 0
  | d :: r => uptoBulk d + uptoBulkAll r
def uptoBulkEntries {H : Type} : List (Lit × DataW H) → Nat
  | [] => 0
  | x :: r => uptoBulkEntry x + uptoBulkEntries r
def uptoBulkEntry {H : Type} : Lit × DataW H → Nat
  | (.string bytes, d) => bytes.length + uptoBulk d + 1
  | (_, d) => uptoBulk d + 1
 end
def uptoSmall : (H : Type) → List (DataW H) → Bool := fun _ ds => decide (uptoBulkAll ds ≤ 1048576)
def OpenSpec.upto (s : _root_.Go.ChangeSpec) : _root_.Go.OpenSpec := { _root_.Go.OpenSpec.ofChange s with cond := some uptoSmall }

/-- 'factotumlaw19.OutboxDense', WHERE WHAT IT READS IS OF BULK AT MOST 1048576: true; the input reads as it did. -/
def outboxDenseUptoRow : OpenClaim := { program := "ytnlfppfdfdopiaadoor", sum := "64cebfa54100f3bf2f3d5ec55ef544b93b49104a726a5458de9ffda8eeef9e19", func := "factotum/factotumlaw19.OutboxDense", spec := "outboxDense", inPlace := ["internal/bytealg.CountString", "internal/bytealg.IndexByteString", "internal/bytealg.IndexString", "internal/abi.NoEscape", "internal/bytealg.MakeNoZero"], unfollowed := true, recurses := true, named := ["internal/bytealg.MaxLen", "unicode/utf8.first", "unicode/utf8.acceptRanges"], apart := false, laid := [("unicode/utf8.acceptRanges", laid_unicode_utf8_acceptRanges), ("unicode/utf8.first", laid_unicode_utf8_first)], narrowed := true }
def OutboxDenseUptoSaid : Prop := outboxDenseUptoRow.holds Tryd.pinned (OpenSpec.upto outboxDenseSpec)

/-- 'factotumlaw19.OutboxParts', WHERE WHAT IT READS IS OF BULK AT MOST 1048576: true; the input reads as it did. -/
def outboxPartsUptoRow : OpenClaim := { program := "ytnlfppfdfdopiaadoor", sum := "64cebfa54100f3bf2f3d5ec55ef544b93b49104a726a5458de9ffda8eeef9e19", func := "factotum/factotumlaw19.OutboxParts", spec := "outboxParts", inPlace := ["internal/bytealg.CountString", "internal/bytealg.IndexByteString", "internal/bytealg.IndexString", "internal/abi.NoEscape", "internal/bytealg.MakeNoZero"], unfollowed := true, recurses := true, named := ["internal/bytealg.MaxLen", "unicode/utf8.first", "unicode/utf8.acceptRanges"], apart := false, laid := [("unicode/utf8.acceptRanges", laid_unicode_utf8_acceptRanges), ("unicode/utf8.first", laid_unicode_utf8_first)], narrowed := true }
def OutboxPartsUptoSaid : Prop := outboxPartsUptoRow.holds Tryd.pinned (OpenSpec.upto outboxPartsSpec)

/-- 'factotumlaw19.OutboxPlays', WHERE WHAT IT READS IS OF BULK AT MOST 1048576: true; the input reads as it did. -/
def outboxPlaysUptoRow : OpenClaim := { program := "ytnlfppfdfdopiaadoor", sum := "64cebfa54100f3bf2f3d5ec55ef544b93b49104a726a5458de9ffda8eeef9e19", func := "factotum/factotumlaw19.OutboxPlays", spec := "outboxPlays", inPlace := ["internal/bytealg.CountString", "internal/bytealg.IndexByteString", "internal/bytealg.IndexString", "internal/abi.NoEscape", "internal/bytealg.MakeNoZero"], unfollowed := true, recurses := true, named := ["internal/bytealg.MaxLen", "unicode/utf8.first", "unicode/utf8.acceptRanges"], apart := false, laid := [("unicode/utf8.acceptRanges", laid_unicode_utf8_acceptRanges), ("unicode/utf8.first", laid_unicode_utf8_first)], narrowed := true }
def OutboxPlaysUptoSaid : Prop := outboxPlaysUptoRow.holds Tryd.pinned (OpenSpec.upto outboxPlaysSpec)

/-- 'factotumlaw19.OutboxNil', WHERE WHAT IT READS IS OF BULK AT MOST 1048576: true; the input reads as it did. -/
def outboxNilUptoRow : OpenClaim := { program := "ytnlfppfdfdopiaadoor", sum := "64cebfa54100f3bf2f3d5ec55ef544b93b49104a726a5458de9ffda8eeef9e19", func := "factotum/factotumlaw19.OutboxNil", spec := "outboxNil", inPlace := ["internal/bytealg.CountString", "internal/bytealg.IndexByteString", "internal/bytealg.IndexString", "internal/abi.NoEscape", "internal/bytealg.MakeNoZero"], unfollowed := true, recurses := true, named := ["internal/bytealg.MaxLen", "unicode/utf8.first", "unicode/utf8.acceptRanges"], apart := false, laid := [("unicode/utf8.acceptRanges", laid_unicode_utf8_acceptRanges), ("unicode/utf8.first", laid_unicode_utf8_first)], narrowed := true }
def OutboxNilUptoSaid : Prop := outboxNilUptoRow.holds Tryd.pinned (OpenSpec.upto outboxNilSpec)

/-- 'factotumlaw19.OutboxBytes', WHERE WHAT IT READS IS OF BULK AT MOST 1048576: true; the input reads as it did. -/
def outboxBytesUptoRow : OpenClaim := { program := "ytnlfppfdfdopiaadoor", sum := "64cebfa54100f3bf2f3d5ec55ef544b93b49104a726a5458de9ffda8eeef9e19", func := "factotum/factotumlaw19.OutboxBytes", spec := "outboxBytes", inPlace := ["internal/bytealg.CountString", "internal/bytealg.IndexByteString", "internal/bytealg.IndexString", "internal/abi.NoEscape", "internal/bytealg.MakeNoZero"], unfollowed := true, recurses := true, named := ["internal/bytealg.MaxLen", "unicode/utf8.first", "unicode/utf8.acceptRanges"], apart := false, laid := [("unicode/utf8.acceptRanges", laid_unicode_utf8_acceptRanges), ("unicode/utf8.first", laid_unicode_utf8_first)], narrowed := true }
def OutboxBytesUptoSaid : Prop := outboxBytesUptoRow.holds Tryd.pinned (OpenSpec.upto outboxBytesSpec)

end Rows
end Go.Proofs.YtnlfppfdfdopiaaDoor
