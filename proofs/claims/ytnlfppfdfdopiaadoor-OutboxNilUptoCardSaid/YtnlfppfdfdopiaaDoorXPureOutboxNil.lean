/- The plain law of OutboxNil. Condition: the bulk's bound. -/
import Derived.Test.YtnlfppfdfdopiaaDoorPAllx
import Derived.Test.YtnlfppfdfdopiaaDoorXA
namespace Go.Proofs.YtnlfppfdfdopiaaDoor.Pure
open Go.RowKit Go.Proofs.YtnlfppfdfdopiaaDoor.PAll
theorem OutboxNil (o : XA.S34) (_ : XA.in34 o) (_ : XA.wt34 o ≤ 1048576) :
    ∃ k, factotumlaw19_OutboxNil.f k o.f0 o.f1 o.f2 o.f3.f0 o.f3.f1 o.f3.f2 o.f3.f3.f0 o.f3.f3.f1 o.f3.f3.f2 = some true := ⟨0, rfl⟩
end Go.Proofs.YtnlfppfdfdopiaaDoor.Pure
