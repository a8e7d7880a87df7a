/- The plain law of RowsWrite. Condition: the bulk's bound. -/
import Derived.Test.YtekaeddagaejiaaDoorXRowsLives
namespace Go.Proofs.YtekaeddagaejiaaDoor.Pure
open Go.RowKit Go.Proofs.YtekaeddagaejiaaDoor.PAll Go.Proofs.YtekaeddagaejiaaDoor.XP Go.Proofs.YtekaeddagaejiaaDoor.XV Go.Proofs.YtekaeddagaejiaaDoor.XR
theorem RowsWrite (s : XA.S24) (r : List S29) (_ : XA.in24 s) (_ : ∀ u ∈ r, XA.in29 u) (hb : XA.wt24 s + ((r.map XA.wt29).sum + 1) ≤ 1048576) :
    ∃ k, factotumlaw03_RowsWrite.f k s.f0 s.f1 s.f2 r = some true := by
  refine ⟨64, ?_⟩
  have hr := bd_of r (by omega)
  unfold factotumlaw03_RowsWrite.f
  rw [lives03 0, Option.bind_some, if_pos rfl, p_write _ _ _ r hr (by omega), r_write _ _ _ r hr (by omega)]
  simp
end Go.Proofs.YtekaeddagaejiaaDoor.Pure
