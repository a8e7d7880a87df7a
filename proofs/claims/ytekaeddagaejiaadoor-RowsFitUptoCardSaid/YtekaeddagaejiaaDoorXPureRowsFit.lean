/- The plain law of RowsFit. Condition: the bulk's bound. -/
import Derived.Test.YtekaeddagaejiaaDoorXRowsLives
namespace Go.Proofs.YtekaeddagaejiaaDoor.Pure
open Go.RowKit Go.Proofs.YtekaeddagaejiaaDoor.PAll Go.Proofs.YtekaeddagaejiaaDoor.XP Go.Proofs.YtekaeddagaejiaaDoor.XV Go.Proofs.YtekaeddagaejiaaDoor.XR
theorem RowsFit (s : XA.S24) (r : List S29) (v : S29) (_ : XA.in24 s) (_ : ∀ u ∈ r, XA.in29 u) (_ : XA.in29 v) (hb : XA.wt24 s + ((r.map XA.wt29).sum + 1) + XA.wt29 v ≤ 1048576) :
    ∃ k, factotumlaw03_RowsFit.f k s.f0 s.f1 s.f2 r v.f0 v.f1 v.f2 = some true := by
  refine ⟨64, ?_⟩
  have hr := bd_of r (by omega)
  have hv : v.f2.size ≤ 1099511627776 := by unfold XA.wt29 at hb; omega
  unfold factotumlaw03_RowsFit.f
  rw [lives03 0, Option.bind_some, if_pos rfl, p_key _ _ _ v hv (by omega), r_key _ _ _ v (by omega), p_right _ _ _ (by omega), r_right _ _ _ (by omega), p_fits _ _ _ r hr (by omega), r_fits _ _ _ r (by omega)]
  simp
end Go.Proofs.YtekaeddagaejiaaDoor.Pure
