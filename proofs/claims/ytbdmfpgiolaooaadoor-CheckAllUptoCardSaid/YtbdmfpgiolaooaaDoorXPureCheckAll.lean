/- The plain law of CheckAll. Condition: the bulk's bound. -/
import Derived.Test.YtbdmfpgiolaooaaDoorXReachW
namespace Go.Proofs.YtbdmfpgiolaooaaDoor.Pure
open Go.RowKit Go.Proofs.YtbdmfpgiolaooaaDoor.PAll Go.Proofs.YtbdmfpgiolaooaaDoor.XI
theorem CheckAll (l : List S32) (hi : ∀ x ∈ l, XA.in32 x) (hb : (l.map XA.wt32).sum + 1 ≤ 1048576) : ∃ k, factotumlaw15_CheckAll.f k l = some true := by
  refine ⟨600, ?_⟩
  generalize hK : 600 = K
  have hF : 600 ≤ K := by omega
  unfold factotumlaw15_CheckAll.f
  rw [live15 (by omega), Option.bind_some, if_pos rfl, p_check l (fit_all l hi (by omega)) (by omega), r_check l hF, Option.bind_some, Option.bind_some, if_pos rfl]
  simp
end Go.Proofs.YtbdmfpgiolaooaaDoor.Pure
