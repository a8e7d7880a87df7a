/- The plain law of KeysWrite. Condition: the bulk's bound. -/
import Derived.Test.YtamohmpapdecdaaDoorXKeys
namespace Go.Proofs.YtamohmpapdecdaaDoor.Pure
open Go.RowKit Go.Proofs.YtamohmpapdecdaaDoor.PAll Go.Proofs.YtamohmpapdecdaaDoor.XO Go.Proofs.YtamohmpapdecdaaDoor.XK
theorem KeysWrite (l : List S39) (_hi : ∀ v ∈ l, inV v) (hb : bulkV l ≤ 1048576) : ∃ k, factotumlaw02_KeysWrite.f k l = some true := by
  refine ⟨2 * bulkV l + 6 + 4, ?_⟩
  unfold factotumlaw02_KeysWrite.f
  rw [lives, Option.bind_some, if_pos rfl, kwrite l hb, rwrite l hb _ (by omega)]
  cases l.any oddV <;> simp
end Go.Proofs.YtamohmpapdecdaaDoor.Pure
