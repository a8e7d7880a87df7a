/- The plain law of CodeWrites. Condition: the bulk's bound. -/
import Derived.Test.YtljfichnlgfikaaDoorXCodeC
namespace Go.Proofs.YtljfichnlgfikaaDoor.Pure
open Go.RowKit Go.Proofs.YtljfichnlgfikaaDoor.PAll Go.Proofs.YtljfichnlgfikaaDoor.XC
theorem CodeWrites (l : List S42) (hi : ∀ x ∈ l, XA.in42 x) (hb : (l.map XA.wt42).sum + 1 ≤ 1048576) : ∃ k, factotumlaw13_CodeWrites.f k l = some true := by
  obtain ⟨hf, _, _⟩ := sz_of l hi (by omega)
  refine ⟨2000, ?_⟩
  unfold factotumlaw13_CodeWrites.f
  rw [live13 (by omega), Option.bind_some, if_pos rfl, p_write l hf (by omega), r_write l (by omega), Option.bind_some, Option.bind_some, if_pos rfl]
  simp
end Go.Proofs.YtljfichnlgfikaaDoor.Pure
