/- The plain law of CodeOperands. Condition: the bulk's bound. -/
import Derived.Test.YtljfichnlgfikaaDoorXCodeC
namespace Go.Proofs.YtljfichnlgfikaaDoor.Pure
open Go.RowKit Go.Proofs.YtljfichnlgfikaaDoor.PAll Go.Proofs.YtljfichnlgfikaaDoor.XP Go.Proofs.YtljfichnlgfikaaDoor.XC Go.Proofs.YtljfichnlgfikaaDoor.XI
theorem CodeOperands (op : Int) (a b : List S42) (_ : -9223372036854775808 ≤ op ∧ op < 9223372036854775808) (ha : ∀ x ∈ a, XA.in42 x) (_ : ∀ x ∈ b, XA.in42 x) (h : 1 + ((a.map XA.wt42).sum + 1) + ((b.map XA.wt42).sum + 1) ≤ 1048576) : ∃ k, factotumlaw13_CodeOperands.f k op a b = some true := by
  obtain ⟨_, _, hl⟩ := sz_of a ha (by omega)
  refine ⟨2000000, ?_⟩
  generalize hK : 2000000 = K
  have hF : 2000000 ≤ K := by omega
  unfold factotumlaw13_CodeOperands.f
  rw [live13 (by omega), Option.bind_some, if_pos rfl, p_ops, r_ops _ (by omega), Option.bind_some, Option.bind_some, if_pos rfl, if_pos (by simp), p_same a b (by omega) (by omega), r_same a b (by omega) (by omega), Option.bind_some, Option.bind_some, if_pos (by simp), p_same a a (by omega) (by omega), eqI_refl]; rfl
end Go.Proofs.YtljfichnlgfikaaDoor.Pure
