/- The plain law of CheckOne. Condition: the bulk's bound. -/
import Derived.Test.YtbdmfpgiolaooaaDoorXReachW
namespace Go.Proofs.YtbdmfpgiolaooaaDoor.Pure
open Go.RowKit Go.Proofs.YtbdmfpgiolaooaaDoor.PAll Go.Proofs.YtbdmfpgiolaooaaDoor.XI
theorem same_ints (a : List Int) (hl : a.length ≤ 1000000) : ∀ (m i k : Nat), i + m = a.length → factotumref04_SameInts.l0 (k + m + 1) a a (i : Int) = some true := by
  intro m
  induction m with
  | zero =>
    intro i k hi
    simp only [factotumref04_SameInts.l0]
    rw [if_neg (by omega)]
  | succ m ih =>
    intro i k hi
    rw [show k + (m + 1) + 1 = (k + m + 1) + 1 by omega]
    generalize hK : k + m + 1 = K
    simp only [factotumref04_SameInts.l0]
    subst hK
    rw [if_pos (by omega), if_pos (by omega), if_pos (by omega), if_pos trivial, nexti i (by omega), ih (i + 1) k (by omega)]
theorem CheckOne (x : S32) (_ : XA.in32 x) (_ : XA.wt32 x ≤ 1048576) : ∃ k, factotumlaw15_CheckOne.f k x.f0 x.f1 x.f2 x.f3 x.f4.f0 x.f4.f1 x.f4.f2 = some true := by
  refine ⟨600, ?_⟩
  generalize hK : 600 = K
  have hF : 600 ≤ K := by omega
  unfold factotumlaw15_CheckOne.f
  have hl := regs_len x
  have hs := same_ints (regs x) (by omega) (regs x).length 0 (K - (regs x).length - 1) (by omega)
  rw [show K - (regs x).length - 1 + (regs x).length + 1 = K by omega] at hs
  rw [live15 (by omega), Option.bind_some, if_pos rfl, p_target, r_target, Option.bind_some, Option.bind_some, if_pos rfl, if_pos (by simp), p_regs, r_regs x (by omega), Option.bind_some, Option.bind_some]
  unfold factotumref04_SameInts.f
  rw [if_pos rfl]
  show (factotumref04_SameInts.l0 K (regs x) (regs x) ((0 : Nat) : Int)).bind _ = _
  rw [hs]; rfl
end Go.Proofs.YtbdmfpgiolaooaaDoor.Pure
