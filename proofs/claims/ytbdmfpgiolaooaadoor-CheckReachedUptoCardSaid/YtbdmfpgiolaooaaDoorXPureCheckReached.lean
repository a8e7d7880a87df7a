/- The plain law of CheckReached. Condition: the bulk's bound. -/
import Derived.Test.YtbdmfpgiolaooaaDoorXReachW
namespace Go.Proofs.YtbdmfpgiolaooaaDoor.Pure
open Go.RowKit Go.Proofs.YtbdmfpgiolaooaaDoor.PAll Go.Proofs.YtbdmfpgiolaooaaDoor.XI Go.Proofs.YtbdmfpgiolaooaaDoorW.PrintWords Go.Proofs.YtbdmfpgiolaooaaDoor.XG
theorem same_bools (a : List Bool) (hl : a.length ≤ 1000000) : ∀ (m i k : Nat), i + m = a.length → factotumlaw15_CheckReached.l0 (k + m + 1) a a (i : Int) = some true := by
  intro m
  induction m with
  | zero =>
    intro i k hi
    simp only [factotumlaw15_CheckReached.l0]
    rw [if_neg (by omega)]
  | succ m ih =>
    intro i k hi
    rw [show k + (m + 1) + 1 = (k + m + 1) + 1 by omega]
    generalize hK : k + m + 1 = K
    simp only [factotumlaw15_CheckReached.l0]
    subst hK
    rw [if_pos (by omega), if_pos (by omega), if_pos (by omega), if_neg (by simp), nexti i (by omega), ih (i + 1) k (by omega)]
theorem CheckReached (l : List S32) (hi : ∀ x ∈ l, XA.in32 x) (hb : (l.map XA.wt32).sum + 1 ≤ 1048576) : ∃ k, factotumlaw15_CheckReached.f k l = some true := by
  refine ⟨5000, ?_⟩
  generalize hK : 5000 = K
  have hF : 5000 ≤ K := by omega
  unfold factotumlaw15_CheckReached.f
  rw [live15 (by omega), Option.bind_some, if_pos rfl, p_reached l (fit_all l hi (by omega)) (by omega), r_reached l hF, Option.bind_some, Option.bind_some, if_pos rfl]
  have hlen : (if (chkE l).1 = 0 then reachE l else []).length ≤ 64 := by
    by_cases h0 : (chkE l).1 = 0
    · rw [if_pos h0, (p_reach l (chk_ok h0) (Nat.le_refl _)).2.len]; exact (chk_ok h0).most
    · rw [if_neg h0]; exact Nat.zero_le _
  generalize (if (chkE l).1 = 0 then reachE l else []) = o at hlen
  have hs := same_bools o (by omega) o.length 0 (K - o.length - 1) (by omega)
  rw [show K - o.length - 1 + o.length + 1 = K by omega] at hs
  exact hs
end Go.Proofs.YtbdmfpgiolaooaaDoor.Pure
