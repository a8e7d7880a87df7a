/- The plain law of NodeWrites. Condition: the bulk's bound. -/
import Derived.Test.YtokjbncjapndgaaXNodeW
namespace Go.Proofs.Ytokjbncjapndgaa.Pure
open Go.RowKit Go.Proofs.Ytokjbncjapndgaa.PAll Go.Proofs.Ytokjbncjapndgaa.XP Go.Proofs.Ytokjbncjapndgaa.XN
theorem NodeWrites (n : XA.S26) (_ : XA.in26 n) (hb : XA.wt26 n ≤ 1048576) :
    ∃ k, factotumlaw09_NodeWrites.f k n.f0 n.f1 n.f2 n.f3 = some true := by
  have h := bd_of n hb
  have lp := len_sumP n.f1
  have lk := len_sumK n.f2
  obtain ⟨h1, h2, h3⟩ := h
  refine ⟨FUEL, ?_⟩
  generalize hK : FUEL = K
  have hF : FUEL ≤ K := by omega
  have hF' : 100000000 ≤ K := by unfold FUEL at hF; exact hF
  unfold factotumlaw09_NodeWrites.f
  rw [lives09 (by omega), Option.bind_some, if_pos rfl, p_write _ _ _ _ ⟨h1, h2, h3⟩ hF, r_write _ _ _ _ ⟨h1, h2, h3⟩ hF]
  simp only [Option.bind_some]
  rw [if_pos trivial, if_pos trivial, p_size _ _ _ _ (by omega) (by unfold BIG; omega) (by unfold BIG; omega) (by unfold BIG; omega) (by unfold BIG; omega), r_size _ _ _ _ (by omega) (by unfold BIG; omega) (by unfold BIG; omega) (by unfold BIG; omega) (by unfold BIG; omega)]
  simp
end Go.Proofs.Ytokjbncjapndgaa.Pure
