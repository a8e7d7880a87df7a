/- The plain law of NodeReads. Condition: the bulk's bound. -/
import Derived.Test.YtokjbncjapndgaaDoorXNodeT
namespace Go.Proofs.YtokjbncjapndgaaDoor.Pure
open Go.RowKit Go.Proofs.YtokjbncjapndgaaDoor.PAll Go.Proofs.YtokjbncjapndgaaDoor.XP Go.Proofs.YtokjbncjapndgaaDoor.XN
theorem NodeReads (S : ByteArray) (hb : S.size ≤ 1048576) : ∃ k, factotumlaw09_NodeReads.f k S = some true := by
  have hS : S.size ≤ 140737488351232 := by omega
  refine ⟨FUEL + 1000, ?_⟩
  generalize hK : FUEL + 1000 = K
  have hF : FUEL + 1000 ≤ K := Nat.le_of_eq hK
  have hF' : 100000000 + 1000 ≤ K := by unfold FUEL at hF; exact hF
  have h := read_bd S
  unfold factotumlaw09_NodeReads.f
  rw [lives09 (by omega), Option.bind_some, if_pos rfl, p_read S hS (by omega), Option.bind_some, r_read S hS hF, Option.bind_some, ← same_read S, if_pos rfl, same_ _ _ _ _ h (Nat.le_trans (Nat.le_add_right _ _) hF)]
  rfl
end Go.Proofs.YtokjbncjapndgaaDoor.Pure
