/- The laws' first test, and what came in: bounds. Plain laws over the printed functions. No conditions. -/
import Derived.Test.YtekaeddagaejiaaDoorXRows
import Derived.Test.YtekaeddagaejiaaDoorXA
namespace Go.Proofs.YtekaeddagaejiaaDoor.XR
open Go.RowKit Go.Proofs.YtekaeddagaejiaaDoor.PAll Go.Proofs.YtekaeddagaejiaaDoor.XP Go.Proofs.YtekaeddagaejiaaDoor.XV
theorem lives03 (k : Nat) : factotumlaw03_lives.f (k + 64) = some true := by
  have h : factotumlaw03_lives.f 64 = some true := by kernel_rfl
  induction k with
  | zero => exact h
  | succ k ih => rw [show k + 1 + 64 = (k + 64) + 1 by omega]; exact factotumlaw03_lives.mono _ _ ih
theorem bd_of (r : List S29) (h : (r.map XA.wt29).sum ≤ 1048576) : bd r := by
  induction r with
  | nil => intro v hv; cases hv
  | cons u r ih =>
    rw [List.map_cons, List.sum_cons] at h
    intro v hv
    rcases List.mem_cons.1 hv with rfl | hv
    · unfold XA.wt29 at h; omega
    · exact ih (by omega) v hv
end Go.Proofs.YtekaeddagaejiaaDoor.XR
