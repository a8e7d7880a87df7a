/- The plain law of EffectsReads. Condition: the bulk's bound. -/
import Derived.Test.YtjkjkebblkmpkaaDoorXRead
namespace Go.Proofs.YtjkjkebblkmpkaaDoor.Pure
open Go.RowKit Go.Proofs.YtjkjkebblkmpkaaDoor.PAll Go.Proofs.YtjkjkebblkmpkaaDoor.XP Go.Proofs.YtjkjkebblkmpkaaDoor.XV Go.Proofs.YtjkjkebblkmpkaaDoor.XE Go.Proofs.YtjkjkebblkmpkaaDoor.XRc Go.Proofs.YtjkjkebblkmpkaaDoor.XRd
theorem lives17r (k : Nat) : factotumlaw17_lives.f (k + 12) = some true := by
  have h : factotumlaw17_lives.f 12 = some true := by kernel_rfl
  induction k with
  | zero => exact h
  | succ k ih => rw [show k + 1 + 12 = (k + 12) + 1 by omega]; exact factotumlaw17_lives.mono _ _ ih
theorem EffectsReads (s : ByteArray) (hb : s.size ≤ 1048576) : ∃ k, factotumlaw17_EffectsReads.f k s = some true := by
  refine ⟨20, ?_⟩
  have hl : s.data.toList.length < 140737488355328 := by have := Lib.size_eq s; omega
  unfold factotumlaw17_EffectsReads.f
  rw [show (20 : Nat) = 8 + 12 from rfl, lives17r 8, Option.bind_some, if_pos rfl, of_B s, p_read _ (by omega), r_read _ hl (by omega), Option.bind_some, Option.bind_some]
  unfold flat factotumlaw17_same.f
  simp
end Go.Proofs.YtjkjkebblkmpkaaDoor.Pure
