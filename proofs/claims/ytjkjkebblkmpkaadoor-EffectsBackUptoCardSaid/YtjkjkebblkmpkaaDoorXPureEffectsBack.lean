/- The plain law of EffectsBack. Condition: the bulk's bound. -/
import Derived.Test.YtjkjkebblkmpkaaDoorXRead
import Derived.Test.YtjkjkebblkmpkaaDoorXA
namespace Go.Proofs.YtjkjkebblkmpkaaDoor.Pure
open Go.RowKit Go.Proofs.YtjkjkebblkmpkaaDoor.PAll Go.Proofs.YtjkjkebblkmpkaaDoor.XP Go.Proofs.YtjkjkebblkmpkaaDoor.XV Go.Proofs.YtjkjkebblkmpkaaDoor.XE Go.Proofs.YtjkjkebblkmpkaaDoor.XRc Go.Proofs.YtjkjkebblkmpkaaDoor.XRd
theorem lives17b (k : Nat) : factotumlaw17_lives.f (k + 12) = some true := by
  have h : factotumlaw17_lives.f 12 = some true := by kernel_rfl
  induction k with
  | zero => exact h
  | succ k ih => rw [show k + 1 + 12 = (k + 12) + 1 by omega]; exact factotumlaw17_lives.mono _ _ ih
theorem back_j (s : ByteArray) (k : Nat) (hk : 16 ≤ k) : factotumlaw17_EffectsBack.j0 (k + 1) s false = some true := by
  simp only [factotumlaw17_EffectsBack.j0]
  rw [if_neg (by decide), of_B s, p_read _ (by omega), Option.bind_some]
  unfold flat
  simp only
  by_cases h : (readE s.data.toList).2.2.2.2.2.2 = 0
  · obtain ⟨e, v, sl, p, o, d, h1, h2, h3, h4, h5, h6, h7⟩ := readE_inv _ h
    rw [h1]
    simp only
    rw [p_rec e v sl p o d (by omega) h4 h5 h6 hk, if_pos h2, Option.bind_some, ← h3]
    simp
  · have hz : readE s.data.toList = (0, ⟨0, 0, ⟨#[]⟩⟩, 0, 0, 0, 0, 10) := by
      revert h
      unfold readE fin
      repeat' split
      all_goals first | (intro _; rfl) | (intro h; exact absurd rfl h)
    rw [hz]
    simp only
    rw [show effects_Write.f k 0 0 0 ⟨#[]⟩ 0 0 0 0 = _ from p_rec 0 ⟨0, 0, ⟨#[]⟩⟩ 0 0 0 0 (Nat.zero_le _) (by unfold i64; omega) (by unfold i64; omega) (by unfold i64; omega) hk]
    split <;> rfl
theorem EffectsBack (r : XA.S33) (s : ByteArray) (hi : XA.in33 r) (hb : XA.wt33 r + s.size ≤ 1048576) :
    ∃ k, factotumlaw17_EffectsBack.f k r.f0 r.f1.f0 r.f1.f1 r.f1.f2 r.f2 r.f3 r.f4 r.f5 s = some true := by
  refine ⟨20, ?_⟩
  have hv : r.f1.f2.size ≤ 1099511627776 := by unfold XA.wt33 XA.wt24 at hb; omega
  unfold XA.in33 at hi
  obtain ⟨_, hx, _, h3, h4, h5⟩ := hi
  unfold factotumlaw17_EffectsBack.f factotumlaw17_as.f
  rw [show (20 : Nat) = 8 + 12 from rfl, lives17b 8, Option.bind_some, if_pos rfl, Option.bind_some]
  simp only
  rw [p_rec r.f0 r.f1 r.f2 r.f3 r.f4 r.f5 hv h3 h4 h5 (by omega)]
  by_cases hr : recR r.f0 r.f1 r.f2 r.f3 r.f4 r.f5 = true
  · have hn : -9223372036854775808 ≤ r.f1.f1 ∧ r.f1.f1 < 9223372036854775808 := hx.2
    rw [if_pos hr, Option.bind_some]
    simp only
    rw [p_read _ (by omega), Option.bind_some, readE_rec _ _ _ _ _ _ hr hn]
    unfold flat factotumlaw17_same.f
    rw [B_size]
    have hl := recB_le _ _ _ _ _ _ hr
    have hd : decide (((recB r.f0 r.f1 r.f2 r.f3 r.f4 r.f5).length : Int) > 40) = false := decide_eq_false (by omega)
    simp only [if_true, beq_self_eq_true, Bool.and_self, Option.bind_some, hd]
    exact back_j s 19 (by omega)
  · rw [if_neg hr, Option.bind_some]
    simp only
    rw [show (⟨#[]⟩ : ByteArray) = B [] from rfl, p_read _ (by omega), Option.bind_some, if_neg (by decide)]
    exact back_j s 19 (by omega)
end Go.Proofs.YtjkjkebblkmpkaaDoor.Pure
