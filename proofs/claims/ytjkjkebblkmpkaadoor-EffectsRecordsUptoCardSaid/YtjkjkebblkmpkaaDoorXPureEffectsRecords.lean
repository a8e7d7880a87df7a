/- The plain law of EffectsRecords. Condition: the bulk's bound. -/
import Derived.Test.YtjkjkebblkmpkaaDoorXRec
import Derived.Test.YtjkjkebblkmpkaaDoorXA
namespace Go.Proofs.YtjkjkebblkmpkaaDoor.Pure
open Go.RowKit Go.Proofs.YtjkjkebblkmpkaaDoor.PAll Go.Proofs.YtjkjkebblkmpkaaDoor.XP Go.Proofs.YtjkjkebblkmpkaaDoor.XV Go.Proofs.YtjkjkebblkmpkaaDoor.XE Go.Proofs.YtjkjkebblkmpkaaDoor.XRc
theorem lives17 (k : Nat) : factotumlaw17_lives.f (k + 12) = some true := by
  have h : factotumlaw17_lives.f 12 = some true := by kernel_rfl
  induction k with
  | zero => exact h
  | succ k ih => rw [show k + 1 + 12 = (k + 12) + 1 by omega]; exact factotumlaw17_lives.mono _ _ ih
theorem EffectsRecords (r : XA.S33) (x : XA.S40) (hi : XA.in33 r) (_ : XA.in40 x) (hb : XA.wt33 r + XA.wt40 x ≤ 1048576) :
    ∃ k, factotumlaw17_EffectsRecords.f k r.f0 r.f1.f0 r.f1.f1 r.f1.f2 r.f2 r.f3 r.f4 r.f5 x.f0 x.f1 x.f2 x.f3 x.f4 x.f5.f0 x.f5.f1 x.f5.f2 x.f6.f0 x.f6.f1 = some true := by
  refine ⟨20, ?_⟩
  have hv : r.f1.f2.size ≤ 1099511627776 := by unfold XA.wt33 XA.wt24 at hb; omega
  unfold XA.in33 at hi
  obtain ⟨_, _, _, h3, h4, h5⟩ := hi
  unfold factotumlaw17_EffectsRecords.f factotumlaw17_as.f effects_Of.f factotumref17_Of.f factotumlaw17_same.f
  rw [lives17 8, Option.bind_some, if_pos rfl, Option.bind_some]
  simp only
  rw [p_rec r.f0 r.f1 r.f2 r.f3 r.f4 r.f5 hv h3 h4 h5 (by omega), r_rec r.f0 r.f1 r.f2 r.f3 r.f4 r.f5 hv (by omega)]
  cases recR r.f0 r.f1 r.f2 r.f3 r.f4 r.f5 <;> simp
end Go.Proofs.YtjkjkebblkmpkaaDoor.Pure
