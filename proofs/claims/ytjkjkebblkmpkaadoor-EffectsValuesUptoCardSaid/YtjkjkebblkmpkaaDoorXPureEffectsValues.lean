/- The plain law of EffectsValues. Condition: the bulk's bound. -/
import Derived.Test.YtjkjkebblkmpkaaDoorXEff
import Derived.Test.YtjkjkebblkmpkaaDoorXO
namespace Go.Proofs.YtjkjkebblkmpkaaDoor.Pure
open Go.RowKit Go.Proofs.YtjkjkebblkmpkaaDoor.PAll Go.Proofs.YtjkjkebblkmpkaaDoor.XO Go.Proofs.YtjkjkebblkmpkaaDoor.XP Go.Proofs.YtjkjkebblkmpkaaDoor.XV Go.Proofs.YtjkjkebblkmpkaaDoor.XE
theorem lives17 (k : Nat) : factotumlaw17_lives.f (k + 12) = some true := by
  have h : factotumlaw17_lives.f 12 = some true := by kernel_rfl
  induction k with
  | zero => exact h
  | succ k ih => rw [show k + 1 + 12 = (k + 12) + 1 by omega]; exact factotumlaw17_lives.mono _ _ ih
theorem EffectsValues (v : S24) (s : ByteArray) (hi : in24 v) (hb : wt24 v + (s.size + 1) ≤ 1048576) : ∃ k, factotumlaw17_EffectsValues.f k v.f0 v.f1 v.f2 s = some true := by
  refine ⟨12, ?_⟩
  unfold wt24 at hb
  unfold in24 at hi
  obtain ⟨_, hn⟩ := hi
  have hl : s.data.toList.length = s.size := (Lib.size_eq s).symm
  unfold factotumlaw17_EffectsValues.f
  rw [lives17 0, Option.bind_some, if_pos rfl]
  have eu := p_unvalue s.data.toList
  have eru := r_unvalue 3 s.data.toList (by omega)
  rw [← of_B] at eu eru
  rw [e_value 3 v (by omega), r_value 3 v (by omega), eu, eru]
  simp only [Option.bind_some]
  have hz := unvE_size s.data.toList
  have ev := e_value 3 (unvE s.data.toList).1 (by omega)
  obtain ⟨p, hp, hq⟩ : ∃ p : ByteArray × Int, (if valOK (unvE s.data.toList).1 = true then some (B (encE (unvE s.data.toList).1), (0 : Int)) else some (⟨#[]⟩, 6)) = some p ∧ ((unvE s.data.toList).2 = 0 → p = (s, 0)) := by
    by_cases hz2 : (unvE s.data.toList).2 = 0
    · obtain ⟨h1, h2, _⟩ := unvE_inv _ hz2
      rw [h1, h2, if_pos rfl]
      exact ⟨_, rfl, fun _ => by rw [← of_B]⟩
    · cases valOK (unvE s.data.toList).1
      · exact ⟨_, rfl, fun h => absurd h hz2⟩
      · exact ⟨_, rfl, fun h => absurd h hz2⟩
  rw [hp] at ev
  rw [ev]
  have fin : (if (unvE s.data.toList).2 = 0 then if p.2 = 0 then some (p.1.toList == s.toList) else none else some true) = some true := by
    by_cases hz2 : (unvE s.data.toList).2 = 0
    · rw [if_pos hz2, hq hz2]; simp
    · rw [if_neg hz2]
  cases hv : valOK v with
  | false =>
    simp only [Bool.false_eq_true, if_false, Option.bind_some]
    rw [p_unvalue []]
    simp only [Option.bind_some, if_true, beq_self_eq_true, Bool.and_self]
    rw [if_neg (by decide)]
    exact fin
  | true =>
    simp only [if_true, Option.bind_some]
    rw [p_unvalue (encE v), unvE_enc v hv hn]
    simp only [Option.bind_some, if_true, beq_self_eq_true, Bool.and_self]
    exact fin
end Go.Proofs.YtjkjkebblkmpkaaDoor.Pure
