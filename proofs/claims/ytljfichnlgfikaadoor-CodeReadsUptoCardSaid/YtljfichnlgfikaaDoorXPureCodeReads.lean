/- The plain law of CodeReads. Condition: the bulk's bound. -/
import Derived.Test.YtljfichnlgfikaaDoorXCodeC
namespace Go.Proofs.YtljfichnlgfikaaDoor.Pure
open Go.RowKit Go.Proofs.YtljfichnlgfikaaDoor.PAll Go.Proofs.YtljfichnlgfikaaDoor.XP Go.Proofs.YtljfichnlgfikaaDoor.XC
theorem readL_len : ∀ (m : Nat) (l : List UInt8) (xs : List S42), xs.length ≤ 64 → (readL m l xs).1.length ≤ 64 := by
  intro m
  induction m with
  | zero => intro l xs _; exact Nat.zero_le _
  | succ m ih =>
    intro l xs h
    simp only [readL]
    by_cases h1 : l = []
    · rw [if_pos h1]; exact h
    · rw [if_neg h1]
      by_cases h2 : xs.length = 64
      · rw [if_pos h2]; exact Nat.zero_le _
      · rw [if_neg h2]
        by_cases h3 : errI (instE l 0) = 0
        · rw [if_pos h3]; exact ih _ _ (by simp; omega)
        · rw [if_neg h3]; exact Nat.zero_le _
theorem CodeReads (s : ByteArray) (hb : s.size + 1 ≤ 1048576) : ∃ k, factotumlaw13_CodeReads.f k s = some true := by
  refine ⟨2000, ?_⟩
  have hs : s = B s.data.toList := of_B s
  have hl : s.data.toList.length < 140737488355328 := by have := Lib.size_eq s; omega
  have h64 := readL_len 65 s.data.toList [] (by simp)
  unfold factotumlaw13_CodeReads.f
  rw [live13 (by omega), Option.bind_some, if_pos rfl, hs, p_read _ _ (by omega), rr_read _ _ hl (by omega), Option.bind_some, Option.bind_some, if_pos rfl]
  rw [r_same _ _ (by omega) (by omega), eqI_refl]; rfl
end Go.Proofs.YtljfichnlgfikaaDoor.Pure
