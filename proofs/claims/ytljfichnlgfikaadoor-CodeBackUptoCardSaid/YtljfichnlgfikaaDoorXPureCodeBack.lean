/- The plain law of CodeBack. Condition: the bulk's bound. -/
import Derived.Test.YtljfichnlgfikaaDoorXCodeC
namespace Go.Proofs.YtljfichnlgfikaaDoor.Pure
open Go.RowKit Go.Proofs.YtljfichnlgfikaaDoor.PAll Go.Proofs.YtljfichnlgfikaaDoor.XP Go.Proofs.YtljfichnlgfikaaDoor.XC
theorem readL_err : ∀ (m : Nat) (l : List UInt8) (xs : List S42), (readL m l xs).2 ≠ 0 → (readL m l xs).1 = [] := by
  intro m
  induction m with
  | zero => intro l xs _; rfl
  | succ m ih =>
    intro l xs h
    simp only [readL] at h ⊢
    by_cases h1 : l = []
    · rw [if_pos h1] at h; exact absurd rfl h
    · rw [if_neg h1] at h ⊢
      by_cases h2 : xs.length = 64
      · rw [if_pos h2]
      · rw [if_neg h2] at h ⊢
        by_cases h3 : errI (instE l 0) = 0
        · rw [if_pos h3] at h ⊢; exact ih _ _ h
        · rw [if_neg h3]
theorem CodeBack (l : List S42) (s : ByteArray) (hi : ∀ x ∈ l, XA.in42 x) (hb : (l.map XA.wt42).sum + 1 + (s.size + 1) ≤ 1048576) : ∃ k, factotumlaw13_CodeBack.f k l s = some true := by
  obtain ⟨hf, hn, hl⟩ := sz_of l hi (by omega)
  refine ⟨2000000, ?_⟩
  generalize hK : 2000000 = K
  have hF : 2000000 ≤ K := by omega
  obtain ⟨J, rfl⟩ : ∃ J, K = J + 1 := ⟨K - 1, by omega⟩
  have second : factotumlaw13_CodeBack.j0 (J + 1) s false = some true := by
    simp only [factotumlaw13_CodeBack.j0]
    rw [if_neg (by decide)]
    have hs : s = B s.data.toList := of_B s
    have hr := p_read s.data.toList J (by omega)
    rw [← hs] at hr
    rw [hr, Option.bind_some]
    by_cases h0 : (readL 65 s.data.toList []).2 = 0
    · obtain ⟨ok, e1, e2⟩ := read_dec s.data.toList (readL 65 s.data.toList []).1 (by rw [← h0])
      rw [p_write _ (fun x hx => fit_of x (ok.1 x hx)) (by omega), write_of _ ok e2, Option.bind_some, if_pos h0, ← e1, ← hs]
      simp
    · rw [readL_err _ _ _ h0, p_write [] (fun x hx => by cases hx) (by omega), Option.bind_some, if_neg h0]
  unfold factotumlaw13_CodeBack.f
  rw [live13 (by omega), Option.bind_some, if_pos rfl, p_write l hf (by omega), Option.bind_some]
  by_cases h0 : (writeL l).2 = 0
  · obtain ⟨h1, h2, h3⟩ := write_ok l h0
    rw [h3, p_read _ _ (by omega), read_enc l ⟨h2, hn⟩ h1, Option.bind_some, if_pos h0, if_pos (by rfl)]
    simp only
    rw [r_same _ _ (by omega) (by omega), eqI_refl, Option.bind_some]
    exact second
  · obtain ⟨m, hm⟩ : ∃ m, (writeL l).1 = B m := ⟨_, of_B _⟩
    rw [hm, p_read _ _ (by omega), Option.bind_some, if_neg h0]
    exact second
end Go.Proofs.YtljfichnlgfikaaDoor.Pure
