/- The plain law of CodeJoins. Condition: the bulk's bound. -/
import Derived.Test.YtljfichnlgfikaaDoorXCodeC
namespace Go.Proofs.YtljfichnlgfikaaDoor.Pure
open Go.RowKit Go.Proofs.YtljfichnlgfikaaDoor.PAll Go.Proofs.YtljfichnlgfikaaDoorW.PrintWords Go.Proofs.YtljfichnlgfikaaDoorW.PrintLast Go.Proofs.YtljfichnlgfikaaDoor.XP Go.Proofs.YtljfichnlgfikaaDoor.XV Go.Proofs.YtljfichnlgfikaaDoor.XC
theorem cut_at (x : Int) (n : Nat) (hn : n < 1000000) : IntKind.u64.wrap (wrap64 ((n : Int) + 1)) = (n : Int) + 1 ∧ ∃ c : Nat, c ≤ n ∧ wrap64 (Int.tmod (IntKind.u64.wrap x) ((n : Int) + 1)) = (c : Int) := by
  have e : IntKind.u64.wrap (wrap64 ((n : Int) + 1)) = (n : Int) + 1 := by rw [wrapu]; unfold wrap64; omega
  refine ⟨e, ?_⟩
  have h0 := (wu x).1
  have h1 := Int.emod_nonneg (IntKind.u64.wrap x) (show (n : Int) + 1 ≠ 0 by omega)
  have h2 := Int.emod_lt_of_pos (IntKind.u64.wrap x) (show 0 < (n : Int) + 1 by omega)
  rw [Int.tmod_eq_emod_of_nonneg h0]
  refine ⟨(IntKind.u64.wrap x % ((n : Int) + 1)).toNat, by omega, ?_⟩
  rw [Int.toNat_of_nonneg h1]
  unfold wrap64; omega
theorem c64 {m n : Nat} (h : m + n > 64) : (m : Int) + (n : Int) > 64 := by omega
theorem c64' {m n : Nat} (h : ¬ m + n > 64) : ¬ ((m : Int) + (n : Int) > 64) := by omega
theorem CodeJoins (a b : List S42) (x : Int) (ha : ∀ y ∈ a, XA.in42 y) (hb : ∀ y ∈ b, XA.in42 y) (_ : -9223372036854775808 ≤ x ∧ x < 9223372036854775808) (hw : ((a.map XA.wt42).sum + 1) + ((b.map XA.wt42).sum + 1) + 1 ≤ 1048576) : ∃ k, factotumlaw13_CodeJoins.f k a b x = some true := by
  obtain ⟨fa, na, la⟩ := sz_of a ha (by omega)
  obtain ⟨fb, nb, lb⟩ := sz_of b hb (by omega)
  refine ⟨2000000, ?_⟩
  generalize hK : 2000000 = K
  have hF : 2000000 ≤ K := by omega
  obtain ⟨J, rfl⟩ : ∃ J, K = J + 1 := ⟨K - 1, by omega⟩
  unfold factotumlaw13_CodeJoins.f
  rw [live13 (by omega), Option.bind_some, if_pos rfl, p_write a fa (by omega), p_write b fb (by omega), Option.bind_some, Option.bind_some]
  have no : ∀ s t, factotumlaw13_CodeJoins.j0 (J + 1) a b x s t true = some true := fun s t => by simp only [factotumlaw13_CodeJoins.j0]; rw [if_pos trivial]
  by_cases h0 : (writeL a).2 = 0
  · rw [if_pos h0]
    by_cases h1 : (writeL b).2 = 0
    · obtain ⟨l1, o1, e1⟩ := write_ok a h0
      obtain ⟨l2, o2, e2⟩ := write_ok b h1
      have ka : okL a := ⟨o1, na⟩
      have kb : okL b := ⟨o2, nb⟩
      have sa := encP_len a
      have sb := encP_len b
      rw [e1, e2, h1, show ((0 : Int) != 0) = false from rfl]
      simp only [factotumlaw13_CodeJoins.j0]
      rw [if_neg (by decide), if_pos (by rw [B_size, B_size]; omega), B_app, p_read _ _ (by omega), Option.bind_some, IntWalk.wrap64_in ((a.length : Int) + (b.length : Int)) ⟨by omega, by omega⟩]
      by_cases h64 : a.length + b.length > 64
      · rw [if_pos (c64 h64), read_long a b ka kb l1 h64]; rfl
      · rw [if_neg (c64' h64)]
        have hr : readL 65 (encP a ++ encP b) [] = (a ++ b, 0) := by
          rw [← encP_app]
          exact read_enc (a ++ b) ⟨fun y hy => (List.mem_append.1 hy).elim (o1 y) (o2 y), fun y hy => (List.mem_append.1 hy).elim (na y) (nb y)⟩ (by rw [List.length_append]; omega)
        rw [hr, B_size]
        have z1 : ¬ (((encP a).length : Int) + 1 = 0) := by omega
        obtain ⟨eu, c, hc, ec⟩ := cut_at x (encP a).length (by omega)
        rw [eu, ec]
        clear eu ec
        rw [if_neg z1, if_pos (Int.natCast_nonneg c), if_pos (Int.ofNat_le.2 hc), Int.toNat_natCast, B_head, p_read _ _ (by omega), Option.bind_some]
        simp only
        have sm : ∀ m : List S42, m.length ≤ 64 → factotumref13_Same.f J m m = some true := fun m hm => by rw [r_same m m (by omega) (by omega), eqI_refl]
        have lab : (a ++ b).length ≤ 64 := by rw [List.length_append]; omega
        have t1 : ([] : List S42).length + a.length < 2199023255552 := by simp; omega
        have t2 : ([] ++ a : List S42).length + b.length < 2199023255552 := by simp; omega
        rcases read_head a ka l1 ((encP a).take c) ((encP a).drop c) (List.take_append_drop _ _) with ⟨a1, a2, f1, f2⟩ | ⟨f1, f2⟩
        · have hl1 : a1.length ≤ a.length := by rw [f1, List.length_append]; omega
          have ht : a.take a1.length = a1 := by rw [f1, List.take_left]
          have hm : mn (a1.length : Int) (a.length : Int) = (a1.length : Int) := by unfold mn; split <;> omega
          rw [f2]
          simp only [if_true]
          rw [if_pos (show (a1.length : Int) ≤ (a.length : Int) by omega), hm, if_pos (show (0 : Int) ≤ (a1.length : Int) by omega), if_pos (show (a1.length : Int) ≤ (a.length : Int) by omega), Int.toNat_natCast, ht, sm a1 (by omega), Option.bind_some, if_pos t1, Option.bind_some, if_pos t2, List.nil_append, sm _ lab, Option.bind_some]; rfl
        · have hlt : c < (encP a).length := by
            rcases Nat.lt_or_ge c (encP a).length with h | h
            · exact h
            · exact absurd (List.drop_eq_nil_of_le h) f1
          rw [f2]
          simp only
          rw [if_neg (by decide), if_pos trivial, if_pos t1, Option.bind_some, if_pos t2, List.nil_append, sm _ lab, Option.bind_some, if_pos rfl, if_pos trivial, decide_eq_true (show (c : Int) < ((encP a).length : Int) by omega)]
    · rw [show ((writeL b).2 != 0) = true from bne_iff_ne.mpr h1]; exact no _ _
  · rw [if_neg h0]; exact no _ _
end Go.Proofs.YtljfichnlgfikaaDoor.Pure
