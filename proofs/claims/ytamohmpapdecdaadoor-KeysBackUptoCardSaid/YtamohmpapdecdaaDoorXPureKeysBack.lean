/- The plain law of KeysBack: there and back. Condition: the bulk's bound. -/
import Derived.Test.YtamohmpapdecdaaDoorXBack
namespace Go.Proofs.YtamohmpapdecdaaDoor.XK
open Go.RowKit Go.Proofs.YtamohmpapdecdaaDoor.XW Go.Proofs.YtamohmpapdecdaaDoor.PAll Go.Proofs.YtamohmpapdecdaaDoor.XO
theorem rdS_err : ∀ (k : Nat) (l : List UInt8) (acc : List S39), (rdS k l acc).2 ≠ 0 → (rdS k l acc).1 = [] := by
  intro k
  induction k with
  | zero => intro l acc h; exact absurd rfl h
  | succ k ih =>
    intro l acc h
    cases l with
    | nil => exact absurd rfl h
    | cons x r =>
      simp only [rdS] at h ⊢
      by_cases h1 : x = 1
      · rw [if_pos h1] at h ⊢
        by_cases h8 : r.length < 8
        · rw [if_pos h8]
        · rw [if_neg h8] at h ⊢; exact ih _ _ h
      · rw [if_neg h1] at h ⊢
        by_cases h2 : x = 2
        · rw [if_pos h2] at h ⊢
          by_cases he : (textS false r []).2.2 = 0
          · rw [if_pos he] at h ⊢; exact ih _ _ h
          · rw [if_neg he]
        · rw [if_neg h2]
theorem back_j0 (s : ByteArray) (hb : s.size ≤ 1048576) (k : Nat) (hk : s.size < k) : factotumlaw02_KeysBack.j0 (k + 1) s false = some true := by
  simp only [factotumlaw02_KeysBack.j0]
  rw [if_neg (by decide), kread s k (by omega) hk, Option.bind_some]
  obtain ⟨b, g, hr⟩ : ∃ b g, readL s = (b, g) := ⟨_, _, rfl⟩
  rw [hr]
  simp only
  by_cases hg : g = 0
  · subst hg
    obtain ⟨e1, e2, e3⟩ := write_read s b hr
    have hbb := bulk_enc b e2
    rw [e1, ← Lib.size_eq] at hbb
    rw [kwrite b (by omega), e2]
    rw [if_neg (show ¬ (false = true) by decide), Option.bind_some]
    simp only [if_pos]
    rw [Lib.toList_data, Lib.toList_data, e1]; simp
  · have hb0 : b = [] := by
      have := rdS_err s.size s.data.toList [] (show (readL s).2 ≠ 0 by rw [hr]; exact hg)
      have h2 : (readL s).1 = [] := this
      rw [hr] at h2; exact h2
    subst hb0
    rw [kwrite [] (by decide), if_neg (show ¬ (List.any [] oddV = true) by decide), Option.bind_some, if_neg hg]
end Go.Proofs.YtamohmpapdecdaaDoor.XK
namespace Go.Proofs.YtamohmpapdecdaaDoor.Pure
open Go.RowKit Go.Proofs.YtamohmpapdecdaaDoor.XW Go.Proofs.YtamohmpapdecdaaDoor.PAll Go.Proofs.YtamohmpapdecdaaDoor.XO Go.Proofs.YtamohmpapdecdaaDoor.XK
theorem KeysBack (l : List S39) (s : ByteArray) (hi : ∀ v ∈ l, inV v) (hb : bulkV l + s.size ≤ 1048576) : ∃ k, factotumlaw02_KeysBack.f k l s = some true := by
  obtain ⟨K, hK⟩ : ∃ K, K = 4000000 := ⟨_, rfl⟩
  refine ⟨K + 1 + 4, ?_⟩
  have hel := encL_len l
  have hll := bulk_len l
  have hbl := ba_len (encL l)
  unfold factotumlaw02_KeysBack.f
  rw [lives, Option.bind_some, if_pos rfl, kwrite l (by omega)]
  have hj := back_j0 s (by omega) (K + 4) (by omega)
  cases ho : l.any oddV with
  | true =>
    rw [if_pos rfl, Option.bind_some, kread _ _ (by decide) (by show 0 < _; omega), Option.bind_some]
    rw [if_neg (show ¬ ((6 : Int) = 0) by decide)]
    exact hj
  | false =>
    rw [if_neg (by decide), Option.bind_some, kread ⟨(encL l).toArray⟩ _ (by omega) (by omega), Option.bind_some, read_write l ho hi]
    simp only [if_pos]
    rw [same_refl l _ (by omega) (by omega), Option.bind_some]
    exact hj
end Go.Proofs.YtamohmpapdecdaaDoor.Pure
