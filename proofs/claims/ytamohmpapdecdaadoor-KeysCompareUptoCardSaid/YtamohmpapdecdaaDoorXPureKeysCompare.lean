/- The plain law of KeysCompare: which tuple is ahead, as the document says. Condition: the bulk's bound. -/
import Derived.Test.YtamohmpapdecdaaDoorXCmp
namespace Go.Proofs.YtamohmpapdecdaaDoor.XK
open Go.RowKit Go.Proofs.YtamohmpapdecdaaDoor.XW Go.Proofs.YtamohmpapdecdaaDoor.XLib Go.Proofs.YtamohmpapdecdaaDoor.PAll Go.Proofs.YtamohmpapdecdaaDoor.XO Go.Proofs.YtamohmpapdecdaaDoorW.PrintWords Go.Proofs.YtamohmpapdecdaaDoorW.PrintLast
theorem rahead_go (a b : ByteArray) (ha : a.size ≤ 140737488355328) : ∀ (m i k : Nat), i + m = a.size → i ≤ b.size → 2 * m + 2 < k →
    factotumref02_Ahead.l0 k a b (i : Int) = some (decide (cmpB (a.data.toList.drop i) (b.data.toList.drop i) = -1)) := by
  intro m
  induction m with
  | zero =>
    intro i k hi hb hk
    obtain ⟨k, rfl⟩ : ∃ j, k = j + 2 := ⟨k - 2, by omega⟩
    simp only [factotumref02_Ahead.l0]
    rw [if_neg (by omega)]
    simp only [factotumref02_Ahead.j1]
    rw [if_neg (by decide), List.drop_eq_nil_of_le (show a.data.toList.length ≤ i by rw [← Lib.size_eq]; omega)]
    by_cases h : i < b.size
    · rw [List.drop_eq_getElem_cons (show i < b.data.toList.length by rw [← Lib.size_eq]; exact h)]
      have e : (a.size : Int) < (b.size : Int) := by omega
      simp [cmpB, e]
    · rw [List.drop_eq_nil_of_le (show b.data.toList.length ≤ i by rw [← Lib.size_eq]; omega)]
      have e : ¬ (a.size : Int) < (b.size : Int) := by omega
      simp [cmpB, e]
  | succ m ih =>
    intro i k hi hb hk
    obtain ⟨k, rfl⟩ : ∃ j, k = j + 2 := ⟨k - 2, by omega⟩
    have h1 : i < a.data.toList.length := by rw [← Lib.size_eq]; omega
    simp only [factotumref02_Ahead.l0]
    rw [if_pos (by omega)]
    simp only [factotumref02_Ahead.j1]
    have da := List.drop_eq_getElem_cons h1
    obtain ⟨q1, q2, _⟩ := bt_nat a i _ _ da
    by_cases h2 : i < b.size
    · have h2' : i < b.data.toList.length := by rw [← Lib.size_eq]; exact h2
      have db := List.drop_eq_getElem_cons h2'
      obtain ⟨_, q3, _⟩ := bt_nat b i _ _ db
      rw [if_pos (by rw [decide_eq_true_eq]; omega), if_pos (by omega), if_pos (by omega), if_pos (by omega), q2, q3, da, db]
      have hcm : cmpB (a.data.toList[i] :: a.data.toList.drop (i + 1)) (b.data.toList[i] :: b.data.toList.drop (i + 1)) = if a.data.toList[i].toNat < b.data.toList[i].toNat then -1 else if b.data.toList[i].toNat < a.data.toList[i].toNat then 1 else cmpB (a.data.toList.drop (i + 1)) (b.data.toList.drop (i + 1)) := rfl
      rw [hcm]
      by_cases he : (a.data.toList[i].toNat : Int) = b.data.toList[i].toNat
      · rw [if_pos he, IntWalk.wrap64_in _ ⟨by omega, by omega⟩, show (i : Int) + 1 = ((i + 1 : Nat) : Int) from rfl, ih (i + 1) k (by omega) (by omega) (by omega)]
        rw [if_neg (by omega), if_neg (by omega)]
      · rw [if_neg he]
        by_cases hl : a.data.toList[i].toNat < b.data.toList[i].toNat
        · have e : ((a.data.toList[i].toNat : Int) < (b.data.toList[i].toNat : Int)) := by omega
          rw [if_pos hl, decide_eq_true e]; rfl
        · have e : ¬ ((a.data.toList[i].toNat : Int) < (b.data.toList[i].toNat : Int)) := by omega
          rw [if_neg hl, if_pos (by omega), decide_eq_false e]; rfl
    · rw [if_neg (by rw [decide_eq_true_eq]; omega), da, List.drop_eq_nil_of_le (show b.data.toList.length ≤ i by rw [← Lib.size_eq]; omega)]
      have e : ¬ (a.size : Int) < (b.size : Int) := by omega
      simp [cmpB, e]
theorem rbefore (u v : S39) (k : Nat) (hu : u.f2.size ≤ 140737488355328) (hk : 2 * u.f2.size + 2 < k) : factotumref02_before.f k u.f0 u.f1 u.f2 v.f0 v.f1 v.f2 = some (decide (cmpV u v = -1)) := by
  unfold factotumref02_before.f
  have c3m : ∀ a b : Int, decide (a < b) = decide (c3 a b = -1) := by
    intro a b; unfold c3
    by_cases h : a < b
    · simp [h]
    · by_cases h2 : a > b <;> simp [h, h2]
  by_cases h0 : u.f0 = v.f0
  · rw [if_pos h0]
    by_cases h1 : u.f1 = v.f1
    · rw [if_pos h1]
      unfold factotumref02_Ahead.f
      rw [show (0 : Int) = ((0 : Nat) : Int) from rfl, rahead_go u.f2 v.f2 hu u.f2.size 0 k (by omega) (Nat.zero_le _) hk]
      simp only [Option.bind_some, List.drop_zero]
      have : cmpV u v = cmpB u.f2.data.toList v.f2.data.toList := by unfold cmpV; rw [if_pos h0, if_pos h1]
      rw [this]
    · rw [if_neg h1]
      have : cmpV u v = c3 u.f1 v.f1 := by unfold cmpV; rw [if_pos h0, if_neg h1]
      rw [this, c3m]
  · rw [if_neg h0]
    have : cmpV u v = c3 u.f0 v.f0 := by unfold cmpV; rw [if_neg h0]
    rw [this, c3m]
theorem rcmp_go (a b : List S39) (ha : bulkV a ≤ 1048576) (hb : bulkV b ≤ 1048576) : ∀ (m i k : Nat), i + m = a.length → i ≤ b.length → 2 * m + 2 + 2097160 < k →
    factotumref02_Compare.l0 k a b (i : Int) = some (cmpL (a.drop i) (b.drop i)) := by
  have hal := bulk_len a
  intro m
  induction m with
  | zero =>
    intro i k hi hbi hk
    obtain ⟨k, rfl⟩ : ∃ j, k = j + 2 := ⟨k - 2, by omega⟩
    simp only [factotumref02_Compare.l0]
    rw [if_neg (by omega)]
    simp only [factotumref02_Compare.j1]
    rw [if_neg (by decide), List.drop_eq_nil_of_le (show a.length ≤ i by omega)]
    by_cases h : i < b.length
    · rw [List.drop_eq_getElem_cons h, if_pos (by omega)]; rfl
    · rw [List.drop_eq_nil_of_le (by omega), if_neg (by omega), if_neg (by omega)]; rfl
  | succ m ih =>
    intro i k hi hbi hk
    obtain ⟨k, rfl⟩ : ∃ j, k = j + 2 := ⟨k - 2, by omega⟩
    have h1 : i < a.length := by omega
    have ga := bulk_mem a a[i] (List.getElem_mem h1)
    simp only [factotumref02_Compare.l0]
    rw [if_pos (by omega)]
    simp only [factotumref02_Compare.j1]
    by_cases h2 : i < b.length
    · have gb := bulk_mem b b[i] (List.getElem_mem h2)
      rw [if_pos (by rw [decide_eq_true_eq]; omega), if_pos (by omega), if_pos (by omega), if_pos (by omega), rd39_at a i h1, rd39_at b i h2]
      rw [rbefore a[i] b[i] k (by omega) (by omega), rbefore b[i] a[i] k (by omega) (by omega), cmpV_anti a[i] b[i]]
      simp only [Option.bind_some]
      rw [List.drop_eq_getElem_cons h1, List.drop_eq_getElem_cons h2]
      simp only [cmpL]
      rcases cmpV_range a[i] b[i] with h | h | h
      · rw [if_pos (by rw [h]; rfl), if_neg (by rw [h]; decide), h]
      · rw [if_neg (by rw [h]; decide), if_neg (by rw [h]; decide), if_pos h, IntWalk.wrap64_in _ ⟨by omega, by omega⟩]
        exact ih (i + 1) k (by omega) (by omega) (by omega)
      · rw [if_neg (by rw [h]; decide), if_pos (by rw [h]; rfl), if_neg (by rw [h]; decide), h]
    · rw [if_neg (by rw [decide_eq_true_eq]; omega), List.drop_eq_getElem_cons h1, List.drop_eq_nil_of_le (show b.length ≤ i by omega), if_neg (by omega), if_pos (by omega)]; rfl
end Go.Proofs.YtamohmpapdecdaaDoor.XK
namespace Go.Proofs.YtamohmpapdecdaaDoor.Pure
open Go.RowKit Go.Proofs.YtamohmpapdecdaaDoor.PAll Go.Proofs.YtamohmpapdecdaaDoor.XO Go.Proofs.YtamohmpapdecdaaDoor.XK
theorem KeysCompare (a b : List S39) (_ : ∀ v ∈ a, inV v) (_ : ∀ v ∈ b, inV v) (hb : bulkV a + bulkV b ≤ 1048576) : ∃ k, factotumlaw02_KeysCompare.f k a b = some true := by
  obtain ⟨K, hK⟩ : ∃ K, K = 8000000 := ⟨_, rfl⟩
  refine ⟨K + 4, ?_⟩
  have hal := bulk_len a
  have h := rcmp_go a b (by omega) (by omega) a.length 0 (K + 4) (by omega) (Nat.zero_le _) (by omega)
  unfold factotumlaw02_KeysCompare.f
  rw [lives, Option.bind_some, if_pos rfl, kcmp a b (by omega) _ (by omega), Option.bind_some]
  unfold factotumref02_Compare.f
  rw [show (0 : Int) = ((0 : Nat) : Int) from rfl, h]
  simp
end Go.Proofs.YtamohmpapdecdaaDoor.Pure
