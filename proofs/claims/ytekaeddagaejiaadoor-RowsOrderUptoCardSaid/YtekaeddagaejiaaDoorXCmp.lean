/- The order of tuples and of their bytes: plain laws over the printed functions. No conditions. -/
import Derived.Test.YtekaeddagaejiaaDoorXBack
namespace Go.Proofs.YtekaeddagaejiaaDoor.XK
open Go.RowKit Go.Proofs.YtekaeddagaejiaaDoor.XW Go.Proofs.YtekaeddagaejiaaDoor.XLib Go.Proofs.YtekaeddagaejiaaDoor.PAll Go.Proofs.YtekaeddagaejiaaDoor.XO Go.Proofs.YtekaeddagaejiaaDoorW.PrintWords Go.Proofs.YtekaeddagaejiaaDoorW.PrintLast
/-- bytes held against bytes: -1, 0, 1 -/
def cmpB : List UInt8 → List UInt8 → Int
  | [], [] => 0
  | [], _ :: _ => -1
  | _ :: _, [] => 1
  | a :: x, b :: y => if a.toNat < b.toNat then -1 else if b.toNat < a.toNat then 1 else cmpB x y
theorem cmpB_refl : ∀ x, cmpB x x = 0 := by
  intro x
  induction x with
  | nil => rfl
  | cons a x ih => simp only [cmpB]; rw [if_neg (by omega), if_neg (by omega)]; exact ih
theorem cmpB_zero : ∀ x y, cmpB x y = 0 → x = y := by
  intro x
  induction x with
  | nil => intro y h; cases y with
    | nil => rfl
    | cons b y => simp [cmpB] at h
  | cons a x ih =>
    intro y h
    cases y with
    | nil => simp [cmpB] at h
    | cons b y =>
      simp only [cmpB] at h
      by_cases h1 : a.toNat < b.toNat
      · rw [if_pos h1] at h; simp at h
      · rw [if_neg h1] at h
        by_cases h2 : b.toNat < a.toNat
        · rw [if_pos h2] at h; simp at h
        · rw [if_neg h2] at h
          rw [ih y h, UInt8.toNat_inj.1 (show a.toNat = b.toNat by omega)]
theorem cmpB_anti : ∀ x y, cmpB y x = - cmpB x y := by
  intro x
  induction x with
  | nil => intro y; cases y <;> rfl
  | cons a x ih =>
    intro y
    cases y with
    | nil => rfl
    | cons b y =>
      simp only [cmpB]
      by_cases h1 : a.toNat < b.toNat
      · rw [if_pos h1, if_neg (by omega), if_pos h1]; rfl
      · by_cases h2 : b.toNat < a.toNat
        · rw [if_pos h2, if_neg h1, if_pos h2]
        · rw [if_neg h2, if_neg h1, if_neg h1, if_neg h2]; exact ih y
theorem cmpB_range : ∀ x y, cmpB x y = -1 ∨ cmpB x y = 0 ∨ cmpB x y = 1 := by
  intro x
  induction x with
  | nil => intro y; cases y <;> simp [cmpB]
  | cons a x ih =>
    intro y
    cases y with
    | nil => simp [cmpB]
    | cons b y =>
      simp only [cmpB]
      by_cases h1 : a.toNat < b.toNat
      · rw [if_pos h1]; exact .inl rfl
      · rw [if_neg h1]
        by_cases h2 : b.toNat < a.toNat
        · rw [if_pos h2]; exact .inr (.inr rfl)
        · rw [if_neg h2]; exact ih y
theorem less_cmp : ∀ x y, Op.bytesLess x y = decide (cmpB x y = -1) := by
  intro x
  induction x with
  | nil => intro y; cases y <;> simp [Op.bytesLess, cmpB]
  | cons a x ih =>
    intro y
    cases y with
    | nil => simp [Op.bytesLess, cmpB]
    | cons b y =>
      rw [Op.bytesLess, ih y]
      by_cases h1 : a.toNat < b.toNat
      · have n1 : a < b := h1
        have e : cmpB (a :: x) (b :: y) = -1 := by simp only [cmpB]; rw [if_pos h1]
        simp [n1, e]
      · have n1 : ¬ a < b := h1
        by_cases h2 : b.toNat < a.toNat
        · have n2 : ¬ a = b := by rintro rfl; omega
          have e : cmpB (a :: x) (b :: y) = 1 := by simp only [cmpB]; rw [if_neg h1, if_pos h2]
          simp [n1, n2, e]
        · have n2 : a = b := UInt8.toNat_inj.1 (by omega)
          have e : cmpB (a :: x) (b :: y) = cmpB x y := by simp only [cmpB]; rw [if_neg h1, if_neg h2]
          rw [e]; simp [n2]
theorem eq_cmp (x y : List UInt8) : (x == y) = decide (cmpB x y = 0) := by
  by_cases h : x = y
  · subst h; simp [cmpB_refl]
  · have : ¬ cmpB x y = 0 := fun h2 => h (cmpB_zero x y h2)
    simp [h, this]
theorem cmpB_pre (p x y : List UInt8) : cmpB (p ++ x) (p ++ y) = cmpB x y := by
  induction p with
  | nil => rfl
  | cons a p ih => simp only [List.cons_append, cmpB]; rw [if_neg (by omega), if_neg (by omega)]; exact ih
def c3 (a b : Int) : Int := if a < b then -1 else if a > b then 1 else 0
theorem c3_anti (a b : Int) : c3 b a = - c3 a b := by unfold c3; (repeat' split) <;> omega
theorem c3_zero (a b : Int) : c3 a b = 0 ↔ a = b := by unfold c3; (repeat' split) <;> omega
theorem c3_range (a b : Int) : c3 a b = -1 ∨ c3 a b = 0 ∨ c3 a b = 1 := by unfold c3; (repeat' split) <;> omega
/-- a value held against a value -/
def cmpV (u v : S29) : Int := if u.f0 = v.f0 then (if u.f1 = v.f1 then cmpB u.f2.data.toList v.f2.data.toList else c3 u.f1 v.f1) else c3 u.f0 v.f0
def cmpL : List S29 → List S29 → Int
  | [], [] => 0
  | [], _ :: _ => -1
  | _ :: _, [] => 1
  | u :: a, v :: b => if cmpV u v = 0 then cmpL a b else cmpV u v
theorem cmpV_anti (u v : S29) : cmpV v u = - cmpV u v := by
  unfold cmpV
  by_cases h0 : u.f0 = v.f0
  · by_cases h1 : u.f1 = v.f1
    · rw [if_pos h0, if_pos h1, if_pos h0.symm, if_pos h1.symm]; exact cmpB_anti _ _
    · rw [if_pos h0, if_neg h1, if_pos h0.symm, if_neg (fun h => h1 h.symm)]; exact c3_anti _ _
  · rw [if_neg h0, if_neg (fun h => h0 h.symm)]; exact c3_anti _ _
theorem cmpV_range (u v : S29) : cmpV u v = -1 ∨ cmpV u v = 0 ∨ cmpV u v = 1 := by
  unfold cmpV; split
  · split
    · exact cmpB_range _ _
    · exact c3_range _ _
  · exact c3_range _ _
theorem cmpL_range : ∀ a b : List S29, cmpL a b = -1 ∨ cmpL a b = 0 ∨ cmpL a b = 1 := by
  intro a
  induction a with
  | nil => intro b; cases b <;> simp [cmpL]
  | cons u a ih =>
    intro b
    cases b with
    | nil => simp [cmpL]
    | cons v b => simp only [cmpL]; split; exact ih b; exact cmpV_range u v
theorem cmpL_anti : ∀ a b : List S29, cmpL b a = - cmpL a b := by
  intro a
  induction a with
  | nil => intro b; cases b <;> rfl
  | cons u a ih =>
    intro b
    cases b with
    | nil => rfl
    | cons v b =>
      simp only [cmpL]
      rw [cmpV_anti u v]
      by_cases h : cmpV u v = 0
      · rw [if_pos (by omega), if_pos h]; exact ih b
      · rw [if_neg (by omega), if_neg h]
/-! ### the functions -/
theorem rd3 (x y z : Int) : rd [x, y, z] 0 = x ∧ rd [x, y, z] 1 = y ∧ rd [x, y, z] 2 = z := ⟨rfl, rfl, rfl⟩
theorem or3 (x y z : Int) (k : Nat) : cmp_Or_int.f (k + 4) [x, y, z] = some (if x = 0 then (if y = 0 then z else y) else x) := by
  obtain ⟨e0, e1, e2⟩ := rd3 x y z
  unfold cmp_Or_int.f
  simp only [cmp_Or_int.l0, List.length_cons, List.length_nil]
  rw [if_pos (by decide), if_pos (by decide), if_pos (by decide), e0]
  by_cases h0 : x = 0
  · rw [if_pos h0, if_pos h0, show wrap64 (0 + 1) = 1 from by simp [wrap64], if_pos (by decide), if_pos (by decide), if_pos (by decide), e1]
    by_cases h1 : y = 0
    · rw [if_pos h1, if_pos h1, show wrap64 (1 + 1) = 2 from by simp [wrap64], if_pos (by decide), if_pos (by decide), if_pos (by decide), e2]
      by_cases h2 : z = 0
      · rw [if_pos h2, show wrap64 (2 + 1) = 3 from by simp [wrap64], if_neg (by decide), h2]
      · rw [if_neg h2]
    · rw [if_neg h1, if_neg h1]
  · rw [if_neg h0, if_neg h0]
theorem one_cmp (u v : S29) (k : Nat) : keys_one.f (k + 4) u.f0 u.f1 u.f2 v.f0 v.f1 v.f2 = some (cmpV u v) := by
  have e0 : api_Kind_67.f u.f0 v.f0 = some (c3 u.f0 v.f0) := by
    unfold api_Kind_67.f api_Kind_76.f
    simp only [bne_self_eq_false, Option.bind_some, if_neg (show ¬ (false = true) by decide)]
    unfold c3; (repeat' split) <;> rfl
  have e1 : cmp_Compare_int64.f u.f1 v.f1 = some (c3 u.f1 v.f1) := by
    unfold cmp_Compare_int64.f cmp_isNaN_int64.f
    simp only [bne_self_eq_false, Option.bind_some, if_neg (show ¬ (false = true) by decide)]
    unfold c3; (repeat' split) <;> rfl
  have e2 : cmp_Compare_string.f u.f2 v.f2 = some (cmpB u.f2.data.toList v.f2.data.toList) := by
    unfold cmp_Compare_string.f
    rw [Lib.toList_data, Lib.toList_data, less_cmp, eq_cmp]
    rcases cmpB_range u.f2.data.toList v.f2.data.toList with h | h | h <;> simp [h]
  unfold keys_one.f
  rw [e0, Option.bind_some, e1, Option.bind_some, e2, Option.bind_some, or3, Option.bind_some]
  have z0 := c3_zero u.f0 v.f0
  have z1 := c3_zero u.f1 v.f1
  unfold cmpV
  by_cases h0 : u.f0 = v.f0
  · rw [if_pos (z0.2 h0), if_pos h0]
    by_cases h1 : u.f1 = v.f1
    · rw [if_pos (z1.2 h1), if_pos h1]
    · rw [if_neg (fun h => h1 (z1.1 h)), if_neg h1]
  · rw [if_neg (fun h => h0 (z0.1 h)), if_neg h0]
theorem kcmp_go (a b : List S29) (ha : a.length ≤ 140737488355328) : ∀ (m i k : Nat), i + m = a.length → i ≤ b.length → m + 4 < k →
    slices_CompareFunc_at_keys_one.l0 k a b a (a.length : Int) (i : Int) = some (cmpL (a.drop i) (b.drop i)) := by
  intro m
  induction m with
  | zero =>
    intro i k hi hb hk
    obtain ⟨k, rfl⟩ : ∃ j, k = j + 1 := ⟨k - 1, by omega⟩
    simp only [slices_CompareFunc_at_keys_one.l0]
    rw [if_neg (by omega), List.drop_eq_nil_of_le (show a.length ≤ i by omega)]
    by_cases h : i < b.length
    · rw [if_pos (by omega), List.drop_eq_getElem_cons h]; rfl
    · rw [if_neg (by omega), List.drop_eq_nil_of_le (by omega)]; rfl
  | succ m ih =>
    intro i k hi hb hk
    obtain ⟨k, rfl⟩ : ∃ j, k = j + 1 := ⟨k - 1, by omega⟩
    have h1 : i < a.length := by omega
    simp only [slices_CompareFunc_at_keys_one.l0]
    rw [if_pos (by omega), if_pos (by omega), if_pos (by omega), List.drop_eq_getElem_cons h1]
    by_cases h2 : i < b.length
    · obtain ⟨j, rfl⟩ : ∃ j, k = j + 4 := ⟨k - 4, by omega⟩
      rw [if_neg (by omega), if_pos (by omega), rd39_at a i h1, rd39_at b i h2, one_cmp, Option.bind_some, List.drop_eq_getElem_cons h2]
      simp only [cmpL]
      by_cases h0 : cmpV a[i] b[i] = 0
      · rw [if_pos h0, if_pos h0, IntWalk.wrap64_in _ ⟨by omega, by omega⟩, show (i : Int) + 1 = ((i + 1 : Nat) : Int) from rfl, ih (i + 1) _ (by omega) (by omega) (by omega)]
      · rw [if_neg h0, if_neg h0]
    · rw [if_pos (by omega), List.drop_eq_nil_of_le (show b.length ≤ i by omega)]; rfl
theorem kcmp (a b : List S29) (ha : a.length ≤ 140737488355328) (k : Nat) (hk : a.length + 4 < k) : keys_Compare.f k a b = some (cmpL a b) := by
  unfold keys_Compare.f slices_CompareFunc_at_keys_one.f
  rw [show (0 : Int) = ((0 : Nat) : Int) from rfl, kcmp_go a b ha a.length 0 k (by omega) (Nat.zero_le _) hk]; rfl
end Go.Proofs.YtekaeddagaejiaaDoor.XK
