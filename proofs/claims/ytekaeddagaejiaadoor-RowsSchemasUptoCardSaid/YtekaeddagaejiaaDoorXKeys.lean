/- The plain laws of keys: what is written is what the document writes; numbers turned. No program in sight but its printed functions. No conditions. -/
import Derived.Test.YtekaeddagaejiaaDoorPAllx
import Derived.Test.YtekaeddagaejiaaDoorXOpen
import Derived.Laws.Bits64
import Derived.Lib.SmallJoins
namespace Go.Proofs.YtekaeddagaejiaaDoor.XK
open Go.RowKit Go.Proofs.YtekaeddagaejiaaDoor.XW Go.Proofs.YtekaeddagaejiaaDoor.XLib Go.Proofs.YtekaeddagaejiaaDoor.PAll Go.Proofs.YtekaeddagaejiaaDoor.XO Go.Proofs.YtekaeddagaejiaaDoorW.PrintWords Go.Proofs.YtekaeddagaejiaaDoorW.PrintLast
theorem xor63 (x : Nat) (h : x < 18446744073709551616) : x ^^^ 9223372036854775808 = (x + 9223372036854775808) % 18446744073709551616 := by
  apply Nat.eq_of_testBit_eq
  intro i
  rw [show (18446744073709551616 : Nat) = 2 ^ 64 from rfl, show (9223372036854775808 : Nat) = 2 ^ 63 from rfl, Nat.testBit_mod_two_pow, Nat.testBit_xor, Nat.testBit_two_pow, Nat.add_comm x]
  rcases Nat.lt_trichotomy i 63 with h1 | h1 | h1
  · rw [Nat.testBit_two_pow_add_gt h1]
    have : ¬ (63 = i) := by omega
    simp [this]; omega
  · subst h1
    rw [Nat.testBit_two_pow_add_eq]; simp
  · have hf : x.testBit i = false := Nat.testBit_lt_two_pow (Nat.lt_of_lt_of_le h (by rw [show (18446744073709551616 : Nat) = 2 ^ 64 from rfl]; exact Nat.pow_le_pow_right (by decide) (by omega)))
    have : ¬ (63 = i) := by omega
    have h64 : ¬ (i < 64) := by omega
    simp [this, hf, h64]
theorem wrapu (n : Int) : IntKind.u64.wrap n = n % 18446744073709551616 := by simp [IntKind.wrap, IntKind.bits, IntKind.signed]
/-- the sign turned -/
theorem turned (n : Int) : Go.bits .xor .u64 (IntKind.u64.wrap n) 9223372036854775808 = (n + 9223372036854775808) % 18446744073709551616 := by
  rw [wrapu]
  obtain ⟨x, hx⟩ : ∃ x : Nat, n % 18446744073709551616 = (x : Int) := ⟨(n % 18446744073709551616).toNat, by omega⟩
  have := bits_xor_u64_nat x 9223372036854775808 (by omega) (by decide)
  rw [hx]
  rw [show ((9223372036854775808 : Nat) : Int) = (9223372036854775808 : Int) from rfl] at this
  rw [this, xor63 x (by omega)]
  omega
theorem turned_ref (n : Int) : IntKind.u64.wrap (IntKind.u64.wrap n + 9223372036854775808) = (n + 9223372036854775808) % 18446744073709551616 := by
  rw [wrapu, wrapu]; omega
theorem be8_ref (n : Int) (k : Nat) (h0 : 0 ≤ n) (h1 : n < 18446744073709551616) : factotumref01_Num.f (k + 9) n 8 = some ⟨(be8 n).toArray⟩ := by
  have es : mn (mx 8 1) 8 = 8 := by unfold mx mn; simp
  unfold factotumref01_Num.f factotumref01_size.f
  rw [es, Option.bind_some, if_pos (by decide), if_pos (by decide)]
  have e7 : wrap64 (8 - 1) = ((7 : Nat) : Int) := by simp [wrap64]
  rw [e7]
  have step : ∀ (x : Int) (xs : List Int) (j k : Nat), 0 ≤ x → x < 18446744073709551616 → j < 8 → xs.length = 8 →
      factotumref01_Num.l0 (k + 1) x xs (j : Int) = factotumref01_Num.l0 k (x / 256) (xs.set j (x % 256)) ((j : Int) - 1) := by
    intro x xs j k hx0 hx1 hj hl
    simp only [factotumref01_Num.l0]
    rw [if_pos (by omega), if_pos (by omega), if_pos (by omega), IntWalk.wrap64_in _ ⟨by omega, by omega⟩, wrapu]
    rw [Int.tdiv_eq_ediv_of_nonneg hx0, Int.tmod_eq_emod_of_nonneg hx0, Int.toNat_natCast]
    rw [show x / 256 % 18446744073709551616 = x / 256 by omega, show x % 256 % 256 = x % 256 by omega]
  rw [show (List.replicate (8 : Int).toNat (0 : Int)) = [0, 0, 0, 0, 0, 0, 0, 0] from rfl]
  rw [show k + 9 = k + 8 + 1 from rfl, step n _ 7 (k + 8) h0 h1 (by omega) rfl]
  rw [show ((7 : Nat) : Int) - 1 = ((6 : Nat) : Int) from rfl, show k + 8 = k + 7 + 1 from rfl, step _ _ 6 (k + 7) (by omega) (by omega) (by omega) (by simp)]
  rw [show ((6 : Nat) : Int) - 1 = ((5 : Nat) : Int) from rfl, show k + 7 = k + 6 + 1 from rfl, step _ _ 5 (k + 6) (by omega) (by omega) (by omega) (by simp)]
  rw [show ((5 : Nat) : Int) - 1 = ((4 : Nat) : Int) from rfl, show k + 6 = k + 5 + 1 from rfl, step _ _ 4 (k + 5) (by omega) (by omega) (by omega) (by simp)]
  rw [show ((4 : Nat) : Int) - 1 = ((3 : Nat) : Int) from rfl, show k + 5 = k + 4 + 1 from rfl, step _ _ 3 (k + 4) (by omega) (by omega) (by omega) (by simp)]
  rw [show ((3 : Nat) : Int) - 1 = ((2 : Nat) : Int) from rfl, show k + 4 = k + 3 + 1 from rfl, step _ _ 2 (k + 3) (by omega) (by omega) (by omega) (by simp)]
  rw [show ((2 : Nat) : Int) - 1 = ((1 : Nat) : Int) from rfl, show k + 3 = k + 2 + 1 from rfl, step _ _ 1 (k + 2) (by omega) (by omega) (by omega) (by simp)]
  rw [show ((1 : Nat) : Int) - 1 = ((0 : Nat) : Int) from rfl, show k + 2 = k + 1 + 1 from rfl, step _ _ 0 (k + 1) (by omega) (by omega) (by omega) (by simp)]
  simp only [factotumref01_Num.l0]
  rw [if_neg (by decide), ← strOf_bi, bi_be8]
  simp only [List.set_cons_succ, List.set_cons_zero]
  have s56 : shr .u64 n 56 = n / 72057594037927936 := rfl
  have s48 : shr .u64 n 48 = n / 281474976710656 := rfl
  have s40 : shr .u64 n 40 = n / 1099511627776 := rfl
  have s32 : shr .u64 n 32 = n / 4294967296 := rfl
  have s24 : shr .u64 n 24 = n / 16777216 := rfl
  have s16 : shr .u64 n 16 = n / 65536 := rfl
  have s8 : shr .u64 n 8 = n / 256 := rfl
  have s0 : shr .u64 n 0 = n / 1 := rfl
  rw [s56, s48, s40, s32, s24, s16, s8, s0]
  have e : ∀ a b c d f g h i a' b' c' d' f' g' h' i' : Int, a = a' → b = b' → c = c' → d = d' → f = f' → g = g' → h = h' → i = i' → some (strOfNums [a, b, c, d, f, g, h, i]) = some (strOfNums [a', b', c', d', f', g', h', i']) := by
    intros; subst_vars; rfl
  apply e <;> omega
theorem ba_ext {a b : ByteArray} (h : a.data.toList = b.data.toList) : a = b := by
  cases a; cases b; simp only at h; rw [Array.toList_inj.1 h]
theorem ba_app (a b : ByteArray) : (a ++ b).data.toList = a.data.toList ++ b.data.toList := Joins.data_append a b
theorem ba_len (l : List UInt8) : (⟨l.toArray⟩ : ByteArray).size = l.length := by rw [Lib.size_eq]
theorem encV_len (v : S29) : (encV v).length ≤ 2 * v.f2.size + 9 := by
  unfold encV
  split
  · simp [be8]
  · have := Lib.size_eq v.f2
    have h2 : Lib.countByte v.f2.data.toList 0 ≤ v.f2.data.toList.length := List.count_le_length
    simp [esc_length]; omega
theorem bulk_cons (v : S29) (l : List S29) : bulkV (v :: l) = v.f2.size + 4 + bulkV l := by simp [bulkV]
theorem encL_cons (v : S29) (l : List S29) : encL (v :: l) = encV v ++ encL l := by simp [encL]
theorem encL_len (l : List S29) : (encL l).length ≤ 3 * bulkV l := by
  induction l with
  | nil => simp [encL]
  | cons v r ih => have := encV_len v; rw [encL_cons, bulk_cons, List.length_append]; omega
theorem bulk_len (l : List S29) : l.length ≤ bulkV l := by
  induction l with
  | nil => simp
  | cons v r ih => rw [bulk_cons, List.length_cons]; omega
theorem bulk_mem (l : List S29) (v : S29) (h : v ∈ l) : v.f2.size + 4 ≤ bulkV l := by
  induction l with
  | nil => cases h
  | cons u r ih =>
    rw [bulk_cons]
    rcases List.mem_cons.1 h with rfl | h
    · omega
    · have := ih h; omega
theorem kwrite (l : List S29) (hb : bulkV l ≤ 16777216) : keys_Write.f l = if l.any oddV = true then some (⟨#[]⟩, 6) else some (⟨(encL l).toArray⟩, 0) := by
  have hll := bulk_len l
  have hel := encL_len l
  unfold keys_Write.f
  rw [if_pos (by omega)]
  split
  · rfl
  · rw [if_pos (by omega)]
end Go.Proofs.YtekaeddagaejiaaDoor.XK
