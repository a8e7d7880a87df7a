/- The plain laws of keys: what is written is what the document writes; numbers turned. No program in sight but its printed functions. No conditions. -/
import Derived.Test.YtekaeddagaejiaaDoorPAllx
import Derived.Test.YtekaeddagaejiaaDoorXOpen
import Derived.Laws.Bits64
import Derived.Lib.SmallJoins
namespace Go.Proofs.YtekaeddagaejiaaDoor.XK
open Go.RowKit Go.Proofs.YtekaeddagaejiaaDoor.XW Go.Proofs.YtekaeddagaejiaaDoor.XLib Go.Proofs.YtekaeddagaejiaaDoor.PAll Go.Proofs.YtekaeddagaejiaaDoor.XO Go.Proofs.YtekaeddagaejiaaDoorW.PrintWords Go.Proofs.YtekaeddagaejiaaDoorW.PrintLast
theorem xor63 (x : Nat) (h : x < 18446744073709551616) : x ^^^ 9223372036854775808 = (x + 9223372036854775808) % 18446744073709551616 := by
  apply Nat.eq_of_testBit_eq
  intro i
  rw [show (18446744073709551616 : Nat) = 2 ^ 64 from rfl, show (9223372036854775808 : Nat) = 2 ^ 63 from rfl, Nat.testBit_mod_two_pow, Nat.testBit_xor, Nat.testBit_two_pow, Nat.add_comm x]
  rcases Nat.lt_trichotomy i 63 with h1 | h1 | h1
  · rw [Nat.testBit_two_pow_add_gt h1]
    have : ¬ (63 = i) := by omega
    simp [this]; omega
  · subst h1
    rw [Nat.testBit_two_pow_add_eq]; simp
  · have hf : x.testBit i = false := Nat.testBit_lt_two_pow (Nat.lt_of_lt_of_le h (by rw [show (18446744073709551616 : Nat) = 2 ^ 64 from rfl]; exact Nat.pow_le_pow_right (by decide) (by omega)))
    have : ¬ (63 = i) := by omega
    have h64 : ¬ (i < 64) := by omega
    simp [this, hf, h64]
theorem wrapu (n : Int) : IntKind.u64.wrap n = n % 18446744073709551616 := by simp [IntKind.wrap, IntKind.bits, IntKind.signed]
/-- the sign turned -/
theorem turned (n : Int) : Go.bits .xor .u64 (IntKind.u64.wrap n) 9223372036854775808 = (n + 9223372036854775808) % 18446744073709551616 := by
  rw [wrapu]
  obtain ⟨x, hx⟩ : ∃ x : Nat, n % 18446744073709551616 = (x : Int) := ⟨(n % 18446744073709551616).toNat, by omega⟩
  have := bits_xor_u64_nat x 9223372036854775808 (by omega) (by decide)
  rw [hx]
  rw [show ((9223372036854775808 : Nat) : Int) = (9223372036854775808 : Int) from rfl] at this
  rw [this, xor63 x (by omega)]
  omega
theorem turned_ref (n : Int) : IntKind.u64.wrap (IntKind.u64.wrap n + 9223372036854775808) = (n + 9223372036854775808) % 18446744073709551616 := by
  rw [wrapu, wrapu]; omega
theorem ba_ext {a b : ByteArray} (h : a.data.toList = b.data.toList) : a = b := by
  cases a; cases b; simp only at h; rw [Array.toList_inj.1 h]
theorem ba_app (a b : ByteArray) : (a ++ b).data.toList = a.data.toList ++ b.data.toList := Joins.data_append a b
theorem ba_len (l : List UInt8) : (⟨l.toArray⟩ : ByteArray).size = l.length := by rw [Lib.size_eq]
theorem right_odd (v : S29) : factotumref02_Right.f v.f0 v.f1 v.f2 = some (!oddV v) := by
  unfold factotumref02_Right.f oddV
  by_cases h1 : v.f0 = 1
  · have h2 : ¬ v.f0 = 2 := by omega
    by_cases h3 : v.f2.toList = []
    · simp [h1, h3]
    · simp [h1, h3]
  · by_cases h2 : v.f0 = 2
    · rw [if_neg h1, if_pos h2, if_neg h1, if_pos h2]; simp [bne]
    · rw [if_neg h1, if_neg h2, if_neg h1, if_neg h2]; rfl
theorem encV_len (v : S29) : (encV v).length ≤ 2 * v.f2.size + 9 := by
  unfold encV
  split
  · simp [be8]
  · have := Lib.size_eq v.f2
    have h2 : Lib.countByte v.f2.data.toList 0 ≤ v.f2.data.toList.length := List.count_le_length
    simp [esc_length]; omega
theorem bulk_cons (v : S29) (l : List S29) : bulkV (v :: l) = v.f2.size + 4 + bulkV l := by simp [bulkV]
theorem encL_cons (v : S29) (l : List S29) : encL (v :: l) = encV v ++ encL l := by simp [encL]
theorem encL_len (l : List S29) : (encL l).length ≤ 3 * bulkV l := by
  induction l with
  | nil => simp [encL]
  | cons v r ih => have := encV_len v; rw [encL_cons, bulk_cons, List.length_append]; omega
theorem bulk_len (l : List S29) : l.length ≤ bulkV l := by
  induction l with
  | nil => simp
  | cons v r ih => rw [bulk_cons, List.length_cons]; omega
theorem bulk_mem (l : List S29) (v : S29) (h : v ∈ l) : v.f2.size + 4 ≤ bulkV l := by
  induction l with
  | nil => cases h
  | cons u r ih =>
    rw [bulk_cons]
    rcases List.mem_cons.1 h with rfl | h
    · omega
    · have := ih h; omega
theorem kwrite (l : List S29) (hb : bulkV l ≤ 16777216) : keys_Write.f l = if l.any oddV = true then some (⟨#[]⟩, 6) else some (⟨(encL l).toArray⟩, 0) := by
  have hll := bulk_len l
  have hel := encL_len l
  unfold keys_Write.f
  rw [if_pos (by omega)]
  split
  · rfl
  · rw [if_pos (by omega)]
end Go.Proofs.YtekaeddagaejiaaDoor.XK
