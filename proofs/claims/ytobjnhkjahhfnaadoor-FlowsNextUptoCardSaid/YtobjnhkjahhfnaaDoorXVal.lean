/- Values: which may be a register's; one value as a key. Plain laws over the printed functions. No conditions. -/
import Derived.Test.YtobjnhkjahhfnaaDoorXPack
namespace Go.Proofs.YtobjnhkjahhfnaaDoor.XV
open Go.RowKit Go.Proofs.YtobjnhkjahhfnaaDoor.XW Go.Proofs.YtobjnhkjahhfnaaDoor.XLib Go.Proofs.YtobjnhkjahhfnaaDoor.PAll Go.Proofs.YtobjnhkjahhfnaaDoorW.PrintWords Go.Proofs.YtobjnhkjahhfnaaDoorW.PrintLast Go.Proofs.YtobjnhkjahhfnaaDoor.XP
theorem wrapu (n : Int) : IntKind.u64.wrap n = n % 18446744073709551616 := by simp [IntKind.wrap, IntKind.bits, IntKind.signed]
/-- may a value be a register's? -/
def valOK (v : S24) : Bool := !oddV v && decide (v.f2.size ≤ 10)
theorem encV_le (v : S24) : (encV v).length ≤ 2 * v.f2.size + 9 := by
  unfold encV
  split
  · simp [be8]
  · have := Lib.size_eq v.f2
    have h2 : Lib.countByte v.f2.data.toList 0 ≤ v.f2.data.toList.length := List.count_le_length
    simp [esc_length]; omega
theorem kw1 (v : S24) (h : v.f2.size ≤ 1099511627776) : keys_Write.f [v] = if oddV v = true then some (⟨#[]⟩, 6) else some (B (encV v), 0) := by
  have := encV_le v
  unfold keys_Write.f
  have e : encL [v] = encV v := by simp [encL]
  rw [if_pos (by simp), e]
  simp only [List.any_cons, List.any_nil, Bool.or_false]
  split
  · rfl
  · rw [if_pos (by omega)]
theorem right_odd (v : S24) : factotumref02_Right.f v.f0 v.f1 v.f2 = some (!oddV v) := by
  unfold factotumref02_Right.f oddV
  by_cases h1 : v.f0 = 1
  · have h2 : ¬ v.f0 = 2 := by omega
    by_cases h3 : v.f2.toList = []
    · simp [h1, h3]
    · simp [h1, h3]
  · by_cases h2 : v.f0 = 2
    · rw [if_neg h1, if_pos h2, if_neg h1, if_pos h2]; simp [bne]
    · rw [if_neg h1, if_neg h2, if_neg h1, if_neg h2]; rfl
theorem empty_of (s : ByteArray) (h : s.toList = []) : s = ⟨#[]⟩ := ext (by rw [← Lib.toList_data, h])
/-- what may be: a number, or a text -/
theorem odd_cases (v : S24) (h : oddV v = false) : (v.f0 = 1 ∧ v.f2 = ⟨#[]⟩) ∨ (v.f0 = 2 ∧ v.f1 = 0) := by
  unfold oddV at h
  by_cases h1 : v.f0 = 1
  · rw [if_pos h1] at h; exact .inl ⟨h1, empty_of _ (by simpa using h)⟩
  · rw [if_neg h1] at h
    by_cases h2 : v.f0 = 2
    · rw [if_pos h2] at h; exact .inr ⟨h2, by simpa using h⟩
    · rw [if_neg h2] at h; cases h
theorem odd_num (n : Int) : oddV ⟨1, n, ⟨#[]⟩⟩ = false := by unfold oddV; rw [if_pos rfl, Lib.toList_data]; rfl
theorem odd_text (s : ByteArray) : oddV ⟨2, 0, s⟩ = false := by unfold oddV; rw [if_neg (show ¬ ((2 : Int) = 1) by decide), if_pos rfl]; rfl
theorem ok_cases (v : S24) (h : valOK v = true) : (v.f0 = 1 ∧ v.f2 = ⟨#[]⟩) ∨ (v.f0 = 2 ∧ v.f1 = 0 ∧ v.f2.size ≤ 10) := by
  unfold valOK at h
  simp only [Bool.and_eq_true, Bool.not_eq_true', decide_eq_true_eq] at h
  rcases odd_cases v h.1 with h1 | h1
  · exact .inl h1
  · exact .inr ⟨h1.1, h1.2, h.2⟩
theorem ok_num (n : Int) : valOK ⟨1, n, ⟨#[]⟩⟩ = true := by unfold valOK; rw [odd_num]; rfl
theorem ok_text (s : ByteArray) (h : s.size ≤ 10) : valOK ⟨2, 0, s⟩ = true := by unfold valOK; rw [odd_text]; simpa using h
theorem eq_mk (v : S24) {a b : Int} {s : ByteArray} (h0 : v.f0 = a) (h1 : v.f1 = b) (h2 : v.f2 = s) : v = ⟨a, b, s⟩ := by cases v; subst h0 h1 h2; rfl
end Go.Proofs.YtobjnhkjahhfnaaDoor.XV
