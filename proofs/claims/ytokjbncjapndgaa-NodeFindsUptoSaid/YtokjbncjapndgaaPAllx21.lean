/- Printed walks of the functions that the laws reach: each function, what it computes, and that it does. No conditions. -/
import Derived.Test.YtokjbncjapndgaaPAllx0
namespace Go.Proofs.Ytokjbncjapndgaa.PAll
open Go.RowKit Go.Proofs.Ytokjbncjapndgaa.XW Go.Proofs.Ytokjbncjapndgaa.XLib Go.Proofs.YtokjbncjapndgaaW.PrintWords Go.Proofs.YtokjbncjapndgaaW.PrintLast Go.Proofs.YtokjbncjapndgaaW.PrintMore
attribute [local go_sem] max2_int min2_int max_two min_two max_three min_three max_four min_four   -- for this text's walks alone
set_option linter.unusedVariables false
set_option linter.unusedSimpArgs false

/-! ### strings_Repeat: function 26 -/
def strings_Repeat.f (a0 : ByteArray) (a1 : Int) : Option (ByteArray) := if 0 ≤ a1 ∧ a1 ≤ 9223372036854775807 ∧ (a0.size : Int) * a1 ≤ 140737488355328 then some ⟨(Lib.repeatL a0.data.toList a1.toNat).toArray⟩ else none
theorem strings_Repeat.calls (a0 : ByteArray) (a1 : Int) (r : ByteArray) (w : World) (h : strings_Repeat.f a0 a1 = some r) :
    Calls Try.prog 26 #[.string a0, .int .i64 a1] w fun e w' => e = .returned (.string r) ∧ Below w.heap.size w w' := by
  unfold strings_Repeat.f at h
  split at h
  case isFalse => cases h
  rename_i hc
  obtain ⟨h0, h1, h2⟩ := hc
  obtain rfl := Option.some.inj h
  obtain ⟨c, rfl⟩ : ∃ c : Nat, a1 = (c : Int) := ⟨a1.toNat, by omega⟩
  exact Any.strings_Repeat Try.lays105 Try.Builder_Extra_105 a0 c w (by omega) (Int.ofNat_le.mp (by rw [Int.natCast_mul]; exact h2))

end Go.Proofs.Ytokjbncjapndgaa.PAll
