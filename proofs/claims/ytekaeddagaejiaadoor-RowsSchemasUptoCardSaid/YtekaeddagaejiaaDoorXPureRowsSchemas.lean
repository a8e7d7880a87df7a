/- The plain law of RowsSchemas. Condition: the bulk's bound. -/
import Derived.Test.YtekaeddagaejiaaDoorXSch
import Derived.Test.YtekaeddagaejiaaDoorXA
namespace Go.Proofs.YtekaeddagaejiaaDoor.XR
open Go.RowKit Go.Proofs.YtekaeddagaejiaaDoor.PAll Go.Proofs.YtekaeddagaejiaaDoor.XP Go.Proofs.YtekaeddagaejiaaDoor.XV
theorem lives03 (k : Nat) : factotumlaw03_lives.f (k + 64) = some true := by
  have h : factotumlaw03_lives.f 64 = some true := by kernel_rfl
  induction k with
  | zero => exact h
  | succ k ih => rw [show k + 1 + 64 = (k + 64) + 1 by omega]; exact factotumlaw03_lives.mono _ _ ih
end Go.Proofs.YtekaeddagaejiaaDoor.XR

namespace Go.Proofs.YtekaeddagaejiaaDoor.Pure
open Go.RowKit Go.Proofs.YtekaeddagaejiaaDoor.PAll Go.Proofs.YtekaeddagaejiaaDoor.XP Go.Proofs.YtekaeddagaejiaaDoor.XV Go.Proofs.YtekaeddagaejiaaDoor.XR
theorem unE_len (l : List UInt8) : (unE l).1.length ≤ 4 := by
  unfold unE unEnd
  split
  · split
    · rename_i h
      exact (right_len h).2
    · simp
  · simp
theorem RowsSchemas (s : XA.S24) (t : ByteArray) (_ : XA.in24 s) (hb : XA.wt24 s + (t.size + 1) ≤ 1048576) :
    ∃ k, factotumlaw03_RowsSchemas.f k s.f0 s.f1 s.f2 t = some true := by
  refine ⟨1000, ?_⟩
  have e1 := p_un t.data.toList (k := 1000) (by omega)
  rw [← of_B] at e1
  have e2 := r_un t (by omega) (k := 1000) (by omega)
  have hl := unE_len t.data.toList
  unfold factotumlaw03_RowsSchemas.f
  rw [lives03 936, Option.bind_some, if_pos rfl, p_schema _ _ _ (by omega), r_schema _ _ _ (by omega), e1, e2]
  simp only [Option.bind_some]
  cases hr : rightS s.f0 s.f1 s.f2 with
  | false =>
    simp only [Bool.false_eq_true, if_false, Option.bind_some]
    obtain ⟨z, hz⟩ : ∃ z, rows_Unschema.f 1000 (B []) = some z := ⟨_, p_un [] (by omega)⟩
    rw [hz, Option.bind_some]
    rw [if_pos trivial, if_pos trivial, if_pos trivial, same_sch _ _ _ (by omega) (by omega), Option.bind_some, if_pos rfl, if_neg (by decide)]
  | true =>
    have hl2 := right_len hr
    simp only [if_true, Option.bind_some]
    rw [p_un _ (by omega), un_sch _ _ _ hr, Option.bind_some, same_sch _ _ _ (by omega) (by omega), Option.bind_some]
    simp only [if_true]
    rw [same_sch _ _ _ (by omega) (by omega)]; rfl
end Go.Proofs.YtekaeddagaejiaaDoor.Pure
