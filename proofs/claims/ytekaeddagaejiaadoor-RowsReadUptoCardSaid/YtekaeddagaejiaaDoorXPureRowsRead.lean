/- The plain law of RowsRead: which row any key and rest are. Condition: the bulk's bound. -/
import Derived.Test.YtekaeddagaejiaaDoorXRowsRef
import Derived.Test.YtekaeddagaejiaaDoorXA
namespace Go.Proofs.YtekaeddagaejiaaDoor.XR
open Go.RowKit Go.Proofs.YtekaeddagaejiaaDoor.PAll Go.Proofs.YtekaeddagaejiaaDoor.XP Go.Proofs.YtekaeddagaejiaaDoor.XV
theorem lives03 (k : Nat) : factotumlaw03_lives.f (k + 64) = some true := by
  have h : factotumlaw03_lives.f 64 = some true := by kernel_rfl
  induction k with
  | zero => exact h
  | succ k ih => rw [show k + 1 + 64 = (k + 64) + 1 by omega]; exact factotumlaw03_lives.mono _ _ ih
end Go.Proofs.YtekaeddagaejiaaDoor.XR

namespace Go.Proofs.YtekaeddagaejiaaDoor.Pure
open Go.RowKit Go.Proofs.YtekaeddagaejiaaDoor.PAll Go.Proofs.YtekaeddagaejiaaDoor.XP Go.Proofs.YtekaeddagaejiaaDoor.XV Go.Proofs.YtekaeddagaejiaaDoor.XR
theorem RowsRead (s : XA.S24) (key rest : ByteArray) (_ : XA.in24 s) (hb : XA.wt24 s + (key.size + 1) + (rest.size + 1) ≤ 1048576) :
    ∃ k, factotumlaw03_RowsRead.f k s.f0 s.f1 s.f2 key rest = some true := by
  refine ⟨key.size + 64, ?_⟩
  have e1 := p_read s.f0 s.f1 s.f2 key rest.data.toList (by omega) (k := key.size + 64) (by omega)
  rw [← of_B] at e1
  have hlen : (readE s.f0 s.f1 s.f2 key rest.data.toList).1.length ≤ 4 := by
    unfold readE
    split
    · split
      · unfold endE
        split
        · split
          · rename_i h2
            obtain ⟨hr, hn, _⟩ := fits_ok h2
            have := right_len hr
            simp only; omega
          · simp
        · simp
      · simp
    · simp
  unfold factotumlaw03_RowsRead.f
  rw [lives03 key.size, Option.bind_some, if_pos rfl, e1, r_read _ _ _ key rest (by omega) (by omega) (by omega)]
  simp only [Option.bind_some]
  rw [if_pos trivial, XK.same_refl _ _ (by omega) (by omega)]; rfl
end Go.Proofs.YtekaeddagaejiaaDoor.Pure
