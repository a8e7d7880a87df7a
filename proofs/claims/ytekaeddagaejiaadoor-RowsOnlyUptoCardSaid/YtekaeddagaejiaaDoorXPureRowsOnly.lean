/- The plain law of RowsOnly: what is read is just what is written. Condition: the bulk's bound. -/
import Derived.Test.YtekaeddagaejiaaDoorXRowsRead
import Derived.Test.YtekaeddagaejiaaDoorXA
namespace Go.Proofs.YtekaeddagaejiaaDoor.XR
open Go.RowKit Go.Proofs.YtekaeddagaejiaaDoor.PAll Go.Proofs.YtekaeddagaejiaaDoor.XP Go.Proofs.YtekaeddagaejiaaDoor.XV
theorem lives03 (k : Nat) : factotumlaw03_lives.f (k + 64) = some true := by
  have h : factotumlaw03_lives.f 64 = some true := by kernel_rfl
  induction k with
  | zero => exact h
  | succ k ih => rw [show k + 1 + 64 = (k + 64) + 1 by omega]; exact factotumlaw03_lives.mono _ _ ih
theorem bd_of (r : List S29) (h : (r.map XA.wt29).sum ≤ 1048576) : bd r := by
  induction r with
  | nil => intro v hv; cases hv
  | cons u r ih =>
    rw [List.map_cons, List.sum_cons] at h
    intro v hv
    rcases List.mem_cons.1 hv with rfl | hv
    · unfold XA.wt29 at h; omega
    · exact ih (by omega) v hv
end Go.Proofs.YtekaeddagaejiaaDoor.XR

namespace Go.Proofs.YtekaeddagaejiaaDoor.XR
open Go.RowKit Go.Proofs.YtekaeddagaejiaaDoor.PAll Go.Proofs.YtekaeddagaejiaaDoor.XP Go.Proofs.YtekaeddagaejiaaDoor.XV
theorem readE_cases (K : List Int) (u x : Int) (key : ByteArray) (rest : List UInt8) : ((readE K u x key rest).2 ≠ 0 ∧ (readE K u x key rest).1 = []) ∨
    ((readE K u x key rest).2 = 0 ∧ writeE K u x (readE K u x key rest).1 = (key.data.toList, rest, 0)) := by
  unfold readE
  by_cases hr : rightS K u x = true
  · rw [if_pos hr]
    by_cases h0 : (readL key).2 = 0 ∧ (readL key).1.length = 1
    · rw [if_pos h0]
      unfold endE
      by_cases h1 : doneE (colsE (K.drop 1) rest 0 (readL key).1).2.1 (colsE (K.drop 1) rest 0 (readL key).1).2.2 = 0
      · rw [if_pos h1]
        by_cases h2 : fitsE K u x (colsE (K.drop 1) rest 0 (readL key).1).1 = 0
        · rw [if_pos h2]
          right
          refine ⟨rfl, ?_⟩
          simp only
          have h3 : (colsE (K.drop 1) rest 0 (readL key).1).2.2 = 0 := by
            unfold doneE at h1
            by_cases he : (colsE (K.drop 1) rest 0 (readL key).1).2.2 = 0
            · exact he
            · rw [if_neg he] at h1; exact h1
          have h4 : (colsE (K.drop 1) rest 0 (readL key).1).2.1 = [] := by
            unfold doneE at h1
            rw [if_pos h3] at h1
            by_cases hn : (colsE (K.drop 1) rest 0 (readL key).1).2.1 = []
            · exact hn
            · rw [if_neg hn] at h1; cases h1
          obtain ⟨r, r1, r2, r3⟩ := cols_inv _ _ _ h3
          rw [h4, List.append_nil] at r3
          obtain ⟨w1, w2, w3⟩ := XK.write_read key (readL key).1 (by rw [← h0.1])
          obtain ⟨v, hv⟩ := List.length_eq_one_iff.1 h0.2
          rw [hv] at w1 r1
          unfold writeE
          rw [← hv] at r1
          rw [if_pos h2, r1, hv]
          have e : encL [v] = encV v := by simp [encL]
          rw [e] at w1
          have e2 : rd_T29 ([v] ++ r) 0 = v := rfl
          rw [e2, w1, r3]
          rfl
        · rw [if_neg h2]; left; exact ⟨by decide, rfl⟩
      · rw [if_neg h1]; left; exact ⟨by decide, rfl⟩
    · rw [if_neg h0]; left; exact ⟨by decide, rfl⟩
  · rw [if_neg hr]; left; exact ⟨by decide, rfl⟩
theorem readE_bd (K : List Int) (u x : Int) (key : ByteArray) (rest : List UInt8) : bd (readE K u x key rest).1 := by
  have hnil : bd [] := fun v hv => by cases hv
  unfold readE
  split
  · split
    · rename_i h0
      unfold endE
      split
      · split
        · rename_i h2
          intro v hv
          obtain ⟨hr, hn, ha⟩ := fits_ok h2
          have : ∀ (ks : List Int) (r : List S29), ks.length = r.length → all2 ks r = true → bd r := by
            intro ks
            induction ks with
            | nil => intro r hn _; obtain rfl : r = [] := List.eq_nil_of_length_eq_zero (by simpa using hn.symm); exact hnil
            | cons k ks ih =>
              intro r hn ha
              cases r with
              | nil => exact hnil
              | cons w r =>
                rw [all2_cons, Bool.and_eq_true] at ha
                intro z hz
                rcases List.mem_cons.1 hz with rfl | hz
                · have := ok_parts (fit_ok ha.1).2; omega
                · exact ih r (by simpa using hn) ha.2 z hz
          exact this K _ hn.symm ha v hv
        · exact hnil
      · exact hnil
    · exact hnil
  · exact hnil
end Go.Proofs.YtekaeddagaejiaaDoor.XR
namespace Go.Proofs.YtekaeddagaejiaaDoor.Pure
open Go.RowKit Go.Proofs.YtekaeddagaejiaaDoor.PAll Go.Proofs.YtekaeddagaejiaaDoor.XP Go.Proofs.YtekaeddagaejiaaDoor.XV Go.Proofs.YtekaeddagaejiaaDoor.XR
theorem RowsOnly (s : XA.S24) (key rest : ByteArray) (_ : XA.in24 s) (hb : XA.wt24 s + (key.size + 1) + (rest.size + 1) ≤ 1048576) :
    ∃ k, factotumlaw03_RowsOnly.f k s.f0 s.f1 s.f2 key rest = some true := by
  refine ⟨key.size + 64, ?_⟩
  have e1 := p_read s.f0 s.f1 s.f2 key rest.data.toList (by omega) (k := key.size + 64) (by omega)
  rw [← of_B] at e1
  have hbd := readE_bd s.f0 s.f1 s.f2 key rest.data.toList
  unfold factotumlaw03_RowsOnly.f
  rw [lives03 key.size, Option.bind_some, if_pos rfl, e1, Option.bind_some]
  rcases readE_cases s.f0 s.f1 s.f2 key rest.data.toList with ⟨h1, h2⟩ | ⟨h0, h1⟩
  · rw [if_neg h1, h2]; rfl
  · rw [if_pos h0, p_write _ _ _ _ hbd (by omega), Option.bind_some, h1]
    simp only
    rw [← of_B]
    simp
end Go.Proofs.YtekaeddagaejiaaDoor.Pure
