/- Rows read, by the document's answer. Plain laws over the printed functions. No conditions. -/
import Derived.Test.YtekaeddagaejiaaDoorXRowsRead
namespace Go.Proofs.YtekaeddagaejiaaDoor.XR
open Go.RowKit Go.Proofs.YtekaeddagaejiaaDoor.XW Go.Proofs.YtekaeddagaejiaaDoor.XLib Go.Proofs.YtekaeddagaejiaaDoor.PAll Go.Proofs.YtekaeddagaejiaaDoorW.PrintWords Go.Proofs.YtekaeddagaejiaaDoorW.PrintLast Go.Proofs.YtekaeddagaejiaaDoor.XP Go.Proofs.YtekaeddagaejiaaDoor.XV
theorem r_read_go (K : List Int) (u x : Int) (S : ByteArray) (hS : S.size < 140737488355328) (hl : K.length ≤ 4) : ∀ (m i k : Nat) (l : List UInt8) (e : Int) (acc : List S29), i + m = K.length → acc.length ≤ i + 1 → Suf S l →
    factotumref03_Read.l0 (k + m + 24) acc (i : Int) K u x S (pos S l) e = some (endE K u x (colsE (K.drop i) l e acc)) := by
  intro m
  induction m with
  | zero =>
    intro i k l e acc hi ha hs
    rw [show k + 0 + 24 = (k + 23) + 1 by omega]
    generalize hQ : k + 23 = Q
    simp only [factotumref03_Read.l0]
    rw [if_neg (by omega), List.drop_eq_nil_of_le (by omega), rRdone e hS hs, Option.bind_some]
    unfold colsE endE
    by_cases h1 : doneE l e = 0
    · rw [if_pos h1, if_pos h1, r_fits K u x acc (by omega), Option.bind_some]
      by_cases h2 : fitsE K u x acc = 0
      · rw [if_pos h2, if_pos h2]
      · rw [if_neg h2, if_neg h2]
    · rw [if_neg h1, if_neg h1]
  | succ m ih =>
    intro i k l e acc hi ha hs
    have hlt : i < K.length := by omega
    rw [show k + (m + 1) + 24 = (k + m + 24) + 1 by omega]
    generalize hK : k + m + 24 = Q
    simp only [factotumref03_Read.l0]
    subst hK
    rw [if_pos (by omega), if_pos (by omega), rdn K i hlt, nexti i (by omega), List.drop_eq_getElem_cons hlt]
    simp only [colsE]
    by_cases h1 : K[i] = 1
    · rw [if_pos h1, if_pos h1, show (8 : Int) = ((8 : Nat) : Int) from rfl, rRnumk (by omega) e 8 (by omega) hS hs, Option.bind_some, if_pos (by omega)]
      exact ih (i + 1) k _ _ _ (by omega) (by rw [List.length_append, List.length_singleton]; omega) (hs.step (numE_suf l e 8))
    · rw [if_neg h1, if_neg h1, show (10 : Int) = ((10 : Nat) : Int) from rfl, rRstr e 10 hS hs, Option.bind_some, if_pos (by omega)]
      exact ih (i + 1) k _ _ _ (by omega) (by rw [List.length_append, List.length_singleton]; omega) (hs.step (strE_suf l e 10))
theorem r_read (K : List Int) (u x : Int) (key rest : ByteArray) (hs : key.size ≤ 1048576) (hr' : rest.size ≤ 1048576) {k : Nat} (hk : key.size + 64 ≤ k) : factotumref03_Read.f k K u x key rest = some (readE K u x key rest.data.toList) := by
  unfold factotumref03_Read.f readE
  rw [r_right K u x (by omega), Option.bind_some]
  cases hr : rightS K u x with
  | false => rfl
  | true =>
    have hl := right_len hr
    rw [if_pos rfl, if_pos rfl, XK.rread key (by omega), Option.bind_some]
    obtain ⟨q, rfl⟩ : ∃ q, k = q + 1 := ⟨k - 1, by omega⟩
    by_cases h0 : (readL key).2 = 0
    · rw [if_pos h0]
      by_cases h1 : (readL key).1.length = 1
      · have hb : ((((readL key).1.length : Int) != 1) : Bool) = false := by rw [h1]; rfl
        rw [hb, if_pos ⟨h0, h1⟩]
        simp only [factotumref03_Read.j0]
        rw [if_neg (by decide), if_pos (by omega)]
        obtain ⟨v, hv⟩ := List.length_eq_one_iff.1 h1
        rw [hv, show (rd_T29 [v] 0) = v from rfl, show ([(⟨v.f0, v.f1, v.f2⟩ : S29)] : List S29) = [v] from rfl]
        have := r_read_go K u x rest (by omega) (by omega) (K.length - 1) 1 (q - (K.length - 1) - 24) rest.data.toList 0 [v] (by omega) (by simp) (Suf.whole rest)
        rw [show q - (K.length - 1) - 24 + (K.length - 1) + 24 = q by omega, pos_whole] at this
        exact this
      · have hb : ((((readL key).1.length : Int) != 1) : Bool) = true := by rw [bne_iff_ne]; omega
        rw [hb, if_neg (fun h => h1 h.2)]
        simp only [factotumref03_Read.j0]; rfl
    · rw [if_neg h0, if_neg (fun h => h0 h.1)]
      simp only [factotumref03_Read.j0]; rfl
end Go.Proofs.YtekaeddagaejiaaDoor.XR
