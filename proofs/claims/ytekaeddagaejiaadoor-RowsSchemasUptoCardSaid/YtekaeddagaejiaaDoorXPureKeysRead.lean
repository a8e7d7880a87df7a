/- The plain law of KeysRead: what keys.Read tells is what the document tells. Condition: the bulk's bound. -/
import Derived.Test.YtekaeddagaejiaaDoorXKeys
namespace Go.Proofs.YtekaeddagaejiaaDoor.XK
open Go.RowKit Go.Proofs.YtekaeddagaejiaaDoor.XW Go.Proofs.YtekaeddagaejiaaDoor.PAll Go.Proofs.YtekaeddagaejiaaDoor.XO Go.Proofs.YtekaeddagaejiaaDoorW.PrintWords Go.Proofs.YtekaeddagaejiaaDoorW.PrintLast
/-- the reader of numbers, on eight bytes -/
theorem knum (s : ByteArray) : pack_Reader_Num.f s 0 8 = some (if 8 ≤ s.size then (beNum (s.data.toList.take 8), s.extract 8 s.size, 0) else (0, s, 2)) := by
  unfold pack_Reader_Num.f pack_wide.f
  rw [show mn (mx 8 1) 8 = 8 from by unfold mn mx; simp, Option.bind_some]
  unfold pack_Reader_take.f
  rw [if_pos rfl]
  by_cases h : 8 ≤ s.size
  · rw [if_neg (by omega), if_pos (by omega), if_pos (by omega), if_pos h]
    simp only [Option.bind_some]
    rw [show (8 : Int).toNat = 8 from rfl, show (s.extract 0 8).data.toList = s.data.toList.take 8 from by rw [Lib.extract_data]; rfl]
  · rw [if_pos (by omega), if_neg h]
    rfl
/-- the two ways to turn the sign back -/
theorem back (n : Int) (h : 0 ≤ n ∧ n < 18446744073709551616) : Go.bits .xor .u64 n 9223372036854775808 = IntKind.u64.wrap (n - 9223372036854775808) := by
  have := turned n
  rw [wraps_u64 n h.1 h.2] at this
  rw [this, wrapu]; omega
theorem kread_go : ∀ (k : Nat) (s : ByteArray) (acc : List S29), s.size < k → acc.length + s.size < 4398046511104 → keys_Read.l0 k s acc = some (rdS (k - 1) s.data.toList acc) := by
  intro k
  induction k with
  | zero => intro s acc h; omega
  | succ k ih =>
    intro s acc hk ha
    simp only [keys_Read.l0]
    cases hd : s.data.toList with
    | nil =>
      rw [if_pos (by rw [Lib.toList_data, hd])]
      cases k <;> rfl
    | cons c r =>
      have hsz : s.size = r.length + 1 := by rw [Lib.size_eq, hd, List.length_cons]
      obtain ⟨k, rfl⟩ : ∃ j, k = j + 1 := ⟨k - 1, by omega⟩
      obtain ⟨_, hc, _⟩ := bt_nat s 0 c r (by rw [List.drop_zero]; exact hd)
      obtain ⟨rs, hrs⟩ : ∃ rs, s.extract 1 s.size = rs := ⟨_, rfl⟩
      have hrd : rs.data.toList = r := by rw [← hrs, Lib.extract_to_end, hd]; rfl
      have hrz : rs.size = r.length := by rw [Lib.size_eq, hrd]
      rw [if_neg (by rw [Lib.toList_data, hd]; exact List.cons_ne_nil _ _), if_pos (by omega), if_pos (by omega), hrs]
      rw [show bt s 0 = (c.toNat : Int) from hc]
      simp only [Nat.add_sub_cancel, rdS]
      by_cases h1 : c = 1
      · rw [if_pos (show (c.toNat : Int) = 1 from (u8_eq c 1 (by omega)).2 h1), if_pos h1]
        unfold pack_From.f pack_Reader_Err.f
        simp only [Option.bind_some]
        rw [knum rs, hrz, hrd]
        by_cases h8 : r.length < 8
        · rw [if_neg (by omega), if_pos h8]; rfl
        · rw [if_pos (by omega), if_neg h8]
          simp only [Option.bind_some]
          have hz : (rs.extract 8 rs.size).size = r.length - 8 := by rw [ByteArray.size_extract]; omega
          rw [if_pos trivial, if_pos (by omega), if_pos (by omega), ← hrz, ih _ _ (by omega) (by rw [List.length_append]; simp; omega), Nat.add_sub_cancel]
          rw [Lib.extract_to_end, hrd, back _ (beNum_bd _)]
      · rw [if_neg (show ¬ (c.toNat : Int) = 1 from fun h => h1 ((u8_eq c 1 (by omega)).1 h)), if_neg h1]
        by_cases h2 : c = 2
        · rw [if_pos (show (c.toNat : Int) = 2 from (u8_eq c 2 (by omega)).2 h2), if_pos h2]
          have hks : keys_text.f rs = some (⟨(textS false r []).1.toArray⟩, ⟨(textS false r []).2.1.toArray⟩, (textS false r []).2.2) := by
            unfold keys_text.f; rw [if_pos (by omega), hrd]
          rw [hks]
          simp only [Option.bind_some]
          obtain ⟨hle, _⟩ := textS_rest r false []
          by_cases he : (textS false r []).2.2 = 0
          · have hz := ba_len (textS false r []).2.1
            rw [if_pos he, if_pos he, if_pos (by omega), ih _ _ (by omega) (by rw [List.length_append]; simp; omega), Nat.add_sub_cancel]
          · rw [if_neg he, if_neg he]
        · rw [if_neg (show ¬ (c.toNat : Int) = 2 from fun h => h2 ((u8_eq c 2 (by omega)).1 h)), if_neg h2]
/-- which tuple bytes are -/
theorem kread (s : ByteArray) (k : Nat) (h : s.size < 4398046511104) (hk : s.size < k) : keys_Read.f k s = some (readL s) := by
  unfold keys_Read.f readL
  rw [kread_go k s [] hk (by simpa using h)]
  exact congrArg some (rdS_fuel _ _ _ _ (by rw [← Lib.size_eq]; omega) (by rw [← Lib.size_eq]; omega))
def sameV (a b : S29) : Bool := !(!(a.f0 == b.f0) || (!(a.f1 == b.f1) || (!(a.f2.toList == b.f2.toList))))
theorem sameV_refl (a : S29) : sameV a a = true := by simp [sameV]
theorem rdS_len : ∀ (k : Nat) (l : List UInt8) (acc : List S29), (rdS k l acc).1.length ≤ acc.length + l.length := by
  intro k
  induction k with
  | zero => intro l acc; simp [rdS]
  | succ k ih =>
    intro l acc
    cases l with
    | nil => simp [rdS]
    | cons x r =>
      simp only [rdS]
      split
      · split
        · simp
        · refine Nat.le_trans (ih _ _) ?_
          simp; omega
      · split
        · split
          · have := textS_rest r false []
            refine Nat.le_trans (ih _ _) ?_
            simp; omega
          · simp
        · simp
end Go.Proofs.YtekaeddagaejiaaDoor.XK
