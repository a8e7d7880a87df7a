/- Printed walks of the functions that the laws reach: each function, what it computes, and that it does. No conditions. -/
import Derived.Test.YtamohmpapdecdaaDoorPAllx0
import Derived.Test.YtamohmpapdecdaaDoorPAllx3
import Derived.Test.YtamohmpapdecdaaDoorPAllx4
import Derived.Test.YtamohmpapdecdaaDoorPAllx5
import Derived.Test.YtamohmpapdecdaaDoorPAllx7
import Derived.Test.YtamohmpapdecdaaDoorPAllx8
namespace Go.Proofs.YtamohmpapdecdaaDoor.PAll
open Go.RowKit Go.Proofs.YtamohmpapdecdaaDoor.XW Go.Proofs.YtamohmpapdecdaaDoor.XLib Go.Proofs.YtamohmpapdecdaaDoorW.PrintWords Go.Proofs.YtamohmpapdecdaaDoorW.PrintLast Go.Proofs.YtamohmpapdecdaaDoorW.PrintMore
attribute [local go_sem] max2_int min2_int max_two min_two max_three min_three max_four min_four   -- for this text's walks alone
set_option linter.unusedVariables false
set_option linter.unusedSimpArgs false

/-! ### factotumref02_Read: function 14 -/
theorem bt_nat (s : ByteArray) (i : Nat) (c : UInt8) (r : List UInt8) (h : s.data.toList.drop i = c :: r) : i < s.size ∧ bt s (i : Int) = (c.toNat : Int) ∧ s.data.toList.drop (i + 1) = r := by
  have hi : i < s.size := by
    rw [Lib.size_eq]
    rcases Nat.lt_or_ge i s.data.toList.length with h2 | h2
    · exact h2
    · rw [List.drop_eq_nil_of_le h2] at h; cases h
  have hi' : i < s.data.toList.length := by rw [← Lib.size_eq]; exact hi
  rw [List.drop_eq_getElem_cons hi'] at h
  injection h with h1 h2
  refine ⟨hi, ?_, h2⟩
  have : i = (i : Int).toNat := by omega
  unfold bt
  rw [dif_pos (by rw [Int.toNat_natCast]; exact hi)]
  simp only [Int.toNat_natCast]
  rw [← h1]; rfl
theorem bi_snoc (l : List UInt8) (c : UInt8) : bi l ++ [(c.toNat : Int)] = bi (l ++ [c]) := by simp [bi]
theorem u8_eq (c : UInt8) (n : Nat) (h : n < 256) : ((c.toNat : Int) = (n : Int)) ↔ c = UInt8.ofNat n := by
  constructor
  · intro h2
    apply UInt8.toNat_inj.1
    rw [UInt8.toNat_ofNat', Nat.mod_eq_of_lt h]; omega
  · rintro rfl; rw [UInt8.toNat_ofNat', Nat.mod_eq_of_lt h]
/-- what the document's text tells: the text, how many bytes it takes, the error -/
def textN (l : List UInt8) : List UInt8 × Nat × Int :=
  ((textS false l []).1, if (textS false l []).2.2 = 0 then l.length - (textS false l []).2.1.length else 0, (textS false l []).2.2)
theorem textS_rest : ∀ (l : List UInt8) (b : Bool) (acc : List UInt8), (textS b l acc).2.1.length ≤ l.length ∧ ((textS b l acc).2.2 = 0 → (textS b l acc).2.1 = l.drop (l.length - (textS b l acc).2.1.length) ∧ (textS b l acc).2.1.length < l.length) := by
  intro l
  induction l with
  | nil => intro b acc; cases b <;> simp [textS]
  | cons c r ih =>
    have key : ∀ b acc, (textS b r acc).2.1.length ≤ (c :: r).length ∧ ((textS b r acc).2.2 = 0 → (textS b r acc).2.1 = (c :: r).drop ((c :: r).length - (textS b r acc).2.1.length) ∧ (textS b r acc).2.1.length < (c :: r).length) := by
      intro b acc
      obtain ⟨h1, h2⟩ := ih b acc
      refine ⟨by rw [List.length_cons]; omega, fun h => ?_⟩
      obtain ⟨h3, h4⟩ := h2 h
      refine ⟨?_, by rw [List.length_cons]; omega⟩
      rw [List.length_cons, show r.length + 1 - (textS b r acc).2.1.length = (r.length - (textS b r acc).2.1.length) + 1 by omega, List.drop_succ_cons]
      exact h3
    intro b acc
    cases b with
    | false =>
      simp only [textS]
      split
      · exact key _ _
      · exact key _ _
    | true =>
      simp only [textS]
      split
      · refine ⟨by simp, fun _ => ⟨?_, by simp⟩⟩
        show r = (c :: r).drop ((c :: r).length - r.length)
        rw [List.length_cons, show r.length + 1 - r.length = 0 + 1 by omega, List.drop_succ_cons]; rfl
      · split
        · exact key _ _
        · refine ⟨by simp, fun h => absurd h (by decide)⟩
theorem textS_err : ∀ (l : List UInt8) (b : Bool) (acc : List UInt8), (textS b l acc).2.2 ≠ 0 → (textS b l acc).1 = [] := by
  intro l
  induction l with
  | nil => intro b acc; cases b <;> simp [textS]
  | cons c r ih =>
    intro b acc
    cases b with
    | false => simp only [textS]; split <;> exact ih _ _
    | true =>
      simp only [textS]
      split
      · intro h; exact absurd rfl h
      · split
        · exact ih _ _
        · intro _; rfl
def outT (s : ByteArray) (T : List UInt8 × List UInt8 × Int) : Option (ByteArray × Int × Int) := some (⟨T.1.toArray⟩, (if T.2.2 = 0 then ((s.size - T.2.1.length : Nat) : Int) else 0), T.2.2)
theorem rtext_go (s : ByteArray) (hs : s.size ≤ 140737488355328) : ∀ (k i : Nat) (acc : List UInt8), i ≤ s.size → s.size - i < k → acc.length ≤ i →
    factotumref02_text.l0 k s (bi acc) (i : Int) = outT s (textS false (s.data.toList.drop i) acc) := by
  intro k
  induction k with
  | zero => intro i acc _ h; omega
  | succ k ih =>
    intro i acc hi hk ha
    simp only [factotumref02_text.l0]
    cases hd : s.data.toList.drop i with
    | nil =>
      have : s.size ≤ i := by
        have := List.length_drop (i := i) (l := s.data.toList)
        rw [hd, ← Lib.size_eq] at this; simp at this; omega
      rw [if_neg (by omega)]; rfl
    | cons c r =>
      obtain ⟨hi1, hc, hr⟩ := bt_nat s i c r hd
      rw [if_pos (by omega), if_pos (by omega), hc]
      have hw : wrap64 ((i : Int) + 1) = ((i + 1 : Nat) : Int) := (IntWalk.wrap64_in _ ⟨by omega, by omega⟩).trans (by omega)
      rw [hw]
      by_cases h0 : c = 0
      · subst h0
        rw [if_pos (show ((UInt8.toNat 0 : Nat) : Int) = 0 from rfl)]
        rw [show textS false (0 :: r) acc = textS true r acc from rfl]
        cases hr2 : r with
        | nil =>
          have : s.size ≤ i + 1 := by
            have := List.length_drop (i := i + 1) (l := s.data.toList)
            rw [hr, hr2, ← Lib.size_eq] at this; simp at this; omega
          rw [if_pos (by omega)]; rfl
        | cons c2 r3 =>
          subst hr2
          obtain ⟨hi2, hc2, hr3⟩ := bt_nat s (i + 1) c2 r3 hr
          rw [if_neg (by omega), if_pos (by omega), if_pos (by omega), hc2]
          have hw2 : wrap64 (((i + 1 : Nat) : Int) + 1) = ((i + 2 : Nat) : Int) := (IntWalk.wrap64_in _ ⟨by omega, by omega⟩).trans (by omega)
          rw [hw2]
          rw [show textS true (c2 :: r3) acc = (if c2 = 1 then (acc, r3, 0) else if c2 = 255 then textS false r3 (acc ++ [0]) else ([], [], 5)) from rfl]
          by_cases h1 : c2 = 1
          · subst h1
            rw [if_pos (show ((UInt8.toNat 1 : Nat) : Int) = 1 from rfl), if_pos rfl, strOf_bi]
            have : r3.length = s.size - (i + 2) := by rw [← hr3, List.length_drop, ← Lib.size_eq]
            rw [show ((i + 2 : Nat) : Int) = ((s.size - r3.length : Nat) : Int) by omega]; rfl
          · have h1' : ¬ ((c2.toNat : Int) = 1) := fun h => h1 ((u8_eq c2 1 (by omega)).1 h)
            rw [if_neg h1', if_neg h1]
            by_cases h2 : c2 = 255
            · subst h2
              rw [if_pos (show ((UInt8.toNat 255 : Nat) : Int) = 255 from rfl), if_pos rfl, if_pos (by rw [bi_len]; omega)]
              rw [show (bi acc ++ [0] : List Int) = bi (acc ++ [0]) from bi_snoc acc 0, ih (i + 2) (acc ++ [0]) (by omega) (by omega) (by simp; omega), hr3]
            · have h2' : ¬ ((c2.toNat : Int) = 255) := fun h => h2 ((u8_eq c2 255 (by omega)).1 h)
              rw [if_neg h2', if_neg h2]; rfl
      · have h0' : ¬ ((c.toNat : Int) = 0) := fun h => h0 ((u8_eq c 0 (by omega)).1 h)
        rw [if_neg h0', if_pos (by rw [bi_len]; omega), bi_snoc, ih (i + 1) (acc ++ [c]) (by omega) (by omega) (by simp; omega), hr]
        rw [show textS false (c :: r) acc = (if c = 0 then textS true r acc else textS false r (acc ++ [c])) from rfl, if_neg h0]
theorem rtext_f (s : ByteArray) (hs : s.size ≤ 140737488355328) : factotumref02_text.f (s.size + 1) s = some (⟨(textN s.data.toList).1.toArray⟩, ((textN s.data.toList).2.1 : Int), (textN s.data.toList).2.2) := by
  unfold factotumref02_text.f
  have := rtext_go s hs (s.size + 1) 0 [] (Nat.zero_le _) (by omega) (by simp)
  rw [show (([] : List Int)) = bi [] from rfl, show (0 : Int) = ((0 : Nat) : Int) from rfl, this]
  unfold textN outT
  rw [List.drop_zero]
  have hz : s.data.toList.length = s.size := (Lib.size_eq s).symm
  simp only [hz]
  split <;> rfl
theorem rnum_go (s s1 : ByteArray) (x1 x2 : Int) (hs : s.size ≤ 140737488355328) : ∀ (k i : Nat), i ≤ s.size → s.size - i < k →
    factotumref01_Reader_Num.l0 k s (beNum (s.data.toList.take i)) (i : Int) s1 x1 x2 = some (beNum s.data.toList, s1, x1, x2) := by
  intro k
  induction k with
  | zero => intro i _ h; omega
  | succ k ih =>
    intro i hi hk
    simp only [factotumref01_Reader_Num.l0]
    by_cases hlt : i < s.size
    · obtain ⟨c, r, hcr⟩ : ∃ c r, s.data.toList.drop i = c :: r := by
        have hi' : i < s.data.toList.length := by rw [← Lib.size_eq]; exact hlt
        exact ⟨_, _, List.drop_eq_getElem_cons hi'⟩
      obtain ⟨_, hc, hr⟩ := bt_nat s i c r hcr
      have hi' : i < s.data.toList.length := by rw [← Lib.size_eq]; exact hlt
      have hcc : s.data.toList[i] = c := by rw [List.drop_eq_getElem_cons hi'] at hcr; injection hcr
      rw [if_pos (by omega), if_pos (by omega), hc, IntWalk.wrap64_in _ ⟨by omega, by omega⟩]
      have hb := beNum_bd (s.data.toList.take i)
      have hn : IntKind.u64.wrap (IntKind.u64.wrap (256 * beNum (s.data.toList.take i)) + IntKind.u64.wrap (c.toNat : Int)) = beNum (s.data.toList.take (i + 1)) := by
        rw [List.take_succ_eq_append_getElem hi', beNum_snoc, hcc]
        have := c.toNat_lt
        unfold beStep
        simp only [IntKind.wrap, IntKind.bits, IntKind.signed]
        simp; omega
      rw [hn]
      exact ih (i + 1) (by omega) (by omega)
    · rw [if_neg (by omega), List.take_of_length_le (by rw [← Lib.size_eq]; omega)]
theorem rnum8 (s : ByteArray) (hs : s.size ≤ 140737488355328) : factotumref01_Reader_Num.f 9 s 0 0 8 = some (if 8 ≤ s.size then (beNum (s.data.toList.take 8), s, 8, 0) else (0, s, 0, 2)) := by
  unfold factotumref01_Reader_Num.f factotumref01_size.f factotumref01_Reader_Raw.f factotumref01_Reader_Left.f
  rw [Option.bind_some, if_pos rfl, Option.bind_some]
  have e8 : mx (mn (mx 8 1) 8) 0 = 8 := by unfold mx mn; simp
  simp only [e8]
  rw [IntWalk.wrap64_in ((s.size : Int) - 0) ⟨by omega, by omega⟩]
  by_cases h : 8 ≤ s.size
  · rw [if_neg (by omega), if_pos h]
    have e1 : wrap64 (0 + 8) = 8 := by simp [wrap64]
    have e2 : wrap64 (8 - 8) = 0 := by simp [wrap64]
    rw [e1, e2, if_pos (by omega), if_pos (by omega), if_pos (by omega), Option.bind_some]
    simp only
    have hz : (s.extract 0 8).size = 8 := by rw [ByteArray.size_extract]; omega
    have := rnum_go (s.extract 0 8) s 8 0 (by omega) 9 0 (by omega) (by omega)
    rw [show (0 : Int).toNat = 0 from rfl, show (8 : Int).toNat = 8 from rfl]
    rw [show (beNum (List.take 0 (s.extract 0 8).data.toList)) = 0 from rfl] at this
    refine this.trans ?_
    rw [show (s.extract 0 8).data.toList = s.data.toList.take 8 from by rw [Lib.extract_data]; rfl]
  · rw [if_pos (by omega), if_neg h, Option.bind_some]
    rfl
/-- which tuple bytes are: the values so far, the bytes to come -/
def rdS : Nat → List UInt8 → List S39 → List S39 × Int
  | 0, _, acc => (acc, 0)
  | _ + 1, [], acc => (acc, 0)
  | k + 1, x :: r, acc =>
    if x = 1 then (if r.length < 8 then ([], 2) else rdS k (r.drop 8) (acc ++ [⟨1, wrap64 (IntKind.u64.wrap (beNum (r.take 8) - 9223372036854775808)), ⟨#[]⟩⟩]))
    else if x = 2 then (if (textS false r []).2.2 = 0 then rdS k (textS false r []).2.1 (acc ++ [⟨2, 0, ⟨(textS false r []).1.toArray⟩⟩]) else ([], (textS false r []).2.2))
    else ([], 5)
theorem rdS_fuel : ∀ (k j : Nat) (l : List UInt8) (acc : List S39), l.length ≤ k → l.length ≤ j → rdS k l acc = rdS j l acc := by
  intro k
  induction k with
  | zero =>
    intro j l acc h _
    obtain rfl : l = [] := List.eq_nil_of_length_eq_zero (by omega)
    cases j <;> rfl
  | succ k ih =>
    intro j l acc h hj
    cases l with
    | nil => cases j <;> rfl
    | cons x r =>
      rw [List.length_cons] at h hj
      cases j with
      | zero => omega
      | succ j =>
        simp only [rdS]
        split
        · split
          · rfl
          · exact ih j _ _ (by rw [List.length_drop]; omega) (by rw [List.length_drop]; omega)
        · split
          · split
            · have := textS_rest r false []
              exact ih j _ _ (by omega) (by omega)
            · rfl
          · rfl
def readL (s : ByteArray) : List S39 × Int := rdS s.size s.data.toList []
def factotumref02_Read.f (a0 : ByteArray) : Option (List S39 × Int) := if a0.size < 4398046511104 then some (readL a0) else none

set_option maxHeartbeats 8000000 in
set_option maxRecDepth 100000 in
theorem factotumref02_Read.calls (a0 : ByteArray) (r1 : List (S39)) (r2 : Int) (w : World) (h : factotumref02_Read.f a0 = some (r1, r2)) :
    Calls Tryd.prog 14 #[.string a0] w fun e w' => ∃ v0_ : Value, e = .returned (.tuple #[v0_, .int .i64 r2]) ∧ Kd.R k39 39 w' w.heap.size (fun _ => True) v0_ r1 ∧ Below w.heap.size w w' := by
  have huV := Tryd.underlying39
  unfold factotumref02_Read.f at h
  split at h
  case isFalse => cases h
  rename_i hs0
  have HR := Aside0.mk (Option.some.inj h)
  clear h
  have HB0 := Aside0.mk (Below.refl w.heap.size w)
  go_enter Tryd.func14, Tryd.ntmps14
  go_wp2
  go_loopw [4, 5] (fun b x wx => ∃ (i : Nat) (acc : List S39), i ≤ a0.size ∧ acc.length ≤ i ∧ x = .int .i64 (i : Int) ∧ Aside0 (Kd.R k39 39 wx w.heap.size (fun _ => True) b acc) ∧ Aside0 (Below w.heap.size w wx) ∧
    Aside0 (rdS a0.size (a0.data.toList.drop i) acc = (r1, r2))) (fun _ x _ => a0.size - (intOf x).toNat)
  case atStart => exact ⟨0, [], Nat.zero_le _, Nat.zero_le _, rfl, ⟨Kd.R_nil _ _ _ _ _⟩, HB0, HR⟩
  case round =>
    obtain ⟨i, acc, hi, ha, rfl, HO, HB, HS⟩ := hrel
    cases hd : a0.data.toList.drop i with
    | nil =>
      have hie : i = a0.size := by
        have := List.length_drop (i := i) (l := a0.data.toList)
        rw [hd, ← Lib.size_eq] at this; simp at this; omega
      have HF : Aside0 ((acc, (0 : Int)) = (r1, r2)) := ⟨by rw [← HS.out, hd]; cases a0.size <;> rfl⟩
      clear hd
      have hf : decide ((i : Int) < (a0.size : Int)) = false := decide_eq_false (by omega)
      go_wp2
      go_ret2
      have e := HF.out
      simp only [Prod.mk.injEq] at e
      obtain ⟨rfl, rfl⟩ := e
      exact ⟨_, rfl, HO.out, HB.out⟩
    | cons c r =>
      obtain ⟨hi1, hc, hr⟩ := bt_nat a0 i c r hd
      have hrl : r.length = a0.size - (i + 1) := by rw [← hr, List.length_drop, ← Lib.size_eq]
      have hw1 : wrap64 ((i : Int) + 1) = ((i + 1 : Nat) : Int) := (IntWalk.wrap64_in _ ⟨by omega, by omega⟩).trans (by omega)
      have hT : decide ((i : Int) < (a0.size : Int)) = true := decide_eq_true (by omega)
      obtain ⟨rs, hrs⟩ : ∃ rs, a0.extract (i + 1) a0.size = rs := ⟨_, rfl⟩
      have hrd : rs.data.toList = r := by rw [← hrs, Lib.extract_to_end, hr]
      have hrz : rs.size = r.length := by rw [Lib.size_eq, hrd]
      have HRS := Aside0.mk hrs
      have HRD := Aside0.mk hrd
      have HD := Aside0.mk hr
      have hx : ∀ h : i < a0.size, ((a0[i]'h).toNat : Int) = (c.toNat : Int) := by
        intro h; rw [← hc, ← bt_at a0 (i : Int) (by rw [Int.toNat_natCast]; exact h)]; simp only [Int.toNat_natCast]
      have HW1 := Aside0.mk hw1
      have q1 : ((i + 1 : Nat) : Int) ≤ (a0.size : Int) := by omega
      have hge : i + 1 ≤ a0.size := by omega
      have hlt9 : a0.size ≤ 140737488355328 := by omega
      by_cases h1 : c = 1
      · have hb1 : ((c.toNat : Int) == 1) = true := by subst h1; rfl
        have HN := Aside0.mk (rnum8 rs (by omega))
        rw [hrz, hrd] at HN
        have HS2 : Aside0 ((if r.length < 8 then ([], 2) else rdS (a0.size - 1) (r.drop 8) (acc ++ [⟨1, wrap64 (IntKind.u64.wrap (beNum (r.take 8) - 9223372036854775808)), ⟨#[]⟩⟩])) = (r1, r2)) := ⟨by
          rw [← HS.out, hd, show a0.size = a0.size - 1 + 1 by omega]; simp only [rdS]; rw [if_pos h1]; rfl⟩
        clear hrs hrd hd hr hc HS
        by_cases h8 : r.length < 8
        · rw [if_neg (by omega)] at HN
          rw [if_pos h8] at HS2
          go_wp2_with (first | (go_at_call 30; rw [HRS.out]; refine (factotumref01_Reader_Num.calls 9 _ _ _ _ _ _ _ _ _ w _ (IsS55.new w _ _ _ _ HB.out) (below_alloc HB.out _) HN.out).mono ?_; rintro e w2 ⟨rfl, hI2, hB2, hK2⟩; have hcc := cellS55_2 hI2.1; have HO2 := Aside0.mk (Kd.R_mono (Kd.R_keep (IsS55.apart (IsS55.new w wr rs 0 0 HB.out) (Kd.R_alloc HO.out _) (by decide)) hK2 (fun _ h => h.2)) (fun _ h => h.1)); have HB2 := Aside0.mk hB2))
          go_ret2
          have e := HS2.out
          simp only [Prod.mk.injEq] at e
          obtain ⟨rfl, rfl⟩ := e
          exact ⟨_, rfl, Kd.R_nil _ _ _ _ _, hB2⟩
        · rw [if_pos (by omega)] at HN
          rw [if_neg h8] at HS2
          have hacc : acc.length < 4398046511104 := by omega
          have hw9 : wrap64 ((i : Int) + 9) = ((i + 9 : Nat) : Int) := (IntWalk.wrap64_in _ ⟨by omega, by omega⟩).trans (by omega)
          go_wp2_with (first | (go_at_call 30; rw [HRS.out]; refine (factotumref01_Reader_Num.calls 9 _ _ _ _ _ _ _ _ _ w _ (IsS55.new w _ _ _ _ HB.out) (below_alloc HB.out _) HN.out).mono ?_; rintro e w2 ⟨rfl, hI2, hB2, hK2⟩; have hcc := cellS55_2 hI2.1; have HO2 := Aside0.mk (Kd.R_mono (Kd.R_keep (IsS55.apart (IsS55.new w wr rs 0 0 HB.out) (Kd.R_alloc HO.out _) (by decide)) hK2 (fun _ h => h.2)) (fun _ h => h.1)); have HB2 := Aside0.mk hB2) | ((with_reducible refine gate_builtin (b := .append) (xs := #[.tmp 33, .tmp 38]) rfl ?_); at_builtin; refine Kd.R_append k39 (w0 := w) w.heap.size rfl (.tmp 33) (.tmp 38) 22 39 (.agg #[(.int .i64 0), (.int .i64 0), (.string ⟨#[]⟩)]) 32 rfl Tryd.underlying22 info39 rfl (by decide) (by omega) u4 acc (⟨1, wrap64 (IntKind.u64.wrap (beNum (r.take 8) - 9223372036854775808)), ⟨#[]⟩⟩ : S39) [.int .i64 1, .int .i64 (wrap64 (IntKind.u64.wrap (beNum (r.take 8) - 9223372036854775808))), .string ⟨#[]⟩] (fun _ => True) (fun _ => False) rfl rfl (k39_mkM _ _ _ (⟨1, wrap64 (IntKind.u64.wrap (beNum (r.take 8) - 9223372036854775808)), ⟨#[]⟩⟩ : S39)) (fun _ hk => hk.elim) (fun _ _ => trivial) (by (with_reducible repeat (first | apply Kd.R_alloc | apply Kd.R_drewN | apply Kd.R_drew)); exact HO2.out) (by repeat (first | exact HB2.out | apply below_alloc | apply pw_below_drewN | apply below_drew1)) (below_size (by repeat (first | exact HB2.out | apply below_alloc | apply pw_below_drewN | apply below_drew1))) (by omega) ?_; intro v3 w3 ho3 hb3 _ _))
          go_roundw
          case rel => exact ⟨i + 9, acc ++ [⟨1, wrap64 (IntKind.u64.wrap (beNum (r.take 8) - 9223372036854775808)), ⟨#[]⟩⟩], by omega, by rw [List.length_append]; simp; omega, by rw [show ((i : Int) + 9) = ((i + 9 : Nat) : Int) by omega], ⟨ho3⟩, ⟨hb3⟩, ⟨by
            rw [← HS2.out, ← HD.out, List.drop_drop]; exact rdS_fuel _ _ _ _ (by rw [List.length_drop, ← Lib.size_eq]; omega) (by rw [List.length_drop, ← Lib.size_eq]; omega)⟩⟩
          case measure => simp only [intOf]; omega
      · have hb1 : ((c.toNat : Int) == 1) = false := beq_eq_false_iff_ne.2 (fun h => h1 ((u8_eq c 1 (by omega)).1 h))
        by_cases h2 : c = 2
        · have hb2 : ((c.toNat : Int) == 2) = true := by subst h2; rfl
          have HN := Aside0.mk (rtext_f rs (by omega))
          rw [hrd] at HN
          have HS2 : Aside0 ((if (textS false r []).2.2 = 0 then rdS (a0.size - 1) (textS false r []).2.1 (acc ++ [⟨2, 0, ⟨(textS false r []).1.toArray⟩⟩]) else ([], (textS false r []).2.2)) = (r1, r2)) := ⟨by
            rw [← HS.out, hd, show a0.size = a0.size - 1 + 1 by omega]; simp only [rdS]; rw [if_neg h1, if_pos h2]; rfl⟩
          obtain ⟨hle, hsuf⟩ := textS_rest r false []
          clear hrs hrd hd hr hc HS
          by_cases he : (textS false r []).2.2 = 0
          · rw [if_pos he] at HS2
            obtain ⟨hs1, hs2⟩ := hsuf he
            have hN2 : (textN r).2.1 = r.length - (textS false r []).2.1.length := if_pos he
            have hN3 : (textN r).2.2 = 0 := he
            rw [show (textN r).1 = (textS false r []).1 from rfl, hN2, hN3] at HN
            obtain ⟨n, hn⟩ : ∃ n, r.length - (textS false r []).2.1.length = n := ⟨_, rfl⟩
            rw [hn] at HN hs1
            have hacc : acc.length < 4398046511104 := by omega
            have HSF := Aside0.mk hs1
            clear hs1 he hN2 hN3
            go_wp2_with (first | (go_at_call 31; rw [HRS.out]; refine (factotumref02_text.calls (rs.size + 1) rs _ _ _ _ HN.out).mono ?_; rintro e w2 ⟨rfl, hb2⟩; have HO2 := Aside0.mk (Kd.R_below HO.out hb2); have HB2 := Aside0.mk (below_step HB.out hb2)) | ((with_reducible refine gate_builtin (b := .append) (xs := #[.tmp 56, .tmp 59]) rfl ?_); at_builtin; refine Kd.R_append k39 (w0 := w) w.heap.size rfl (.tmp 56) (.tmp 59) 22 39 (.agg #[(.int .i64 0), (.int .i64 0), (.string ⟨#[]⟩)]) 32 rfl Tryd.underlying22 info39 rfl (by decide) (by omega) u4 acc (⟨2, 0, ⟨(textS false r []).1.toArray⟩⟩ : S39) [.int .i64 2, .int .i64 0, .string ⟨(textS false r []).1.toArray⟩] (fun _ => True) (fun _ => False) rfl rfl (k39_mkM _ _ _ (⟨2, 0, ⟨(textS false r []).1.toArray⟩⟩ : S39)) (fun _ hk => hk.elim) (fun _ _ => trivial) (by (with_reducible repeat (first | apply Kd.R_alloc | apply Kd.R_drewN | apply Kd.R_drew)); exact HO2.out) (by repeat (first | exact HB2.out | apply below_alloc | apply pw_below_drewN | apply below_drew1)) (below_size (by repeat (first | exact HB2.out | apply below_alloc | apply pw_below_drewN | apply below_drew1))) (by omega) ?_; intro v3 w3 ho3 hb3 _ _))
            go_roundw
            case rel => exact ⟨i + (1 + n), acc ++ [⟨2, 0, ⟨(textS false r []).1.toArray⟩⟩], by omega, by rw [List.length_append]; simp; omega, by rw [show ((i : Int) + (1 + (n : Int))) = ((i + (1 + n) : Nat) : Int) by omega], ⟨ho3⟩, ⟨hb3⟩, ⟨by
              rw [← HS2.out]; rw [HSF.out, ← HD.out, List.drop_drop, show i + 1 + n = i + (1 + n) by omega]; exact rdS_fuel _ _ _ _ (by rw [List.length_drop, ← Lib.size_eq]; omega) (by rw [List.length_drop, ← Lib.size_eq]; omega)⟩⟩
            case measure => simp only [intOf]; omega
          · rw [if_neg he] at HS2
            have hN1 : (textN r).1 = (textS false r []).1 := rfl
            obtain ⟨ee, hee⟩ : ∃ ee, (textS false r []).2.2 = ee := ⟨_, rfl⟩
            rw [show (textN r).2.2 = (textS false r []).2.2 from rfl, hee] at HN
            rw [hee] at HS2 he
            have heb : (ee != 0) = true := bne_iff_ne.2 he
            have heb2 : (ee == 0) = false := beq_eq_false_iff_ne.2 he
            clear hsuf hee he hN1
            go_wp2_with (first | (go_at_call 31; rw [HRS.out]; refine (factotumref02_text.calls (rs.size + 1) rs _ _ _ _ HN.out).mono ?_; rintro e w2 ⟨rfl, hb2⟩; have HO2 := Aside0.mk (Kd.R_below HO.out hb2); have HB2 := Aside0.mk (below_step HB.out hb2)))
            go_ret2
            have e := HS2.out
            simp only [Prod.mk.injEq] at e
            obtain ⟨rfl, rfl⟩ := e
            exact ⟨_, rfl, Kd.R_nil _ _ _ _ _, HB2.out⟩
        · have hb2 : ((c.toNat : Int) == 2) = false := beq_eq_false_iff_ne.2 (fun h => h2 ((u8_eq c 2 (by omega)).1 h))
          have HS2 : Aside0 ((([] : List S39), (5 : Int)) = (r1, r2)) := ⟨by
            rw [← HS.out, hd, show a0.size = a0.size - 1 + 1 by omega]; simp only [rdS]; rw [if_neg h1, if_neg h2]⟩
          clear hrs hrd hd hr hc HS
          go_wp2
          go_ret2
          have e := HS2.out
          simp only [Prod.mk.injEq] at e
          obtain ⟨rfl, rfl⟩ := e
          exact ⟨_, rfl, Kd.R_nil _ _ _ _ _, HB.out⟩

/-! ### factotumlaw02_KeysRead: function 4 -/
def factotumlaw02_KeysRead.f (k : Nat) (a0 : ByteArray) : Option (Bool) := (factotumlaw02_lives.f k).bind fun t187 => (if t187 = true then ((keys_Read.f k a0).bind fun bt188 => ((factotumref02_Read.f a0).bind fun bt192 => (if bt188.2 = bt192.2 then ((factotumref02_Same.f k bt188.1 bt192.1).bind fun t196 => (some t196)) else (some false)))) else (some false))
theorem factotumlaw02_KeysRead.mono : ∀ a0 k, LeO (factotumlaw02_KeysRead.f k a0) (factotumlaw02_KeysRead.f (k + 1) a0) := by
  intro a0 k
  unfold factotumlaw02_KeysRead.f
  repeat' first
      | (with_reducible exact factotumlaw02_lives.mono _)
      | (with_reducible exact factotumref02_Same.mono _ _ _)
      | (with_reducible exact keys_Read.mono _ _)
      | (with_reducible exact LeO.refl _)
      | (with_reducible exact LeO.none _)
      | (with_reducible refine LeO.ite ?_ ?_)
      | (with_reducible refine LeO.bind ?_ (fun _ => ?_))
      | exact factotumlaw02_lives.mono _
      | exact factotumref02_Same.mono _ _ _
      | exact keys_Read.mono _ _
      | exact LeO.none _
      | refine LeO.ite ?_ ?_
      | refine LeO.bind ?_ (fun _ => ?_)
set_option maxHeartbeats 8000000 in
set_option maxRecDepth 100000 in
theorem factotumlaw02_KeysRead.calls (k : Nat) (a0 : ByteArray) (r : Bool) (w : World) (h : factotumlaw02_KeysRead.f k a0 = some r) :
    Calls Tryd.prog 4 #[.string a0] w fun e w' => e = .returned (.bool r) ∧ Below w.heap.size w w' := by
  have HB := Aside0.mk (Below.refl w.heap.size w)
  have H : ((factotumlaw02_lives.f k).bind fun t187 => (if t187 = true then ((keys_Read.f k a0).bind fun bt188 => ((factotumref02_Read.f a0).bind fun bt192 => (if bt188.2 = bt192.2 then ((factotumref02_Same.f k bt188.1 bt192.1).bind fun t196 => (some t196)) else (some false)))) else (some false))) = some r := h
  clear h
  replace H := Option.bind_eq_some_iff.mp H
  obtain ⟨t187, A20, H⟩ := H
  replace H : (if t187 = true then ((keys_Read.f k a0).bind fun bt188 => ((factotumref02_Read.f a0).bind fun bt192 => (if bt188.2 = bt192.2 then ((factotumref02_Same.f k bt188.1 bt192.1).bind fun t196 => (some t196)) else (some false)))) else (some false)) = some r := H
  have A2 := Aside0.mk A20
  clear A20
  by_cases c3 : t187 = true
  · subst c3
    have H1 : ((keys_Read.f k a0).bind fun bt188 => ((factotumref02_Read.f a0).bind fun bt192 => (if bt188.2 = bt192.2 then ((factotumref02_Same.f k bt188.1 bt192.1).bind fun t196 => (some t196)) else (some false)))) = some r := by rw [if_pos rfl] at H; exact H
    clear H
    have H := H1
    clear H1
    replace H := Option.bind_eq_some_iff.mp H
    obtain ⟨⟨t188, t189⟩, A40, H⟩ := H
    replace H : ((factotumref02_Read.f a0).bind fun bt192 => (if t189 = bt192.2 then ((factotumref02_Same.f k t188 bt192.1).bind fun t196 => (some t196)) else (some false))) = some r := H
    have A4 := Aside0.mk A40
    clear A40
    replace H := Option.bind_eq_some_iff.mp H
    obtain ⟨⟨t192, t193⟩, A50, H⟩ := H
    replace H : (if t189 = t193 then ((factotumref02_Same.f k t188 t192).bind fun t196 => (some t196)) else (some false)) = some r := H
    have A5 := Aside0.mk A50
    clear A50
    by_cases c6 : t189 = t193
    · rw [if_pos c6] at H
      have c6b0 : (t189 == t193) = true := beq_iff_eq.mpr c6
      have c6b1 : (t189 != t193) = false := bne_eq_false_iff_eq.mpr c6
      clear c6
      replace H := Option.bind_eq_some_iff.mp H
      obtain ⟨t196, A70, H⟩ := H
      replace H : (some t196) = some r := H
      have A7 := Aside0.mk A70
      clear A70
      obtain rfl := Option.some.inj H
      go_enter Tryd.func4, Tryd.ntmps4
      go_wp2_with (first | ((with_reducible refine gate_callee (f := 10) rfl ?_); refine goesL_ (some 7) rfl rfl Tryd.func10 (by kernel_rfl) rfl #[] rfl (by (try simp only [List.map_toArray, List.map_cons, List.map_nil]); first | done | rfl | (simp only [List.length_drop, List.length_take]; rfl)) ?_; (with_reducible refine (factotumlaw02_lives.calls k  true _ A2.out).mono ?_); rintro e w8 ⟨rfl, hb⟩; refine ⟨_, rfl, ?_⟩; have n0_ := Aside0.mk (below_step (by repeat (first | (with_reducible first | exact HB.out | apply below_alloc | apply pw_below_drewN | apply below_drew1) | exact HB.out)) hb); clear HB; have HB := n0_; clear n0_; (try clear hb); (try clear hb2); (try clear hk); (try clear hi)) | ((with_reducible refine gate_callee (f := 13) rfl ?_); refine goesL_ (some 11) rfl rfl Tryd.func13 (by kernel_rfl) rfl #[.string a0] rfl (by (try simp only [List.map_toArray, List.map_cons, List.map_nil]); first | done | rfl | (simp only [List.length_drop, List.length_take]; rfl)) ?_; (with_reducible refine (keys_Read.calls k a0 t188 t189 _ A4.out).mono ?_); rintro e w9 ⟨v190, rfl, ho0, hb⟩; refine ⟨_, rfl, ?_⟩; have n0_ := Aside0.mk (Kd.R_lower ho0 (below_size (by repeat (first | (with_reducible first | exact HB.out | apply below_alloc | apply pw_below_drewN | apply below_drew1) | exact HB.out)))); have n1_ := Aside0.mk (below_step (by repeat (first | (with_reducible first | exact HB.out | apply below_alloc | apply pw_below_drewN | apply below_drew1) | exact HB.out)) hb); clear HB; have HO191 := n0_; have HB := n1_; clear n0_ n1_; (try clear hb); (try clear hb2); (try clear hk); (try clear hi); (try clear ho0)) | ((with_reducible refine gate_callee (f := 14) rfl ?_); refine goesL_ (some 16) rfl rfl Tryd.func14 (by kernel_rfl) rfl #[.string a0] rfl (by (try simp only [List.map_toArray, List.map_cons, List.map_nil]); first | done | rfl | (simp only [List.length_drop, List.length_take]; rfl)) ?_; (with_reducible refine (factotumref02_Read.calls a0 t192 t193 _ A5.out).mono ?_); rintro e w10 ⟨v194, rfl, ho0, hb⟩; refine ⟨_, rfl, ?_⟩; have n0_ := Aside0.mk (Kd.R_elder' (by (with_reducible repeat (first | apply Kd.R_alloc | apply Kd.R_drewN | apply Kd.R_drew)); exact HO191.out) (Kd.R_base ho0) hb); have n1_ := Aside0.mk (Kd.R_lower (Kd.R_new' ho0 (Kd.R_lt (by (with_reducible repeat (first | apply Kd.R_alloc | apply Kd.R_drewN | apply Kd.R_drew)); exact HO191.out))) (below_size (by repeat (first | (with_reducible first | exact HB.out | apply below_alloc | apply pw_below_drewN | apply below_drew1) | exact HB.out)))); have n2_ := Aside0.mk (below_step (by repeat (first | (with_reducible first | exact HB.out | apply below_alloc | apply pw_below_drewN | apply below_drew1) | exact HB.out)) hb); clear HO191; clear HB; have HO191 := n0_; have HO195 := n1_; have HB := n2_; clear n0_ n1_ n2_; (try clear hb); (try clear hb2); (try clear hk); (try clear hi); (try clear ho0); obtain ⟨Ao11, co11, eo11⟩ := Kd.R_slice HO191.out; subst eo11; obtain ⟨Ao12, co12, eo12⟩ := Kd.R_slice HO195.out; subst eo12) | (go_at_call 15; (with_reducible refine (factotumref02_Same.calls k _ _ t188 _ _ t192 t196 _ ?side1 ?side2 ?side3 ?side4 A7.out).mono ?_); (case side1 => repeat (first | exact (Kd.R_reads' HO191.out).2.2 | (with_reducible refine Kd.C_alloc ?_ _) | (with_reducible refine Kd.C_drewN ?_ _) | (with_reducible refine Kd.C_drew ?_))); (case side2 => exact (Kd.R_reads' HO191.out).2.1); (case side3 => repeat (first | exact (Kd.R_reads' HO195.out).2.2 | (with_reducible refine Kd.C_alloc ?_ _) | (with_reducible refine Kd.C_drewN ?_ _) | (with_reducible refine Kd.C_drew ?_))); (case side4 => exact (Kd.R_reads' HO195.out).2.1); rintro e w' ⟨rfl, ⟨nd, rfl⟩⟩))
      go_ret
      exact ⟨by first | (with_reducible rfl) | (simp only [isEmpty_bne, Bool.not_not] <;> with_reducible rfl) | (simp [errW_none, errW_some] <;> with_reducible rfl) | (simp only [isEmpty_bne, Bool.not_not] <;> rfl) | rfl | (simp [errW_none, errW_some] <;> rfl) | (simp [*, errW_none, errW_some] <;> rfl), by repeat (first | (with_reducible first | exact HB.out | apply below_alloc | apply pw_below_drewN | apply below_drew1) | exact HB.out)⟩
    · rw [if_neg c6] at H
      have c6b0 : (t189 == t193) = false := beq_eq_false_iff_ne.mpr c6
      have c6b1 : (t189 != t193) = true := bne_iff_ne.mpr c6
      obtain rfl := Option.some.inj H
      go_enter Tryd.func4, Tryd.ntmps4
      go_wp2_with (first | ((with_reducible refine gate_callee (f := 10) rfl ?_); refine goesL_ (some 7) rfl rfl Tryd.func10 (by kernel_rfl) rfl #[] rfl (by (try simp only [List.map_toArray, List.map_cons, List.map_nil]); first | done | rfl | (simp only [List.length_drop, List.length_take]; rfl)) ?_; (with_reducible refine (factotumlaw02_lives.calls k  true _ A2.out).mono ?_); rintro e w13 ⟨rfl, hb⟩; refine ⟨_, rfl, ?_⟩; have n0_ := Aside0.mk (below_step (by repeat (first | (with_reducible first | exact HB.out | apply below_alloc | apply pw_below_drewN | apply below_drew1) | exact HB.out)) hb); clear HB; have HB := n0_; clear n0_; (try clear hb); (try clear hb2); (try clear hk); (try clear hi)) | ((with_reducible refine gate_callee (f := 13) rfl ?_); refine goesL_ (some 11) rfl rfl Tryd.func13 (by kernel_rfl) rfl #[.string a0] rfl (by (try simp only [List.map_toArray, List.map_cons, List.map_nil]); first | done | rfl | (simp only [List.length_drop, List.length_take]; rfl)) ?_; (with_reducible refine (keys_Read.calls k a0 t188 t189 _ A4.out).mono ?_); rintro e w14 ⟨v190, rfl, ho0, hb⟩; refine ⟨_, rfl, ?_⟩; have n0_ := Aside0.mk (Kd.R_lower ho0 (below_size (by repeat (first | (with_reducible first | exact HB.out | apply below_alloc | apply pw_below_drewN | apply below_drew1) | exact HB.out)))); have n1_ := Aside0.mk (below_step (by repeat (first | (with_reducible first | exact HB.out | apply below_alloc | apply pw_below_drewN | apply below_drew1) | exact HB.out)) hb); clear HB; have HO191 := n0_; have HB := n1_; clear n0_ n1_; (try clear hb); (try clear hb2); (try clear hk); (try clear hi); (try clear ho0)) | ((with_reducible refine gate_callee (f := 14) rfl ?_); refine goesL_ (some 16) rfl rfl Tryd.func14 (by kernel_rfl) rfl #[.string a0] rfl (by (try simp only [List.map_toArray, List.map_cons, List.map_nil]); first | done | rfl | (simp only [List.length_drop, List.length_take]; rfl)) ?_; (with_reducible refine (factotumref02_Read.calls a0 t192 t193 _ A5.out).mono ?_); rintro e w15 ⟨v194, rfl, ho0, hb⟩; refine ⟨_, rfl, ?_⟩; have n0_ := Aside0.mk (Kd.R_elder' (by (with_reducible repeat (first | apply Kd.R_alloc | apply Kd.R_drewN | apply Kd.R_drew)); exact HO191.out) (Kd.R_base ho0) hb); have n1_ := Aside0.mk (Kd.R_lower (Kd.R_new' ho0 (Kd.R_lt (by (with_reducible repeat (first | apply Kd.R_alloc | apply Kd.R_drewN | apply Kd.R_drew)); exact HO191.out))) (below_size (by repeat (first | (with_reducible first | exact HB.out | apply below_alloc | apply pw_below_drewN | apply below_drew1) | exact HB.out)))); have n2_ := Aside0.mk (below_step (by repeat (first | (with_reducible first | exact HB.out | apply below_alloc | apply pw_below_drewN | apply below_drew1) | exact HB.out)) hb); clear HO191; clear HB; have HO191 := n0_; have HO195 := n1_; have HB := n2_; clear n0_ n1_ n2_; (try clear hb); (try clear hb2); (try clear hk); (try clear hi); (try clear ho0)))
      go_ret
      exact ⟨by first | (with_reducible rfl) | (simp only [isEmpty_bne, Bool.not_not] <;> with_reducible rfl) | (simp [errW_none, errW_some] <;> with_reducible rfl) | (simp only [isEmpty_bne, Bool.not_not] <;> rfl) | rfl | (simp [errW_none, errW_some] <;> rfl) | (simp [*, errW_none, errW_some] <;> rfl), by repeat (first | (with_reducible first | exact HB.out | apply below_alloc | apply pw_below_drewN | apply below_drew1) | exact HB.out)⟩
  · replace c3 := Bool.eq_false_iff.mpr c3
    subst c3
    have H1 : (some false) = some r := by rw [if_neg (show ¬ (false = true) by decide)] at H; exact H
    clear H
    have H := H1
    clear H1
    obtain rfl := Option.some.inj H
    go_enter Tryd.func4, Tryd.ntmps4
    go_wp2_with (first | ((with_reducible refine gate_callee (f := 10) rfl ?_); refine goesL_ (some 7) rfl rfl Tryd.func10 (by kernel_rfl) rfl #[] rfl (by (try simp only [List.map_toArray, List.map_cons, List.map_nil]); first | done | rfl | (simp only [List.length_drop, List.length_take]; rfl)) ?_; (with_reducible refine (factotumlaw02_lives.calls k  false _ A2.out).mono ?_); rintro e w16 ⟨rfl, hb⟩; refine ⟨_, rfl, ?_⟩; have n0_ := Aside0.mk (below_step (by repeat (first | (with_reducible first | exact HB.out | apply below_alloc | apply pw_below_drewN | apply below_drew1) | exact HB.out)) hb); clear HB; have HB := n0_; clear n0_; (try clear hb); (try clear hb2); (try clear hk); (try clear hi)))
    go_ret
    exact ⟨by first | (with_reducible rfl) | (simp only [isEmpty_bne, Bool.not_not] <;> with_reducible rfl) | (simp [errW_none, errW_some] <;> with_reducible rfl) | (simp only [isEmpty_bne, Bool.not_not] <;> rfl) | rfl | (simp [errW_none, errW_some] <;> rfl) | (simp [*, errW_none, errW_some] <;> rfl), by repeat (first | (with_reducible first | exact HB.out | apply below_alloc | apply pw_below_drewN | apply below_drew1) | exact HB.out)⟩

/-- THE ONE PURE STATEMENT of factotumlaw02_KeysRead: yours. -/
def factotumlaw02_KeysRead.Pure : Prop := ∀ (a0 : ByteArray), a0.size ≤ 140737488351232 → ∃ k, factotumlaw02_KeysRead.f k a0 = some true
theorem factotumlaw02_KeysRead.walk (P : factotumlaw02_KeysRead.Pure) (a0 : ByteArray) (w : World) (w0 : a0.size ≤ 140737488351232) :
    Calls Tryd.prog 4 #[.string a0] w fun e w' => e = .returned (.bool true) ∧ Below w.heap.size w w' := by
  obtain ⟨k, h⟩ := P a0 w0
  refine (factotumlaw02_KeysRead.calls k a0 true w h).mono ?_
  rintro e w' ⟨rfl, hd⟩
  exact ⟨rfl, hd⟩

end Go.Proofs.YtamohmpapdecdaaDoor.PAll
