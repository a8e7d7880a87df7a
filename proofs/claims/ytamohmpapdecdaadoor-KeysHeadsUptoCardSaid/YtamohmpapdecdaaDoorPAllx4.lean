/- Printed walks of the functions that the laws reach: each function, what it computes, and that it does. No conditions. -/
import Derived.Test.YtamohmpapdecdaaDoorPAllx0
import Derived.Test.YtamohmpapdecdaaDoorPAllx3
namespace Go.Proofs.YtamohmpapdecdaaDoor.PAll
open Go.RowKit Go.Proofs.YtamohmpapdecdaaDoor.XW Go.Proofs.YtamohmpapdecdaaDoor.XLib Go.Proofs.YtamohmpapdecdaaDoorW.PrintWords Go.Proofs.YtamohmpapdecdaaDoorW.PrintLast Go.Proofs.YtamohmpapdecdaaDoorW.PrintMore
attribute [local go_sem] max2_int min2_int max_two min_two max_three min_three max_four min_four   -- for this text's walks alone
set_option linter.unusedVariables false
set_option linter.unusedSimpArgs false

/-! ### keys_text: function 29 -/
/-- the text that bytes begin with: what it is, what is behind it, the error (the Bool: a 0 was just read) -/
def textS : Bool → List UInt8 → List UInt8 → List UInt8 × List UInt8 × Int
  | _, [], _ => ([], [], 2)
  | false, x :: r, acc => if x = 0 then textS true r acc else textS false r (acc ++ [x])
  | true, c :: r, acc => if c = 1 then (acc, r, 0) else if c = 255 then textS false r (acc ++ [0]) else ([], [], 5)
theorem textS_head : ∀ (a : List UInt8) (r acc : List UInt8), Lib.countByte a 0 = 0 → textS false (a ++ r) acc = textS false r (acc ++ a) := by
  intro a
  induction a with
  | nil => intro r acc _; simp
  | cons x a ih =>
    intro r acc h
    by_cases e : x = 0
    · subst e; simp [Lib.countByte] at h
    · have hb : (x == 0) = false := beq_eq_false_iff_ne.2 e
      simp only [List.cons_append, textS, if_neg e]
      rw [ih _ _ (by simpa [Lib.countByte, List.count_cons, hb] using h)]
      simp
theorem textS_none (a acc : List UInt8) (h : Lib.countByte a 0 = 0) : textS false a acc = ([], [], 2) := by
  have := textS_head a [] acc h
  rw [List.append_nil] at this
  rw [this]; rfl
def strLen : Value → Nat | .string s => s.size | _ => 0
def keys_text.f (a0 : ByteArray) : Option (ByteArray × ByteArray × Int) := if a0.size ≤ 140737488355328 then some (⟨(textS false a0.data.toList []).1.toArray⟩, ⟨(textS false a0.data.toList []).2.1.toArray⟩, (textS false a0.data.toList []).2.2) else none
set_option maxHeartbeats 8000000 in
set_option maxRecDepth 100000 in
theorem keys_text.calls (a0 : ByteArray) (r1 : ByteArray) (r2 : ByteArray) (r3 : Int) (w : World) (h : keys_text.f a0 = some (r1, r2, r3)) :
    Calls Tryd.prog 29 #[.string a0] w fun e w' => e = .returned (.tuple #[.string r1, .string r2, .int .i64 r3]) ∧ Below w.heap.size w w' := by
  unfold keys_text.f at h
  split at h
  case isFalse => cases h
  rename_i hs0
  simp only [Option.some.injEq, Prod.mk.injEq] at h
  obtain ⟨rfl, rfl, rfl⟩ := h
  go_enter Tryd.func29, Tryd.ntmps29
  go_wp2
  have H0 := Lib.hid (Lib.fresh_isBuilder 71 5 w)
  have HB0 := Lib.hid ((Below.refl w.heap.size w).alloc (Nat.le_refl _) (.cells #[.pointer none, .slice none 0 0] 71))
  go_loopw [0] (fun s wx => ∃ (l : ByteArray) (acc : List UInt8), s = .string l ∧ Hid (Lib.IsBuilder 71 5 w.heap.size w.heap.size (Lib.byteCells acc) wx) ∧ Hid (Below w.heap.size w wx) ∧
    Hid (textS false l.data.toList acc = textS false a0.data.toList []) ∧ acc.length + l.size ≤ a0.size) (fun s _ => strLen s)
  case atStart => exact ⟨a0, [], rfl, H0, HB0, Lib.hid rfl, by simp⟩
  case round =>
    obtain ⟨l, acc, rfl, HI, HB, HT, hsz⟩ := hrel
    have hBw : w.heap.size ≤ wr.heap.size := HB.out.size
    have hll : l.data.toList.length = l.size := (Lib.size_eq l).symm
    rcases cut0 l.data.toList with ⟨hix, hc0⟩ | ⟨i, hix, hil, hi0, hsp⟩
    · have hfin : textS false a0.data.toList [] = ([], [], 2) := by rw [← HT.out]; exact textS_none _ _ hc0
      have HIX := Lib.hid hix
      have HF := Lib.hid hfin
      clear hix hfin
      go_wp2_with (go_at_call 41; refine (cut_none Tryd.lays145 l _ HIX.out).mono ?_; rintro e w1 ⟨rfl, rfl⟩)
      go_ret3
      exact ⟨by rw [HF.out]; rfl, HB.out⟩
    · have HIX := Lib.hid hix
      have hi1 : i + 1 ≤ l.size := by omega
      obtain ⟨rs, hrs⟩ : ∃ rs, l.extract (i + 1) l.size = rs := ⟨_, rfl⟩
      have hrl : rs.data.toList = l.data.toList.drop (i + 1) := by rw [← hrs, Lib.extract_to_end]
      have hrn : rs.size = l.size - (i + 1) := by rw [← hrs, ByteArray.size_extract]; omega
      have hT1 : textS false l.data.toList acc = textS true rs.data.toList (acc ++ l.data.toList.take i) := by
        rw [hrl]; conv => lhs; rw [hsp]
        rw [textS_head _ _ _ hi0]; rfl
      have HRS := Lib.hid hrs
      have HT1 := Lib.hid (hT1.symm.trans HT.out)
      clear hix hrs hsp hT1 hrl
      by_cases hr0 : rs.size = 0
      · have he : rs.data.toList = [] := List.eq_nil_of_length_eq_zero (by rw [← Lib.size_eq]; exact hr0)
        have HF : Hid (textS false a0.data.toList [] = ([], [], 2)) := by rw [← HT1.out, he]; exact rfl
        have he1 : (rs.toList == ([] : List UInt8)) = true := by rw [Lib.toList_data, he]; rfl
        have he2 : rs.toList.isEmpty = true := by rw [Lib.toList_data, he]; rfl
        have he3 : rs.toList = [] := by rw [Lib.toList_data, he]
        clear he
        go_wp2_with (go_at_call 41; refine (cut_some Tryd.lays145 l _ i HIX.out hi1 (by omega)).mono ?_; rintro e w1 ⟨rfl, rfl⟩; rw [HRS.out])
        go_ret3
        exact ⟨by rw [HF.out]; rfl, HB.out.drew⟩
      · obtain ⟨c, r2, hcr⟩ : ∃ c r2, rs.data.toList = c :: r2 := by
          cases h : rs.data.toList with
          | nil => exact absurd (by rw [Lib.size_eq, h]; rfl) hr0
          | cons c r2 => exact ⟨c, r2, rfl⟩
        have he2 : rs.toList.isEmpty = false := by rw [Lib.toList_data, hcr]; rfl
        have he1 : (rs.toList == ([] : List UInt8)) = false := by rw [Lib.toList_data, hcr]; rfl
        have he3 : (rs.toList = []) = False := by rw [Lib.toList_data, hcr]; simp
        have q0 : 0 < rs.size := by omega
        have hx : ∀ h : 0 < rs.size, ((rs[0]'h).toNat : Int) = (c.toNat : Int) := by
          intro h
          have h1 : rs[0] = rs.data.toList[0]'(by rw [hcr]; simp) := rfl
          rw [h1]; simp only [hcr, List.getElem_cons_zero]
        have q1 : (1 : Int) ≤ (rs.size : Int) := by omega
        have hr2 : (rs.extract 1 rs.size).data.toList = r2 := by rw [Lib.extract_to_end, hcr]; rfl
        have hn2 : (rs.extract 1 rs.size).size = rs.size - 1 := by rw [ByteArray.size_extract]; omega
        have HR2 := Lib.hid hr2
        have HN2 := Lib.hid hn2
        have hrn' : rs.size ≤ l.size - (i + 1) := by omega
        have hT2 : textS true (c :: r2) (acc ++ l.data.toList.take i) = textS false a0.data.toList [] := by rw [← hcr]; exact HT1.out
        have hcells : Lib.byteCells acc ++ Lib.strCells (l.extract 0 i) = Lib.byteCells (acc ++ l.data.toList.take i) := by
          rw [Lib.strCells_eq, Lib.extract_data, ← Lib.byteCells_append]; rfl
        have HC := Lib.hid hcells
        have HT2 := Lib.hid hT2
        have hlen1 : (acc ++ l.data.toList.take i).length = acc.length + i := by rw [List.length_append, List.length_take, hll]; omega
        have HL1 := Lib.hid hlen1
        clear hr2 hn2 hrn hT2 hcells hlen1 HT1 HT hcr hr0
        by_cases hc1 : c = 1
        · have hb1 : ((c.toNat : Int) == 1) = true := by subst hc1; rfl
          have HF : Hid (textS false a0.data.toList [] = (acc ++ l.data.toList.take i, r2, 0)) := by rw [← HT2.out, hc1]; exact rfl
          clear hc1
          go_wp2_with (go_at_call 41; refine (cut_some Tryd.lays145 l _ i HIX.out hi1 (by omega)).mono ?_; rintro e w1 ⟨rfl, rfl⟩; rw [HRS.out])
          refine (Any.Builder_WriteString { Tryd.lays155 with } Tryd.Builder_Extra_155 w.heap.size w.heap.size _ (l.extract 0 i) wr.drew HI.out (by rw [Lib.byteCells_length, ByteArray.size_extract]; omega) hBw).mono ?_
          rintro e w3 ⟨rfl, h3, hb3⟩
          rw [HC.out] at h3
          have H3 := Lib.hid (Or.inr h3 : Lib.IsBuilder 71 5 w.heap.size w.heap.size _ w3)
          have Hb3 := Lib.hid (HB.out.trans ((Below.refl w.heap.size wr).drew.trans hb3))
          have hBw3 : w.heap.size ≤ w3.heap.size := Hb3.out.size
          clear h3 hb3
          go_wp2_with fail
          refine (Any.Builder_String_any { Tryd.lays155 with } Tryd.Builder_Extra_155 w.heap.size w.heap.size _ w3 H3.out hBw3).mono ?_
          rintro e w5 ⟨rfl, hb5⟩
          have Hb5 := Lib.hid (Hb3.out.trans hb5)
          clear hb5
          go_wp2
          go_ret3
          exact ⟨by rw [HF.out, ← HR2.out]; rfl, Hb5.out⟩
        · have hb1 : ((c.toNat : Int) == 1) = false := by
            apply beq_eq_false_iff_ne.2; intro h; exact hc1 (UInt8.toNat_inj.1 (by exact_mod_cast h))
          by_cases hc2 : c = 255
          · have hb2 : ((c.toNat : Int) == 255) = true := by subst hc2; rfl
            have HF : Hid (textS false r2 (acc ++ l.data.toList.take i ++ [0]) = textS false a0.data.toList []) := by rw [← HT2.out, hc2]; exact rfl
            clear hc1 hc2
            go_wp2_with (go_at_call 41; refine (cut_some Tryd.lays145 l _ i HIX.out hi1 (by omega)).mono ?_; rintro e w1 ⟨rfl, rfl⟩; rw [HRS.out])
            refine (Any.Builder_WriteString { Tryd.lays155 with } Tryd.Builder_Extra_155 w.heap.size w.heap.size _ (l.extract 0 i) wr.drew HI.out (by rw [Lib.byteCells_length, ByteArray.size_extract]; omega) hBw).mono ?_
            rintro e w3 ⟨rfl, h3, hb3⟩
            rw [HC.out] at h3
            have H3 := Lib.hid (Or.inr h3 : Lib.IsBuilder 71 5 w.heap.size w.heap.size _ w3)
            have Hb3 := Lib.hid (HB.out.trans ((Below.refl w.heap.size wr).drew.trans hb3))
            have hBw3 : w.heap.size ≤ w3.heap.size := Hb3.out.size
            clear h3 hb3
            go_wp2_with fail
            refine (Any.Builder_WriteByte (lays167 Tryd.lays155 44 Tryd.func44) (extra167 Tryd.Builder_Extra_155 _) w.heap.size w.heap.size _ 0 w3 H3.out (by rw [Lib.byteCells_length, HL1.out]; omega) hBw3).mono ?_
            rintro e w4 ⟨rfl, h4, hb4⟩
            rw [show Lib.byteCells (acc ++ l.data.toList.take i) ++ [Value.int .u8 0] = Lib.byteCells (acc ++ l.data.toList.take i ++ [0]) from by simp [Lib.byteCells]] at h4
            have H4 := Lib.hid (Or.inr h4 : Lib.IsBuilder 71 5 w.heap.size w.heap.size _ w4)
            have Hb4 := Lib.hid (Hb3.out.trans hb4)
            clear h4 hb4
            go_wp2
            go_roundw
            case rel => exact ⟨_, _, rfl, H4, Hb4, Lib.hid (by rw [HR2.out]; exact HF.out), by rw [List.length_append, HL1.out, HN2.out]; simp; omega⟩
            case measure => show (rs.extract 1 rs.size).size < l.size; rw [HN2.out]; omega
          · have hb2 : ((c.toNat : Int) == 255) = false := by
              apply beq_eq_false_iff_ne.2; intro h; exact hc2 (UInt8.toNat_inj.1 (by exact_mod_cast h))
            have HF := Lib.hid (show textS false a0.data.toList [] = ([], [], 5) by rw [← HT2.out]; simp only [textS, if_neg hc1, if_neg hc2])
            clear hc1 hc2
            go_wp2_with (go_at_call 41; refine (cut_some Tryd.lays145 l _ i HIX.out hi1 (by omega)).mono ?_; rintro e w1 ⟨rfl, rfl⟩; rw [HRS.out])
            refine (Any.Builder_WriteString { Tryd.lays155 with } Tryd.Builder_Extra_155 w.heap.size w.heap.size _ (l.extract 0 i) wr.drew HI.out (by rw [Lib.byteCells_length, ByteArray.size_extract]; omega) hBw).mono ?_
            rintro e w3 ⟨rfl, h3, hb3⟩
            rw [HC.out] at h3
            have H3 := Lib.hid (Or.inr h3 : Lib.IsBuilder 71 5 w.heap.size w.heap.size _ w3)
            have Hb3 := Lib.hid (HB.out.trans ((Below.refl w.heap.size wr).drew.trans hb3))
            have hBw3 : w.heap.size ≤ w3.heap.size := Hb3.out.size
            clear h3 hb3
            go_wp2
            go_ret3
            exact ⟨by rw [HF.out]; rfl, Hb3.out⟩

/-! ### keys_Read: function 13 -/
def keys_Read.l0 : Nat → ByteArray → List (S39) → Option ((List (S39)) × Int)
  | 0, _, _ => none
  | k + 1, x0, x4 => if x0.toList = ([] : List UInt8) then (some (x4, 0)) else (if 0 < (x0.size : Int) then (if 1 ≤ (x0.size : Int) then (if (bt x0 0) = 1 then ((pack_From.f (x0.extract 1 x0.size)).bind fun bt110 => ((pack_Reader_Num.f bt110.1 bt110.2 8).bind fun bt113 => ((pack_Reader_Err.f bt113.2.1 bt113.2.2).bind fun bt116 => (if bt116.1 = 0 then (if x4.length < 4398046511104 then (if 8 ≤ ((x0.extract 1 x0.size).size : Int) then (keys_Read.l0 k ((x0.extract 1 x0.size).extract 8 (x0.extract 1 x0.size).size) (x4 ++ [(⟨1, wrap64 (Go.bits .xor .u64 bt113.1 9223372036854775808), (⟨#[]⟩ : ByteArray)⟩ : S39)])) else (none)) else (none)) else (some (([] : List (S39)), 2)))))) else (if (bt x0 0) = 2 then ((keys_text.f (x0.extract 1 x0.size)).bind fun bt122 => (if bt122.2.2 = 0 then (if x4.length < 4398046511104 then (keys_Read.l0 k bt122.2.1 (x4 ++ [(⟨2, 0, bt122.1⟩ : S39)])) else (none)) else (some (([] : List (S39)), bt122.2.2)))) else (some (([] : List (S39)), 5)))) else (none)) else (none))
def keys_Read.f (k : Nat) (a0 : ByteArray) : Option ((List (S39)) × Int) := keys_Read.l0 k a0 ([] : List (S39))
theorem keys_Read.mono_l : ∀ k, (∀ y0 y1, LeO (keys_Read.l0 k y0 y1) (keys_Read.l0 (k + 1) y0 y1))
  | 0 => fun _ _ r h => by simp [keys_Read.l0] at h
  | k + 1 => by
    have ih0 := keys_Read.mono_l k
    · intro y0 y1
      unfold keys_Read.l0
      repeat' first
      | (with_reducible exact ih0 _ _)
      | (with_reducible exact LeO.refl _)
      | (with_reducible exact LeO.none _)
      | (with_reducible refine LeO.ite ?_ ?_)
      | (with_reducible refine LeO.bind ?_ (fun _ => ?_))
      | exact ih0 _ _
      | exact LeO.none _
      | refine LeO.ite ?_ ?_
      | refine LeO.bind ?_ (fun _ => ?_)
theorem keys_Read.mono : ∀ a0 k, LeO (keys_Read.f k a0) (keys_Read.f (k + 1) a0) := by
  intro a0 k
  have ih0 := keys_Read.mono_l k
  unfold keys_Read.f
  repeat' first
      | (with_reducible exact ih0 _ _)
      | (with_reducible exact LeO.refl _)
      | (with_reducible exact LeO.none _)
      | (with_reducible refine LeO.ite ?_ ?_)
      | (with_reducible refine LeO.bind ?_ (fun _ => ?_))
      | exact ih0 _ _
      | exact LeO.none _
      | refine LeO.ite ?_ ?_
      | refine LeO.bind ?_ (fun _ => ?_)
set_option maxHeartbeats 8000000 in
set_option maxRecDepth 100000 in
theorem keys_Read.calls (k : Nat) (a0 : ByteArray) (r1 : List (S39)) (r2 : Int) (w : World) (h : keys_Read.f k a0 = some (r1, r2)) :
    Calls Tryd.prog 13 #[.string a0] w fun e w' => ∃ v0_ : Value, e = .returned (.tuple #[v0_, .int .i64 r2]) ∧ Kd.R k39 39 w' w.heap.size (fun _ => True) v0_ r1 ∧ Below w.heap.size w w' := by
  have hu39 := Tryd.underlying39
  have HB := Aside0.mk (Below.refl w.heap.size w)
  have H : (keys_Read.l0 k a0 ([] : List (S39))) = some (r1, r2) := h
  clear h
  have H' := Aside0.mk H
  clear H
  go_enter Tryd.func13, Tryd.ntmps13
  go_wp2
  go_loopg [0, 4] k (fun kq v0 v4 w' => ∃ (x0_1 : ByteArray) (x4_1 : List (S39)), v0 = .string x0_1 ∧ Aside0 (keys_Read.l0 kq x0_1 x4_1 = some (r1, r2)) ∧ Aside0 (kq ≤ k) ∧ Aside0 (Kd.R k39 39 w' w.heap.size (fun _ => True) v4 x4_1) ∧ Aside0 (Below w.heap.size w w'))
  case atStart => exact ⟨(a0), (([] : List (S39))), (by first | (with_reducible rfl) | (simp; done) | (simp [*]; done) | rfl), H', ⟨Nat.le_refl _⟩, ⟨by first | exact Kd.R_nil _ _ _ _ _ | exact Kd.N_nil _ _ _ _ _ | exact Kd.V_nil _ _ _ _ _ | exact Kd.Q_nil _ _ _ _ _ | exact Kd.S_nil _ _ _ _ _⟩, ⟨by repeat (first | (with_reducible first | exact HB.out | apply below_alloc | apply pw_below_drewN | apply below_drew1) | exact HB.out)⟩⟩
  case round =>
    clear H'
    try clear c1
    obtain ⟨x0_1, x4_1, rfl, HA, HK1, HO_4, HB⟩ := hrel
    cases gk with
    | zero => exact absurd HA.out (by simp [keys_Read.l0])
    | succ k1 =>
      have H := HA.out
      clear HA
      simp only [keys_Read.l0] at H
      by_cases c2 : x0_1.toList = ([] : List UInt8)
      · rw [if_pos c2] at H
        have c2b0 : (x0_1.toList == ([] : List UInt8)) = true := beq_iff_eq.mpr c2
        have c2b1 : (x0_1.toList != ([] : List UInt8)) = false := bne_eq_false_iff_eq.mpr c2
        clear c2
        simp only [Option.some.injEq, Prod.mk.injEq] at H
        obtain ⟨rfl, rfl⟩ := H
        go_wp2
        go_ret2
        exact ⟨_, by first | (with_reducible rfl) | (simp only [isEmpty_bne, Bool.not_not] <;> with_reducible rfl) | (simp [errW_none, errW_some] <;> with_reducible rfl) | (simp only [isEmpty_bne, Bool.not_not] <;> rfl) | rfl | (simp [errW_none, errW_some] <;> rfl) | (simp [*, errW_none, errW_some] <;> rfl), by (with_reducible repeat (first | apply Kd.R_alloc | apply Kd.R_drewN | apply Kd.R_drew)); exact HO_4.out, by repeat (first | (with_reducible first | exact HB.out | apply below_alloc | apply pw_below_drewN | apply below_drew1) | exact HB.out)⟩
      · rw [if_neg c2] at H
        have c2b0 : (x0_1.toList == ([] : List UInt8)) = false := beq_eq_false_iff_ne.mpr c2
        have c2b1 : (x0_1.toList != ([] : List UInt8)) = true := bne_iff_ne.mpr c2
        by_cases c3 : 0 < (x0_1.size : Int)
        · rw [if_pos c3] at H
          have c3b0 : decide (0 < (x0_1.size : Int)) = true := decide_eq_true c3
          have c3b1 : decide (0 < x0_1.size) = true := decide_eq_true (by omega)
          clear c3
          by_cases c5 : 1 ≤ (x0_1.size : Int)
          · rw [if_pos c5] at H
            have c5b0 := eq_true c5
            have c5b1 : decide (1 ≤ (x0_1.size : Int)) = true := decide_eq_true c5
            clear c5
            by_cases c6 : (bt x0_1 0) = 1
            · rw [if_pos c6] at H
              have c6b0 : ((bt x0_1 0) == 1) = true := beq_iff_eq.mpr c6
              have c6b1 : ((bt x0_1 0) != 1) = false := bne_eq_false_iff_eq.mpr c6
              clear c6
              replace H := Option.bind_eq_some_iff.mp H
              obtain ⟨⟨t110, t111⟩, A70, H⟩ := H
              replace H : ((pack_Reader_Num.f t110 t111 8).bind fun bt113 => ((pack_Reader_Err.f bt113.2.1 bt113.2.2).bind fun bt116 => (if bt116.1 = 0 then (if x4_1.length < 4398046511104 then (if 8 ≤ ((x0_1.extract 1 x0_1.size).size : Int) then (keys_Read.l0 k1 ((x0_1.extract 1 x0_1.size).extract 8 (x0_1.extract 1 x0_1.size).size) (x4_1 ++ [(⟨1, wrap64 (Go.bits .xor .u64 bt113.1 9223372036854775808), (⟨#[]⟩ : ByteArray)⟩ : S39)])) else (none)) else (none)) else (some (([] : List (S39)), 2))))) = some (r1, r2) := H
              have A7 := Aside0.mk A70
              clear A70
              replace H := Option.bind_eq_some_iff.mp H
              obtain ⟨⟨t113, t114, t115⟩, A80, H⟩ := H
              replace H : ((pack_Reader_Err.f t114 t115).bind fun bt116 => (if bt116.1 = 0 then (if x4_1.length < 4398046511104 then (if 8 ≤ ((x0_1.extract 1 x0_1.size).size : Int) then (keys_Read.l0 k1 ((x0_1.extract 1 x0_1.size).extract 8 (x0_1.extract 1 x0_1.size).size) (x4_1 ++ [(⟨1, wrap64 (Go.bits .xor .u64 t113 9223372036854775808), (⟨#[]⟩ : ByteArray)⟩ : S39)])) else (none)) else (none)) else (some (([] : List (S39)), 2)))) = some (r1, r2) := H
              have A8 := Aside0.mk A80
              clear A80
              replace H := Option.bind_eq_some_iff.mp H
              obtain ⟨⟨t116, t117, t118⟩, A90, H⟩ := H
              replace H : (if t116 = 0 then (if x4_1.length < 4398046511104 then (if 8 ≤ ((x0_1.extract 1 x0_1.size).size : Int) then (keys_Read.l0 k1 ((x0_1.extract 1 x0_1.size).extract 8 (x0_1.extract 1 x0_1.size).size) (x4_1 ++ [(⟨1, wrap64 (Go.bits .xor .u64 t113 9223372036854775808), (⟨#[]⟩ : ByteArray)⟩ : S39)])) else (none)) else (none)) else (some (([] : List (S39)), 2))) = some (r1, r2) := H
              have A9 := Aside0.mk A90
              clear A90
              by_cases c10 : t116 = 0
              · rw [if_pos c10] at H
                have c10b0 : (t116 == 0) = true := beq_iff_eq.mpr c10
                have c10b1 : (t116 != 0) = false := bne_eq_false_iff_eq.mpr c10
                clear c10
                by_cases c11 : x4_1.length < 4398046511104
                · rw [if_pos c11] at H
                  have LMc11 := Aside0.mk c11
                  clear c11
                  obtain ⟨y119, hy119⟩ : ∃ y_ : List (S39), y_ = (x4_1 ++ [(⟨1, wrap64 (Go.bits .xor .u64 t113 9223372036854775808), (⟨#[]⟩ : ByteArray)⟩ : S39)]) := ⟨_, rfl⟩
                  replace H : (if 8 ≤ ((x0_1.extract 1 x0_1.size).size : Int) then (keys_Read.l0 k1 ((x0_1.extract 1 x0_1.size).extract 8 (x0_1.extract 1 x0_1.size).size) y119) else (none)) = some (r1, r2) := by first | (rw [hy119]; with_reducible exact H) | (have H2_ := (Option.bind_some _ _).symm.trans H; rw [hy119]; with_reducible exact H2_) | (have H2_ := (Option.bind_some _ _).symm.trans H; with_reducible exact H2_) | with_reducible exact H | (rw [hy119]; exact H) | exact H
                  have Ny119 := Aside0.mk hy119
                  clear hy119
                  by_cases c12 : 8 ≤ ((x0_1.extract 1 x0_1.size).size : Int)
                  · rw [if_pos c12] at H
                    have c12b0 := eq_true c12
                    have c12b1 : decide (8 ≤ ((x0_1.extract 1 x0_1.size).size : Int)) = true := decide_eq_true c12
                    (try (have c12x := c12; simp at c12x))
                    clear c12
                    have H' := Aside0.mk H
                    clear H
                    have p4 : 0 ≤ (0 : Int) := (by omega)
                    have q4 : 0 < x0_1.size := (by have : (0 : Int) < (x0_1.size : Int) := of_decide_eq_true (by first | (with_reducible assumption) | assumption); omega)
                    have hx4 : ∀ h : 0 < x0_1.size, ((x0_1[0]'h).toNat : Int) = bt x0_1 0 := bt_at x0_1 0
                    clear p4
                    have qi4 : (0 < (x0_1.size : Int)) = True := eq_true (of_decide_eq_true (by first | (with_reducible assumption) | assumption))
                    replace q4 := eq_true q4
                    go_wp2_with (first | ((with_reducible refine gate_callee (f := 26) rfl ?_); refine goesL_ (some 21) rfl rfl Tryd.func26 (by kernel_rfl) rfl #[.string (x0_1.extract 1 x0_1.size)] rfl (by (try simp only [List.map_toArray, List.map_cons, List.map_nil]); first | done | rfl | (simp only [List.length_drop, List.length_take]; rfl)) ?_; (with_reducible refine (pack_From.calls (x0_1.extract 1 x0_1.size) t110 t111 w _ ?side1 A7.out).mono ?_); (case side1 => repeat (first | (with_reducible first | exact HB.out | apply below_alloc | apply pw_below_drewN | apply below_drew1) | exact HB.out)); rintro e w13 ⟨g112, rfl, hi, hb, hb2⟩; refine ⟨_, rfl, ?_⟩; have n0_ := Aside0.mk (Kd.R_below (by (with_reducible repeat (first | apply Kd.R_alloc | apply Kd.R_drewN | apply Kd.R_drew)); exact HO_4.out) hb2); have n1_ := Aside0.mk (hb); have n2_ := Aside0.mk (hi); clear HO_4; clear HB; have HO_4 := n0_; have HB := n1_; have HI112 := n2_; clear n0_ n1_ n2_; (try clear hb); (try clear hb2); (try clear hk); (try clear hi)) | ((with_reducible refine gate_callee (f := 27) rfl ?_); refine goesL_ (some 23) rfl rfl Tryd.func27 (by kernel_rfl) rfl #[.pointer (some ⟨g112, 0, none⟩), .int .i64 8] rfl (by (try simp only [List.map_toArray, List.map_cons, List.map_nil]); first | done | rfl | (simp only [List.length_drop, List.length_take]; rfl)) ?_; (with_reducible refine (pack_Reader_Num.calls g112 t110 t111 8 t113 t114 t115 w _ ?side1 ?side2 A8.out).mono ?_); (case side1 => repeat (first | (with_reducible first | exact HI112.out | apply IsS66.alloc | apply IsS66.drewN | apply IsS66.drew | apply IsS66.set_0 | apply IsS66.set_1) | exact HI112.out)); (case side2 => repeat (first | (with_reducible first | exact HB.out | apply below_alloc | apply pw_below_drewN | apply below_drew1 | refine below_set ?_ (IsS66.ge HI112.out)) | exact HB.out)); rintro e w14 ⟨rfl, hi, hb, hk⟩; refine ⟨_, rfl, ?_⟩; have n0_ := Aside0.mk (Kd.R_mono (Kd.R_keep (IsS66.apart (show IsS66 w _ g112 t110 t111 from by repeat (first | (with_reducible first | exact HI112.out | apply IsS66.alloc | apply IsS66.drewN | apply IsS66.drew | apply IsS66.set_0 | apply IsS66.set_1) | exact HI112.out)) (by (with_reducible repeat (first | apply Kd.R_alloc | apply Kd.R_drewN | apply Kd.R_drew)); exact HO_4.out) (by decide)) hk (fun _ h => h.2)) (fun _ h => h.1)); have n1_ := Aside0.mk (hb); have n2_ := Aside0.mk (hi); clear HO_4; clear HB; clear HI112; have HO_4 := n0_; have HB := n1_; have HI112 := n2_; clear n0_ n1_ n2_; (try clear hb); (try clear hb2); (try clear hk); (try clear hi)) | ((with_reducible refine gate_callee (f := 28) rfl ?_); refine goesL_ (some 25) rfl rfl Tryd.func28 (by kernel_rfl) rfl #[.pointer (some ⟨g112, 0, none⟩)] rfl (by (try simp only [List.map_toArray, List.map_cons, List.map_nil]); first | done | rfl | (simp only [List.length_drop, List.length_take]; rfl)) ?_; (with_reducible refine (pack_Reader_Err.calls g112 t114 t115 t116 t117 t118 w _ ?side1 ?side2 A9.out).mono ?_); (case side1 => repeat (first | (with_reducible first | exact HI112.out | apply IsS66.alloc | apply IsS66.drewN | apply IsS66.drew | apply IsS66.set_0 | apply IsS66.set_1) | exact HI112.out)); (case side2 => repeat (first | (with_reducible first | exact HB.out | apply below_alloc | apply pw_below_drewN | apply below_drew1 | refine below_set ?_ (IsS66.ge HI112.out)) | exact HB.out)); rintro e w15 ⟨rfl, hi, hb, hk⟩; refine ⟨_, rfl, ?_⟩; have n0_ := Aside0.mk (Kd.R_mono (Kd.R_keep (IsS66.apart (show IsS66 w _ g112 t114 t115 from by repeat (first | (with_reducible first | exact HI112.out | apply IsS66.alloc | apply IsS66.drewN | apply IsS66.drew | apply IsS66.set_0 | apply IsS66.set_1) | exact HI112.out)) (by (with_reducible repeat (first | apply Kd.R_alloc | apply Kd.R_drewN | apply Kd.R_drew)); exact HO_4.out) (by decide)) hk (fun _ h => h.2)) (fun _ h => h.1)); have n1_ := Aside0.mk (hb); have n2_ := Aside0.mk (hi); clear HO_4; clear HB; clear HI112; have HO_4 := n0_; have HB := n1_; have HI112 := n2_; clear n0_ n1_ n2_; (try clear hb); (try clear hb2); (try clear hk); (try clear hi)) | ((with_reducible refine gate_builtin (b := .append) (xs := #[.tmp 27, .tmp 32]) rfl ?_); at_builtin; refine Kd.R_append k39 (w0 := w) w.heap.size rfl (.tmp 27) (.tmp 32) 22 39 (.agg #[(.int .i64 0), (.int .i64 0), (.string ⟨#[]⟩)]) 32 rfl Tryd.underlying22 info39 rfl (by decide) (by omega) u4 x4_1 (⟨1, wrap64 (Go.bits .xor .u64 t113 9223372036854775808), (⟨#[]⟩ : ByteArray)⟩ : S39) [.int .i64 1, .int .i64 (wrap64 (Go.bits .xor .u64 t113 9223372036854775808)), .string (⟨#[]⟩ : ByteArray)] (fun _ => True) (fun _ => False) rfl rfl ?aP (fun _ hk => hk.elim) ?aF ?aO ?aB ?aS ?aL ?_; (case aP => exact k39_mkM _ _ _ (⟨1, wrap64 (Go.bits .xor .u64 t113 9223372036854775808), (⟨#[]⟩ : ByteArray)⟩ : S39)); (case aB => exact (by repeat (first | (with_reducible first | exact HB.out | apply below_alloc | apply pw_below_drewN | apply below_drew1 | refine below_set ?_ (IsS66.ge HI112.out)) | exact HB.out))); (case aF => exact (fun _ _ => trivial)); (case aO => exact (by (with_reducible repeat (first | apply Kd.R_alloc | apply Kd.R_drewN | apply Kd.R_drew)); exact HO_4.out)); (case aS => exact (below_size (by repeat (first | (with_reducible first | exact HB.out | apply below_alloc | apply pw_below_drewN | apply below_drew1 | refine below_set ?_ (IsS66.ge HI112.out)) | exact HB.out)))); (case aL => have := LMc11.out; omega); intro v120 w16 ho hb hg hat; rw [← Ny119.out] at ho; have n0_ := Aside0.mk (IsS66.grown (by repeat (first | (with_reducible first | exact HI112.out | apply IsS66.alloc | apply IsS66.drewN | apply IsS66.drew | apply IsS66.set_0 | apply IsS66.set_1) | exact HI112.out)) hg (IsS66.own_ne HI112.out HO_4.out (by decide))); have n1_ := Aside0.mk (hb); have n2_ := Aside0.mk (ho); clear HI112; clear HB; clear HO_4; have HI112 := n0_; have HB := n1_; have HO121 := n2_; clear n0_ n1_ n2_; clear ho hb hg hat))
                    go_roundg k1
                    case measure => have := HK1.out; omega
                    case rel => exact ⟨((x0_1.extract 1 x0_1.size).extract 8 (x0_1.extract 1 x0_1.size).size), (y119), (by first | (with_reducible rfl) | (simp; done) | (simp [*]; done) | rfl), H', ⟨by have := HK1.out; omega⟩, ⟨by (with_reducible repeat (first | apply Kd.R_alloc | apply Kd.R_drewN | apply Kd.R_drew)); exact HO121.out⟩, ⟨by repeat (first | (with_reducible first | exact HB.out | apply below_alloc | apply pw_below_drewN | apply below_drew1 | refine below_set ?_ (IsS66.ge HI112.out)) | exact HB.out)⟩⟩
                  · rw [if_neg c12] at H
                    exact absurd H (by simp)
                · rw [if_neg c11] at H
                  exact absurd H (by simp)
              · rw [if_neg c10] at H
                have c10b0 : (t116 == 0) = false := beq_eq_false_iff_ne.mpr c10
                have c10b1 : (t116 != 0) = true := bne_iff_ne.mpr c10
                simp only [Option.some.injEq, Prod.mk.injEq] at H
                obtain ⟨rfl, rfl⟩ := H
                have p4 : 0 ≤ (0 : Int) := (by omega)
                have q4 : 0 < x0_1.size := (by have : (0 : Int) < (x0_1.size : Int) := of_decide_eq_true (by first | (with_reducible assumption) | assumption); omega)
                have hx4 : ∀ h : 0 < x0_1.size, ((x0_1[0]'h).toNat : Int) = bt x0_1 0 := bt_at x0_1 0
                clear p4
                have qi4 : (0 < (x0_1.size : Int)) = True := eq_true (of_decide_eq_true (by first | (with_reducible assumption) | assumption))
                replace q4 := eq_true q4
                go_wp2_with (first | ((with_reducible refine gate_callee (f := 26) rfl ?_); refine goesL_ (some 21) rfl rfl Tryd.func26 (by kernel_rfl) rfl #[.string (x0_1.extract 1 x0_1.size)] rfl (by (try simp only [List.map_toArray, List.map_cons, List.map_nil]); first | done | rfl | (simp only [List.length_drop, List.length_take]; rfl)) ?_; (with_reducible refine (pack_From.calls (x0_1.extract 1 x0_1.size) t110 t111 w _ ?side1 A7.out).mono ?_); (case side1 => repeat (first | (with_reducible first | exact HB.out | apply below_alloc | apply pw_below_drewN | apply below_drew1) | exact HB.out)); rintro e w17 ⟨g112, rfl, hi, hb, hb2⟩; refine ⟨_, rfl, ?_⟩; have n0_ := Aside0.mk (Kd.R_below (by (with_reducible repeat (first | apply Kd.R_alloc | apply Kd.R_drewN | apply Kd.R_drew)); exact HO_4.out) hb2); have n1_ := Aside0.mk (hb); have n2_ := Aside0.mk (hi); clear HO_4; clear HB; have HO_4 := n0_; have HB := n1_; have HI112 := n2_; clear n0_ n1_ n2_; (try clear hb); (try clear hb2); (try clear hk); (try clear hi)) | ((with_reducible refine gate_callee (f := 27) rfl ?_); refine goesL_ (some 23) rfl rfl Tryd.func27 (by kernel_rfl) rfl #[.pointer (some ⟨g112, 0, none⟩), .int .i64 8] rfl (by (try simp only [List.map_toArray, List.map_cons, List.map_nil]); first | done | rfl | (simp only [List.length_drop, List.length_take]; rfl)) ?_; (with_reducible refine (pack_Reader_Num.calls g112 t110 t111 8 t113 t114 t115 w _ ?side1 ?side2 A8.out).mono ?_); (case side1 => repeat (first | (with_reducible first | exact HI112.out | apply IsS66.alloc | apply IsS66.drewN | apply IsS66.drew | apply IsS66.set_0 | apply IsS66.set_1) | exact HI112.out)); (case side2 => repeat (first | (with_reducible first | exact HB.out | apply below_alloc | apply pw_below_drewN | apply below_drew1 | refine below_set ?_ (IsS66.ge HI112.out)) | exact HB.out)); rintro e w18 ⟨rfl, hi, hb, hk⟩; refine ⟨_, rfl, ?_⟩; have n0_ := Aside0.mk (Kd.R_mono (Kd.R_keep (IsS66.apart (show IsS66 w _ g112 t110 t111 from by repeat (first | (with_reducible first | exact HI112.out | apply IsS66.alloc | apply IsS66.drewN | apply IsS66.drew | apply IsS66.set_0 | apply IsS66.set_1) | exact HI112.out)) (by (with_reducible repeat (first | apply Kd.R_alloc | apply Kd.R_drewN | apply Kd.R_drew)); exact HO_4.out) (by decide)) hk (fun _ h => h.2)) (fun _ h => h.1)); have n1_ := Aside0.mk (hb); have n2_ := Aside0.mk (hi); clear HO_4; clear HB; clear HI112; have HO_4 := n0_; have HB := n1_; have HI112 := n2_; clear n0_ n1_ n2_; (try clear hb); (try clear hb2); (try clear hk); (try clear hi)) | ((with_reducible refine gate_callee (f := 28) rfl ?_); refine goesL_ (some 25) rfl rfl Tryd.func28 (by kernel_rfl) rfl #[.pointer (some ⟨g112, 0, none⟩)] rfl (by (try simp only [List.map_toArray, List.map_cons, List.map_nil]); first | done | rfl | (simp only [List.length_drop, List.length_take]; rfl)) ?_; (with_reducible refine (pack_Reader_Err.calls g112 t114 t115 t116 t117 t118 w _ ?side1 ?side2 A9.out).mono ?_); (case side1 => repeat (first | (with_reducible first | exact HI112.out | apply IsS66.alloc | apply IsS66.drewN | apply IsS66.drew | apply IsS66.set_0 | apply IsS66.set_1) | exact HI112.out)); (case side2 => repeat (first | (with_reducible first | exact HB.out | apply below_alloc | apply pw_below_drewN | apply below_drew1 | refine below_set ?_ (IsS66.ge HI112.out)) | exact HB.out)); rintro e w19 ⟨rfl, hi, hb, hk⟩; refine ⟨_, rfl, ?_⟩; have n0_ := Aside0.mk (Kd.R_mono (Kd.R_keep (IsS66.apart (show IsS66 w _ g112 t114 t115 from by repeat (first | (with_reducible first | exact HI112.out | apply IsS66.alloc | apply IsS66.drewN | apply IsS66.drew | apply IsS66.set_0 | apply IsS66.set_1) | exact HI112.out)) (by (with_reducible repeat (first | apply Kd.R_alloc | apply Kd.R_drewN | apply Kd.R_drew)); exact HO_4.out) (by decide)) hk (fun _ h => h.2)) (fun _ h => h.1)); have n1_ := Aside0.mk (hb); have n2_ := Aside0.mk (hi); clear HO_4; clear HB; clear HI112; have HO_4 := n0_; have HB := n1_; have HI112 := n2_; clear n0_ n1_ n2_; (try clear hb); (try clear hb2); (try clear hk); (try clear hi)))
                go_ret2
                exact ⟨_, by first | (with_reducible rfl) | (simp only [isEmpty_bne, Bool.not_not] <;> with_reducible rfl) | (simp [errW_none, errW_some] <;> with_reducible rfl) | (simp only [isEmpty_bne, Bool.not_not] <;> rfl) | rfl | (simp [errW_none, errW_some] <;> rfl) | (simp [*, errW_none, errW_some] <;> rfl), by first | exact Kd.R_nil _ _ _ _ _ | exact Kd.N_nil _ _ _ _ _ | exact Kd.V_nil _ _ _ _ _ | exact Kd.Q_nil _ _ _ _ _ | exact Kd.S_nil _ _ _ _ _, by repeat (first | (with_reducible first | exact HB.out | apply below_alloc | apply pw_below_drewN | apply below_drew1 | refine below_set ?_ (IsS66.ge HI112.out)) | exact HB.out)⟩
            · rw [if_neg c6] at H
              have c6b0 : ((bt x0_1 0) == 1) = false := beq_eq_false_iff_ne.mpr c6
              have c6b1 : ((bt x0_1 0) != 1) = true := bne_iff_ne.mpr c6
              by_cases c20 : (bt x0_1 0) = 2
              · rw [if_pos c20] at H
                have c20b0 : ((bt x0_1 0) == 2) = true := beq_iff_eq.mpr c20
                have c20b1 : ((bt x0_1 0) != 2) = false := bne_eq_false_iff_eq.mpr c20
                clear c20
                replace H := Option.bind_eq_some_iff.mp H
                obtain ⟨⟨t122, t123, t124⟩, A210, H⟩ := H
                replace H : (if t124 = 0 then (if x4_1.length < 4398046511104 then (keys_Read.l0 k1 t123 (x4_1 ++ [(⟨2, 0, t122⟩ : S39)])) else (none)) else (some (([] : List (S39)), t124))) = some (r1, r2) := H
                have A21 := Aside0.mk A210
                clear A210
                by_cases c22 : t124 = 0
                · rw [if_pos c22] at H
                  have c22b0 : (t124 == 0) = true := beq_iff_eq.mpr c22
                  have c22b1 : (t124 != 0) = false := bne_eq_false_iff_eq.mpr c22
                  clear c22
                  by_cases c23 : x4_1.length < 4398046511104
                  · rw [if_pos c23] at H
                    have LMc23 := Aside0.mk c23
                    clear c23
                    obtain ⟨y125, hy125⟩ : ∃ y_ : List (S39), y_ = (x4_1 ++ [(⟨2, 0, t122⟩ : S39)]) := ⟨_, rfl⟩
                    replace H : (keys_Read.l0 k1 t123 y125) = some (r1, r2) := by first | (rw [hy125]; with_reducible exact H) | (have H2_ := (Option.bind_some _ _).symm.trans H; rw [hy125]; with_reducible exact H2_) | (have H2_ := (Option.bind_some _ _).symm.trans H; with_reducible exact H2_) | with_reducible exact H | (rw [hy125]; exact H) | exact H
                    have Ny125 := Aside0.mk hy125
                    clear hy125
                    have H' := Aside0.mk H
                    clear H
                    have p4 : 0 ≤ (0 : Int) := (by omega)
                    have q4 : 0 < x0_1.size := (by have : (0 : Int) < (x0_1.size : Int) := of_decide_eq_true (by first | (with_reducible assumption) | assumption); omega)
                    have hx4 : ∀ h : 0 < x0_1.size, ((x0_1[0]'h).toNat : Int) = bt x0_1 0 := bt_at x0_1 0
                    clear p4
                    have qi4 : (0 < (x0_1.size : Int)) = True := eq_true (of_decide_eq_true (by first | (with_reducible assumption) | assumption))
                    replace q4 := eq_true q4
                    go_wp2_with (first | ((with_reducible refine gate_callee (f := 29) rfl ?_); refine goesL_ (some 40) rfl rfl Tryd.func29 (by kernel_rfl) rfl #[.string (x0_1.extract 1 x0_1.size)] rfl (by (try simp only [List.map_toArray, List.map_cons, List.map_nil]); first | done | rfl | (simp only [List.length_drop, List.length_take]; rfl)) ?_; (with_reducible refine (keys_text.calls (x0_1.extract 1 x0_1.size) t122 t123 t124 _ A21.out).mono ?_); rintro e w24 ⟨rfl, hb⟩; refine ⟨_, rfl, ?_⟩; have n0_ := Aside0.mk (Kd.R_below (by (with_reducible repeat (first | apply Kd.R_alloc | apply Kd.R_drewN | apply Kd.R_drew)); exact HO_4.out) hb); have n1_ := Aside0.mk (below_step (by repeat (first | (with_reducible first | exact HB.out | apply below_alloc | apply pw_below_drewN | apply below_drew1) | exact HB.out)) hb); clear HO_4; clear HB; have HO_4 := n0_; have HB := n1_; clear n0_ n1_; (try clear hb); (try clear hb2); (try clear hk); (try clear hi)) | ((with_reducible refine gate_builtin (b := .append) (xs := #[.tmp 47, .tmp 50]) rfl ?_); at_builtin; refine Kd.R_append k39 (w0 := w) w.heap.size rfl (.tmp 47) (.tmp 50) 22 39 (.agg #[(.int .i64 0), (.int .i64 0), (.string ⟨#[]⟩)]) 32 rfl Tryd.underlying22 info39 rfl (by decide) (by omega) u4 x4_1 (⟨2, 0, t122⟩ : S39) [.int .i64 2, .int .i64 0, .string t122] (fun _ => True) (fun _ => False) rfl rfl ?aP (fun _ hk => hk.elim) ?aF ?aO ?aB ?aS ?aL ?_; (case aP => exact k39_mkM _ _ _ (⟨2, 0, t122⟩ : S39)); (case aB => exact (by repeat (first | (with_reducible first | exact HB.out | apply below_alloc | apply pw_below_drewN | apply below_drew1) | exact HB.out))); (case aF => exact (fun _ _ => trivial)); (case aO => exact (by (with_reducible repeat (first | apply Kd.R_alloc | apply Kd.R_drewN | apply Kd.R_drew)); exact HO_4.out)); (case aS => exact (below_size (by repeat (first | (with_reducible first | exact HB.out | apply below_alloc | apply pw_below_drewN | apply below_drew1) | exact HB.out)))); (case aL => have := LMc23.out; omega); intro v126 w25 ho hb hg hat; rw [← Ny125.out] at ho; have n0_ := Aside0.mk (hb); have n1_ := Aside0.mk (ho); clear HB; clear HO_4; have HB := n0_; have HO127 := n1_; clear n0_ n1_; clear ho hb hg hat))
                    go_roundg k1
                    case measure => have := HK1.out; omega
                    case rel => exact ⟨(t123), (y125), (by first | (with_reducible rfl) | (simp; done) | (simp [*]; done) | rfl), H', ⟨by have := HK1.out; omega⟩, ⟨by (with_reducible repeat (first | apply Kd.R_alloc | apply Kd.R_drewN | apply Kd.R_drew)); exact HO127.out⟩, ⟨by repeat (first | (with_reducible first | exact HB.out | apply below_alloc | apply pw_below_drewN | apply below_drew1) | exact HB.out)⟩⟩
                  · rw [if_neg c23] at H
                    exact absurd H (by simp)
                · rw [if_neg c22] at H
                  have c22b0 : (t124 == 0) = false := beq_eq_false_iff_ne.mpr c22
                  have c22b1 : (t124 != 0) = true := bne_iff_ne.mpr c22
                  simp only [Option.some.injEq, Prod.mk.injEq] at H
                  obtain ⟨rfl, rfl⟩ := H
                  have p4 : 0 ≤ (0 : Int) := (by omega)
                  have q4 : 0 < x0_1.size := (by have : (0 : Int) < (x0_1.size : Int) := of_decide_eq_true (by first | (with_reducible assumption) | assumption); omega)
                  have hx4 : ∀ h : 0 < x0_1.size, ((x0_1[0]'h).toNat : Int) = bt x0_1 0 := bt_at x0_1 0
                  clear p4
                  have qi4 : (0 < (x0_1.size : Int)) = True := eq_true (of_decide_eq_true (by first | (with_reducible assumption) | assumption))
                  replace q4 := eq_true q4
                  go_wp2_with (first | ((with_reducible refine gate_callee (f := 29) rfl ?_); refine goesL_ (some 40) rfl rfl Tryd.func29 (by kernel_rfl) rfl #[.string (x0_1.extract 1 x0_1.size)] rfl (by (try simp only [List.map_toArray, List.map_cons, List.map_nil]); first | done | rfl | (simp only [List.length_drop, List.length_take]; rfl)) ?_; (with_reducible refine (keys_text.calls (x0_1.extract 1 x0_1.size) t122 t123 t124 _ A21.out).mono ?_); rintro e w26 ⟨rfl, hb⟩; refine ⟨_, rfl, ?_⟩; have n0_ := Aside0.mk (Kd.R_below (by (with_reducible repeat (first | apply Kd.R_alloc | apply Kd.R_drewN | apply Kd.R_drew)); exact HO_4.out) hb); have n1_ := Aside0.mk (below_step (by repeat (first | (with_reducible first | exact HB.out | apply below_alloc | apply pw_below_drewN | apply below_drew1) | exact HB.out)) hb); clear HO_4; clear HB; have HO_4 := n0_; have HB := n1_; clear n0_ n1_; (try clear hb); (try clear hb2); (try clear hk); (try clear hi)))
                  go_ret2
                  exact ⟨_, by first | (with_reducible rfl) | (simp only [isEmpty_bne, Bool.not_not] <;> with_reducible rfl) | (simp [errW_none, errW_some] <;> with_reducible rfl) | (simp only [isEmpty_bne, Bool.not_not] <;> rfl) | rfl | (simp [errW_none, errW_some] <;> rfl) | (simp [*, errW_none, errW_some] <;> rfl), by first | exact Kd.R_nil _ _ _ _ _ | exact Kd.N_nil _ _ _ _ _ | exact Kd.V_nil _ _ _ _ _ | exact Kd.Q_nil _ _ _ _ _ | exact Kd.S_nil _ _ _ _ _, by repeat (first | (with_reducible first | exact HB.out | apply below_alloc | apply pw_below_drewN | apply below_drew1) | exact HB.out)⟩
              · rw [if_neg c20] at H
                have c20b0 : ((bt x0_1 0) == 2) = false := beq_eq_false_iff_ne.mpr c20
                have c20b1 : ((bt x0_1 0) != 2) = true := bne_iff_ne.mpr c20
                simp only [Option.some.injEq, Prod.mk.injEq] at H
                obtain ⟨rfl, rfl⟩ := H
                have p4 : 0 ≤ (0 : Int) := (by omega)
                have q4 : 0 < x0_1.size := (by have : (0 : Int) < (x0_1.size : Int) := of_decide_eq_true (by first | (with_reducible assumption) | assumption); omega)
                have hx4 : ∀ h : 0 < x0_1.size, ((x0_1[0]'h).toNat : Int) = bt x0_1 0 := bt_at x0_1 0
                clear p4
                have qi4 : (0 < (x0_1.size : Int)) = True := eq_true (of_decide_eq_true (by first | (with_reducible assumption) | assumption))
                replace q4 := eq_true q4
                go_wp2
                go_ret2
                exact ⟨_, by first | (with_reducible rfl) | (simp only [isEmpty_bne, Bool.not_not] <;> with_reducible rfl) | (simp [errW_none, errW_some] <;> with_reducible rfl) | (simp only [isEmpty_bne, Bool.not_not] <;> rfl) | rfl | (simp [errW_none, errW_some] <;> rfl) | (simp [*, errW_none, errW_some] <;> rfl), by first | exact Kd.R_nil _ _ _ _ _ | exact Kd.N_nil _ _ _ _ _ | exact Kd.V_nil _ _ _ _ _ | exact Kd.Q_nil _ _ _ _ _ | exact Kd.S_nil _ _ _ _ _, by repeat (first | (with_reducible first | exact HB.out | apply below_alloc | apply pw_below_drewN | apply below_drew1) | exact HB.out)⟩
          · rw [if_neg c5] at H
            exact absurd H (by simp)
        · rw [if_neg c3] at H
          exact absurd H (by simp)

/-! ### factotumlaw02_lives: function 10 -/
def factotumlaw02_lives.f (k : Nat)  : Option (Bool) := (keys_Write.f (([(⟨1, (-1), (⟨#[]⟩ : ByteArray)⟩ : S39), (⟨2, 0, (⟨#[97]⟩ : ByteArray)⟩ : S39)] : List (S39)))).bind fun bt131 => ((keys_Read.f k (⟨#[2, 97, 0, 1]⟩ : ByteArray)).bind fun bt133 => (if bt131.2 = 0 then (if bt131.1.toList = ([1, 127, 255, 255, 255, 255, 255, 255, 255, 2, 97, 0, 1] : List UInt8) then (if bt133.2 = 0 then (if (bt133.1.length : Int) = 1 then (if 0 < (bt133.1.length : Int) then (some (((rd_T39 bt133.1 0).f2).toList == ([97] : List UInt8))) else (none)) else (some false)) else (some false)) else (some false)) else (some false)))
theorem factotumlaw02_lives.mono : ∀ k, LeO (factotumlaw02_lives.f k ) (factotumlaw02_lives.f (k + 1) ) := by
  intro  k
  unfold factotumlaw02_lives.f
  repeat' first
      | (with_reducible exact keys_Read.mono _ _)
      | (with_reducible exact LeO.refl _)
      | (with_reducible exact LeO.none _)
      | (with_reducible refine LeO.ite ?_ ?_)
      | (with_reducible refine LeO.bind ?_ (fun _ => ?_))
      | exact keys_Read.mono _ _
      | exact LeO.none _
      | refine LeO.ite ?_ ?_
      | refine LeO.bind ?_ (fun _ => ?_)
set_option maxHeartbeats 8000000 in
set_option maxRecDepth 100000 in
theorem factotumlaw02_lives.calls (k : Nat)  (r : Bool) (w : World) (h : factotumlaw02_lives.f k  = some r) :
    Calls Tryd.prog 10 #[] w fun e w' => e = .returned (.bool r) ∧ Below w.heap.size w w' := by
  have hu39 := Tryd.underlying39
  have HB := Aside0.mk (Below.refl w.heap.size w)
  have H : ((keys_Write.f (([(⟨1, (-1), (⟨#[]⟩ : ByteArray)⟩ : S39), (⟨2, 0, (⟨#[97]⟩ : ByteArray)⟩ : S39)] : List (S39)))).bind fun bt131 => ((keys_Read.f k (⟨#[2, 97, 0, 1]⟩ : ByteArray)).bind fun bt133 => (if bt131.2 = 0 then (if bt131.1.toList = ([1, 127, 255, 255, 255, 255, 255, 255, 255, 2, 97, 0, 1] : List UInt8) then (if bt133.2 = 0 then (if (bt133.1.length : Int) = 1 then (if 0 < (bt133.1.length : Int) then (some (((rd_T39 bt133.1 0).f2).toList == ([97] : List UInt8))) else (none)) else (some false)) else (some false)) else (some false)) else (some false)))) = some r := h
  clear h
  obtain ⟨y128, hy128⟩ : ∃ y_ : List (S39), y_ = (([(⟨1, (-1), (⟨#[]⟩ : ByteArray)⟩ : S39), (⟨2, 0, (⟨#[97]⟩ : ByteArray)⟩ : S39)] : List (S39))) := ⟨_, rfl⟩
  replace H : ((keys_Write.f y128).bind fun bt131 => ((keys_Read.f k (⟨#[2, 97, 0, 1]⟩ : ByteArray)).bind fun bt133 => (if bt131.2 = 0 then (if bt131.1.toList = ([1, 127, 255, 255, 255, 255, 255, 255, 255, 2, 97, 0, 1] : List UInt8) then (if bt133.2 = 0 then (if (bt133.1.length : Int) = 1 then (if 0 < (bt133.1.length : Int) then (some (((rd_T39 bt133.1 0).f2).toList == ([97] : List UInt8))) else (none)) else (some false)) else (some false)) else (some false)) else (some false)))) = some r := by first | (rw [hy128]; with_reducible exact H) | (have H2_ := (Option.bind_some _ _).symm.trans H; rw [hy128]; with_reducible exact H2_) | (have H2_ := (Option.bind_some _ _).symm.trans H; with_reducible exact H2_) | with_reducible exact H | (rw [hy128]; exact H) | exact H
  have Ny128 := Aside0.mk hy128
  clear hy128
  replace H := Option.bind_eq_some_iff.mp H
  obtain ⟨⟨t131, t132⟩, A10, H⟩ := H
  replace H : ((keys_Read.f k (⟨#[2, 97, 0, 1]⟩ : ByteArray)).bind fun bt133 => (if t132 = 0 then (if t131.toList = ([1, 127, 255, 255, 255, 255, 255, 255, 255, 2, 97, 0, 1] : List UInt8) then (if bt133.2 = 0 then (if (bt133.1.length : Int) = 1 then (if 0 < (bt133.1.length : Int) then (some (((rd_T39 bt133.1 0).f2).toList == ([97] : List UInt8))) else (none)) else (some false)) else (some false)) else (some false)) else (some false))) = some r := H
  have A1 := Aside0.mk A10
  clear A10
  replace H := Option.bind_eq_some_iff.mp H
  obtain ⟨⟨t133, t134⟩, A20, H⟩ := H
  replace H : (if t132 = 0 then (if t131.toList = ([1, 127, 255, 255, 255, 255, 255, 255, 255, 2, 97, 0, 1] : List UInt8) then (if t134 = 0 then (if (t133.length : Int) = 1 then (if 0 < (t133.length : Int) then (some (((rd_T39 t133 0).f2).toList == ([97] : List UInt8))) else (none)) else (some false)) else (some false)) else (some false)) else (some false)) = some r := H
  have A2 := Aside0.mk A20
  clear A20
  by_cases c3 : t132 = 0
  · rw [if_pos c3] at H
    have c3b0 : (t132 == 0) = true := beq_iff_eq.mpr c3
    have c3b1 : (t132 != 0) = false := bne_eq_false_iff_eq.mpr c3
    clear c3
    by_cases c4 : t131.toList = ([1, 127, 255, 255, 255, 255, 255, 255, 255, 2, 97, 0, 1] : List UInt8)
    · rw [if_pos c4] at H
      have c4b0 : (t131.toList == ([1, 127, 255, 255, 255, 255, 255, 255, 255, 2, 97, 0, 1] : List UInt8)) = true := beq_iff_eq.mpr c4
      have c4b1 : (t131.toList != ([1, 127, 255, 255, 255, 255, 255, 255, 255, 2, 97, 0, 1] : List UInt8)) = false := bne_eq_false_iff_eq.mpr c4
      clear c4
      by_cases c5 : t134 = 0
      · rw [if_pos c5] at H
        have c5b0 : (t134 == 0) = true := beq_iff_eq.mpr c5
        have c5b1 : (t134 != 0) = false := bne_eq_false_iff_eq.mpr c5
        clear c5
        by_cases c6 : (t133.length : Int) = 1
        · rw [if_pos c6] at H
          have c6b0 : ((t133.length : Int) == 1) = true := beq_iff_eq.mpr c6
          have c6b1 : ((t133.length : Int) != 1) = false := bne_eq_false_iff_eq.mpr c6
          clear c6
          by_cases c7 : 0 < (t133.length : Int)
          · rw [if_pos c7] at H
            have c7b0 : decide (0 < (t133.length : Int)) = true := decide_eq_true c7
            have c7b1 : decide (0 < t133.length) = true := decide_eq_true (by omega)
            clear c7
            obtain rfl := Option.some.inj H
            go_enter Tryd.func10, Tryd.ntmps10
            go_wp2_with (first | ((with_reducible refine gate_dst (N := 8) rfl ?_); (try (refine gate_guard (by rfl) ?_; dsimp only)); refine Kd.R_lit k39 _ 39 ?hg (N := 8) ?hd (xs := ([(⟨1, (-1), (⟨#[]⟩ : ByteArray)⟩ : S39), (⟨2, 0, (⟨#[97]⟩ : ByteArray)⟩ : S39)] : List (S39))) (inner := [.int .i64 1, .int .i64 (-1), .string (⟨#[]⟩ : ByteArray), .int .i64 2, .int .i64 0, .string (⟨#[97]⟩ : ByteArray)]) (ok := fun _ => True) (okp := fun _ => True) ?hr ?hp (fun _ hk => hk) trivial (Below.refl _ _) (Nat.le_refl _) (by simp) ?_; (case hd => rfl); (case hg => rfl); (case hr => first | (go_simp; done) | (go_simp; rfl)); (case hp => exact (Reps.c3 (show Kd.M k39 _ _ _ (⟨1, (-1), (⟨#[]⟩ : ByteArray)⟩ : S39) [.int .i64 1, .int .i64 (-1), .string (⟨#[]⟩ : ByteArray)] from (k39_mkM _ _ _ (⟨1, (-1), (⟨#[]⟩ : ByteArray)⟩ : S39) )) (Reps.c3 (show Kd.M k39 _ _ _ (⟨2, 0, (⟨#[97]⟩ : ByteArray)⟩ : S39) [.int .i64 2, .int .i64 0, .string (⟨#[97]⟩ : ByteArray)] from (k39_mkM _ _ _ (⟨2, 0, (⟨#[97]⟩ : ByteArray)⟩ : S39) )) (Reps.none _ _)))); intro v129 w8 ho9 hb hg_ hnew_; clear hg_ hnew_; (first | rw [← Ny128.out] at ho9 | (simp only [Int.reduceToNat] at ho9; rw [← Ny128.out] at ho9)); have n0_ := Aside0.mk (Kd.R_lower ho9 (below_size (by repeat (first | (with_reducible first | exact HB.out | apply below_alloc | apply pw_below_drewN | apply below_drew1) | exact HB.out)))); have n1_ := Aside0.mk (below_step (by repeat (first | (with_reducible first | exact HB.out | apply below_alloc | apply pw_below_drewN | apply below_drew1) | exact HB.out)) hb); clear HB; have HO130 := n0_; have HB := n1_; clear n0_ n1_; clear hb ho9; obtain ⟨Ao10, co10, eo10⟩ := Kd.R_slice HO130.out; subst eo10) | ((with_reducible refine gate_callee (f := 11) rfl ?_); refine goesL_ (some 9) rfl rfl Tryd.func11 (by kernel_rfl) rfl #[.slice Ao10 y128.length co10] rfl (by (try simp only [List.map_toArray, List.map_cons, List.map_nil]); first | done | rfl | (simp only [List.length_drop, List.length_take]; rfl)) ?_; (with_reducible refine (keys_Write.calls _ _ y128 t131 t132 _ ?side1 ?side2 A1.out).mono ?_); (case side1 => repeat (first | exact (Kd.R_reads' HO130.out).2.2 | (with_reducible refine Kd.C_alloc ?_ _) | (with_reducible refine Kd.C_drewN ?_ _) | (with_reducible refine Kd.C_drew ?_))); (case side2 => exact (Kd.R_reads' HO130.out).2.1); rintro e w11 ⟨rfl, hb⟩; refine ⟨_, rfl, ?_⟩; have n0_ := Aside0.mk (Kd.R_below (by (with_reducible repeat (first | apply Kd.R_alloc | apply Kd.R_drewN | apply Kd.R_drew)); exact HO130.out) hb); have n1_ := Aside0.mk (below_step (by repeat (first | (with_reducible first | exact HB.out | apply below_alloc | apply pw_below_drewN | apply below_drew1) | exact HB.out)) hb); clear HO130; clear HB; have HO130 := n0_; have HB := n1_; clear n0_ n1_; (try clear hb); (try clear hb2); (try clear hk); (try clear hi)) | ((with_reducible refine gate_callee (f := 13) rfl ?_); refine goesL_ (some 13) rfl rfl Tryd.func13 (by kernel_rfl) rfl #[.string (⟨#[2, 97, 0, 1]⟩ : ByteArray)] rfl (by (try simp only [List.map_toArray, List.map_cons, List.map_nil]); first | done | rfl | (simp only [List.length_drop, List.length_take]; rfl)) ?_; (with_reducible refine (keys_Read.calls k (⟨#[2, 97, 0, 1]⟩ : ByteArray) t133 t134 _ A2.out).mono ?_); rintro e w12 ⟨v135, rfl, ho0, hb⟩; refine ⟨_, rfl, ?_⟩; have n0_ := Aside0.mk (Kd.R_elder' (by (with_reducible repeat (first | apply Kd.R_alloc | apply Kd.R_drewN | apply Kd.R_drew)); exact HO130.out) (Kd.R_base ho0) hb); have n1_ := Aside0.mk (Kd.R_lower (Kd.R_new' ho0 (Kd.R_lt (by (with_reducible repeat (first | apply Kd.R_alloc | apply Kd.R_drewN | apply Kd.R_drew)); exact HO130.out))) (below_size (by repeat (first | (with_reducible first | exact HB.out | apply below_alloc | apply pw_below_drewN | apply below_drew1) | exact HB.out)))); have n2_ := Aside0.mk (below_step (by repeat (first | (with_reducible first | exact HB.out | apply below_alloc | apply pw_below_drewN | apply below_drew1) | exact HB.out)) hb); clear HO130; clear HB; have HO130 := n0_; have HO136 := n1_; have HB := n2_; clear n0_ n1_ n2_; (try clear hb); (try clear hb2); (try clear hk); (try clear hi); (try clear ho0); obtain ⟨Ao13, co13, eo13⟩ := Kd.R_slice HO136.out; subst eo13; have p137 : 0 ≤ (0 : Int) := (by omega); have q137 : 0 < (t133.length : Int) := of_decide_eq_true (by first | (with_reducible assumption) | assumption); obtain ⟨ad137, e137, hx137_0, hx137_1, hx137_2⟩ := at_T39 (Kd.R_reads' HO136.out).2.2 0 p137 q137; cases e137; have qi137 : (0 < t133.length) = True := eq_true (by omega); (try rw [show ((0 : Int)).toNat = 0 from rfl] at hx137_0); (try rw [show 0 * 3 = 0 from rfl] at hx137_0); (try rw [Addr.add_zero'] at hx137_0); (try rw [show ((0 : Int)).toNat = 0 from rfl] at hx137_1); (try rw [show 0 * 3 = 0 from rfl] at hx137_1); (try rw [Addr.add_zero'] at hx137_1); (try rw [show ((0 : Int)).toNat = 0 from rfl] at hx137_2); (try rw [show 0 * 3 = 0 from rfl] at hx137_2); (try rw [Addr.add_zero'] at hx137_2); replace p137 := eq_true p137; replace q137 := eq_true q137))
            go_ret
            exact ⟨by first | (with_reducible rfl) | (simp only [isEmpty_bne, Bool.not_not] <;> with_reducible rfl) | (simp [errW_none, errW_some] <;> with_reducible rfl) | (simp only [isEmpty_bne, Bool.not_not] <;> rfl) | rfl | (simp [errW_none, errW_some] <;> rfl) | (simp [*, errW_none, errW_some] <;> rfl), by repeat (first | (with_reducible first | exact HB.out | apply below_alloc | apply pw_below_drewN | apply below_drew1) | exact HB.out)⟩
          · rw [if_neg c7] at H
            exact absurd H (by simp)
        · rw [if_neg c6] at H
          have c6b0 : ((t133.length : Int) == 1) = false := beq_eq_false_iff_ne.mpr c6
          have c6b1 : ((t133.length : Int) != 1) = true := bne_iff_ne.mpr c6
          obtain rfl := Option.some.inj H
          go_enter Tryd.func10, Tryd.ntmps10
          go_wp2_with (first | ((with_reducible refine gate_dst (N := 8) rfl ?_); (try (refine gate_guard (by rfl) ?_; dsimp only)); refine Kd.R_lit k39 _ 39 ?hg (N := 8) ?hd (xs := ([(⟨1, (-1), (⟨#[]⟩ : ByteArray)⟩ : S39), (⟨2, 0, (⟨#[97]⟩ : ByteArray)⟩ : S39)] : List (S39))) (inner := [.int .i64 1, .int .i64 (-1), .string (⟨#[]⟩ : ByteArray), .int .i64 2, .int .i64 0, .string (⟨#[97]⟩ : ByteArray)]) (ok := fun _ => True) (okp := fun _ => True) ?hr ?hp (fun _ hk => hk) trivial (Below.refl _ _) (Nat.le_refl _) (by simp) ?_; (case hd => rfl); (case hg => rfl); (case hr => first | (go_simp; done) | (go_simp; rfl)); (case hp => exact (Reps.c3 (show Kd.M k39 _ _ _ (⟨1, (-1), (⟨#[]⟩ : ByteArray)⟩ : S39) [.int .i64 1, .int .i64 (-1), .string (⟨#[]⟩ : ByteArray)] from (k39_mkM _ _ _ (⟨1, (-1), (⟨#[]⟩ : ByteArray)⟩ : S39) )) (Reps.c3 (show Kd.M k39 _ _ _ (⟨2, 0, (⟨#[97]⟩ : ByteArray)⟩ : S39) [.int .i64 2, .int .i64 0, .string (⟨#[97]⟩ : ByteArray)] from (k39_mkM _ _ _ (⟨2, 0, (⟨#[97]⟩ : ByteArray)⟩ : S39) )) (Reps.none _ _)))); intro v129 w14 ho15 hb hg_ hnew_; clear hg_ hnew_; (first | rw [← Ny128.out] at ho15 | (simp only [Int.reduceToNat] at ho15; rw [← Ny128.out] at ho15)); have n0_ := Aside0.mk (Kd.R_lower ho15 (below_size (by repeat (first | (with_reducible first | exact HB.out | apply below_alloc | apply pw_below_drewN | apply below_drew1) | exact HB.out)))); have n1_ := Aside0.mk (below_step (by repeat (first | (with_reducible first | exact HB.out | apply below_alloc | apply pw_below_drewN | apply below_drew1) | exact HB.out)) hb); clear HB; have HO130 := n0_; have HB := n1_; clear n0_ n1_; clear hb ho15; obtain ⟨Ao16, co16, eo16⟩ := Kd.R_slice HO130.out; subst eo16) | ((with_reducible refine gate_callee (f := 11) rfl ?_); refine goesL_ (some 9) rfl rfl Tryd.func11 (by kernel_rfl) rfl #[.slice Ao16 y128.length co16] rfl (by (try simp only [List.map_toArray, List.map_cons, List.map_nil]); first | done | rfl | (simp only [List.length_drop, List.length_take]; rfl)) ?_; (with_reducible refine (keys_Write.calls _ _ y128 t131 t132 _ ?side1 ?side2 A1.out).mono ?_); (case side1 => repeat (first | exact (Kd.R_reads' HO130.out).2.2 | (with_reducible refine Kd.C_alloc ?_ _) | (with_reducible refine Kd.C_drewN ?_ _) | (with_reducible refine Kd.C_drew ?_))); (case side2 => exact (Kd.R_reads' HO130.out).2.1); rintro e w17 ⟨rfl, hb⟩; refine ⟨_, rfl, ?_⟩; have n0_ := Aside0.mk (Kd.R_below (by (with_reducible repeat (first | apply Kd.R_alloc | apply Kd.R_drewN | apply Kd.R_drew)); exact HO130.out) hb); have n1_ := Aside0.mk (below_step (by repeat (first | (with_reducible first | exact HB.out | apply below_alloc | apply pw_below_drewN | apply below_drew1) | exact HB.out)) hb); clear HO130; clear HB; have HO130 := n0_; have HB := n1_; clear n0_ n1_; (try clear hb); (try clear hb2); (try clear hk); (try clear hi)) | ((with_reducible refine gate_callee (f := 13) rfl ?_); refine goesL_ (some 13) rfl rfl Tryd.func13 (by kernel_rfl) rfl #[.string (⟨#[2, 97, 0, 1]⟩ : ByteArray)] rfl (by (try simp only [List.map_toArray, List.map_cons, List.map_nil]); first | done | rfl | (simp only [List.length_drop, List.length_take]; rfl)) ?_; (with_reducible refine (keys_Read.calls k (⟨#[2, 97, 0, 1]⟩ : ByteArray) t133 t134 _ A2.out).mono ?_); rintro e w18 ⟨v135, rfl, ho0, hb⟩; refine ⟨_, rfl, ?_⟩; have n0_ := Aside0.mk (Kd.R_elder' (by (with_reducible repeat (first | apply Kd.R_alloc | apply Kd.R_drewN | apply Kd.R_drew)); exact HO130.out) (Kd.R_base ho0) hb); have n1_ := Aside0.mk (Kd.R_lower (Kd.R_new' ho0 (Kd.R_lt (by (with_reducible repeat (first | apply Kd.R_alloc | apply Kd.R_drewN | apply Kd.R_drew)); exact HO130.out))) (below_size (by repeat (first | (with_reducible first | exact HB.out | apply below_alloc | apply pw_below_drewN | apply below_drew1) | exact HB.out)))); have n2_ := Aside0.mk (below_step (by repeat (first | (with_reducible first | exact HB.out | apply below_alloc | apply pw_below_drewN | apply below_drew1) | exact HB.out)) hb); clear HO130; clear HB; have HO130 := n0_; have HO136 := n1_; have HB := n2_; clear n0_ n1_ n2_; (try clear hb); (try clear hb2); (try clear hk); (try clear hi); (try clear ho0); obtain ⟨Ao19, co19, eo19⟩ := Kd.R_slice HO136.out; subst eo19))
          go_ret
          exact ⟨by first | (with_reducible rfl) | (simp only [isEmpty_bne, Bool.not_not] <;> with_reducible rfl) | (simp [errW_none, errW_some] <;> with_reducible rfl) | (simp only [isEmpty_bne, Bool.not_not] <;> rfl) | rfl | (simp [errW_none, errW_some] <;> rfl) | (simp [*, errW_none, errW_some] <;> rfl), by repeat (first | (with_reducible first | exact HB.out | apply below_alloc | apply pw_below_drewN | apply below_drew1) | exact HB.out)⟩
      · rw [if_neg c5] at H
        have c5b0 : (t134 == 0) = false := beq_eq_false_iff_ne.mpr c5
        have c5b1 : (t134 != 0) = true := bne_iff_ne.mpr c5
        obtain rfl := Option.some.inj H
        go_enter Tryd.func10, Tryd.ntmps10
        go_wp2_with (first | ((with_reducible refine gate_dst (N := 8) rfl ?_); (try (refine gate_guard (by rfl) ?_; dsimp only)); refine Kd.R_lit k39 _ 39 ?hg (N := 8) ?hd (xs := ([(⟨1, (-1), (⟨#[]⟩ : ByteArray)⟩ : S39), (⟨2, 0, (⟨#[97]⟩ : ByteArray)⟩ : S39)] : List (S39))) (inner := [.int .i64 1, .int .i64 (-1), .string (⟨#[]⟩ : ByteArray), .int .i64 2, .int .i64 0, .string (⟨#[97]⟩ : ByteArray)]) (ok := fun _ => True) (okp := fun _ => True) ?hr ?hp (fun _ hk => hk) trivial (Below.refl _ _) (Nat.le_refl _) (by simp) ?_; (case hd => rfl); (case hg => rfl); (case hr => first | (go_simp; done) | (go_simp; rfl)); (case hp => exact (Reps.c3 (show Kd.M k39 _ _ _ (⟨1, (-1), (⟨#[]⟩ : ByteArray)⟩ : S39) [.int .i64 1, .int .i64 (-1), .string (⟨#[]⟩ : ByteArray)] from (k39_mkM _ _ _ (⟨1, (-1), (⟨#[]⟩ : ByteArray)⟩ : S39) )) (Reps.c3 (show Kd.M k39 _ _ _ (⟨2, 0, (⟨#[97]⟩ : ByteArray)⟩ : S39) [.int .i64 2, .int .i64 0, .string (⟨#[97]⟩ : ByteArray)] from (k39_mkM _ _ _ (⟨2, 0, (⟨#[97]⟩ : ByteArray)⟩ : S39) )) (Reps.none _ _)))); intro v129 w20 ho21 hb hg_ hnew_; clear hg_ hnew_; (first | rw [← Ny128.out] at ho21 | (simp only [Int.reduceToNat] at ho21; rw [← Ny128.out] at ho21)); have n0_ := Aside0.mk (Kd.R_lower ho21 (below_size (by repeat (first | (with_reducible first | exact HB.out | apply below_alloc | apply pw_below_drewN | apply below_drew1) | exact HB.out)))); have n1_ := Aside0.mk (below_step (by repeat (first | (with_reducible first | exact HB.out | apply below_alloc | apply pw_below_drewN | apply below_drew1) | exact HB.out)) hb); clear HB; have HO130 := n0_; have HB := n1_; clear n0_ n1_; clear hb ho21; obtain ⟨Ao22, co22, eo22⟩ := Kd.R_slice HO130.out; subst eo22) | ((with_reducible refine gate_callee (f := 11) rfl ?_); refine goesL_ (some 9) rfl rfl Tryd.func11 (by kernel_rfl) rfl #[.slice Ao22 y128.length co22] rfl (by (try simp only [List.map_toArray, List.map_cons, List.map_nil]); first | done | rfl | (simp only [List.length_drop, List.length_take]; rfl)) ?_; (with_reducible refine (keys_Write.calls _ _ y128 t131 t132 _ ?side1 ?side2 A1.out).mono ?_); (case side1 => repeat (first | exact (Kd.R_reads' HO130.out).2.2 | (with_reducible refine Kd.C_alloc ?_ _) | (with_reducible refine Kd.C_drewN ?_ _) | (with_reducible refine Kd.C_drew ?_))); (case side2 => exact (Kd.R_reads' HO130.out).2.1); rintro e w23 ⟨rfl, hb⟩; refine ⟨_, rfl, ?_⟩; have n0_ := Aside0.mk (Kd.R_below (by (with_reducible repeat (first | apply Kd.R_alloc | apply Kd.R_drewN | apply Kd.R_drew)); exact HO130.out) hb); have n1_ := Aside0.mk (below_step (by repeat (first | (with_reducible first | exact HB.out | apply below_alloc | apply pw_below_drewN | apply below_drew1) | exact HB.out)) hb); clear HO130; clear HB; have HO130 := n0_; have HB := n1_; clear n0_ n1_; (try clear hb); (try clear hb2); (try clear hk); (try clear hi)) | ((with_reducible refine gate_callee (f := 13) rfl ?_); refine goesL_ (some 13) rfl rfl Tryd.func13 (by kernel_rfl) rfl #[.string (⟨#[2, 97, 0, 1]⟩ : ByteArray)] rfl (by (try simp only [List.map_toArray, List.map_cons, List.map_nil]); first | done | rfl | (simp only [List.length_drop, List.length_take]; rfl)) ?_; (with_reducible refine (keys_Read.calls k (⟨#[2, 97, 0, 1]⟩ : ByteArray) t133 t134 _ A2.out).mono ?_); rintro e w24 ⟨v135, rfl, ho0, hb⟩; refine ⟨_, rfl, ?_⟩; have n0_ := Aside0.mk (Kd.R_elder' (by (with_reducible repeat (first | apply Kd.R_alloc | apply Kd.R_drewN | apply Kd.R_drew)); exact HO130.out) (Kd.R_base ho0) hb); have n1_ := Aside0.mk (Kd.R_lower (Kd.R_new' ho0 (Kd.R_lt (by (with_reducible repeat (first | apply Kd.R_alloc | apply Kd.R_drewN | apply Kd.R_drew)); exact HO130.out))) (below_size (by repeat (first | (with_reducible first | exact HB.out | apply below_alloc | apply pw_below_drewN | apply below_drew1) | exact HB.out)))); have n2_ := Aside0.mk (below_step (by repeat (first | (with_reducible first | exact HB.out | apply below_alloc | apply pw_below_drewN | apply below_drew1) | exact HB.out)) hb); clear HO130; clear HB; have HO130 := n0_; have HO136 := n1_; have HB := n2_; clear n0_ n1_ n2_; (try clear hb); (try clear hb2); (try clear hk); (try clear hi); (try clear ho0)))
        go_ret
        exact ⟨by first | (with_reducible rfl) | (simp only [isEmpty_bne, Bool.not_not] <;> with_reducible rfl) | (simp [errW_none, errW_some] <;> with_reducible rfl) | (simp only [isEmpty_bne, Bool.not_not] <;> rfl) | rfl | (simp [errW_none, errW_some] <;> rfl) | (simp [*, errW_none, errW_some] <;> rfl), by repeat (first | (with_reducible first | exact HB.out | apply below_alloc | apply pw_below_drewN | apply below_drew1) | exact HB.out)⟩
    · rw [if_neg c4] at H
      have c4b0 : (t131.toList == ([1, 127, 255, 255, 255, 255, 255, 255, 255, 2, 97, 0, 1] : List UInt8)) = false := beq_eq_false_iff_ne.mpr c4
      have c4b1 : (t131.toList != ([1, 127, 255, 255, 255, 255, 255, 255, 255, 2, 97, 0, 1] : List UInt8)) = true := bne_iff_ne.mpr c4
      obtain rfl := Option.some.inj H
      go_enter Tryd.func10, Tryd.ntmps10
      go_wp2_with (first | ((with_reducible refine gate_dst (N := 8) rfl ?_); (try (refine gate_guard (by rfl) ?_; dsimp only)); refine Kd.R_lit k39 _ 39 ?hg (N := 8) ?hd (xs := ([(⟨1, (-1), (⟨#[]⟩ : ByteArray)⟩ : S39), (⟨2, 0, (⟨#[97]⟩ : ByteArray)⟩ : S39)] : List (S39))) (inner := [.int .i64 1, .int .i64 (-1), .string (⟨#[]⟩ : ByteArray), .int .i64 2, .int .i64 0, .string (⟨#[97]⟩ : ByteArray)]) (ok := fun _ => True) (okp := fun _ => True) ?hr ?hp (fun _ hk => hk) trivial (Below.refl _ _) (Nat.le_refl _) (by simp) ?_; (case hd => rfl); (case hg => rfl); (case hr => first | (go_simp; done) | (go_simp; rfl)); (case hp => exact (Reps.c3 (show Kd.M k39 _ _ _ (⟨1, (-1), (⟨#[]⟩ : ByteArray)⟩ : S39) [.int .i64 1, .int .i64 (-1), .string (⟨#[]⟩ : ByteArray)] from (k39_mkM _ _ _ (⟨1, (-1), (⟨#[]⟩ : ByteArray)⟩ : S39) )) (Reps.c3 (show Kd.M k39 _ _ _ (⟨2, 0, (⟨#[97]⟩ : ByteArray)⟩ : S39) [.int .i64 2, .int .i64 0, .string (⟨#[97]⟩ : ByteArray)] from (k39_mkM _ _ _ (⟨2, 0, (⟨#[97]⟩ : ByteArray)⟩ : S39) )) (Reps.none _ _)))); intro v129 w25 ho26 hb hg_ hnew_; clear hg_ hnew_; (first | rw [← Ny128.out] at ho26 | (simp only [Int.reduceToNat] at ho26; rw [← Ny128.out] at ho26)); have n0_ := Aside0.mk (Kd.R_lower ho26 (below_size (by repeat (first | (with_reducible first | exact HB.out | apply below_alloc | apply pw_below_drewN | apply below_drew1) | exact HB.out)))); have n1_ := Aside0.mk (below_step (by repeat (first | (with_reducible first | exact HB.out | apply below_alloc | apply pw_below_drewN | apply below_drew1) | exact HB.out)) hb); clear HB; have HO130 := n0_; have HB := n1_; clear n0_ n1_; clear hb ho26; obtain ⟨Ao27, co27, eo27⟩ := Kd.R_slice HO130.out; subst eo27) | ((with_reducible refine gate_callee (f := 11) rfl ?_); refine goesL_ (some 9) rfl rfl Tryd.func11 (by kernel_rfl) rfl #[.slice Ao27 y128.length co27] rfl (by (try simp only [List.map_toArray, List.map_cons, List.map_nil]); first | done | rfl | (simp only [List.length_drop, List.length_take]; rfl)) ?_; (with_reducible refine (keys_Write.calls _ _ y128 t131 t132 _ ?side1 ?side2 A1.out).mono ?_); (case side1 => repeat (first | exact (Kd.R_reads' HO130.out).2.2 | (with_reducible refine Kd.C_alloc ?_ _) | (with_reducible refine Kd.C_drewN ?_ _) | (with_reducible refine Kd.C_drew ?_))); (case side2 => exact (Kd.R_reads' HO130.out).2.1); rintro e w28 ⟨rfl, hb⟩; refine ⟨_, rfl, ?_⟩; have n0_ := Aside0.mk (Kd.R_below (by (with_reducible repeat (first | apply Kd.R_alloc | apply Kd.R_drewN | apply Kd.R_drew)); exact HO130.out) hb); have n1_ := Aside0.mk (below_step (by repeat (first | (with_reducible first | exact HB.out | apply below_alloc | apply pw_below_drewN | apply below_drew1) | exact HB.out)) hb); clear HO130; clear HB; have HO130 := n0_; have HB := n1_; clear n0_ n1_; (try clear hb); (try clear hb2); (try clear hk); (try clear hi)) | ((with_reducible refine gate_callee (f := 13) rfl ?_); refine goesL_ (some 13) rfl rfl Tryd.func13 (by kernel_rfl) rfl #[.string (⟨#[2, 97, 0, 1]⟩ : ByteArray)] rfl (by (try simp only [List.map_toArray, List.map_cons, List.map_nil]); first | done | rfl | (simp only [List.length_drop, List.length_take]; rfl)) ?_; (with_reducible refine (keys_Read.calls k (⟨#[2, 97, 0, 1]⟩ : ByteArray) t133 t134 _ A2.out).mono ?_); rintro e w29 ⟨v135, rfl, ho0, hb⟩; refine ⟨_, rfl, ?_⟩; have n0_ := Aside0.mk (Kd.R_elder' (by (with_reducible repeat (first | apply Kd.R_alloc | apply Kd.R_drewN | apply Kd.R_drew)); exact HO130.out) (Kd.R_base ho0) hb); have n1_ := Aside0.mk (Kd.R_lower (Kd.R_new' ho0 (Kd.R_lt (by (with_reducible repeat (first | apply Kd.R_alloc | apply Kd.R_drewN | apply Kd.R_drew)); exact HO130.out))) (below_size (by repeat (first | (with_reducible first | exact HB.out | apply below_alloc | apply pw_below_drewN | apply below_drew1) | exact HB.out)))); have n2_ := Aside0.mk (below_step (by repeat (first | (with_reducible first | exact HB.out | apply below_alloc | apply pw_below_drewN | apply below_drew1) | exact HB.out)) hb); clear HO130; clear HB; have HO130 := n0_; have HO136 := n1_; have HB := n2_; clear n0_ n1_ n2_; (try clear hb); (try clear hb2); (try clear hk); (try clear hi); (try clear ho0)))
      go_ret
      exact ⟨by first | (with_reducible rfl) | (simp only [isEmpty_bne, Bool.not_not] <;> with_reducible rfl) | (simp [errW_none, errW_some] <;> with_reducible rfl) | (simp only [isEmpty_bne, Bool.not_not] <;> rfl) | rfl | (simp [errW_none, errW_some] <;> rfl) | (simp [*, errW_none, errW_some] <;> rfl), by repeat (first | (with_reducible first | exact HB.out | apply below_alloc | apply pw_below_drewN | apply below_drew1) | exact HB.out)⟩
  · rw [if_neg c3] at H
    have c3b0 : (t132 == 0) = false := beq_eq_false_iff_ne.mpr c3
    have c3b1 : (t132 != 0) = true := bne_iff_ne.mpr c3
    obtain rfl := Option.some.inj H
    go_enter Tryd.func10, Tryd.ntmps10
    go_wp2_with (first | ((with_reducible refine gate_dst (N := 8) rfl ?_); (try (refine gate_guard (by rfl) ?_; dsimp only)); refine Kd.R_lit k39 _ 39 ?hg (N := 8) ?hd (xs := ([(⟨1, (-1), (⟨#[]⟩ : ByteArray)⟩ : S39), (⟨2, 0, (⟨#[97]⟩ : ByteArray)⟩ : S39)] : List (S39))) (inner := [.int .i64 1, .int .i64 (-1), .string (⟨#[]⟩ : ByteArray), .int .i64 2, .int .i64 0, .string (⟨#[97]⟩ : ByteArray)]) (ok := fun _ => True) (okp := fun _ => True) ?hr ?hp (fun _ hk => hk) trivial (Below.refl _ _) (Nat.le_refl _) (by simp) ?_; (case hd => rfl); (case hg => rfl); (case hr => first | (go_simp; done) | (go_simp; rfl)); (case hp => exact (Reps.c3 (show Kd.M k39 _ _ _ (⟨1, (-1), (⟨#[]⟩ : ByteArray)⟩ : S39) [.int .i64 1, .int .i64 (-1), .string (⟨#[]⟩ : ByteArray)] from (k39_mkM _ _ _ (⟨1, (-1), (⟨#[]⟩ : ByteArray)⟩ : S39) )) (Reps.c3 (show Kd.M k39 _ _ _ (⟨2, 0, (⟨#[97]⟩ : ByteArray)⟩ : S39) [.int .i64 2, .int .i64 0, .string (⟨#[97]⟩ : ByteArray)] from (k39_mkM _ _ _ (⟨2, 0, (⟨#[97]⟩ : ByteArray)⟩ : S39) )) (Reps.none _ _)))); intro v129 w30 ho31 hb hg_ hnew_; clear hg_ hnew_; (first | rw [← Ny128.out] at ho31 | (simp only [Int.reduceToNat] at ho31; rw [← Ny128.out] at ho31)); have n0_ := Aside0.mk (Kd.R_lower ho31 (below_size (by repeat (first | (with_reducible first | exact HB.out | apply below_alloc | apply pw_below_drewN | apply below_drew1) | exact HB.out)))); have n1_ := Aside0.mk (below_step (by repeat (first | (with_reducible first | exact HB.out | apply below_alloc | apply pw_below_drewN | apply below_drew1) | exact HB.out)) hb); clear HB; have HO130 := n0_; have HB := n1_; clear n0_ n1_; clear hb ho31; obtain ⟨Ao32, co32, eo32⟩ := Kd.R_slice HO130.out; subst eo32) | ((with_reducible refine gate_callee (f := 11) rfl ?_); refine goesL_ (some 9) rfl rfl Tryd.func11 (by kernel_rfl) rfl #[.slice Ao32 y128.length co32] rfl (by (try simp only [List.map_toArray, List.map_cons, List.map_nil]); first | done | rfl | (simp only [List.length_drop, List.length_take]; rfl)) ?_; (with_reducible refine (keys_Write.calls _ _ y128 t131 t132 _ ?side1 ?side2 A1.out).mono ?_); (case side1 => repeat (first | exact (Kd.R_reads' HO130.out).2.2 | (with_reducible refine Kd.C_alloc ?_ _) | (with_reducible refine Kd.C_drewN ?_ _) | (with_reducible refine Kd.C_drew ?_))); (case side2 => exact (Kd.R_reads' HO130.out).2.1); rintro e w33 ⟨rfl, hb⟩; refine ⟨_, rfl, ?_⟩; have n0_ := Aside0.mk (Kd.R_below (by (with_reducible repeat (first | apply Kd.R_alloc | apply Kd.R_drewN | apply Kd.R_drew)); exact HO130.out) hb); have n1_ := Aside0.mk (below_step (by repeat (first | (with_reducible first | exact HB.out | apply below_alloc | apply pw_below_drewN | apply below_drew1) | exact HB.out)) hb); clear HO130; clear HB; have HO130 := n0_; have HB := n1_; clear n0_ n1_; (try clear hb); (try clear hb2); (try clear hk); (try clear hi)) | ((with_reducible refine gate_callee (f := 13) rfl ?_); refine goesL_ (some 13) rfl rfl Tryd.func13 (by kernel_rfl) rfl #[.string (⟨#[2, 97, 0, 1]⟩ : ByteArray)] rfl (by (try simp only [List.map_toArray, List.map_cons, List.map_nil]); first | done | rfl | (simp only [List.length_drop, List.length_take]; rfl)) ?_; (with_reducible refine (keys_Read.calls k (⟨#[2, 97, 0, 1]⟩ : ByteArray) t133 t134 _ A2.out).mono ?_); rintro e w34 ⟨v135, rfl, ho0, hb⟩; refine ⟨_, rfl, ?_⟩; have n0_ := Aside0.mk (Kd.R_elder' (by (with_reducible repeat (first | apply Kd.R_alloc | apply Kd.R_drewN | apply Kd.R_drew)); exact HO130.out) (Kd.R_base ho0) hb); have n1_ := Aside0.mk (Kd.R_lower (Kd.R_new' ho0 (Kd.R_lt (by (with_reducible repeat (first | apply Kd.R_alloc | apply Kd.R_drewN | apply Kd.R_drew)); exact HO130.out))) (below_size (by repeat (first | (with_reducible first | exact HB.out | apply below_alloc | apply pw_below_drewN | apply below_drew1) | exact HB.out)))); have n2_ := Aside0.mk (below_step (by repeat (first | (with_reducible first | exact HB.out | apply below_alloc | apply pw_below_drewN | apply below_drew1) | exact HB.out)) hb); clear HO130; clear HB; have HO130 := n0_; have HO136 := n1_; have HB := n2_; clear n0_ n1_ n2_; (try clear hb); (try clear hb2); (try clear hk); (try clear hi); (try clear ho0)))
    go_ret
    exact ⟨by first | (with_reducible rfl) | (simp only [isEmpty_bne, Bool.not_not] <;> with_reducible rfl) | (simp [errW_none, errW_some] <;> with_reducible rfl) | (simp only [isEmpty_bne, Bool.not_not] <;> rfl) | rfl | (simp [errW_none, errW_some] <;> rfl) | (simp [*, errW_none, errW_some] <;> rfl), by repeat (first | (with_reducible first | exact HB.out | apply below_alloc | apply pw_below_drewN | apply below_drew1) | exact HB.out)⟩

end Go.Proofs.YtamohmpapdecdaaDoor.PAll
