/- Printed walks of the functions that the laws reach: each function, what it computes, and that it does. No conditions. -/
import Derived.Test.YtbdmfpgiolaooaaDoorPAllx0
import Derived.Test.YtbdmfpgiolaooaaDoorPAllx16
import Derived.Test.YtbdmfpgiolaooaaDoorPAllx18
import Derived.Test.YtbdmfpgiolaooaaDoorPAllx19
import Derived.Test.YtbdmfpgiolaooaaDoorPAllx20
namespace Go.Proofs.YtbdmfpgiolaooaaDoor.PAll
open Go.RowKit Go.Proofs.YtbdmfpgiolaooaaDoor.XW Go.Proofs.YtbdmfpgiolaooaaDoor.XLib Go.Proofs.YtbdmfpgiolaooaaDoorW.PrintWords Go.Proofs.YtbdmfpgiolaooaaDoorW.PrintLast Go.Proofs.YtbdmfpgiolaooaaDoorW.PrintMore
attribute [local go_sem] max2_int min2_int max_two min_two max_three min_three max_four min_four   -- for this text's walks alone
set_option linter.unusedVariables false
set_option linter.unusedSimpArgs false

/-! ### factotumlaw15_CheckStays: function 6 -/
mutual
def factotumlaw15_CheckStays.j0 : Nat → List (S32) → List Bool → Bool → Option (Bool)
  | 0, _, _, _ => none
  | k + 1, x0, x5, x34 => if x34 = true then (none) else (factotumlaw15_CheckStays.l0 k x0 x5 0)
def factotumlaw15_CheckStays.l0 : Nat → List (S32) → List Bool → Int → Option (Bool)
  | 0, _, _, _ => none
  | k + 1, x0, x5, x6 => if x6 < (x0.length : Int) then (if 0 ≤ x6 then ((check_Target.f ((rd_T32 x0 x6).f0) ((rd_T32 x0 x6).f1) ((rd_T32 x0 x6).f2) ((rd_T32 x0 x6).f3) ((rd_T32 x0 x6).f4.f0) ((rd_T32 x0 x6).f4.f1) ((rd_T32 x0 x6).f4.f2)).bind fun bt328 => (if bt328.2 = true then (if bt328.1 < 0 then (factotumlaw15_CheckStays.j2 k x0 x5 x6 true) else (if bt328.1 ≥ (x0.length : Int) then (factotumlaw15_CheckStays.j2 k x0 x5 x6 true) else (if x6 < (x5.length : Int) then (if rdOf false x5 x6 = true then (if 0 ≤ bt328.1 then (if bt328.1 < (x5.length : Int) then (factotumlaw15_CheckStays.j2 k x0 x5 x6 (!(rdOf false x5 bt328.1))) else (none)) else (none)) else (factotumlaw15_CheckStays.j2 k x0 x5 x6 false)) else (none)))) else (factotumlaw15_CheckStays.j2 k x0 x5 x6 false))) else (none)) else (some true)
def factotumlaw15_CheckStays.j2 : Nat → List (S32) → List Bool → Int → Bool → Option (Bool)
  | 0, _, _, _, _ => none
  | k + 1, x0, x5, x6, x72 => if x72 = true then (none) else (if 0 ≤ x6 then (if x6 < (x0.length : Int) then (if ((rd_T32 x0 x6).f0) = 9 then (factotumlaw15_CheckStays.l0 k x0 x5 (wrap64 (x6 + 1))) else (if ((rd_T32 x0 x6).f0) = 18 then (factotumlaw15_CheckStays.l0 k x0 x5 (wrap64 (x6 + 1))) else (if ((rd_T32 x0 x6).f0) = 19 then (factotumlaw15_CheckStays.l0 k x0 x5 (wrap64 (x6 + 1))) else (if (wrap64 (x6 + 1)) ≥ (x0.length : Int) then (none) else (if x6 < (x5.length : Int) then (if rdOf false x5 x6 = true then (if 0 ≤ (wrap64 (x6 + 1)) then (if (wrap64 (x6 + 1)) < (x5.length : Int) then (if (rdOf false x5 (wrap64 (x6 + 1)) = true) then (factotumlaw15_CheckStays.l0 k x0 x5 (wrap64 (x6 + 1))) else (none)) else (none)) else (none)) else (factotumlaw15_CheckStays.l0 k x0 x5 (wrap64 (x6 + 1)))) else (none)))))) else (none)) else (none))
end
def factotumlaw15_CheckStays.f (k : Nat) (l0 : List (S32)) : Option (Bool) := (factotumlaw15_lives.f k).bind fun t320 => (if t320 = true then ((check_Check.f k l0).bind fun bt321 => ((check_Reached.f k l0).bind fun t323 => (if bt321.1 = 0 then (if (t323.length : Int) = (l0.length : Int) then (if 0 < (t323.length : Int) then (factotumlaw15_CheckStays.j0 k l0 t323 (!(rdOf false t323 0))) else (none)) else (factotumlaw15_CheckStays.j0 k l0 t323 true)) else (some ((t323.length : Int) == 0))))) else (none))
theorem factotumlaw15_CheckStays.mono_l : ∀ k, (∀ y0 y1 y2, LeO (factotumlaw15_CheckStays.j0 k y0 y1 y2) (factotumlaw15_CheckStays.j0 (k + 1) y0 y1 y2)) ∧ (∀ y0 y1 y2, LeO (factotumlaw15_CheckStays.l0 k y0 y1 y2) (factotumlaw15_CheckStays.l0 (k + 1) y0 y1 y2)) ∧ (∀ y0 y1 y2 y3, LeO (factotumlaw15_CheckStays.j2 k y0 y1 y2 y3) (factotumlaw15_CheckStays.j2 (k + 1) y0 y1 y2 y3))
  | 0 => ⟨fun _ _ _ r h => by simp [factotumlaw15_CheckStays.j0] at h, fun _ _ _ r h => by simp [factotumlaw15_CheckStays.l0] at h, fun _ _ _ _ r h => by simp [factotumlaw15_CheckStays.j2] at h⟩
  | k + 1 => by
    obtain ⟨ih0, ih1, ih2⟩ := factotumlaw15_CheckStays.mono_l k
    refine ⟨?_, ?_, ?_⟩
    · intro y0 y1 y2
      unfold factotumlaw15_CheckStays.j0
      repeat' first
      | (with_reducible exact ih0 _ _ _)
      | (with_reducible exact ih1 _ _ _)
      | (with_reducible exact ih2 _ _ _ _)
      | (with_reducible exact check_Check.mono _ _)
      | (with_reducible exact check_Reached.mono _ _)
      | (with_reducible exact factotumlaw15_lives.mono _)
      | (with_reducible exact LeO.refl _)
      | (with_reducible exact LeO.none _)
      | (with_reducible refine LeO.ite ?_ ?_)
      | (with_reducible refine LeO.bind ?_ (fun _ => ?_))
      | exact ih0 _ _ _
      | exact ih1 _ _ _
      | exact ih2 _ _ _ _
      | exact check_Check.mono _ _
      | exact check_Reached.mono _ _
      | exact factotumlaw15_lives.mono _
      | exact LeO.none _
      | refine LeO.ite ?_ ?_
      | refine LeO.bind ?_ (fun _ => ?_)
    · intro y0 y1 y2
      unfold factotumlaw15_CheckStays.l0
      repeat' first
      | (with_reducible exact ih0 _ _ _)
      | (with_reducible exact ih1 _ _ _)
      | (with_reducible exact ih2 _ _ _ _)
      | (with_reducible exact check_Check.mono _ _)
      | (with_reducible exact check_Reached.mono _ _)
      | (with_reducible exact factotumlaw15_lives.mono _)
      | (with_reducible exact LeO.refl _)
      | (with_reducible exact LeO.none _)
      | (with_reducible refine LeO.ite ?_ ?_)
      | (with_reducible refine LeO.bind ?_ (fun _ => ?_))
      | exact ih0 _ _ _
      | exact ih1 _ _ _
      | exact ih2 _ _ _ _
      | exact check_Check.mono _ _
      | exact check_Reached.mono _ _
      | exact factotumlaw15_lives.mono _
      | exact LeO.none _
      | refine LeO.ite ?_ ?_
      | refine LeO.bind ?_ (fun _ => ?_)
    · intro y0 y1 y2 y3
      unfold factotumlaw15_CheckStays.j2
      repeat' first
      | (with_reducible exact ih0 _ _ _)
      | (with_reducible exact ih1 _ _ _)
      | (with_reducible exact ih2 _ _ _ _)
      | (with_reducible exact check_Check.mono _ _)
      | (with_reducible exact check_Reached.mono _ _)
      | (with_reducible exact factotumlaw15_lives.mono _)
      | (with_reducible exact LeO.refl _)
      | (with_reducible exact LeO.none _)
      | (with_reducible refine LeO.ite ?_ ?_)
      | (with_reducible refine LeO.bind ?_ (fun _ => ?_))
      | exact ih0 _ _ _
      | exact ih1 _ _ _
      | exact ih2 _ _ _ _
      | exact check_Check.mono _ _
      | exact check_Reached.mono _ _
      | exact factotumlaw15_lives.mono _
      | exact LeO.none _
      | refine LeO.ite ?_ ?_
      | refine LeO.bind ?_ (fun _ => ?_)
theorem factotumlaw15_CheckStays.mono : ∀ a0 k, LeO (factotumlaw15_CheckStays.f k a0) (factotumlaw15_CheckStays.f (k + 1) a0) := by
  intro a0 k
  obtain ⟨ih0, ih1, ih2⟩ := factotumlaw15_CheckStays.mono_l k
  unfold factotumlaw15_CheckStays.f
  repeat' first
      | (with_reducible exact ih0 _ _ _)
      | (with_reducible exact ih1 _ _ _)
      | (with_reducible exact ih2 _ _ _ _)
      | (with_reducible exact check_Check.mono _ _)
      | (with_reducible exact check_Reached.mono _ _)
      | (with_reducible exact factotumlaw15_lives.mono _)
      | (with_reducible exact LeO.refl _)
      | (with_reducible exact LeO.none _)
      | (with_reducible refine LeO.ite ?_ ?_)
      | (with_reducible refine LeO.bind ?_ (fun _ => ?_))
      | exact ih0 _ _ _
      | exact ih1 _ _ _
      | exact ih2 _ _ _ _
      | exact check_Check.mono _ _
      | exact check_Reached.mono _ _
      | exact factotumlaw15_lives.mono _
      | exact LeO.none _
      | refine LeO.ite ?_ ?_
      | refine LeO.bind ?_ (fun _ => ?_)
set_option maxHeartbeats 8000000 in
set_option maxRecDepth 100000 in
theorem factotumlaw15_CheckStays.calls (k : Nat) (A0 : Option Addr) (c0 : Nat) (l0 : List (S32)) (r : Bool) (w : World) (hr0 : Kd.C k32 w A0 l0.length l0) (hc0 : l0.length ≤ c0) (h : factotumlaw15_CheckStays.f k l0 = some r) :
    Calls Tryd.prog 6 #[.slice A0 l0.length c0] w fun e w' => e = .returned (.bool r) ∧ Below w.heap.size w w' := by
  have hu32 := Tryd.underlying32
  have HR0 := Aside0.mk hr0
  have HC0 := Aside0.mk hc0
  clear hr0 hc0
  have HB := Aside0.mk (Below.refl w.heap.size w)
  have H : ((factotumlaw15_lives.f k).bind fun t320 => (if t320 = true then ((check_Check.f k l0).bind fun bt321 => ((check_Reached.f k l0).bind fun t323 => (if bt321.1 = 0 then (if (t323.length : Int) = (l0.length : Int) then (if 0 < (t323.length : Int) then (factotumlaw15_CheckStays.j0 k l0 t323 (!(rdOf false t323 0))) else (none)) else (factotumlaw15_CheckStays.j0 k l0 t323 true)) else (some ((t323.length : Int) == 0))))) else (none))) = some r := h
  clear h
  replace H := Option.bind_eq_some_iff.mp H
  obtain ⟨t320, A20, H⟩ := H
  replace H : (if t320 = true then ((check_Check.f k l0).bind fun bt321 => ((check_Reached.f k l0).bind fun t323 => (if bt321.1 = 0 then (if (t323.length : Int) = (l0.length : Int) then (if 0 < (t323.length : Int) then (factotumlaw15_CheckStays.j0 k l0 t323 (!(rdOf false t323 0))) else (none)) else (factotumlaw15_CheckStays.j0 k l0 t323 true)) else (some ((t323.length : Int) == 0))))) else (none)) = some r := H
  have A2 := Aside0.mk A20
  clear A20
  by_cases c3 : t320 = true
  · subst c3
    have H1 : ((check_Check.f k l0).bind fun bt321 => ((check_Reached.f k l0).bind fun t323 => (if bt321.1 = 0 then (if (t323.length : Int) = (l0.length : Int) then (if 0 < (t323.length : Int) then (factotumlaw15_CheckStays.j0 k l0 t323 (!(rdOf false t323 0))) else (none)) else (factotumlaw15_CheckStays.j0 k l0 t323 true)) else (some ((t323.length : Int) == 0))))) = some r := by rw [if_pos rfl] at H; exact H
    clear H
    have H := H1
    clear H1
    replace H := Option.bind_eq_some_iff.mp H
    obtain ⟨⟨t321, t322⟩, A40, H⟩ := H
    replace H : ((check_Reached.f k l0).bind fun t323 => (if t321 = 0 then (if (t323.length : Int) = (l0.length : Int) then (if 0 < (t323.length : Int) then (factotumlaw15_CheckStays.j0 k l0 t323 (!(rdOf false t323 0))) else (none)) else (factotumlaw15_CheckStays.j0 k l0 t323 true)) else (some ((t323.length : Int) == 0)))) = some r := H
    have A4 := Aside0.mk A40
    clear A40
    replace H := Option.bind_eq_some_iff.mp H
    obtain ⟨t323, A50, H⟩ := H
    replace H : (if t321 = 0 then (if (t323.length : Int) = (l0.length : Int) then (if 0 < (t323.length : Int) then (factotumlaw15_CheckStays.j0 k l0 t323 (!(rdOf false t323 0))) else (none)) else (factotumlaw15_CheckStays.j0 k l0 t323 true)) else (some ((t323.length : Int) == 0))) = some r := H
    have A5 := Aside0.mk A50
    clear A50
    by_cases c6 : t321 = 0
    · rw [if_pos c6] at H
      have c6b0 : (t321 == 0) = true := beq_iff_eq.mpr c6
      have c6b1 : (t321 != 0) = false := bne_eq_false_iff_eq.mpr c6
      clear c6
      have HC7 := Aside0.mk H
      clear H
      go_enter Tryd.func6, Tryd.ntmps6
      go_upto_region 7 with (first | ((with_reducible refine gate_callee (f := 8) rfl ?_); refine goesL_ (some 10) rfl rfl Tryd.func8 (by kernel_rfl) rfl #[] rfl (by (try simp only [List.map_toArray, List.map_cons, List.map_nil]); first | done | rfl | (simp only [List.length_drop, List.length_take]; rfl) | (simp (disch := omega) only [u64_in]; rfl)) ?_; (with_reducible refine (factotumlaw15_lives.calls k  true _ A2.out).mono ?_); rintro e w8 ⟨rfl, hb⟩; refine ⟨_, rfl, ?_⟩; have n0_ := Aside0.mk (below_step (by repeat (first | (with_reducible first | exact HB.out | apply below_alloc | apply pw_below_drewN | apply below_drew1) | exact HB.out)) hb); clear HB; have HB := n0_; clear n0_; (try clear hb); (try clear hb2); (try clear hk); (try clear hi)) | ((with_reducible refine gate_callee (f := 9) rfl ?_); refine goesL_ (some 14) rfl rfl Tryd.func9 (by kernel_rfl) rfl #[.slice A0 l0.length c0] rfl (by (try simp only [List.map_toArray, List.map_cons, List.map_nil]); first | done | rfl | (simp only [List.length_drop, List.length_take]; rfl) | (simp (disch := omega) only [u64_in]; rfl)) ?_; (with_reducible refine (check_Check.calls k _ _ l0 t321 t322 _ ?side1 ?side2 A4.out).mono ?_); (case side1 => repeat (first | exact (Kd.C_below HR0.out HB.out) | (with_reducible refine Kd.C_alloc ?_ _) | (with_reducible refine Kd.C_drewN ?_ _) | (with_reducible refine Kd.C_drew ?_))); (case side2 => exact HC0.out); rintro e w9 ⟨rfl, hb⟩; refine ⟨_, rfl, ?_⟩; have n0_ := Aside0.mk (below_step (by repeat (first | (with_reducible first | exact HB.out | apply below_alloc | apply pw_below_drewN | apply below_drew1) | exact HB.out)) hb); clear HB; have HB := n0_; clear n0_; (try clear hb); (try clear hb2); (try clear hk); (try clear hi)) | ((with_reducible refine gate_callee (f := 16) rfl ?_); refine goesL_ (some 18) rfl rfl Tryd.func16 (by kernel_rfl) rfl #[.slice A0 l0.length c0] rfl (by (try simp only [List.map_toArray, List.map_cons, List.map_nil]); first | done | rfl | (simp only [List.length_drop, List.length_take]; rfl) | (simp (disch := omega) only [u64_in]; rfl)) ?_; (with_reducible refine (check_Reached.calls k _ _ l0 t323 _ ?side1 ?side2 A5.out).mono ?_); (case side1 => repeat (first | exact (Kd.C_below HR0.out HB.out) | (with_reducible refine Kd.C_alloc ?_ _) | (with_reducible refine Kd.C_drewN ?_ _) | (with_reducible refine Kd.C_drew ?_))); (case side2 => exact HC0.out); rintro e w10 ⟨v324, rfl, ho0, hb⟩; refine ⟨_, rfl, ?_⟩; have n0_ := Aside0.mk (Kd.R_lower ho0 (below_size (by repeat (first | (with_reducible first | exact HB.out | apply below_alloc | apply pw_below_drewN | apply below_drew1) | exact HB.out)))); have n1_ := Aside0.mk (below_step (by repeat (first | (with_reducible first | exact HB.out | apply below_alloc | apply pw_below_drewN | apply below_drew1) | exact HB.out)) hb); clear HB; have HO325 := n0_; have HB := n1_; clear n0_ n1_; (try clear hb); (try clear hb2); (try clear hk); (try clear hi); (try clear ho0)))
      (try simp only [Act.put, List.setIfInBounds_toArray, List.set_cons_zero, List.set_cons_succ])
      go_cut [34] (fun v34 wc => ∃ (kq : Nat) (x34_6 : Bool), v34 = .bool x34_6 ∧ Aside0 (factotumlaw15_CheckStays.j0 kq l0 t323 x34_6 = some r) ∧ Aside0 (kq ≤ k) ∧ Aside0 (Kd.R Kd.bool 4 wc w.heap.size (fun _ => True) v324 t323) ∧ Aside0 (Below w.heap.size w wc))
      case first =>
        have H := HC7.out
        clear HC7
        by_cases c11 : (t323.length : Int) = (l0.length : Int)
        · rw [if_pos c11] at H
          have c11b0 : ((t323.length : Int) == (l0.length : Int)) = true := beq_iff_eq.mpr c11
          have c11b1 : ((t323.length : Int) != (l0.length : Int)) = false := bne_eq_false_iff_eq.mpr c11
          have c11b2 : (t323.length == l0.length) = true := by first | simpa using c11 | (simp at c11 ⊢; omega)
          clear c11
          (first | rw [c11b0] | (simp only [i64_w, i32_w]; rw [c11b0]) | skip)
          by_cases c12 : 0 < (t323.length : Int)
          · rw [if_pos c12] at H
            have c12b0 : decide (0 < (t323.length : Int)) = true := decide_eq_true c12
            have c12b1 : decide (0 < t323.length) = true := decide_eq_true (by omega)
            clear c12
            have H' := Aside0.mk H
            clear H
            obtain ⟨Ao13, co13, eo13⟩ := Kd.R_slice HO325.out
            subst eo13
            have p326 : 0 ≤ (0 : Int) := (by omega)
            have q326 : 0 < (t323.length : Int) := of_decide_eq_true (by first | (with_reducible assumption) | assumption)
            obtain ⟨ad326, e326, hx326_0⟩ := Kd.at_bool (Kd.R_reads' HO325.out).2.2 0 p326 q326
            cases e326
            have qi326 : (0 < t323.length) = True := eq_true (by omega)
            (try rw [show ((0 : Int)).toNat = 0 from rfl] at hx326_0)
            (try rw [Addr.add_zero'] at hx326_0)
            replace p326 := eq_true p326
            replace q326 := eq_true q326
            go_wp2
            go_meet
            case rel => exact ⟨_, (!(rdOf false t323 0)), (by first | (with_reducible rfl) | (simp; done) | (simp [*]; done) | rfl | (simp only [not_isEmpty_bne])), H', ⟨by first | omega | exact Nat.le_refl _⟩, ⟨by (with_reducible repeat (first | apply Kd.R_alloc | apply Kd.R_drewN | apply Kd.R_drew)); exact HO325.out⟩, ⟨by repeat (first | (with_reducible first | exact HB.out | apply below_alloc | apply pw_below_drewN | apply below_drew1) | exact HB.out)⟩⟩
          · rw [if_neg c12] at H
            exact absurd H (by simp)
        · rw [if_neg c11] at H
          have c11b0 : ((t323.length : Int) == (l0.length : Int)) = false := beq_eq_false_iff_ne.mpr c11
          have c11b1 : ((t323.length : Int) != (l0.length : Int)) = true := bne_iff_ne.mpr c11
          have c11b2 : (t323.length == l0.length) = false := by first | simpa using c11 | (simp at c11 ⊢; omega)
          (first | rw [c11b0] | (simp only [i64_w, i32_w]; rw [c11b0]) | skip)
          have H' := Aside0.mk H
          clear H
          obtain ⟨Ao14, co14, eo14⟩ := Kd.R_slice HO325.out
          subst eo14
          go_wp2
          go_meet
          case rel => exact ⟨_, (true), (by first | (with_reducible rfl) | (simp; done) | (simp [*]; done) | rfl | (simp only [not_isEmpty_bne])), H', ⟨by first | omega | exact Nat.le_refl _⟩, ⟨by (with_reducible repeat (first | apply Kd.R_alloc | apply Kd.R_drewN | apply Kd.R_drew)); exact HO325.out⟩, ⟨by repeat (first | (with_reducible first | exact HB.out | apply below_alloc | apply pw_below_drewN | apply below_drew1) | exact HB.out)⟩⟩
      case rest =>
        clear HC7
        try clear c1
        try clear p2
        try clear c3
        try clear p3
        try clear q3
        try clear hx3
        try clear qi3
        try clear c6
        try clear c6b0
        try clear c6b1
        try clear c8
        try clear c9
        try clear c11
        try clear c11b0
        try clear c11b1
        try clear c11b2
        try clear c12
        try clear c12b0
        try clear c12b1
        try clear hx326_0
        try clear p326
        try clear q326
        obtain ⟨kq, x34_6, rfl, HA, HJ6, HO_5, HB⟩ := hcut
        cases kq with
        | zero => exact absurd HA.out (by simp [factotumlaw15_CheckStays.j0])
        | succ kj6 =>
          have H := HA.out
          clear HA
          simp only [factotumlaw15_CheckStays.j0] at H
          by_cases c15 : x34_6 = true
          · subst c15
            have H1 : (none) = some r := by rw [if_pos rfl] at H; exact H
            clear H
            have H := H1
            clear H1
            exact absurd H (by simp)
          · replace c15 := Bool.eq_false_iff.mpr c15
            subst c15
            have H1 : (factotumlaw15_CheckStays.l0 kj6 l0 t323 0) = some r := by rw [if_neg (show ¬ (false = true) by decide)] at H; exact H
            clear H
            have H := H1
            clear H1
            have H' := Aside0.mk H
            clear H
            go_wp2
            go_loopg [6] kj6 (fun kq v6 w' => ∃ (x6_2 : Int), v6 = .int .i64 x6_2 ∧ Aside0 (factotumlaw15_CheckStays.l0 kq l0 t323 x6_2 = some r) ∧ Aside0 (kq ≤ kj6) ∧ Aside0 (Kd.R Kd.bool 4 w' w.heap.size (fun _ => True) v324 t323) ∧ Aside0 (Below w.heap.size w w'))
            case atStart => exact ⟨(0), (by first | (with_reducible rfl) | (simp; done) | (simp [*]; done) | rfl | (simp only [not_isEmpty_bne])), H', ⟨Nat.le_refl _⟩, ⟨by (with_reducible repeat (first | apply Kd.R_alloc | apply Kd.R_drewN | apply Kd.R_drew)); exact HO_5.out⟩, ⟨by repeat (first | (with_reducible first | exact HB.out | apply below_alloc | apply pw_below_drewN | apply below_drew1) | exact HB.out)⟩⟩
            case round =>
              clear H'
              try clear c1
              try clear p2
              try clear c3
              try clear p3
              try clear q3
              try clear hx3
              try clear qi3
              try clear c6
              try clear c6b0
              try clear c6b1
              try clear c8
              try clear c9
              try clear c11
              try clear c11b0
              try clear c11b1
              try clear c11b2
              try clear c12
              try clear c12b0
              try clear c12b1
              try clear c15
              try clear hx326_0
              try clear p2
              try clear p3
              try clear p326
              try clear q3
              try clear q326
              obtain ⟨x6_2, rfl, HA, HK2, HO_5, HB⟩ := hrel
              cases gk with
              | zero => exact absurd HA.out (by simp [factotumlaw15_CheckStays.l0])
              | succ k2 =>
                have H := HA.out
                clear HA
                simp only [factotumlaw15_CheckStays.l0] at H
                by_cases c16 : x6_2 < (l0.length : Int)
                · rw [if_pos c16] at H
                  have c16b0 : decide (x6_2 < (l0.length : Int)) = true := decide_eq_true c16
                  clear c16
                  by_cases c17 : 0 ≤ x6_2
                  · rw [if_pos c17] at H
                    have c17b0 : decide (0 ≤ x6_2) = true := decide_eq_true c17
                    clear c17
                    replace H := Option.bind_eq_some_iff.mp H
                    obtain ⟨⟨t328, t329⟩, A180, H⟩ := H
                    replace H : (if t329 = true then (if t328 < 0 then (factotumlaw15_CheckStays.j2 k2 l0 t323 x6_2 true) else (if t328 ≥ (l0.length : Int) then (factotumlaw15_CheckStays.j2 k2 l0 t323 x6_2 true) else (if x6_2 < (t323.length : Int) then (if rdOf false t323 x6_2 = true then (if 0 ≤ t328 then (if t328 < (t323.length : Int) then (factotumlaw15_CheckStays.j2 k2 l0 t323 x6_2 (!(rdOf false t323 t328))) else (none)) else (none)) else (factotumlaw15_CheckStays.j2 k2 l0 t323 x6_2 false)) else (none)))) else (factotumlaw15_CheckStays.j2 k2 l0 t323 x6_2 false)) = some r := H
                    have A18 := Aside0.mk A180
                    clear A180
                    have HC19 := Aside0.mk H
                    clear H
                    have p327 : 0 ≤ (x6_2 : Int) := of_decide_eq_true (by first | (with_reducible assumption) | assumption)
                    have q327 : x6_2 < (l0.length : Int) := of_decide_eq_true (by first | (with_reducible assumption) | assumption)
                    obtain ⟨ad327, e327, hx327_0, hx327_1, hx327_2, hx327_3, hx327_4, hx327_5, hx327_6⟩ := at_T32 HR0.out x6_2 p327 q327
                    cases e327
                    replace hx327_0 := (HB.out.cell (World.block_lt_of_cell? w _ hx327_0)).trans hx327_0
                    replace hx327_1 := (HB.out.cell (World.block_lt_of_cell? w _ hx327_1)).trans hx327_1
                    replace hx327_2 := (HB.out.cell (World.block_lt_of_cell? w _ hx327_2)).trans hx327_2
                    replace hx327_3 := (HB.out.cell (World.block_lt_of_cell? w _ hx327_3)).trans hx327_3
                    replace hx327_4 := (HB.out.cell (World.block_lt_of_cell? w _ hx327_4)).trans hx327_4
                    replace hx327_5 := (HB.out.cell (World.block_lt_of_cell? w _ hx327_5)).trans hx327_5
                    replace hx327_6 := (HB.out.cell (World.block_lt_of_cell? w _ hx327_6)).trans hx327_6
                    replace p327 := eq_true p327
                    replace q327 := eq_true q327
                    go_upto_region 13 with (first | ((with_reducible refine gate_callee (f := 11) rfl ?_); refine goesL_ (some 46) rfl rfl Tryd.func11 (by kernel_rfl) rfl #[.agg #[.int .i64 ((rd_T32 l0 x6_2).f0), .int .i64 ((rd_T32 l0 x6_2).f1), .int .i64 ((rd_T32 l0 x6_2).f2), .int .i64 ((rd_T32 l0 x6_2).f3), .int .i64 ((rd_T32 l0 x6_2).f4.f0), .int .i64 ((rd_T32 l0 x6_2).f4.f1), .string ((rd_T32 l0 x6_2).f4.f2)]] rfl (by (try simp only [List.map_toArray, List.map_cons, List.map_nil]); first | done | rfl | (simp only [List.length_drop, List.length_take]; rfl) | (simp (disch := omega) only [u64_in]; rfl)) ?_; (with_reducible refine (check_Target.calls ((rd_T32 l0 x6_2).f0) ((rd_T32 l0 x6_2).f1) ((rd_T32 l0 x6_2).f2) ((rd_T32 l0 x6_2).f3) ((rd_T32 l0 x6_2).f4.f0) ((rd_T32 l0 x6_2).f4.f1) ((rd_T32 l0 x6_2).f4.f2) t328 t329 _ A18.out).mono ?_); rintro e w20 ⟨rfl, hb⟩; refine ⟨_, rfl, ?_⟩; have n0_ := Aside0.mk (Kd.R_below (by (with_reducible repeat (first | apply Kd.R_alloc | apply Kd.R_drewN | apply Kd.R_drew)); exact HO_5.out) hb); have n1_ := Aside0.mk (below_step (by repeat (first | (with_reducible first | exact HB.out | apply below_alloc | apply pw_below_drewN | apply below_drew1) | exact HB.out)) hb); clear HO_5; clear HB; have HO_5 := n0_; have HB := n1_; clear n0_ n1_; (try clear hb); (try clear hb2); (try clear hk); (try clear hi)))
                    (try simp only [Act.put, List.setIfInBounds_toArray, List.set_cons_zero, List.set_cons_succ])
                    go_cut [72] (fun v72 wc => ∃ (kq : Nat) (x72_18 : Bool), v72 = .bool x72_18 ∧ Aside0 (factotumlaw15_CheckStays.j2 kq l0 t323 x6_2 x72_18 = some r) ∧ Aside0 (kq ≤ k2) ∧ Aside0 (Kd.R Kd.bool 4 wc w.heap.size (fun _ => True) v324 t323) ∧ Aside0 (Below w.heap.size w wc))
                    case first =>
                      have H := HC19.out
                      clear HC19
                      by_cases c21 : t329 = true
                      · subst c21
                        have H1 : (if t328 < 0 then (factotumlaw15_CheckStays.j2 k2 l0 t323 x6_2 true) else (if t328 ≥ (l0.length : Int) then (factotumlaw15_CheckStays.j2 k2 l0 t323 x6_2 true) else (if x6_2 < (t323.length : Int) then (if rdOf false t323 x6_2 = true then (if 0 ≤ t328 then (if t328 < (t323.length : Int) then (factotumlaw15_CheckStays.j2 k2 l0 t323 x6_2 (!(rdOf false t323 t328))) else (none)) else (none)) else (factotumlaw15_CheckStays.j2 k2 l0 t323 x6_2 false)) else (none)))) = some r := by rw [if_pos rfl] at H; exact H
                        clear H
                        have H := H1
                        clear H1
                        by_cases c22 : t328 < 0
                        · rw [if_pos c22] at H
                          have c22b0 : decide (t328 < 0) = true := decide_eq_true c22
                          clear c22
                          (first | rw [c22b0] | (simp only [i64_w, i32_w]; rw [c22b0]) | skip)
                          have H' := Aside0.mk H
                          clear H
                          go_wp2
                          go_meet
                          case rel => exact ⟨_, (true), (by first | (with_reducible rfl) | (simp; done) | (simp [*]; done) | rfl | (simp only [not_isEmpty_bne])), H', ⟨by have := HJ6.out; have := HK2.out; first | omega | exact Nat.le_refl _⟩, ⟨by (with_reducible repeat (first | apply Kd.R_alloc | apply Kd.R_drewN | apply Kd.R_drew)); exact HO_5.out⟩, ⟨by repeat (first | (with_reducible first | exact HB.out | apply below_alloc | apply pw_below_drewN | apply below_drew1) | exact HB.out)⟩⟩
                        · rw [if_neg c22] at H
                          have c22b0 : decide (t328 < 0) = false := decide_eq_false c22
                          clear c22
                          (first | rw [c22b0] | (simp only [i64_w, i32_w]; rw [c22b0]) | skip)
                          by_cases c23 : t328 ≥ (l0.length : Int)
                          · rw [if_pos c23] at H
                            have c23b0 : decide ((l0.length : Int) ≤ t328) = true := decide_eq_true c23
                            clear c23
                            have H' := Aside0.mk H
                            clear H
                            go_wp2
                            go_meet
                            case rel => exact ⟨_, (true), (by first | (with_reducible rfl) | (simp; done) | (simp [*]; done) | rfl | (simp only [not_isEmpty_bne])), H', ⟨by have := HJ6.out; have := HK2.out; first | omega | exact Nat.le_refl _⟩, ⟨by (with_reducible repeat (first | apply Kd.R_alloc | apply Kd.R_drewN | apply Kd.R_drew)); exact HO_5.out⟩, ⟨by repeat (first | (with_reducible first | exact HB.out | apply below_alloc | apply pw_below_drewN | apply below_drew1) | exact HB.out)⟩⟩
                          · rw [if_neg c23] at H
                            have c23b0 : decide ((l0.length : Int) ≤ t328) = false := decide_eq_false c23
                            clear c23
                            by_cases c24 : x6_2 < (t323.length : Int)
                            · rw [if_pos c24] at H
                              have c24b0 : decide (x6_2 < (t323.length : Int)) = true := decide_eq_true c24
                              clear c24
                              obtain ⟨bq25, hbq25⟩ : ∃ b_ : Bool, b_ = (rdOf false t323 x6_2) := ⟨_, rfl⟩
                              replace H : (if bq25 = true then (if 0 ≤ t328 then (if t328 < (t323.length : Int) then (factotumlaw15_CheckStays.j2 k2 l0 t323 x6_2 (!(rdOf false t323 t328))) else (none)) else (none)) else (factotumlaw15_CheckStays.j2 k2 l0 t323 x6_2 false)) = some r := by rw [← hbq25] at H; exact H
                              have Nbq25 := Aside0.mk hbq25
                              clear hbq25
                              by_cases c26 : bq25 = true
                              · subst c26
                                have H1 : (if 0 ≤ t328 then (if t328 < (t323.length : Int) then (factotumlaw15_CheckStays.j2 k2 l0 t323 x6_2 (!(rdOf false t323 t328))) else (none)) else (none)) = some r := by rw [if_pos rfl] at H; exact H
                                clear H
                                have H := H1
                                clear H1
                                by_cases c27 : 0 ≤ t328
                                · rw [if_pos c27] at H
                                  have c27b0 : decide (0 ≤ t328) = true := decide_eq_true c27
                                  clear c27
                                  by_cases c28 : t328 < (t323.length : Int)
                                  · rw [if_pos c28] at H
                                    have c28b0 : decide (t328 < (t323.length : Int)) = true := decide_eq_true c28
                                    clear c28
                                    have H' := Aside0.mk H
                                    clear H
                                    obtain ⟨Ao29, co29, eo29⟩ := Kd.R_slice HO_5.out
                                    subst eo29
                                    have p330 : 0 ≤ (x6_2 : Int) := of_decide_eq_true (by first | (with_reducible assumption) | assumption)
                                    have q330 : x6_2 < (t323.length : Int) := of_decide_eq_true (by first | (with_reducible assumption) | assumption)
                                    obtain ⟨ad330, e330, hx330_0⟩ := Kd.at_bool (Kd.R_reads' HO_5.out).2.2 x6_2 p330 q330
                                    (try rw [← Nbq25.out] at hx330_0)
                                    cases e330
                                    replace p330 := eq_true p330
                                    replace q330 := eq_true q330
                                    have p331 : 0 ≤ (t328 : Int) := of_decide_eq_true (by first | (with_reducible assumption) | assumption)
                                    have q331 : t328 < (t323.length : Int) := of_decide_eq_true (by first | (with_reducible assumption) | assumption)
                                    obtain ⟨ad331, e331, hx331_0⟩ := Kd.at_bool (Kd.R_reads' HO_5.out).2.2 t328 p331 q331
                                    (try rw [← Nbq25.out] at hx331_0)
                                    obtain rfl : ad330 = ad331 := (by injection e331)
                                    replace p331 := eq_true p331
                                    replace q331 := eq_true q331
                                    go_wp2
                                    go_meet
                                    case rel => exact ⟨_, (!(rdOf false t323 t328)), (by first | (with_reducible rfl) | (simp; done) | (simp [*]; done) | rfl | (simp only [not_isEmpty_bne])), H', ⟨by have := HJ6.out; have := HK2.out; first | omega | exact Nat.le_refl _⟩, ⟨by (with_reducible repeat (first | apply Kd.R_alloc | apply Kd.R_drewN | apply Kd.R_drew)); exact HO_5.out⟩, ⟨by repeat (first | (with_reducible first | exact HB.out | apply below_alloc | apply pw_below_drewN | apply below_drew1) | exact HB.out)⟩⟩
                                  · rw [if_neg c28] at H
                                    exact absurd H (by simp)
                                · rw [if_neg c27] at H
                                  exact absurd H (by simp)
                              · replace c26 := Bool.eq_false_iff.mpr c26
                                subst c26
                                have H1 : (factotumlaw15_CheckStays.j2 k2 l0 t323 x6_2 false) = some r := by rw [if_neg (show ¬ (false = true) by decide)] at H; exact H
                                clear H
                                have H := H1
                                clear H1
                                have H' := Aside0.mk H
                                clear H
                                obtain ⟨Ao30, co30, eo30⟩ := Kd.R_slice HO_5.out
                                subst eo30
                                have p330 : 0 ≤ (x6_2 : Int) := of_decide_eq_true (by first | (with_reducible assumption) | assumption)
                                have q330 : x6_2 < (t323.length : Int) := of_decide_eq_true (by first | (with_reducible assumption) | assumption)
                                obtain ⟨ad330, e330, hx330_0⟩ := Kd.at_bool (Kd.R_reads' HO_5.out).2.2 x6_2 p330 q330
                                (try rw [← Nbq25.out] at hx330_0)
                                cases e330
                                replace p330 := eq_true p330
                                replace q330 := eq_true q330
                                go_wp2
                                go_meet
                                case rel => exact ⟨_, (false), (by first | (with_reducible rfl) | (simp; done) | (simp [*]; done) | rfl | (simp only [not_isEmpty_bne])), H', ⟨by have := HJ6.out; have := HK2.out; first | omega | exact Nat.le_refl _⟩, ⟨by (with_reducible repeat (first | apply Kd.R_alloc | apply Kd.R_drewN | apply Kd.R_drew)); exact HO_5.out⟩, ⟨by repeat (first | (with_reducible first | exact HB.out | apply below_alloc | apply pw_below_drewN | apply below_drew1) | exact HB.out)⟩⟩
                            · rw [if_neg c24] at H
                              exact absurd H (by simp)
                      · replace c21 := Bool.eq_false_iff.mpr c21
                        subst c21
                        have H1 : (factotumlaw15_CheckStays.j2 k2 l0 t323 x6_2 false) = some r := by rw [if_neg (show ¬ (false = true) by decide)] at H; exact H
                        clear H
                        have H := H1
                        clear H1
                        have H' := Aside0.mk H
                        clear H
                        go_wp2
                        go_meet
                        case rel => exact ⟨_, (false), (by first | (with_reducible rfl) | (simp; done) | (simp [*]; done) | rfl | (simp only [not_isEmpty_bne])), H', ⟨by have := HJ6.out; have := HK2.out; first | omega | exact Nat.le_refl _⟩, ⟨by (with_reducible repeat (first | apply Kd.R_alloc | apply Kd.R_drewN | apply Kd.R_drew)); exact HO_5.out⟩, ⟨by repeat (first | (with_reducible first | exact HB.out | apply below_alloc | apply pw_below_drewN | apply below_drew1) | exact HB.out)⟩⟩
                    case rest =>
                      clear HC19
                      try clear c1
                      try clear c2
                      try clear p2
                      try clear q2
                      try clear c3
                      try clear p3
                      try clear q3
                      try clear hx3
                      try clear qi3
                      try clear c6
                      try clear c6b0
                      try clear c6b1
                      try clear c8
                      try clear c9
                      try clear c11
                      try clear c11b0
                      try clear c11b1
                      try clear c11b2
                      try clear c12
                      try clear c12b0
                      try clear c12b1
                      try clear c15
                      try clear c16
                      try clear c16b0
                      try clear c17
                      try clear c17b0
                      try clear c21
                      try clear c22
                      try clear c22b0
                      try clear c23
                      try clear c23b0
                      try clear c24
                      try clear c24b0
                      try clear q25
                      try clear c26
                      try clear c27
                      try clear c27b0
                      try clear c28
                      try clear c28b0
                      try clear hx326_0
                      try clear hx327_0
                      try clear hx327_1
                      try clear hx327_2
                      try clear hx327_3
                      try clear hx327_4
                      try clear hx327_5
                      try clear hx327_6
                      try clear hx330_0
                      try clear hx331_0
                      try clear p2
                      try clear p3
                      try clear p326
                      try clear p327
                      try clear p330
                      try clear p331
                      try clear q3
                      try clear q326
                      try clear q327
                      try clear q330
                      try clear q331
                      obtain ⟨kq, x72_18, rfl, HA, HJ18, HO_5, HB⟩ := hcut
                      cases kq with
                      | zero => exact absurd HA.out (by simp [factotumlaw15_CheckStays.j2])
                      | succ kj18 =>
                        have H := HA.out
                        clear HA
                        simp only [factotumlaw15_CheckStays.j2] at H
                        by_cases c31 : x72_18 = true
                        · subst c31
                          have H1 : (none) = some r := by rw [if_pos rfl] at H; exact H
                          clear H
                          have H := H1
                          clear H1
                          exact absurd H (by simp)
                        · replace c31 := Bool.eq_false_iff.mpr c31
                          subst c31
                          have H1 : (if 0 ≤ x6_2 then (if x6_2 < (l0.length : Int) then (if ((rd_T32 l0 x6_2).f0) = 9 then (factotumlaw15_CheckStays.l0 kj18 l0 t323 (wrap64 (x6_2 + 1))) else (if ((rd_T32 l0 x6_2).f0) = 18 then (factotumlaw15_CheckStays.l0 kj18 l0 t323 (wrap64 (x6_2 + 1))) else (if ((rd_T32 l0 x6_2).f0) = 19 then (factotumlaw15_CheckStays.l0 kj18 l0 t323 (wrap64 (x6_2 + 1))) else (if (wrap64 (x6_2 + 1)) ≥ (l0.length : Int) then (none) else (if x6_2 < (t323.length : Int) then (if rdOf false t323 x6_2 = true then (if 0 ≤ (wrap64 (x6_2 + 1)) then (if (wrap64 (x6_2 + 1)) < (t323.length : Int) then (if (rdOf false t323 (wrap64 (x6_2 + 1)) = true) then (factotumlaw15_CheckStays.l0 kj18 l0 t323 (wrap64 (x6_2 + 1))) else (none)) else (none)) else (none)) else (factotumlaw15_CheckStays.l0 kj18 l0 t323 (wrap64 (x6_2 + 1)))) else (none)))))) else (none)) else (none)) = some r := by rw [if_neg (show ¬ (false = true) by decide)] at H; exact H
                          clear H
                          have H := H1
                          clear H1
                          by_cases c32 : 0 ≤ x6_2
                          · rw [if_pos c32] at H
                            have c32b0 : decide (0 ≤ x6_2) = true := decide_eq_true c32
                            clear c32
                            by_cases c33 : x6_2 < (l0.length : Int)
                            · rw [if_pos c33] at H
                              have c33b0 : decide (x6_2 < (l0.length : Int)) = true := decide_eq_true c33
                              clear c33
                              by_cases c34 : ((rd_T32 l0 x6_2).f0) = 9
                              · rw [if_pos c34] at H
                                have c34b0 : (((rd_T32 l0 x6_2).f0) == 9) = true := beq_iff_eq.mpr c34
                                have c34b1 : (((rd_T32 l0 x6_2).f0) != 9) = false := bne_eq_false_iff_eq.mpr c34
                                clear c34
                                have H' := Aside0.mk H
                                clear H
                                have p332 : 0 ≤ (x6_2 : Int) := of_decide_eq_true (by first | (with_reducible assumption) | assumption)
                                have q332 : x6_2 < (l0.length : Int) := of_decide_eq_true (by first | (with_reducible assumption) | assumption)
                                obtain ⟨ad332, e332, hx332_0, hx332_1, hx332_2, hx332_3, hx332_4, hx332_5, hx332_6⟩ := at_T32 HR0.out x6_2 p332 q332
                                obtain rfl : ad327 = ad332 := (by injection e332)
                                replace hx332_0 := (HB.out.cell (World.block_lt_of_cell? w _ hx332_0)).trans hx332_0
                                replace hx332_1 := (HB.out.cell (World.block_lt_of_cell? w _ hx332_1)).trans hx332_1
                                replace hx332_2 := (HB.out.cell (World.block_lt_of_cell? w _ hx332_2)).trans hx332_2
                                replace hx332_3 := (HB.out.cell (World.block_lt_of_cell? w _ hx332_3)).trans hx332_3
                                replace hx332_4 := (HB.out.cell (World.block_lt_of_cell? w _ hx332_4)).trans hx332_4
                                replace hx332_5 := (HB.out.cell (World.block_lt_of_cell? w _ hx332_5)).trans hx332_5
                                replace hx332_6 := (HB.out.cell (World.block_lt_of_cell? w _ hx332_6)).trans hx332_6
                                replace p332 := eq_true p332
                                replace q332 := eq_true q332
                                go_wp2
                                go_roundg kj18
                                case measure => have := HJ6.out; have := HK2.out; have := HJ18.out; omega
                                case rel => exact ⟨(wrap64 (x6_2 + 1)), (by first | (with_reducible rfl) | (simp; done) | (simp [*]; done) | rfl | (simp only [not_isEmpty_bne])), H', ⟨by have := HJ6.out; have := HK2.out; have := HJ18.out; omega⟩, ⟨by (with_reducible repeat (first | apply Kd.R_alloc | apply Kd.R_drewN | apply Kd.R_drew)); exact HO_5.out⟩, ⟨by repeat (first | (with_reducible first | exact HB.out | apply below_alloc | apply pw_below_drewN | apply below_drew1) | exact HB.out)⟩⟩
                              · rw [if_neg c34] at H
                                have c34b0 : (((rd_T32 l0 x6_2).f0) == 9) = false := beq_eq_false_iff_ne.mpr c34
                                have c34b1 : (((rd_T32 l0 x6_2).f0) != 9) = true := bne_iff_ne.mpr c34
                                by_cases c35 : ((rd_T32 l0 x6_2).f0) = 18
                                · rw [if_pos c35] at H
                                  have c35b0 : (((rd_T32 l0 x6_2).f0) == 18) = true := beq_iff_eq.mpr c35
                                  have c35b1 : (((rd_T32 l0 x6_2).f0) != 18) = false := bne_eq_false_iff_eq.mpr c35
                                  clear c35
                                  have H' := Aside0.mk H
                                  clear H
                                  have p332 : 0 ≤ (x6_2 : Int) := of_decide_eq_true (by first | (with_reducible assumption) | assumption)
                                  have q332 : x6_2 < (l0.length : Int) := of_decide_eq_true (by first | (with_reducible assumption) | assumption)
                                  obtain ⟨ad332, e332, hx332_0, hx332_1, hx332_2, hx332_3, hx332_4, hx332_5, hx332_6⟩ := at_T32 HR0.out x6_2 p332 q332
                                  obtain rfl : ad327 = ad332 := (by injection e332)
                                  replace hx332_0 := (HB.out.cell (World.block_lt_of_cell? w _ hx332_0)).trans hx332_0
                                  replace hx332_1 := (HB.out.cell (World.block_lt_of_cell? w _ hx332_1)).trans hx332_1
                                  replace hx332_2 := (HB.out.cell (World.block_lt_of_cell? w _ hx332_2)).trans hx332_2
                                  replace hx332_3 := (HB.out.cell (World.block_lt_of_cell? w _ hx332_3)).trans hx332_3
                                  replace hx332_4 := (HB.out.cell (World.block_lt_of_cell? w _ hx332_4)).trans hx332_4
                                  replace hx332_5 := (HB.out.cell (World.block_lt_of_cell? w _ hx332_5)).trans hx332_5
                                  replace hx332_6 := (HB.out.cell (World.block_lt_of_cell? w _ hx332_6)).trans hx332_6
                                  replace p332 := eq_true p332
                                  replace q332 := eq_true q332
                                  have p333 : 0 ≤ (x6_2 : Int) := of_decide_eq_true (by first | (with_reducible assumption) | assumption)
                                  have q333 : x6_2 < (l0.length : Int) := of_decide_eq_true (by first | (with_reducible assumption) | assumption)
                                  obtain ⟨ad333, e333, hx333_0, hx333_1, hx333_2, hx333_3, hx333_4, hx333_5, hx333_6⟩ := at_T32 HR0.out x6_2 p333 q333
                                  obtain rfl : ad327 = ad333 := (by injection e333)
                                  replace hx333_0 := (HB.out.cell (World.block_lt_of_cell? w _ hx333_0)).trans hx333_0
                                  replace hx333_1 := (HB.out.cell (World.block_lt_of_cell? w _ hx333_1)).trans hx333_1
                                  replace hx333_2 := (HB.out.cell (World.block_lt_of_cell? w _ hx333_2)).trans hx333_2
                                  replace hx333_3 := (HB.out.cell (World.block_lt_of_cell? w _ hx333_3)).trans hx333_3
                                  replace hx333_4 := (HB.out.cell (World.block_lt_of_cell? w _ hx333_4)).trans hx333_4
                                  replace hx333_5 := (HB.out.cell (World.block_lt_of_cell? w _ hx333_5)).trans hx333_5
                                  replace hx333_6 := (HB.out.cell (World.block_lt_of_cell? w _ hx333_6)).trans hx333_6
                                  replace p333 := eq_true p333
                                  replace q333 := eq_true q333
                                  go_wp2
                                  go_roundg kj18
                                  case measure => have := HJ6.out; have := HK2.out; have := HJ18.out; omega
                                  case rel => exact ⟨(wrap64 (x6_2 + 1)), (by first | (with_reducible rfl) | (simp; done) | (simp [*]; done) | rfl | (simp only [not_isEmpty_bne])), H', ⟨by have := HJ6.out; have := HK2.out; have := HJ18.out; omega⟩, ⟨by (with_reducible repeat (first | apply Kd.R_alloc | apply Kd.R_drewN | apply Kd.R_drew)); exact HO_5.out⟩, ⟨by repeat (first | (with_reducible first | exact HB.out | apply below_alloc | apply pw_below_drewN | apply below_drew1) | exact HB.out)⟩⟩
                                · rw [if_neg c35] at H
                                  have c35b0 : (((rd_T32 l0 x6_2).f0) == 18) = false := beq_eq_false_iff_ne.mpr c35
                                  have c35b1 : (((rd_T32 l0 x6_2).f0) != 18) = true := bne_iff_ne.mpr c35
                                  by_cases c36 : ((rd_T32 l0 x6_2).f0) = 19
                                  · rw [if_pos c36] at H
                                    have c36b0 : (((rd_T32 l0 x6_2).f0) == 19) = true := beq_iff_eq.mpr c36
                                    have c36b1 : (((rd_T32 l0 x6_2).f0) != 19) = false := bne_eq_false_iff_eq.mpr c36
                                    clear c36
                                    have H' := Aside0.mk H
                                    clear H
                                    have p332 : 0 ≤ (x6_2 : Int) := of_decide_eq_true (by first | (with_reducible assumption) | assumption)
                                    have q332 : x6_2 < (l0.length : Int) := of_decide_eq_true (by first | (with_reducible assumption) | assumption)
                                    obtain ⟨ad332, e332, hx332_0, hx332_1, hx332_2, hx332_3, hx332_4, hx332_5, hx332_6⟩ := at_T32 HR0.out x6_2 p332 q332
                                    obtain rfl : ad327 = ad332 := (by injection e332)
                                    replace hx332_0 := (HB.out.cell (World.block_lt_of_cell? w _ hx332_0)).trans hx332_0
                                    replace hx332_1 := (HB.out.cell (World.block_lt_of_cell? w _ hx332_1)).trans hx332_1
                                    replace hx332_2 := (HB.out.cell (World.block_lt_of_cell? w _ hx332_2)).trans hx332_2
                                    replace hx332_3 := (HB.out.cell (World.block_lt_of_cell? w _ hx332_3)).trans hx332_3
                                    replace hx332_4 := (HB.out.cell (World.block_lt_of_cell? w _ hx332_4)).trans hx332_4
                                    replace hx332_5 := (HB.out.cell (World.block_lt_of_cell? w _ hx332_5)).trans hx332_5
                                    replace hx332_6 := (HB.out.cell (World.block_lt_of_cell? w _ hx332_6)).trans hx332_6
                                    replace p332 := eq_true p332
                                    replace q332 := eq_true q332
                                    have p333 : 0 ≤ (x6_2 : Int) := of_decide_eq_true (by first | (with_reducible assumption) | assumption)
                                    have q333 : x6_2 < (l0.length : Int) := of_decide_eq_true (by first | (with_reducible assumption) | assumption)
                                    obtain ⟨ad333, e333, hx333_0, hx333_1, hx333_2, hx333_3, hx333_4, hx333_5, hx333_6⟩ := at_T32 HR0.out x6_2 p333 q333
                                    obtain rfl : ad327 = ad333 := (by injection e333)
                                    replace hx333_0 := (HB.out.cell (World.block_lt_of_cell? w _ hx333_0)).trans hx333_0
                                    replace hx333_1 := (HB.out.cell (World.block_lt_of_cell? w _ hx333_1)).trans hx333_1
                                    replace hx333_2 := (HB.out.cell (World.block_lt_of_cell? w _ hx333_2)).trans hx333_2
                                    replace hx333_3 := (HB.out.cell (World.block_lt_of_cell? w _ hx333_3)).trans hx333_3
                                    replace hx333_4 := (HB.out.cell (World.block_lt_of_cell? w _ hx333_4)).trans hx333_4
                                    replace hx333_5 := (HB.out.cell (World.block_lt_of_cell? w _ hx333_5)).trans hx333_5
                                    replace hx333_6 := (HB.out.cell (World.block_lt_of_cell? w _ hx333_6)).trans hx333_6
                                    replace p333 := eq_true p333
                                    replace q333 := eq_true q333
                                    have p334 : 0 ≤ (x6_2 : Int) := of_decide_eq_true (by first | (with_reducible assumption) | assumption)
                                    have q334 : x6_2 < (l0.length : Int) := of_decide_eq_true (by first | (with_reducible assumption) | assumption)
                                    obtain ⟨ad334, e334, hx334_0, hx334_1, hx334_2, hx334_3, hx334_4, hx334_5, hx334_6⟩ := at_T32 HR0.out x6_2 p334 q334
                                    obtain rfl : ad327 = ad334 := (by injection e334)
                                    replace hx334_0 := (HB.out.cell (World.block_lt_of_cell? w _ hx334_0)).trans hx334_0
                                    replace hx334_1 := (HB.out.cell (World.block_lt_of_cell? w _ hx334_1)).trans hx334_1
                                    replace hx334_2 := (HB.out.cell (World.block_lt_of_cell? w _ hx334_2)).trans hx334_2
                                    replace hx334_3 := (HB.out.cell (World.block_lt_of_cell? w _ hx334_3)).trans hx334_3
                                    replace hx334_4 := (HB.out.cell (World.block_lt_of_cell? w _ hx334_4)).trans hx334_4
                                    replace hx334_5 := (HB.out.cell (World.block_lt_of_cell? w _ hx334_5)).trans hx334_5
                                    replace hx334_6 := (HB.out.cell (World.block_lt_of_cell? w _ hx334_6)).trans hx334_6
                                    replace p334 := eq_true p334
                                    replace q334 := eq_true q334
                                    go_wp2
                                    go_roundg kj18
                                    case measure => have := HJ6.out; have := HK2.out; have := HJ18.out; omega
                                    case rel => exact ⟨(wrap64 (x6_2 + 1)), (by first | (with_reducible rfl) | (simp; done) | (simp [*]; done) | rfl | (simp only [not_isEmpty_bne])), H', ⟨by have := HJ6.out; have := HK2.out; have := HJ18.out; omega⟩, ⟨by (with_reducible repeat (first | apply Kd.R_alloc | apply Kd.R_drewN | apply Kd.R_drew)); exact HO_5.out⟩, ⟨by repeat (first | (with_reducible first | exact HB.out | apply below_alloc | apply pw_below_drewN | apply below_drew1) | exact HB.out)⟩⟩
                                  · rw [if_neg c36] at H
                                    have c36b0 : (((rd_T32 l0 x6_2).f0) == 19) = false := beq_eq_false_iff_ne.mpr c36
                                    have c36b1 : (((rd_T32 l0 x6_2).f0) != 19) = true := bne_iff_ne.mpr c36
                                    by_cases c37 : (wrap64 (x6_2 + 1)) ≥ (l0.length : Int)
                                    · rw [if_pos c37] at H
                                      exact absurd H (by simp)
                                    · rw [if_neg c37] at H
                                      have c37b0 : decide ((l0.length : Int) ≤ (wrap64 (x6_2 + 1))) = false := decide_eq_false c37
                                      clear c37
                                      by_cases c38 : x6_2 < (t323.length : Int)
                                      · rw [if_pos c38] at H
                                        have c38b0 : decide (x6_2 < (t323.length : Int)) = true := decide_eq_true c38
                                        clear c38
                                        obtain ⟨bq39, hbq39⟩ : ∃ b_ : Bool, b_ = (rdOf false t323 x6_2) := ⟨_, rfl⟩
                                        replace H : (if bq39 = true then (if 0 ≤ (wrap64 (x6_2 + 1)) then (if (wrap64 (x6_2 + 1)) < (t323.length : Int) then (if (rdOf false t323 (wrap64 (x6_2 + 1)) = true) then (factotumlaw15_CheckStays.l0 kj18 l0 t323 (wrap64 (x6_2 + 1))) else (none)) else (none)) else (none)) else (factotumlaw15_CheckStays.l0 kj18 l0 t323 (wrap64 (x6_2 + 1)))) = some r := by rw [← hbq39] at H; exact H
                                        have Nbq39 := Aside0.mk hbq39
                                        clear hbq39
                                        by_cases c40 : bq39 = true
                                        · subst c40
                                          have H1 : (if 0 ≤ (wrap64 (x6_2 + 1)) then (if (wrap64 (x6_2 + 1)) < (t323.length : Int) then (if (rdOf false t323 (wrap64 (x6_2 + 1)) = true) then (factotumlaw15_CheckStays.l0 kj18 l0 t323 (wrap64 (x6_2 + 1))) else (none)) else (none)) else (none)) = some r := by rw [if_pos rfl] at H; exact H
                                          clear H
                                          have H := H1
                                          clear H1
                                          obtain ⟨ji41, hji41⟩ : ∃ j_ : Int, (wrap64 (x6_2 + 1)) = j_ := ⟨_, rfl⟩
                                          replace H : (if 0 ≤ (ji41) then (if (ji41) < (t323.length : Int) then (if (rdOf false t323 (ji41) = true) then (factotumlaw15_CheckStays.l0 kj18 l0 t323 ji41) else (none)) else (none)) else (none)) = some r := by first | (rw [hji41] at H; exact H) | (simp only [hji41] at H ⊢; exact H)
                                          (try rw [hji41] at c37b0)
                                          have hji41w : (IntKind.i64.wrap (x6_2 + 1)) = ji41 := (i64_w _).trans hji41
                                          by_cases c42 : 0 ≤ (ji41)
                                          · rw [if_pos c42] at H
                                            have c42b0 : decide (0 ≤ (ji41)) = true := decide_eq_true c42
                                            clear c42
                                            by_cases c43 : (ji41) < (t323.length : Int)
                                            · rw [if_pos c43] at H
                                              have c43b0 : decide ((ji41) < (t323.length : Int)) = true := decide_eq_true c43
                                              clear c43
                                              obtain ⟨bq44, hbq44⟩ : ∃ b_ : Bool, b_ = (rdOf false t323 (ji41)) := ⟨_, rfl⟩
                                              replace H : (if (bq44 = true) then (factotumlaw15_CheckStays.l0 kj18 l0 t323 ji41) else (none)) = some r := by rw [← hbq44] at H; exact H
                                              have Nbq44 := Aside0.mk hbq44
                                              clear hbq44
                                              by_cases c45 : (bq44 = true)
                                              · subst c45
                                                have H1 : (factotumlaw15_CheckStays.l0 kj18 l0 t323 ji41) = some r := by rw [if_pos rfl] at H; exact H
                                                clear H
                                                have H := H1
                                                clear H1
                                                have H' := Aside0.mk H
                                                clear H
                                                have p332 : 0 ≤ (x6_2 : Int) := of_decide_eq_true (by first | (with_reducible assumption) | assumption)
                                                have q332 : x6_2 < (l0.length : Int) := of_decide_eq_true (by first | (with_reducible assumption) | assumption)
                                                obtain ⟨ad332, e332, hx332_0, hx332_1, hx332_2, hx332_3, hx332_4, hx332_5, hx332_6⟩ := at_T32 HR0.out x6_2 p332 q332
                                                obtain rfl : ad327 = ad332 := (by injection e332)
                                                replace hx332_0 := (HB.out.cell (World.block_lt_of_cell? w _ hx332_0)).trans hx332_0
                                                replace hx332_1 := (HB.out.cell (World.block_lt_of_cell? w _ hx332_1)).trans hx332_1
                                                replace hx332_2 := (HB.out.cell (World.block_lt_of_cell? w _ hx332_2)).trans hx332_2
                                                replace hx332_3 := (HB.out.cell (World.block_lt_of_cell? w _ hx332_3)).trans hx332_3
                                                replace hx332_4 := (HB.out.cell (World.block_lt_of_cell? w _ hx332_4)).trans hx332_4
                                                replace hx332_5 := (HB.out.cell (World.block_lt_of_cell? w _ hx332_5)).trans hx332_5
                                                replace hx332_6 := (HB.out.cell (World.block_lt_of_cell? w _ hx332_6)).trans hx332_6
                                                replace p332 := eq_true p332
                                                replace q332 := eq_true q332
                                                have p333 : 0 ≤ (x6_2 : Int) := of_decide_eq_true (by first | (with_reducible assumption) | assumption)
                                                have q333 : x6_2 < (l0.length : Int) := of_decide_eq_true (by first | (with_reducible assumption) | assumption)
                                                obtain ⟨ad333, e333, hx333_0, hx333_1, hx333_2, hx333_3, hx333_4, hx333_5, hx333_6⟩ := at_T32 HR0.out x6_2 p333 q333
                                                obtain rfl : ad327 = ad333 := (by injection e333)
                                                replace hx333_0 := (HB.out.cell (World.block_lt_of_cell? w _ hx333_0)).trans hx333_0
                                                replace hx333_1 := (HB.out.cell (World.block_lt_of_cell? w _ hx333_1)).trans hx333_1
                                                replace hx333_2 := (HB.out.cell (World.block_lt_of_cell? w _ hx333_2)).trans hx333_2
                                                replace hx333_3 := (HB.out.cell (World.block_lt_of_cell? w _ hx333_3)).trans hx333_3
                                                replace hx333_4 := (HB.out.cell (World.block_lt_of_cell? w _ hx333_4)).trans hx333_4
                                                replace hx333_5 := (HB.out.cell (World.block_lt_of_cell? w _ hx333_5)).trans hx333_5
                                                replace hx333_6 := (HB.out.cell (World.block_lt_of_cell? w _ hx333_6)).trans hx333_6
                                                replace p333 := eq_true p333
                                                replace q333 := eq_true q333
                                                have p334 : 0 ≤ (x6_2 : Int) := of_decide_eq_true (by first | (with_reducible assumption) | assumption)
                                                have q334 : x6_2 < (l0.length : Int) := of_decide_eq_true (by first | (with_reducible assumption) | assumption)
                                                obtain ⟨ad334, e334, hx334_0, hx334_1, hx334_2, hx334_3, hx334_4, hx334_5, hx334_6⟩ := at_T32 HR0.out x6_2 p334 q334
                                                obtain rfl : ad327 = ad334 := (by injection e334)
                                                replace hx334_0 := (HB.out.cell (World.block_lt_of_cell? w _ hx334_0)).trans hx334_0
                                                replace hx334_1 := (HB.out.cell (World.block_lt_of_cell? w _ hx334_1)).trans hx334_1
                                                replace hx334_2 := (HB.out.cell (World.block_lt_of_cell? w _ hx334_2)).trans hx334_2
                                                replace hx334_3 := (HB.out.cell (World.block_lt_of_cell? w _ hx334_3)).trans hx334_3
                                                replace hx334_4 := (HB.out.cell (World.block_lt_of_cell? w _ hx334_4)).trans hx334_4
                                                replace hx334_5 := (HB.out.cell (World.block_lt_of_cell? w _ hx334_5)).trans hx334_5
                                                replace hx334_6 := (HB.out.cell (World.block_lt_of_cell? w _ hx334_6)).trans hx334_6
                                                replace p334 := eq_true p334
                                                replace q334 := eq_true q334
                                                obtain ⟨Ao46, co46, eo46⟩ := Kd.R_slice HO_5.out
                                                subst eo46
                                                have p335 : 0 ≤ (x6_2 : Int) := of_decide_eq_true (by first | (with_reducible assumption) | assumption)
                                                have q335 : x6_2 < (t323.length : Int) := of_decide_eq_true (by first | (with_reducible assumption) | assumption)
                                                obtain ⟨ad335, e335, hx335_0⟩ := Kd.at_bool (Kd.R_reads' HO_5.out).2.2 x6_2 p335 q335
                                                (try rw [← Nbq39.out] at hx335_0)
                                                (try rw [← Nbq44.out] at hx335_0)
                                                cases e335
                                                replace p335 := eq_true p335
                                                replace q335 := eq_true q335
                                                have p336 : 0 ≤ ((ji41) : Int) := of_decide_eq_true (by first | (with_reducible assumption) | assumption)
                                                have q336 : (ji41) < (t323.length : Int) := of_decide_eq_true (by first | (with_reducible assumption) | assumption)
                                                obtain ⟨ad336, e336, hx336_0⟩ := Kd.at_bool (Kd.R_reads' HO_5.out).2.2 (ji41) p336 q336
                                                (try rw [← Nbq39.out] at hx336_0)
                                                (try rw [← Nbq44.out] at hx336_0)
                                                obtain rfl : ad335 = ad336 := (by injection e336)
                                                replace p336 := eq_true p336
                                                replace q336 := eq_true q336
                                                go_wp2
                                                go_roundg kj18
                                                case measure => have := HJ6.out; have := HK2.out; have := HJ18.out; omega
                                                case rel => exact ⟨(ji41), (by first | rfl | (simp; done) | (simp only [← hji41] <;> (first | rfl | simp)) | (simp [*]; done)), H', ⟨by have := HJ6.out; have := HK2.out; have := HJ18.out; omega⟩, ⟨by (with_reducible repeat (first | apply Kd.R_alloc | apply Kd.R_drewN | apply Kd.R_drew)); exact HO_5.out⟩, ⟨by repeat (first | (with_reducible first | exact HB.out | apply below_alloc | apply pw_below_drewN | apply below_drew1) | exact HB.out)⟩⟩
                                              · replace c45 := Bool.eq_false_iff.mpr c45
                                                subst c45
                                                have H1 : (none) = some r := by rw [if_neg (show ¬ (false = true) by decide)] at H; exact H
                                                clear H
                                                have H := H1
                                                clear H1
                                                exact absurd H (by simp)
                                            · rw [if_neg c43] at H
                                              exact absurd H (by simp)
                                          · rw [if_neg c42] at H
                                            exact absurd H (by simp)
                                        · replace c40 := Bool.eq_false_iff.mpr c40
                                          subst c40
                                          have H1 : (factotumlaw15_CheckStays.l0 kj18 l0 t323 (wrap64 (x6_2 + 1))) = some r := by rw [if_neg (show ¬ (false = true) by decide)] at H; exact H
                                          clear H
                                          have H := H1
                                          clear H1
                                          have H' := Aside0.mk H
                                          clear H
                                          have p332 : 0 ≤ (x6_2 : Int) := of_decide_eq_true (by first | (with_reducible assumption) | assumption)
                                          have q332 : x6_2 < (l0.length : Int) := of_decide_eq_true (by first | (with_reducible assumption) | assumption)
                                          obtain ⟨ad332, e332, hx332_0, hx332_1, hx332_2, hx332_3, hx332_4, hx332_5, hx332_6⟩ := at_T32 HR0.out x6_2 p332 q332
                                          obtain rfl : ad327 = ad332 := (by injection e332)
                                          replace hx332_0 := (HB.out.cell (World.block_lt_of_cell? w _ hx332_0)).trans hx332_0
                                          replace hx332_1 := (HB.out.cell (World.block_lt_of_cell? w _ hx332_1)).trans hx332_1
                                          replace hx332_2 := (HB.out.cell (World.block_lt_of_cell? w _ hx332_2)).trans hx332_2
                                          replace hx332_3 := (HB.out.cell (World.block_lt_of_cell? w _ hx332_3)).trans hx332_3
                                          replace hx332_4 := (HB.out.cell (World.block_lt_of_cell? w _ hx332_4)).trans hx332_4
                                          replace hx332_5 := (HB.out.cell (World.block_lt_of_cell? w _ hx332_5)).trans hx332_5
                                          replace hx332_6 := (HB.out.cell (World.block_lt_of_cell? w _ hx332_6)).trans hx332_6
                                          replace p332 := eq_true p332
                                          replace q332 := eq_true q332
                                          have p333 : 0 ≤ (x6_2 : Int) := of_decide_eq_true (by first | (with_reducible assumption) | assumption)
                                          have q333 : x6_2 < (l0.length : Int) := of_decide_eq_true (by first | (with_reducible assumption) | assumption)
                                          obtain ⟨ad333, e333, hx333_0, hx333_1, hx333_2, hx333_3, hx333_4, hx333_5, hx333_6⟩ := at_T32 HR0.out x6_2 p333 q333
                                          obtain rfl : ad327 = ad333 := (by injection e333)
                                          replace hx333_0 := (HB.out.cell (World.block_lt_of_cell? w _ hx333_0)).trans hx333_0
                                          replace hx333_1 := (HB.out.cell (World.block_lt_of_cell? w _ hx333_1)).trans hx333_1
                                          replace hx333_2 := (HB.out.cell (World.block_lt_of_cell? w _ hx333_2)).trans hx333_2
                                          replace hx333_3 := (HB.out.cell (World.block_lt_of_cell? w _ hx333_3)).trans hx333_3
                                          replace hx333_4 := (HB.out.cell (World.block_lt_of_cell? w _ hx333_4)).trans hx333_4
                                          replace hx333_5 := (HB.out.cell (World.block_lt_of_cell? w _ hx333_5)).trans hx333_5
                                          replace hx333_6 := (HB.out.cell (World.block_lt_of_cell? w _ hx333_6)).trans hx333_6
                                          replace p333 := eq_true p333
                                          replace q333 := eq_true q333
                                          have p334 : 0 ≤ (x6_2 : Int) := of_decide_eq_true (by first | (with_reducible assumption) | assumption)
                                          have q334 : x6_2 < (l0.length : Int) := of_decide_eq_true (by first | (with_reducible assumption) | assumption)
                                          obtain ⟨ad334, e334, hx334_0, hx334_1, hx334_2, hx334_3, hx334_4, hx334_5, hx334_6⟩ := at_T32 HR0.out x6_2 p334 q334
                                          obtain rfl : ad327 = ad334 := (by injection e334)
                                          replace hx334_0 := (HB.out.cell (World.block_lt_of_cell? w _ hx334_0)).trans hx334_0
                                          replace hx334_1 := (HB.out.cell (World.block_lt_of_cell? w _ hx334_1)).trans hx334_1
                                          replace hx334_2 := (HB.out.cell (World.block_lt_of_cell? w _ hx334_2)).trans hx334_2
                                          replace hx334_3 := (HB.out.cell (World.block_lt_of_cell? w _ hx334_3)).trans hx334_3
                                          replace hx334_4 := (HB.out.cell (World.block_lt_of_cell? w _ hx334_4)).trans hx334_4
                                          replace hx334_5 := (HB.out.cell (World.block_lt_of_cell? w _ hx334_5)).trans hx334_5
                                          replace hx334_6 := (HB.out.cell (World.block_lt_of_cell? w _ hx334_6)).trans hx334_6
                                          replace p334 := eq_true p334
                                          replace q334 := eq_true q334
                                          obtain ⟨Ao47, co47, eo47⟩ := Kd.R_slice HO_5.out
                                          subst eo47
                                          have p335 : 0 ≤ (x6_2 : Int) := of_decide_eq_true (by first | (with_reducible assumption) | assumption)
                                          have q335 : x6_2 < (t323.length : Int) := of_decide_eq_true (by first | (with_reducible assumption) | assumption)
                                          obtain ⟨ad335, e335, hx335_0⟩ := Kd.at_bool (Kd.R_reads' HO_5.out).2.2 x6_2 p335 q335
                                          (try rw [← Nbq39.out] at hx335_0)
                                          cases e335
                                          replace p335 := eq_true p335
                                          replace q335 := eq_true q335
                                          go_wp2
                                          go_roundg kj18
                                          case measure => have := HJ6.out; have := HK2.out; have := HJ18.out; omega
                                          case rel => exact ⟨(wrap64 (x6_2 + 1)), (by first | (with_reducible rfl) | (simp; done) | (simp [*]; done) | rfl | (simp only [not_isEmpty_bne])), H', ⟨by have := HJ6.out; have := HK2.out; have := HJ18.out; omega⟩, ⟨by (with_reducible repeat (first | apply Kd.R_alloc | apply Kd.R_drewN | apply Kd.R_drew)); exact HO_5.out⟩, ⟨by repeat (first | (with_reducible first | exact HB.out | apply below_alloc | apply pw_below_drewN | apply below_drew1) | exact HB.out)⟩⟩
                                      · rw [if_neg c38] at H
                                        exact absurd H (by simp)
                            · rw [if_neg c33] at H
                              exact absurd H (by simp)
                          · rw [if_neg c32] at H
                            exact absurd H (by simp)
                  · rw [if_neg c17] at H
                    exact absurd H (by simp)
                · rw [if_neg c16] at H
                  have c16b0 : decide (x6_2 < (l0.length : Int)) = false := decide_eq_false c16
                  clear c16
                  obtain rfl := Option.some.inj H
                  go_wp2
                  go_ret
                  exact ⟨by first | (with_reducible rfl) | (simp only [isEmpty_bne, Bool.not_not] <;> with_reducible rfl) | (simp [errW_none, errW_some] <;> with_reducible rfl) | (simp only [isEmpty_bne, Bool.not_not] <;> rfl) | rfl | (simp [errW_none, errW_some] <;> rfl) | (simp [*, errW_none, errW_some] <;> rfl), by repeat (first | (with_reducible first | exact HB.out | apply below_alloc | apply pw_below_drewN | apply below_drew1) | exact HB.out)⟩
    · rw [if_neg c6] at H
      have c6b0 : (t321 == 0) = false := beq_eq_false_iff_ne.mpr c6
      have c6b1 : (t321 != 0) = true := bne_iff_ne.mpr c6
      obtain rfl := Option.some.inj H
      go_enter Tryd.func6, Tryd.ntmps6
      go_wp2_with (first | ((with_reducible refine gate_callee (f := 8) rfl ?_); refine goesL_ (some 10) rfl rfl Tryd.func8 (by kernel_rfl) rfl #[] rfl (by (try simp only [List.map_toArray, List.map_cons, List.map_nil]); first | done | rfl | (simp only [List.length_drop, List.length_take]; rfl) | (simp (disch := omega) only [u64_in]; rfl)) ?_; (with_reducible refine (factotumlaw15_lives.calls k  true _ A2.out).mono ?_); rintro e w48 ⟨rfl, hb⟩; refine ⟨_, rfl, ?_⟩; have n0_ := Aside0.mk (below_step (by repeat (first | (with_reducible first | exact HB.out | apply below_alloc | apply pw_below_drewN | apply below_drew1) | exact HB.out)) hb); clear HB; have HB := n0_; clear n0_; (try clear hb); (try clear hb2); (try clear hk); (try clear hi)) | ((with_reducible refine gate_callee (f := 9) rfl ?_); refine goesL_ (some 14) rfl rfl Tryd.func9 (by kernel_rfl) rfl #[.slice A0 l0.length c0] rfl (by (try simp only [List.map_toArray, List.map_cons, List.map_nil]); first | done | rfl | (simp only [List.length_drop, List.length_take]; rfl) | (simp (disch := omega) only [u64_in]; rfl)) ?_; (with_reducible refine (check_Check.calls k _ _ l0 t321 t322 _ ?side1 ?side2 A4.out).mono ?_); (case side1 => repeat (first | exact (Kd.C_below HR0.out HB.out) | (with_reducible refine Kd.C_alloc ?_ _) | (with_reducible refine Kd.C_drewN ?_ _) | (with_reducible refine Kd.C_drew ?_))); (case side2 => exact HC0.out); rintro e w49 ⟨rfl, hb⟩; refine ⟨_, rfl, ?_⟩; have n0_ := Aside0.mk (below_step (by repeat (first | (with_reducible first | exact HB.out | apply below_alloc | apply pw_below_drewN | apply below_drew1) | exact HB.out)) hb); clear HB; have HB := n0_; clear n0_; (try clear hb); (try clear hb2); (try clear hk); (try clear hi)) | ((with_reducible refine gate_callee (f := 16) rfl ?_); refine goesL_ (some 18) rfl rfl Tryd.func16 (by kernel_rfl) rfl #[.slice A0 l0.length c0] rfl (by (try simp only [List.map_toArray, List.map_cons, List.map_nil]); first | done | rfl | (simp only [List.length_drop, List.length_take]; rfl) | (simp (disch := omega) only [u64_in]; rfl)) ?_; (with_reducible refine (check_Reached.calls k _ _ l0 t323 _ ?side1 ?side2 A5.out).mono ?_); (case side1 => repeat (first | exact (Kd.C_below HR0.out HB.out) | (with_reducible refine Kd.C_alloc ?_ _) | (with_reducible refine Kd.C_drewN ?_ _) | (with_reducible refine Kd.C_drew ?_))); (case side2 => exact HC0.out); rintro e w50 ⟨v324, rfl, ho0, hb⟩; refine ⟨_, rfl, ?_⟩; have n0_ := Aside0.mk (Kd.R_lower ho0 (below_size (by repeat (first | (with_reducible first | exact HB.out | apply below_alloc | apply pw_below_drewN | apply below_drew1) | exact HB.out)))); have n1_ := Aside0.mk (below_step (by repeat (first | (with_reducible first | exact HB.out | apply below_alloc | apply pw_below_drewN | apply below_drew1) | exact HB.out)) hb); clear HB; have HO325 := n0_; have HB := n1_; clear n0_ n1_; (try clear hb); (try clear hb2); (try clear hk); (try clear hi); (try clear ho0); obtain ⟨Ao51, co51, eo51⟩ := Kd.R_slice HO325.out; subst eo51))
      go_ret
      exact ⟨by first | (with_reducible rfl) | (simp only [isEmpty_bne, Bool.not_not] <;> with_reducible rfl) | (simp [errW_none, errW_some] <;> with_reducible rfl) | (simp only [isEmpty_bne, Bool.not_not] <;> rfl) | rfl | (simp [errW_none, errW_some] <;> rfl) | (simp [*, errW_none, errW_some] <;> rfl), by repeat (first | (with_reducible first | exact HB.out | apply below_alloc | apply pw_below_drewN | apply below_drew1) | exact HB.out)⟩
  · replace c3 := Bool.eq_false_iff.mpr c3
    subst c3
    have H1 : (none) = some r := by rw [if_neg (show ¬ (false = true) by decide)] at H; exact H
    clear H
    have H := H1
    clear H1
    exact absurd H (by simp)

end Go.Proofs.YtbdmfpgiolaooaaDoor.PAll
