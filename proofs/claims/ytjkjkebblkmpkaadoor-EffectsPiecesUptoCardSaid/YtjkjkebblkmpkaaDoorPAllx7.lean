/- Printed walks of the functions that the laws reach: each function, what it computes, and that it does. No conditions. -/
import Derived.Test.YtjkjkebblkmpkaaDoorPAllx0
import Derived.Test.YtjkjkebblkmpkaaDoorPAllx5
import Derived.Test.YtjkjkebblkmpkaaDoorPAllx6
namespace Go.Proofs.YtjkjkebblkmpkaaDoor.PAll
open Go.RowKit Go.Proofs.YtjkjkebblkmpkaaDoor.XW Go.Proofs.YtjkjkebblkmpkaaDoor.XLib Go.Proofs.YtjkjkebblkmpkaaDoorW.PrintWords Go.Proofs.YtjkjkebblkmpkaaDoorW.PrintLast Go.Proofs.YtjkjkebblkmpkaaDoorW.PrintMore
attribute [local go_sem] max2_int min2_int max_two min_two max_three min_three max_four min_four   -- for this text's walks alone
set_option linter.unusedVariables false
set_option linter.unusedSimpArgs false

/-! ### factotumlaw17_EffectsPieces: function 6 -/
mutual
def factotumlaw17_EffectsPieces.j0 : Nat → List ByteArray → List ByteArray → Bool → Option (Bool)
  | 0, _, _, _ => none
  | k + 1, x5, x6, x26 => if x26 = true then (none) else (factotumlaw17_EffectsPieces.l0 k x5 x6 0)
def factotumlaw17_EffectsPieces.l0 : Nat → List ByteArray → List ByteArray → Int → Option (Bool)
  | 0, _, _, _ => none
  | k + 1, x5, x6, x7 => if x7 < (x5.length : Int) then (if 0 ≤ x7 then (if x7 < (x6.length : Int) then (if (rdOf ByteArray.empty x5 x7).toList = (rdOf ByteArray.empty x6 x7).toList then (if (rdOf ByteArray.empty x5 x7).toList = ([] : List UInt8) then (none) else (factotumlaw17_EffectsPieces.l0 k x5 x6 (wrap64 (x7 + 1)))) else (none)) else (none)) else (none)) else (some true)
end
def factotumlaw17_EffectsPieces.f (k : Nat) (a0 : ByteArray) (a1 : Int) : Option (Bool) := (factotumlaw17_lives.f k).bind fun t204 => (if t204 = true then ((effects_Pieces.f k a0 a1).bind fun t205 => ((factotumref17_Pieces.f k a0 a1).bind fun t208 => (if (t205.length : Int) = (t208.length : Int) then ((effects_Whole.f t205).bind fun t211 => (factotumlaw17_EffectsPieces.j0 k t205 t208 (t211.toList != a0.toList))) else (factotumlaw17_EffectsPieces.j0 k t205 t208 true)))) else (none))
theorem factotumlaw17_EffectsPieces.mono_l : ∀ k, (∀ y0 y1 y2, LeO (factotumlaw17_EffectsPieces.j0 k y0 y1 y2) (factotumlaw17_EffectsPieces.j0 (k + 1) y0 y1 y2)) ∧ (∀ y0 y1 y2, LeO (factotumlaw17_EffectsPieces.l0 k y0 y1 y2) (factotumlaw17_EffectsPieces.l0 (k + 1) y0 y1 y2))
  | 0 => ⟨fun _ _ _ r h => by simp [factotumlaw17_EffectsPieces.j0] at h, fun _ _ _ r h => by simp [factotumlaw17_EffectsPieces.l0] at h⟩
  | k + 1 => by
    obtain ⟨ih0, ih1⟩ := factotumlaw17_EffectsPieces.mono_l k
    refine ⟨?_, ?_⟩
    · intro y0 y1 y2
      unfold factotumlaw17_EffectsPieces.j0
      repeat' first
      | (with_reducible exact ih0 _ _ _)
      | (with_reducible exact ih1 _ _ _)
      | (with_reducible exact effects_Pieces.mono _ _ _)
      | (with_reducible exact factotumlaw17_lives.mono _)
      | (with_reducible exact factotumref17_Pieces.mono _ _ _)
      | (with_reducible exact LeO.refl _)
      | (with_reducible exact LeO.none _)
      | (with_reducible refine LeO.ite ?_ ?_)
      | (with_reducible refine LeO.bind ?_ (fun _ => ?_))
      | exact ih0 _ _ _
      | exact ih1 _ _ _
      | exact effects_Pieces.mono _ _ _
      | exact factotumlaw17_lives.mono _
      | exact factotumref17_Pieces.mono _ _ _
      | exact LeO.none _
      | refine LeO.ite ?_ ?_
      | refine LeO.bind ?_ (fun _ => ?_)
    · intro y0 y1 y2
      unfold factotumlaw17_EffectsPieces.l0
      repeat' first
      | (with_reducible exact ih0 _ _ _)
      | (with_reducible exact ih1 _ _ _)
      | (with_reducible exact effects_Pieces.mono _ _ _)
      | (with_reducible exact factotumlaw17_lives.mono _)
      | (with_reducible exact factotumref17_Pieces.mono _ _ _)
      | (with_reducible exact LeO.refl _)
      | (with_reducible exact LeO.none _)
      | (with_reducible refine LeO.ite ?_ ?_)
      | (with_reducible refine LeO.bind ?_ (fun _ => ?_))
      | exact ih0 _ _ _
      | exact ih1 _ _ _
      | exact effects_Pieces.mono _ _ _
      | exact factotumlaw17_lives.mono _
      | exact factotumref17_Pieces.mono _ _ _
      | exact LeO.none _
      | refine LeO.ite ?_ ?_
      | refine LeO.bind ?_ (fun _ => ?_)
theorem factotumlaw17_EffectsPieces.mono : ∀ a0 a1 k, LeO (factotumlaw17_EffectsPieces.f k a0 a1) (factotumlaw17_EffectsPieces.f (k + 1) a0 a1) := by
  intro a0 a1 k
  obtain ⟨ih0, ih1⟩ := factotumlaw17_EffectsPieces.mono_l k
  unfold factotumlaw17_EffectsPieces.f
  repeat' first
      | (with_reducible exact ih0 _ _ _)
      | (with_reducible exact ih1 _ _ _)
      | (with_reducible exact effects_Pieces.mono _ _ _)
      | (with_reducible exact factotumlaw17_lives.mono _)
      | (with_reducible exact factotumref17_Pieces.mono _ _ _)
      | (with_reducible exact LeO.refl _)
      | (with_reducible exact LeO.none _)
      | (with_reducible refine LeO.ite ?_ ?_)
      | (with_reducible refine LeO.bind ?_ (fun _ => ?_))
      | exact ih0 _ _ _
      | exact ih1 _ _ _
      | exact effects_Pieces.mono _ _ _
      | exact factotumlaw17_lives.mono _
      | exact factotumref17_Pieces.mono _ _ _
      | exact LeO.none _
      | refine LeO.ite ?_ ?_
      | refine LeO.bind ?_ (fun _ => ?_)
set_option maxHeartbeats 8000000 in
set_option maxRecDepth 100000 in
theorem factotumlaw17_EffectsPieces.calls (k : Nat) (a0 : ByteArray) (a1 : Int) (r : Bool) (w : World) (h : factotumlaw17_EffectsPieces.f k a0 a1 = some r) :
    Calls Tryd.prog 6 #[.string a0, .int .i64 a1] w fun e w' => e = .returned (.bool r) ∧ Below w.heap.size w w' := by
  have HB := Aside0.mk (Below.refl w.heap.size w)
  have H : ((factotumlaw17_lives.f k).bind fun t204 => (if t204 = true then ((effects_Pieces.f k a0 a1).bind fun t205 => ((factotumref17_Pieces.f k a0 a1).bind fun t208 => (if (t205.length : Int) = (t208.length : Int) then ((effects_Whole.f t205).bind fun t211 => (factotumlaw17_EffectsPieces.j0 k t205 t208 (t211.toList != a0.toList))) else (factotumlaw17_EffectsPieces.j0 k t205 t208 true)))) else (none))) = some r := h
  clear h
  replace H := Option.bind_eq_some_iff.mp H
  obtain ⟨t204, A30, H⟩ := H
  replace H : (if t204 = true then ((effects_Pieces.f k a0 a1).bind fun t205 => ((factotumref17_Pieces.f k a0 a1).bind fun t208 => (if (t205.length : Int) = (t208.length : Int) then ((effects_Whole.f t205).bind fun t211 => (factotumlaw17_EffectsPieces.j0 k t205 t208 (t211.toList != a0.toList))) else (factotumlaw17_EffectsPieces.j0 k t205 t208 true)))) else (none)) = some r := H
  have A3 := Aside0.mk A30
  clear A30
  by_cases c4 : t204 = true
  · subst c4
    have H1 : ((effects_Pieces.f k a0 a1).bind fun t205 => ((factotumref17_Pieces.f k a0 a1).bind fun t208 => (if (t205.length : Int) = (t208.length : Int) then ((effects_Whole.f t205).bind fun t211 => (factotumlaw17_EffectsPieces.j0 k t205 t208 (t211.toList != a0.toList))) else (factotumlaw17_EffectsPieces.j0 k t205 t208 true)))) = some r := by rw [if_pos rfl] at H; exact H
    clear H
    have H := H1
    clear H1
    replace H := Option.bind_eq_some_iff.mp H
    obtain ⟨t205, A50, H⟩ := H
    replace H : ((factotumref17_Pieces.f k a0 a1).bind fun t208 => (if (t205.length : Int) = (t208.length : Int) then ((effects_Whole.f t205).bind fun t211 => (factotumlaw17_EffectsPieces.j0 k t205 t208 (t211.toList != a0.toList))) else (factotumlaw17_EffectsPieces.j0 k t205 t208 true))) = some r := H
    have A5 := Aside0.mk A50
    clear A50
    replace H := Option.bind_eq_some_iff.mp H
    obtain ⟨t208, A60, H⟩ := H
    replace H : (if (t205.length : Int) = (t208.length : Int) then ((effects_Whole.f t205).bind fun t211 => (factotumlaw17_EffectsPieces.j0 k t205 t208 (t211.toList != a0.toList))) else (factotumlaw17_EffectsPieces.j0 k t205 t208 true)) = some r := H
    have A6 := Aside0.mk A60
    clear A60
    have HC7 := Aside0.mk H
    clear H
    go_enter Tryd.func6, Tryd.ntmps6
    go_upto_region 4 with (first | (go_at_call 8; (with_reducible refine (factotumlaw17_lives.calls k  true _ A3.out).mono ?_); rintro e w8 ⟨rfl, hb⟩; have n0_ := Aside0.mk (below_step (by repeat (first | (with_reducible first | exact HB.out | apply below_alloc | apply pw_below_drewN | apply below_drew1) | exact HB.out)) hb); clear HB; have HB := n0_; clear n0_; (try clear hb); (try clear hb2); (try clear hk); (try clear hi)) | (go_at_call 21; (with_reducible refine (effects_Pieces.calls k a0 a1 t205 _ A5.out).mono ?_); rintro e w9 ⟨v206, rfl, ho0, hb⟩; have n0_ := Aside0.mk (Kd.R_lower ho0 (below_size (by repeat (first | (with_reducible first | exact HB.out | apply below_alloc | apply pw_below_drewN | apply below_drew1) | exact HB.out)))); have n1_ := Aside0.mk (below_step (by repeat (first | (with_reducible first | exact HB.out | apply below_alloc | apply pw_below_drewN | apply below_drew1) | exact HB.out)) hb); clear HB; have HO207 := n0_; have HB := n1_; clear n0_ n1_; (try clear hb); (try clear hb2); (try clear hk); (try clear hi); (try clear ho0)) | (go_at_call 22; (with_reducible refine (factotumref17_Pieces.calls k a0 a1 t208 _ A6.out).mono ?_); rintro e w10 ⟨v209, rfl, ho0, hb⟩; have n0_ := Aside0.mk (Kd.R_elder' (by (with_reducible repeat (first | apply Kd.R_alloc | apply Kd.R_drewN | apply Kd.R_drew)); exact HO207.out) (Kd.R_base ho0) hb); have n1_ := Aside0.mk (Kd.R_lower (Kd.R_new' ho0 (Kd.R_lt (by (with_reducible repeat (first | apply Kd.R_alloc | apply Kd.R_drewN | apply Kd.R_drew)); exact HO207.out))) (below_size (by repeat (first | (with_reducible first | exact HB.out | apply below_alloc | apply pw_below_drewN | apply below_drew1) | exact HB.out)))); have n2_ := Aside0.mk (below_step (by repeat (first | (with_reducible first | exact HB.out | apply below_alloc | apply pw_below_drewN | apply below_drew1) | exact HB.out)) hb); clear HO207; clear HB; have HO207 := n0_; have HO210 := n1_; have HB := n2_; clear n0_ n1_ n2_; (try clear hb); (try clear hb2); (try clear hk); (try clear hi); (try clear ho0)))
    repeat (go_quiet (first | (go_at_call 8; (with_reducible refine (factotumlaw17_lives.calls k  true _ A3.out).mono ?_); rintro e w8 ⟨rfl, hb⟩; have n0_ := Aside0.mk (below_step (by repeat (first | (with_reducible first | exact HB.out | apply below_alloc | apply pw_below_drewN | apply below_drew1) | exact HB.out)) hb); clear HB; have HB := n0_; clear n0_; (try clear hb); (try clear hb2); (try clear hk); (try clear hi)) | (go_at_call 21; (with_reducible refine (effects_Pieces.calls k a0 a1 t205 _ A5.out).mono ?_); rintro e w9 ⟨v206, rfl, ho0, hb⟩; have n0_ := Aside0.mk (Kd.R_lower ho0 (below_size (by repeat (first | (with_reducible first | exact HB.out | apply below_alloc | apply pw_below_drewN | apply below_drew1) | exact HB.out)))); have n1_ := Aside0.mk (below_step (by repeat (first | (with_reducible first | exact HB.out | apply below_alloc | apply pw_below_drewN | apply below_drew1) | exact HB.out)) hb); clear HB; have HO207 := n0_; have HB := n1_; clear n0_ n1_; (try clear hb); (try clear hb2); (try clear hk); (try clear hi); (try clear ho0)) | (go_at_call 22; (with_reducible refine (factotumref17_Pieces.calls k a0 a1 t208 _ A6.out).mono ?_); rintro e w10 ⟨v209, rfl, ho0, hb⟩; have n0_ := Aside0.mk (Kd.R_elder' (by (with_reducible repeat (first | apply Kd.R_alloc | apply Kd.R_drewN | apply Kd.R_drew)); exact HO207.out) (Kd.R_base ho0) hb); have n1_ := Aside0.mk (Kd.R_lower (Kd.R_new' ho0 (Kd.R_lt (by (with_reducible repeat (first | apply Kd.R_alloc | apply Kd.R_drewN | apply Kd.R_drew)); exact HO207.out))) (below_size (by repeat (first | (with_reducible first | exact HB.out | apply below_alloc | apply pw_below_drewN | apply below_drew1) | exact HB.out)))); have n2_ := Aside0.mk (below_step (by repeat (first | (with_reducible first | exact HB.out | apply below_alloc | apply pw_below_drewN | apply below_drew1) | exact HB.out)) hb); clear HO207; clear HB; have HO207 := n0_; have HO210 := n1_; have HB := n2_; clear n0_ n1_ n2_; (try clear hb); (try clear hb2); (try clear hk); (try clear hi); (try clear ho0))); go_upto_region 4 with (first | (go_at_call 8; (with_reducible refine (factotumlaw17_lives.calls k  true _ A3.out).mono ?_); rintro e w8 ⟨rfl, hb⟩; have n0_ := Aside0.mk (below_step (by repeat (first | (with_reducible first | exact HB.out | apply below_alloc | apply pw_below_drewN | apply below_drew1) | exact HB.out)) hb); clear HB; have HB := n0_; clear n0_; (try clear hb); (try clear hb2); (try clear hk); (try clear hi)) | (go_at_call 21; (with_reducible refine (effects_Pieces.calls k a0 a1 t205 _ A5.out).mono ?_); rintro e w9 ⟨v206, rfl, ho0, hb⟩; have n0_ := Aside0.mk (Kd.R_lower ho0 (below_size (by repeat (first | (with_reducible first | exact HB.out | apply below_alloc | apply pw_below_drewN | apply below_drew1) | exact HB.out)))); have n1_ := Aside0.mk (below_step (by repeat (first | (with_reducible first | exact HB.out | apply below_alloc | apply pw_below_drewN | apply below_drew1) | exact HB.out)) hb); clear HB; have HO207 := n0_; have HB := n1_; clear n0_ n1_; (try clear hb); (try clear hb2); (try clear hk); (try clear hi); (try clear ho0)) | (go_at_call 22; (with_reducible refine (factotumref17_Pieces.calls k a0 a1 t208 _ A6.out).mono ?_); rintro e w10 ⟨v209, rfl, ho0, hb⟩; have n0_ := Aside0.mk (Kd.R_elder' (by (with_reducible repeat (first | apply Kd.R_alloc | apply Kd.R_drewN | apply Kd.R_drew)); exact HO207.out) (Kd.R_base ho0) hb); have n1_ := Aside0.mk (Kd.R_lower (Kd.R_new' ho0 (Kd.R_lt (by (with_reducible repeat (first | apply Kd.R_alloc | apply Kd.R_drewN | apply Kd.R_drew)); exact HO207.out))) (below_size (by repeat (first | (with_reducible first | exact HB.out | apply below_alloc | apply pw_below_drewN | apply below_drew1) | exact HB.out)))); have n2_ := Aside0.mk (below_step (by repeat (first | (with_reducible first | exact HB.out | apply below_alloc | apply pw_below_drewN | apply below_drew1) | exact HB.out)) hb); clear HO207; clear HB; have HO207 := n0_; have HO210 := n1_; have HB := n2_; clear n0_ n1_ n2_; (try clear hb); (try clear hb2); (try clear hk); (try clear hi); (try clear ho0))))
    (try simp only [Act.put, List.setIfInBounds_toArray, List.set_cons_zero, List.set_cons_succ])
    go_cut [26] (fun v26 wc => ∃ (kq : Nat) (x26_6 : Bool), v26 = .bool x26_6 ∧ Aside0 (factotumlaw17_EffectsPieces.j0 kq t205 t208 x26_6 = some r) ∧ Aside0 (kq ≤ k) ∧ Aside0 (Kd.R Kd.string 9 wc w.heap.size (fun k_ => some k_ ≠ (v209 : Value).ownBlock) v206 t205) ∧ Aside0 (Kd.R Kd.string 9 wc w.heap.size (fun k_ => some k_ ≠ (v206 : Value).ownBlock) v209 t208) ∧ Aside0 (Below w.heap.size w wc))
    case first =>
      have H := HC7.out
      clear HC7
      by_cases c11 : (t205.length : Int) = (t208.length : Int)
      · rw [if_pos c11] at H
        have c11b0 : ((t205.length : Int) == (t208.length : Int)) = true := beq_iff_eq.mpr c11
        have c11b1 : ((t205.length : Int) != (t208.length : Int)) = false := bne_eq_false_iff_eq.mpr c11
        have c11b2 : (t205.length == t208.length) = true := by first | simpa using c11 | (simp at c11 ⊢; omega)
        clear c11
        (first | rw [c11b0] | (simp only [i64_w, i32_w]; rw [c11b0]) | skip)
        replace H := Option.bind_eq_some_iff.mp H
        obtain ⟨t211, A120, H⟩ := H
        replace H : (factotumlaw17_EffectsPieces.j0 k t205 t208 (t211.toList != a0.toList)) = some r := H
        have A12 := Aside0.mk A120
        clear A120
        have H' := Aside0.mk H
        clear H
        obtain ⟨Ao13, co13, eo13⟩ := Kd.R_slice HO207.out
        subst eo13
        obtain ⟨Ao14, co14, eo14⟩ := Kd.R_slice HO210.out
        subst eo14
        go_wp2_with (first | (go_at_call 23; (with_reducible refine (effects_Whole.calls _ _ t205 t211 _ ?side1 ?side2 A12.out).mono ?_); (case side1 => repeat (first | exact (Kd.R_reads' HO207.out).2.2 | (with_reducible refine Kd.C_alloc ?_ _) | (with_reducible refine Kd.C_drewN ?_ _) | (with_reducible refine Kd.C_drew ?_))); (case side2 => exact (Kd.R_reads' HO207.out).2.1); rintro e w15 ⟨rfl, hb⟩; have n0_ := Aside0.mk (Kd.R_below (by (with_reducible repeat (first | apply Kd.R_alloc | apply Kd.R_drewN | apply Kd.R_drew)); exact HO207.out) hb); have n1_ := Aside0.mk (Kd.R_below (by (with_reducible repeat (first | apply Kd.R_alloc | apply Kd.R_drewN | apply Kd.R_drew)); exact HO210.out) hb); have n2_ := Aside0.mk (below_step (by repeat (first | (with_reducible first | exact HB.out | apply below_alloc | apply pw_below_drewN | apply below_drew1) | exact HB.out)) hb); clear HO207; clear HO210; clear HB; have HO207 := n0_; have HO210 := n1_; have HB := n2_; clear n0_ n1_ n2_; (try clear hb); (try clear hb2); (try clear hk); (try clear hi)))
        repeat (go_quiet (first | (go_at_call 23; (with_reducible refine (effects_Whole.calls _ _ t205 t211 _ ?side1 ?side2 A12.out).mono ?_); (case side1 => repeat (first | exact (Kd.R_reads' HO207.out).2.2 | (with_reducible refine Kd.C_alloc ?_ _) | (with_reducible refine Kd.C_drewN ?_ _) | (with_reducible refine Kd.C_drew ?_))); (case side2 => exact (Kd.R_reads' HO207.out).2.1); rintro e w15 ⟨rfl, hb⟩; have n0_ := Aside0.mk (Kd.R_below (by (with_reducible repeat (first | apply Kd.R_alloc | apply Kd.R_drewN | apply Kd.R_drew)); exact HO207.out) hb); have n1_ := Aside0.mk (Kd.R_below (by (with_reducible repeat (first | apply Kd.R_alloc | apply Kd.R_drewN | apply Kd.R_drew)); exact HO210.out) hb); have n2_ := Aside0.mk (below_step (by repeat (first | (with_reducible first | exact HB.out | apply below_alloc | apply pw_below_drewN | apply below_drew1) | exact HB.out)) hb); clear HO207; clear HO210; clear HB; have HO207 := n0_; have HO210 := n1_; have HB := n2_; clear n0_ n1_ n2_; (try clear hb); (try clear hb2); (try clear hk); (try clear hi))); try go_wp2_with (first | (go_at_call 23; (with_reducible refine (effects_Whole.calls _ _ t205 t211 _ ?side1 ?side2 A12.out).mono ?_); (case side1 => repeat (first | exact (Kd.R_reads' HO207.out).2.2 | (with_reducible refine Kd.C_alloc ?_ _) | (with_reducible refine Kd.C_drewN ?_ _) | (with_reducible refine Kd.C_drew ?_))); (case side2 => exact (Kd.R_reads' HO207.out).2.1); rintro e w15 ⟨rfl, hb⟩; have n0_ := Aside0.mk (Kd.R_below (by (with_reducible repeat (first | apply Kd.R_alloc | apply Kd.R_drewN | apply Kd.R_drew)); exact HO207.out) hb); have n1_ := Aside0.mk (Kd.R_below (by (with_reducible repeat (first | apply Kd.R_alloc | apply Kd.R_drewN | apply Kd.R_drew)); exact HO210.out) hb); have n2_ := Aside0.mk (below_step (by repeat (first | (with_reducible first | exact HB.out | apply below_alloc | apply pw_below_drewN | apply below_drew1) | exact HB.out)) hb); clear HO207; clear HO210; clear HB; have HO207 := n0_; have HO210 := n1_; have HB := n2_; clear n0_ n1_ n2_; (try clear hb); (try clear hb2); (try clear hk); (try clear hi))))
        go_meet
        case rel => exact ⟨_, ((t211.toList != a0.toList)), (by first | (with_reducible rfl) | (simp; done) | (simp [*]; done) | rfl), H', ⟨by first | omega | exact Nat.le_refl _⟩, ⟨by (with_reducible repeat (first | apply Kd.R_alloc | apply Kd.R_drewN | apply Kd.R_drew)); exact Kd.R_mono HO207.out (fun _ hk => hk.2)⟩, ⟨by (with_reducible repeat (first | apply Kd.R_alloc | apply Kd.R_drewN | apply Kd.R_drew)); exact Kd.R_mono HO210.out (fun _ hk => hk.2)⟩, ⟨by repeat (first | (with_reducible first | exact HB.out | apply below_alloc | apply pw_below_drewN | apply below_drew1) | exact HB.out)⟩⟩
      · rw [if_neg c11] at H
        have c11b0 : ((t205.length : Int) == (t208.length : Int)) = false := beq_eq_false_iff_ne.mpr c11
        have c11b1 : ((t205.length : Int) != (t208.length : Int)) = true := bne_iff_ne.mpr c11
        have c11b2 : (t205.length == t208.length) = false := by first | simpa using c11 | (simp at c11 ⊢; omega)
        (first | rw [c11b0] | (simp only [i64_w, i32_w]; rw [c11b0]) | skip)
        have H' := Aside0.mk H
        clear H
        obtain ⟨Ao16, co16, eo16⟩ := Kd.R_slice HO207.out
        subst eo16
        obtain ⟨Ao17, co17, eo17⟩ := Kd.R_slice HO210.out
        subst eo17
        go_wp2
        repeat (go_quiet (fail); try go_wp2)
        go_meet
        case rel => exact ⟨_, (true), (by first | (with_reducible rfl) | (simp; done) | (simp [*]; done) | rfl), H', ⟨by first | omega | exact Nat.le_refl _⟩, ⟨by (with_reducible repeat (first | apply Kd.R_alloc | apply Kd.R_drewN | apply Kd.R_drew)); exact Kd.R_mono HO207.out (fun _ hk => hk.2)⟩, ⟨by (with_reducible repeat (first | apply Kd.R_alloc | apply Kd.R_drewN | apply Kd.R_drew)); exact Kd.R_mono HO210.out (fun _ hk => hk.2)⟩, ⟨by repeat (first | (with_reducible first | exact HB.out | apply below_alloc | apply pw_below_drewN | apply below_drew1) | exact HB.out)⟩⟩
    case rest =>
      clear HC7
      try clear c1
      try clear p2
      try clear c4
      try clear c6
      try clear c11
      try clear c11b0
      try clear c11b1
      try clear c11b2
      obtain ⟨kq, x26_6, rfl, HA, HJ6, HO_5, HO_6, HB⟩ := hcut
      cases kq with
      | zero => exact absurd HA.out (by simp [factotumlaw17_EffectsPieces.j0])
      | succ kj6 =>
        have H := HA.out
        clear HA
        simp only [factotumlaw17_EffectsPieces.j0] at H
        by_cases c18 : x26_6 = true
        · subst c18
          have H1 : (none) = some r := by rw [if_pos rfl] at H; exact H
          clear H
          have H := H1
          clear H1
          exact absurd H (by simp)
        · replace c18 := Bool.eq_false_iff.mpr c18
          subst c18
          have H1 : (factotumlaw17_EffectsPieces.l0 kj6 t205 t208 0) = some r := by rw [if_neg (show ¬ (false = true) by decide)] at H; exact H
          clear H
          have H := H1
          clear H1
          have H' := Aside0.mk H
          clear H
          go_wp2
          repeat (go_quiet (fail); try go_wp2)
          go_loopg [7] kj6 (fun kq v7 w' => ∃ (x7_2 : Int), v7 = .int .i64 x7_2 ∧ Aside0 (factotumlaw17_EffectsPieces.l0 kq t205 t208 x7_2 = some r) ∧ Aside0 (kq ≤ kj6) ∧ Aside0 (Kd.R Kd.string 9 w' w.heap.size (fun k_ => some k_ ≠ (v209 : Value).ownBlock) v206 t205) ∧ Aside0 (Kd.R Kd.string 9 w' w.heap.size (fun k_ => some k_ ≠ (v206 : Value).ownBlock) v209 t208) ∧ Aside0 (Below w.heap.size w w'))
          case atStart => exact ⟨(0), (by first | (with_reducible rfl) | (simp; done) | (simp [*]; done) | rfl), H', ⟨Nat.le_refl _⟩, ⟨by (with_reducible repeat (first | apply Kd.R_alloc | apply Kd.R_drewN | apply Kd.R_drew)); exact HO_5.out⟩, ⟨by (with_reducible repeat (first | apply Kd.R_alloc | apply Kd.R_drewN | apply Kd.R_drew)); exact HO_6.out⟩, ⟨by repeat (first | (with_reducible first | exact HB.out | apply below_alloc | apply pw_below_drewN | apply below_drew1) | exact HB.out)⟩⟩
          case round =>
            clear H'
            try clear c1
            try clear p2
            try clear c4
            try clear c6
            try clear c11
            try clear c11b0
            try clear c11b1
            try clear c11b2
            try clear c18
            try clear p2
            obtain ⟨x7_2, rfl, HA, HK2, HO_5, HO_6, HB⟩ := hrel
            cases gk with
            | zero => exact absurd HA.out (by simp [factotumlaw17_EffectsPieces.l0])
            | succ k2 =>
              have H := HA.out
              clear HA
              simp only [factotumlaw17_EffectsPieces.l0] at H
              by_cases c19 : x7_2 < (t205.length : Int)
              · rw [if_pos c19] at H
                have c19b0 : decide (x7_2 < (t205.length : Int)) = true := decide_eq_true c19
                clear c19
                by_cases c20 : 0 ≤ x7_2
                · rw [if_pos c20] at H
                  have c20b0 : decide (0 ≤ x7_2) = true := decide_eq_true c20
                  clear c20
                  by_cases c21 : x7_2 < (t208.length : Int)
                  · rw [if_pos c21] at H
                    have c21b0 : decide (x7_2 < (t208.length : Int)) = true := decide_eq_true c21
                    clear c21
                    by_cases c22 : (rdOf ByteArray.empty t205 x7_2).toList = (rdOf ByteArray.empty t208 x7_2).toList
                    · rw [if_pos c22] at H
                      have c22b0 : ((rdOf ByteArray.empty t205 x7_2).toList == (rdOf ByteArray.empty t208 x7_2).toList) = true := beq_iff_eq.mpr c22
                      have c22b1 : ((rdOf ByteArray.empty t205 x7_2).toList != (rdOf ByteArray.empty t208 x7_2).toList) = false := bne_eq_false_iff_eq.mpr c22
                      clear c22
                      by_cases c23 : (rdOf ByteArray.empty t205 x7_2).toList = ([] : List UInt8)
                      · rw [if_pos c23] at H
                        exact absurd H (by simp)
                      · rw [if_neg c23] at H
                        have c23b0 : ((rdOf ByteArray.empty t205 x7_2).toList == ([] : List UInt8)) = false := beq_eq_false_iff_ne.mpr c23
                        have c23b1 : ((rdOf ByteArray.empty t205 x7_2).toList != ([] : List UInt8)) = true := bne_iff_ne.mpr c23
                        have H' := Aside0.mk H
                        clear H
                        obtain ⟨Ao24, co24, eo24⟩ := Kd.R_slice HO_5.out
                        subst eo24
                        have p212 : 0 ≤ (x7_2 : Int) := of_decide_eq_true (by first | (with_reducible assumption) | assumption)
                        have q212 : x7_2 < (t205.length : Int) := of_decide_eq_true (by first | (with_reducible assumption) | assumption)
                        obtain ⟨ad212, e212, hx212_0⟩ := Kd.at_string (Kd.R_reads' HO_5.out).2.2 x7_2 p212 q212
                        cases e212
                        replace p212 := eq_true p212
                        replace q212 := eq_true q212
                        obtain ⟨Ao25, co25, eo25⟩ := Kd.R_slice HO_6.out
                        subst eo25
                        have p213 : 0 ≤ (x7_2 : Int) := of_decide_eq_true (by first | (with_reducible assumption) | assumption)
                        have q213 : x7_2 < (t208.length : Int) := of_decide_eq_true (by first | (with_reducible assumption) | assumption)
                        obtain ⟨ad213, e213, hx213_0⟩ := Kd.at_string (Kd.R_reads' HO_6.out).2.2 x7_2 p213 q213
                        cases e213
                        replace p213 := eq_true p213
                        replace q213 := eq_true q213
                        have p214 : 0 ≤ (x7_2 : Int) := of_decide_eq_true (by first | (with_reducible assumption) | assumption)
                        have q214 : x7_2 < (t205.length : Int) := of_decide_eq_true (by first | (with_reducible assumption) | assumption)
                        obtain ⟨ad214, e214, hx214_0⟩ := Kd.at_string (Kd.R_reads' HO_5.out).2.2 x7_2 p214 q214
                        obtain rfl : ad212 = ad214 := (by injection e214)
                        replace p214 := eq_true p214
                        replace q214 := eq_true q214
                        go_wp2
                        repeat (go_quiet (fail); try go_wp2)
                        go_roundg k2
                        case measure => have := HJ6.out; have := HK2.out; omega
                        case rel => exact ⟨(wrap64 (x7_2 + 1)), (by first | (with_reducible rfl) | (simp; done) | (simp [*]; done) | rfl), H', ⟨by have := HJ6.out; have := HK2.out; omega⟩, ⟨by (with_reducible repeat (first | apply Kd.R_alloc | apply Kd.R_drewN | apply Kd.R_drew)); exact HO_5.out⟩, ⟨by (with_reducible repeat (first | apply Kd.R_alloc | apply Kd.R_drewN | apply Kd.R_drew)); exact HO_6.out⟩, ⟨by repeat (first | (with_reducible first | exact HB.out | apply below_alloc | apply pw_below_drewN | apply below_drew1) | exact HB.out)⟩⟩
                    · rw [if_neg c22] at H
                      exact absurd H (by simp)
                  · rw [if_neg c21] at H
                    exact absurd H (by simp)
                · rw [if_neg c20] at H
                  exact absurd H (by simp)
              · rw [if_neg c19] at H
                have c19b0 : decide (x7_2 < (t205.length : Int)) = false := decide_eq_false c19
                clear c19
                obtain rfl := Option.some.inj H
                obtain ⟨Ao26, co26, eo26⟩ := Kd.R_slice HO_5.out
                subst eo26
                go_wp2
                repeat (go_quiet (fail); try go_wp2)
                go_ret
                exact ⟨by first | (with_reducible rfl) | (simp only [isEmpty_bne, Bool.not_not] <;> with_reducible rfl) | (simp [errW_none, errW_some] <;> with_reducible rfl) | (simp only [isEmpty_bne, Bool.not_not] <;> rfl) | rfl | (simp [errW_none, errW_some] <;> rfl) | (simp [*, errW_none, errW_some] <;> rfl), by repeat (first | (with_reducible first | exact HB.out | apply below_alloc | apply pw_below_drewN | apply below_drew1) | exact HB.out)⟩
  · replace c4 := Bool.eq_false_iff.mpr c4
    subst c4
    have H1 : (none) = some r := by rw [if_neg (show ¬ (false = true) by decide)] at H; exact H
    clear H
    have H := H1
    clear H1
    exact absurd H (by simp)

/-- THE ONE PURE STATEMENT of factotumlaw17_EffectsPieces: yours. -/
def factotumlaw17_EffectsPieces.Pure : Prop := ∀ (a0 : ByteArray) (a1 : Int), a0.size ≤ 140737488351232 → (Lit.int .i64 a1).wf = true → ∃ k, factotumlaw17_EffectsPieces.f k a0 a1 = some true
theorem factotumlaw17_EffectsPieces.walk (P : factotumlaw17_EffectsPieces.Pure) (a0 : ByteArray) (a1 : Int) (w : World) (w0 : a0.size ≤ 140737488351232) (w1 : (Lit.int .i64 a1).wf = true) :
    Calls Tryd.prog 6 #[.string a0, .int .i64 a1] w fun e w' => e = .returned (.bool true) ∧ Below w.heap.size w w' := by
  obtain ⟨k, h⟩ := P a0 a1 w0 w1
  refine (factotumlaw17_EffectsPieces.calls k a0 a1 true w h).mono ?_
  rintro e w' ⟨rfl, hd⟩
  exact ⟨rfl, hd⟩

end Go.Proofs.YtjkjkebblkmpkaaDoor.PAll
