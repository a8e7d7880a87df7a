/- Printed walks of the functions that the laws reach: each function, what it computes, and that it does. No conditions. -/
import Derived.Test.YtbdmfpgiolaooaaDoorPAllx0
import Derived.Test.YtbdmfpgiolaooaaDoorPAllx19
import Derived.Test.YtbdmfpgiolaooaaDoorPAllx21
import Derived.Test.YtbdmfpgiolaooaaDoorPAllx22
namespace Go.Proofs.YtbdmfpgiolaooaaDoor.PAll
open Go.RowKit Go.Proofs.YtbdmfpgiolaooaaDoor.XW Go.Proofs.YtbdmfpgiolaooaaDoor.XLib Go.Proofs.YtbdmfpgiolaooaaDoorW.PrintWords Go.Proofs.YtbdmfpgiolaooaaDoorW.PrintLast Go.Proofs.YtbdmfpgiolaooaaDoorW.PrintMore
attribute [local go_sem] max2_int min2_int max_two min_two max_three min_three max_four min_four   -- for this text's walks alone
set_option linter.unusedVariables false
set_option linter.unusedSimpArgs false

/-! ### factotumlaw15_CheckHeads: function 7 -/
mutual
def factotumlaw15_CheckHeads.j0 : Nat → List (S32) → List (S32) → Bool → Option (Bool)
  | 0, _, _, _ => none
  | k + 1, x0, x1, x41 => if x41 = true then (some true) else (if ([] : List (S32)).length + x0.length < 2199023255552 then (factotumlaw15_CheckHeads.l0 k x0 x1 (([] : List (S32)) ++ x0) 0) else (none))
def factotumlaw15_CheckHeads.l0 : Nat → List (S32) → List (S32) → List (S32) → Int → Option (Bool)
  | 0, _, _, _, _ => none
  | k + 1, x0, x1, x9, x10 => if x10 < (x1.length : Int) then (if 0 ≤ x10 then (if ((rd_T32 x1 x10).f0) = 9 then (if x9.length < 2199023255552 then (factotumlaw15_CheckHeads.l0 k x0 x1 (x9 ++ [(⟨(rd_T32 x1 x10).f0, wrap64 (((rd_T32 x1 x10).f1) + (x0.length : Int)), (rd_T32 x1 x10).f2, (rd_T32 x1 x10).f3, (⟨(rd_T32 x1 x10).f4.f0, (rd_T32 x1 x10).f4.f1, (rd_T32 x1 x10).f4.f2⟩ : S30)⟩ : S32)]) (wrap64 (x10 + 1))) else (none)) else (if ((rd_T32 x1 x10).f0) = 10 then (if x9.length < 2199023255552 then (factotumlaw15_CheckHeads.l0 k x0 x1 (x9 ++ [(⟨(rd_T32 x1 x10).f0, wrap64 (((rd_T32 x1 x10).f1) + (x0.length : Int)), (rd_T32 x1 x10).f2, (rd_T32 x1 x10).f3, (⟨(rd_T32 x1 x10).f4.f0, (rd_T32 x1 x10).f4.f1, (rd_T32 x1 x10).f4.f2⟩ : S30)⟩ : S32)]) (wrap64 (x10 + 1))) else (none)) else (if x9.length < 2199023255552 then (factotumlaw15_CheckHeads.l0 k x0 x1 (x9 ++ [(⟨(rd_T32 x1 x10).f0, (rd_T32 x1 x10).f1, (rd_T32 x1 x10).f2, (rd_T32 x1 x10).f3, (⟨(rd_T32 x1 x10).f4.f0, (rd_T32 x1 x10).f4.f1, (rd_T32 x1 x10).f4.f2⟩ : S30)⟩ : S32)]) (wrap64 (x10 + 1))) else (none)))) else (none)) else ((check_Check.f k x9).bind fun bt256 => (if ([] : List (S32)).length + x0.length < 2199023255552 then ((some (([] : List (S32)) ++ x0 : List (S32))).bind fun y258 => (if y258.length < 2199023255552 then ((check_Check.f k (y258 ++ [(⟨18, 0, 0, 0, (⟨0, 0, (⟨#[]⟩ : ByteArray)⟩ : S30)⟩ : S32)])).bind fun bt264 => (if bt256.1 = 0 then (if bt264.1 = 0 then ((factotumref13_Same.f k x9 x0).bind fun t266 => (some (!t266))) else (none)) else (none))) else (none))) else (none)))
end
def factotumlaw15_CheckHeads.f (k : Nat) (l0 : List (S32)) (l1 : List (S32)) : Option (Bool) := (factotumlaw15_lives.f k).bind fun t237 => (if t237 = true then ((check_Check.f k l0).bind fun bt238 => ((check_Check.f k l1).bind fun bt240 => (if bt238.1 = 0 then (if bt240.1 = 0 then (factotumlaw15_CheckHeads.j0 k l0 l1 (decide ((wrap64 ((l0.length : Int) + (l1.length : Int))) > 64))) else (factotumlaw15_CheckHeads.j0 k l0 l1 true)) else (factotumlaw15_CheckHeads.j0 k l0 l1 true)))) else (none))
theorem factotumlaw15_CheckHeads.mono_l : ∀ k, (∀ y0 y1 y2, LeO (factotumlaw15_CheckHeads.j0 k y0 y1 y2) (factotumlaw15_CheckHeads.j0 (k + 1) y0 y1 y2)) ∧ (∀ y0 y1 y2 y3, LeO (factotumlaw15_CheckHeads.l0 k y0 y1 y2 y3) (factotumlaw15_CheckHeads.l0 (k + 1) y0 y1 y2 y3))
  | 0 => ⟨fun _ _ _ r h => by simp [factotumlaw15_CheckHeads.j0] at h, fun _ _ _ _ r h => by simp [factotumlaw15_CheckHeads.l0] at h⟩
  | k + 1 => by
    obtain ⟨ih0, ih1⟩ := factotumlaw15_CheckHeads.mono_l k
    refine ⟨?_, ?_⟩
    · intro y0 y1 y2
      unfold factotumlaw15_CheckHeads.j0
      repeat' first
      | (with_reducible exact ih0 _ _ _)
      | (with_reducible exact ih1 _ _ _ _)
      | (with_reducible exact check_Check.mono _ _)
      | (with_reducible exact factotumlaw15_lives.mono _)
      | (with_reducible exact factotumref13_Same.mono _ _ _)
      | (with_reducible exact LeO.refl _)
      | (with_reducible exact LeO.none _)
      | (with_reducible refine LeO.ite ?_ ?_)
      | (with_reducible refine LeO.bind ?_ (fun _ => ?_))
      | exact ih0 _ _ _
      | exact ih1 _ _ _ _
      | exact check_Check.mono _ _
      | exact factotumlaw15_lives.mono _
      | exact factotumref13_Same.mono _ _ _
      | exact LeO.none _
      | refine LeO.ite ?_ ?_
      | refine LeO.bind ?_ (fun _ => ?_)
    · intro y0 y1 y2 y3
      unfold factotumlaw15_CheckHeads.l0
      repeat' first
      | (with_reducible exact ih0 _ _ _)
      | (with_reducible exact ih1 _ _ _ _)
      | (with_reducible exact check_Check.mono _ _)
      | (with_reducible exact factotumlaw15_lives.mono _)
      | (with_reducible exact factotumref13_Same.mono _ _ _)
      | (with_reducible exact LeO.refl _)
      | (with_reducible exact LeO.none _)
      | (with_reducible refine LeO.ite ?_ ?_)
      | (with_reducible refine LeO.bind ?_ (fun _ => ?_))
      | exact ih0 _ _ _
      | exact ih1 _ _ _ _
      | exact check_Check.mono _ _
      | exact factotumlaw15_lives.mono _
      | exact factotumref13_Same.mono _ _ _
      | exact LeO.none _
      | refine LeO.ite ?_ ?_
      | refine LeO.bind ?_ (fun _ => ?_)
theorem factotumlaw15_CheckHeads.mono : ∀ a0 a1 k, LeO (factotumlaw15_CheckHeads.f k a0 a1) (factotumlaw15_CheckHeads.f (k + 1) a0 a1) := by
  intro a0 a1 k
  obtain ⟨ih0, ih1⟩ := factotumlaw15_CheckHeads.mono_l k
  unfold factotumlaw15_CheckHeads.f
  repeat' first
      | (with_reducible exact ih0 _ _ _)
      | (with_reducible exact ih1 _ _ _ _)
      | (with_reducible exact check_Check.mono _ _)
      | (with_reducible exact factotumlaw15_lives.mono _)
      | (with_reducible exact factotumref13_Same.mono _ _ _)
      | (with_reducible exact LeO.refl _)
      | (with_reducible exact LeO.none _)
      | (with_reducible refine LeO.ite ?_ ?_)
      | (with_reducible refine LeO.bind ?_ (fun _ => ?_))
      | exact ih0 _ _ _
      | exact ih1 _ _ _ _
      | exact check_Check.mono _ _
      | exact factotumlaw15_lives.mono _
      | exact factotumref13_Same.mono _ _ _
      | exact LeO.none _
      | refine LeO.ite ?_ ?_
      | refine LeO.bind ?_ (fun _ => ?_)
set_option maxHeartbeats 8000000 in
set_option maxRecDepth 100000 in
theorem factotumlaw15_CheckHeads.calls (k : Nat) (A0 : Option Addr) (c0 : Nat) (l0 : List (S32)) (A1 : Option Addr) (c1 : Nat) (l1 : List (S32)) (r : Bool) (w : World) (hr0 : Kd.C k32 w A0 l0.length l0) (hc0 : l0.length ≤ c0) (hr1 : Kd.C k32 w A1 l1.length l1) (hc1 : l1.length ≤ c1) (h : factotumlaw15_CheckHeads.f k l0 l1 = some r) :
    Calls Tryd.prog 7 #[.slice A0 l0.length c0, .slice A1 l1.length c1] w fun e w' => e = .returned (.bool r) ∧ Below w.heap.size w w' := by
  have hu32 := Tryd.underlying32
  have HR0 := Aside0.mk hr0
  have HC0 := Aside0.mk hc0
  clear hr0 hc0
  have HR1 := Aside0.mk hr1
  have HC1 := Aside0.mk hc1
  clear hr1 hc1
  have HB := Aside0.mk (Below.refl w.heap.size w)
  have H : ((factotumlaw15_lives.f k).bind fun t237 => (if t237 = true then ((check_Check.f k l0).bind fun bt238 => ((check_Check.f k l1).bind fun bt240 => (if bt238.1 = 0 then (if bt240.1 = 0 then (factotumlaw15_CheckHeads.j0 k l0 l1 (decide ((wrap64 ((l0.length : Int) + (l1.length : Int))) > 64))) else (factotumlaw15_CheckHeads.j0 k l0 l1 true)) else (factotumlaw15_CheckHeads.j0 k l0 l1 true)))) else (none))) = some r := h
  clear h
  replace H := Option.bind_eq_some_iff.mp H
  obtain ⟨t237, A30, H⟩ := H
  replace H : (if t237 = true then ((check_Check.f k l0).bind fun bt238 => ((check_Check.f k l1).bind fun bt240 => (if bt238.1 = 0 then (if bt240.1 = 0 then (factotumlaw15_CheckHeads.j0 k l0 l1 (decide ((wrap64 ((l0.length : Int) + (l1.length : Int))) > 64))) else (factotumlaw15_CheckHeads.j0 k l0 l1 true)) else (factotumlaw15_CheckHeads.j0 k l0 l1 true)))) else (none)) = some r := H
  have A3 := Aside0.mk A30
  clear A30
  by_cases c4 : t237 = true
  · subst c4
    have H1 : ((check_Check.f k l0).bind fun bt238 => ((check_Check.f k l1).bind fun bt240 => (if bt238.1 = 0 then (if bt240.1 = 0 then (factotumlaw15_CheckHeads.j0 k l0 l1 (decide ((wrap64 ((l0.length : Int) + (l1.length : Int))) > 64))) else (factotumlaw15_CheckHeads.j0 k l0 l1 true)) else (factotumlaw15_CheckHeads.j0 k l0 l1 true)))) = some r := by rw [if_pos rfl] at H; exact H
    clear H
    have H := H1
    clear H1
    replace H := Option.bind_eq_some_iff.mp H
    obtain ⟨⟨t238, t239⟩, A50, H⟩ := H
    replace H : ((check_Check.f k l1).bind fun bt240 => (if t238 = 0 then (if bt240.1 = 0 then (factotumlaw15_CheckHeads.j0 k l0 l1 (decide ((wrap64 ((l0.length : Int) + (l1.length : Int))) > 64))) else (factotumlaw15_CheckHeads.j0 k l0 l1 true)) else (factotumlaw15_CheckHeads.j0 k l0 l1 true))) = some r := H
    have A5 := Aside0.mk A50
    clear A50
    replace H := Option.bind_eq_some_iff.mp H
    obtain ⟨⟨t240, t241⟩, A60, H⟩ := H
    replace H : (if t238 = 0 then (if t240 = 0 then (factotumlaw15_CheckHeads.j0 k l0 l1 (decide ((wrap64 ((l0.length : Int) + (l1.length : Int))) > 64))) else (factotumlaw15_CheckHeads.j0 k l0 l1 true)) else (factotumlaw15_CheckHeads.j0 k l0 l1 true)) = some r := H
    have A6 := Aside0.mk A60
    clear A60
    have HC7 := Aside0.mk H
    clear H
    go_enter Tryd.func7, Tryd.ntmps7
    go_upto_region 5 with (first | ((with_reducible refine gate_callee (f := 8) rfl ?_); refine goesL_ (some 16) rfl rfl Tryd.func8 (by kernel_rfl) rfl #[] rfl (by (try simp only [List.map_toArray, List.map_cons, List.map_nil]); first | done | rfl | (simp only [List.length_drop, List.length_take]; rfl) | (simp (disch := omega) only [u64_in]; rfl)) ?_; (with_reducible refine (factotumlaw15_lives.calls k  true _ A3.out).mono ?_); rintro e w8 ⟨rfl, hb⟩; refine ⟨_, rfl, ?_⟩; have n0_ := Aside0.mk (below_step (by repeat (first | (with_reducible first | exact HB.out | apply below_alloc | apply pw_below_drewN | apply below_drew1) | exact HB.out)) hb); clear HB; have HB := n0_; clear n0_; (try clear hb); (try clear hb2); (try clear hk); (try clear hi)) | ((with_reducible refine gate_callee (f := 9) rfl ?_); refine goesL_ (some 20) rfl rfl Tryd.func9 (by kernel_rfl) rfl #[.slice A0 l0.length c0] rfl (by (try simp only [List.map_toArray, List.map_cons, List.map_nil]); first | done | rfl | (simp only [List.length_drop, List.length_take]; rfl) | (simp (disch := omega) only [u64_in]; rfl)) ?_; (with_reducible refine (check_Check.calls k _ _ l0 t238 t239 _ ?side1 ?side2 A5.out).mono ?_); (case side1 => repeat (first | exact (Kd.C_below HR0.out HB.out) | (with_reducible refine Kd.C_alloc ?_ _) | (with_reducible refine Kd.C_drewN ?_ _) | (with_reducible refine Kd.C_drew ?_))); (case side2 => exact HC0.out); rintro e w9 ⟨rfl, hb⟩; refine ⟨_, rfl, ?_⟩; have n0_ := Aside0.mk (below_step (by repeat (first | (with_reducible first | exact HB.out | apply below_alloc | apply pw_below_drewN | apply below_drew1) | exact HB.out)) hb); clear HB; have HB := n0_; clear n0_; (try clear hb); (try clear hb2); (try clear hk); (try clear hi)) | ((with_reducible refine gate_callee (f := 9) rfl ?_); refine goesL_ (some 25) rfl rfl Tryd.func9 (by kernel_rfl) rfl #[.slice A1 l1.length c1] rfl (by (try simp only [List.map_toArray, List.map_cons, List.map_nil]); first | done | rfl | (simp only [List.length_drop, List.length_take]; rfl) | (simp (disch := omega) only [u64_in]; rfl)) ?_; (with_reducible refine (check_Check.calls k _ _ l1 t240 t241 _ ?side1 ?side2 A6.out).mono ?_); (case side1 => repeat (first | exact (Kd.C_below HR1.out HB.out) | (with_reducible refine Kd.C_alloc ?_ _) | (with_reducible refine Kd.C_drewN ?_ _) | (with_reducible refine Kd.C_drew ?_))); (case side2 => exact HC1.out); rintro e w10 ⟨rfl, hb⟩; refine ⟨_, rfl, ?_⟩; have n0_ := Aside0.mk (below_step (by repeat (first | (with_reducible first | exact HB.out | apply below_alloc | apply pw_below_drewN | apply below_drew1) | exact HB.out)) hb); clear HB; have HB := n0_; clear n0_; (try clear hb); (try clear hb2); (try clear hk); (try clear hi)))
    (try simp only [Act.put, List.setIfInBounds_toArray, List.set_cons_zero, List.set_cons_succ])
    go_cut [41] (fun v41 wc => ∃ (kq : Nat) (x41_6 : Bool), v41 = .bool x41_6 ∧ Aside0 (factotumlaw15_CheckHeads.j0 kq l0 l1 x41_6 = some r) ∧ Aside0 (kq ≤ k) ∧ Aside0 (Below w.heap.size w wc))
    case first =>
      have H := HC7.out
      clear HC7
      by_cases c11 : t238 = 0
      · rw [if_pos c11] at H
        have c11b0 : (t238 == 0) = true := beq_iff_eq.mpr c11
        have c11b1 : (t238 != 0) = false := bne_eq_false_iff_eq.mpr c11
        clear c11
        (first | rw [c11b0] | (simp only [i64_w, i32_w]; rw [c11b0]) | skip)
        by_cases c12 : t240 = 0
        · rw [if_pos c12] at H
          have c12b0 : (t240 == 0) = true := beq_iff_eq.mpr c12
          have c12b1 : (t240 != 0) = false := bne_eq_false_iff_eq.mpr c12
          clear c12
          have H' := Aside0.mk H
          clear H
          go_wp2
          go_meet
          case rel => exact ⟨_, (decide ((wrap64 ((l0.length : Int) + (l1.length : Int))) > 64)), (by first | (with_reducible rfl) | (simp; done) | (simp [*]; done) | rfl | (simp only [not_isEmpty_bne])), H', ⟨by first | omega | exact Nat.le_refl _⟩, ⟨by repeat (first | (with_reducible first | exact HB.out | apply below_alloc | apply pw_below_drewN | apply below_drew1) | exact HB.out)⟩⟩
        · rw [if_neg c12] at H
          have c12b0 : (t240 == 0) = false := beq_eq_false_iff_ne.mpr c12
          have c12b1 : (t240 != 0) = true := bne_iff_ne.mpr c12
          have H' := Aside0.mk H
          clear H
          go_wp2
          go_meet
          case rel => exact ⟨_, (true), (by first | (with_reducible rfl) | (simp; done) | (simp [*]; done) | rfl | (simp only [not_isEmpty_bne])), H', ⟨by first | omega | exact Nat.le_refl _⟩, ⟨by repeat (first | (with_reducible first | exact HB.out | apply below_alloc | apply pw_below_drewN | apply below_drew1) | exact HB.out)⟩⟩
      · rw [if_neg c11] at H
        have c11b0 : (t238 == 0) = false := beq_eq_false_iff_ne.mpr c11
        have c11b1 : (t238 != 0) = true := bne_iff_ne.mpr c11
        (first | rw [c11b0] | (simp only [i64_w, i32_w]; rw [c11b0]) | skip)
        have H' := Aside0.mk H
        clear H
        go_wp2
        go_meet
        case rel => exact ⟨_, (true), (by first | (with_reducible rfl) | (simp; done) | (simp [*]; done) | rfl | (simp only [not_isEmpty_bne])), H', ⟨by first | omega | exact Nat.le_refl _⟩, ⟨by repeat (first | (with_reducible first | exact HB.out | apply below_alloc | apply pw_below_drewN | apply below_drew1) | exact HB.out)⟩⟩
    case rest =>
      clear HC7
      try clear c1
      try clear p2
      try clear c4
      try clear p6
      try clear c7
      try clear c8
      try clear c9
      try clear c11
      try clear c11b0
      try clear c11b1
      try clear c12
      try clear c12b0
      try clear c12b1
      obtain ⟨kq, x41_6, rfl, HA, HJ6, HB⟩ := hcut
      cases kq with
      | zero => exact absurd HA.out (by simp [factotumlaw15_CheckHeads.j0])
      | succ kj6 =>
        have H := HA.out
        clear HA
        simp only [factotumlaw15_CheckHeads.j0] at H
        by_cases c13 : x41_6 = true
        · subst c13
          have H1 : (some true) = some r := by rw [if_pos rfl] at H; exact H
          clear H
          have H := H1
          clear H1
          obtain rfl := Option.some.inj H
          go_wp2
          go_ret
          exact ⟨by first | (with_reducible rfl) | (simp only [isEmpty_bne, Bool.not_not] <;> with_reducible rfl) | (simp [errW_none, errW_some] <;> with_reducible rfl) | (simp only [isEmpty_bne, Bool.not_not] <;> rfl) | rfl | (simp [errW_none, errW_some] <;> rfl) | (simp [*, errW_none, errW_some] <;> rfl), by repeat (first | (with_reducible first | exact HB.out | apply below_alloc | apply pw_below_drewN | apply below_drew1) | exact HB.out)⟩
        · replace c13 := Bool.eq_false_iff.mpr c13
          subst c13
          have H1 : (if ([] : List (S32)).length + l0.length < 2199023255552 then (factotumlaw15_CheckHeads.l0 kj6 l0 l1 (([] : List (S32)) ++ l0) 0) else (none)) = some r := by rw [if_neg (show ¬ (false = true) by decide)] at H; exact H
          clear H
          have H := H1
          clear H1
          by_cases c14 : ([] : List (S32)).length + l0.length < 2199023255552
          · rw [if_pos c14] at H
            have LMc14 := Aside0.mk c14
            clear c14
            obtain ⟨y242, hy242⟩ : ∃ y_ : List (S32), y_ = (([] : List (S32)) ++ l0) := ⟨_, rfl⟩
            replace H : (factotumlaw15_CheckHeads.l0 kj6 l0 l1 y242 0) = some r := by first | (rw [hy242]; with_reducible exact H) | (have H2_ := (Option.bind_some _ _).symm.trans H; rw [hy242]; with_reducible exact H2_) | (have H2_ := (Option.bind_some _ _).symm.trans H; with_reducible exact H2_) | with_reducible exact H | (rw [hy242]; exact H) | exact H
            have Ny242 := Aside0.mk hy242
            clear hy242
            have H' := Aside0.mk H
            clear H
            go_wp2_with (first | ((with_reducible refine gate_builtin (b := .append) (xs := #[.const (.slice none 0 0), .tmp 42]) rfl ?_); (try (refine gate_guard (by rfl) ?_; dsimp only)); at_builtin; refine Kd.R_append_rows k32 (w0 := w) w.heap.size rfl (.const (.slice none 0 0)) (.tmp 42) 22 32 (.agg #[(.int .i64 0), (.int .i64 0), (.int .i64 0), (.int .i64 0), (.int .i64 0), (.int .i64 0), (.string ⟨#[]⟩)]) 64 rfl Tryd.underlying22 info32 rfl (by decide) (by omega) (.slice none 0 0) ([] : List (S32)) l0 _ _ _ (fun _ => True) (fun _ => False) rfl rfl ?aO ?aR (fun _ _ h => h) (fun _ h => h.elim) ?aF ?aB ?aS ?aL ?_; (case aR => repeat (first | exact (Kd.C_below HR0.out HB.out) | (with_reducible refine Kd.C_alloc ?_ _) | (with_reducible refine Kd.C_drewN ?_ _) | (with_reducible refine Kd.C_drew ?_))); (case aB => exact (by repeat (first | (with_reducible first | exact HB.out | apply below_alloc | apply pw_below_drewN | apply below_drew1) | exact HB.out))); (case aF => exact (fun _ _ => trivial)); (case aO => exact ((Kd.R_nil _ _ _ _ (fun _ => True)))); (case aS => exact (below_size (by repeat (first | (with_reducible first | exact HB.out | apply below_alloc | apply pw_below_drewN | apply below_drew1) | exact HB.out)))); (case aL => have := LMc14.out; omega); intro v243 w15 ho hb hg hat; rw [← Ny242.out] at ho; have n0_ := Aside0.mk (hb); have n1_ := Aside0.mk (ho); clear HB; have HB := n0_; have HO244 := n1_; clear n0_ n1_; clear ho hb hg hat))
            go_loopg [9, 10] kj6 (fun kq v9 v10 w' => ∃ (x9_2 : List (S32)) (x10_2 : Int), v10 = .int .i64 x10_2 ∧ Aside0 (factotumlaw15_CheckHeads.l0 kq l0 l1 x9_2 x10_2 = some r) ∧ Aside0 (kq ≤ kj6) ∧ Aside0 (Kd.R k32 32 w' w.heap.size (fun _ => True) v9 x9_2) ∧ Aside0 (Below w.heap.size w w'))
            case atStart => exact ⟨(y242), (0), (by first | (with_reducible rfl) | (simp; done) | (simp [*]; done) | rfl | (simp only [not_isEmpty_bne])), H', ⟨Nat.le_refl _⟩, ⟨by (with_reducible repeat (first | apply Kd.R_alloc | apply Kd.R_drewN | apply Kd.R_drew)); exact HO244.out⟩, ⟨by repeat (first | (with_reducible first | exact HB.out | apply below_alloc | apply pw_below_drewN | apply below_drew1) | exact HB.out)⟩⟩
            case round =>
              clear H'
              try clear c1
              try clear p2
              try clear c4
              try clear p6
              try clear c7
              try clear c8
              try clear c9
              try clear c11
              try clear c11b0
              try clear c11b1
              try clear c12
              try clear c12b0
              try clear c12b1
              try clear c13
              try clear c14
              try clear p2
              try clear p6
              obtain ⟨x9_2, x10_2, rfl, HA, HK2, HO_9, HB⟩ := hrel
              cases gk with
              | zero => exact absurd HA.out (by simp [factotumlaw15_CheckHeads.l0])
              | succ k2 =>
                have H := HA.out
                clear HA
                simp only [factotumlaw15_CheckHeads.l0] at H
                by_cases c16 : x10_2 < (l1.length : Int)
                · rw [if_pos c16] at H
                  have c16b0 : decide (x10_2 < (l1.length : Int)) = true := decide_eq_true c16
                  clear c16
                  by_cases c17 : 0 ≤ x10_2
                  · rw [if_pos c17] at H
                    have c17b0 : decide (0 ≤ x10_2) = true := decide_eq_true c17
                    clear c17
                    by_cases c18 : ((rd_T32 l1 x10_2).f0) = 9
                    · rw [if_pos c18] at H
                      have c18b0 : (((rd_T32 l1 x10_2).f0) == 9) = true := beq_iff_eq.mpr c18
                      have c18b1 : (((rd_T32 l1 x10_2).f0) != 9) = false := bne_eq_false_iff_eq.mpr c18
                      clear c18
                      by_cases c19 : x9_2.length < 2199023255552
                      · rw [if_pos c19] at H
                        have LMc19 := Aside0.mk c19
                        clear c19
                        obtain ⟨y247, hy247⟩ : ∃ y_ : List (S32), y_ = (x9_2 ++ [(⟨(rd_T32 l1 x10_2).f0, wrap64 (((rd_T32 l1 x10_2).f1) + (l0.length : Int)), (rd_T32 l1 x10_2).f2, (rd_T32 l1 x10_2).f3, (⟨(rd_T32 l1 x10_2).f4.f0, (rd_T32 l1 x10_2).f4.f1, (rd_T32 l1 x10_2).f4.f2⟩ : S30)⟩ : S32)]) := ⟨_, rfl⟩
                        replace H : (factotumlaw15_CheckHeads.l0 k2 l0 l1 y247 (wrap64 (x10_2 + 1))) = some r := by first | (rw [hy247]; with_reducible exact H) | (have H2_ := (Option.bind_some _ _).symm.trans H; rw [hy247]; with_reducible exact H2_) | (have H2_ := (Option.bind_some _ _).symm.trans H; with_reducible exact H2_) | with_reducible exact H | (rw [hy247]; exact H) | exact H
                        have Ny247 := Aside0.mk hy247
                        clear hy247
                        have H' := Aside0.mk H
                        clear H
                        have p245 : 0 ≤ (x10_2 : Int) := of_decide_eq_true (by first | (with_reducible assumption) | assumption)
                        have q245 : x10_2 < (l1.length : Int) := of_decide_eq_true (by first | (with_reducible assumption) | assumption)
                        obtain ⟨ad245, e245, hx245_0, hx245_1, hx245_2, hx245_3, hx245_4, hx245_5, hx245_6⟩ := at_T32 HR1.out x10_2 p245 q245
                        cases e245
                        replace hx245_0 := (HB.out.cell (World.block_lt_of_cell? w _ hx245_0)).trans hx245_0
                        replace hx245_1 := (HB.out.cell (World.block_lt_of_cell? w _ hx245_1)).trans hx245_1
                        replace hx245_2 := (HB.out.cell (World.block_lt_of_cell? w _ hx245_2)).trans hx245_2
                        replace hx245_3 := (HB.out.cell (World.block_lt_of_cell? w _ hx245_3)).trans hx245_3
                        replace hx245_4 := (HB.out.cell (World.block_lt_of_cell? w _ hx245_4)).trans hx245_4
                        replace hx245_5 := (HB.out.cell (World.block_lt_of_cell? w _ hx245_5)).trans hx245_5
                        replace hx245_6 := (HB.out.cell (World.block_lt_of_cell? w _ hx245_6)).trans hx245_6
                        replace p245 := eq_true p245
                        replace q245 := eq_true q245
                        go_wp2_with (first | ((with_reducible refine gate_dst (N := 11) rfl ?_); (try (refine gate_guard (by rfl) ?_; dsimp only)); refine box_event ?hg (N := 11) ?hd (cs := #[.int .i64 0, .int .i64 0, .int .i64 0, .int .i64 0, .int .i64 0, .int .i64 0, .string (⟨#[]⟩ : ByteArray)]) (t := 32) ?hr ?_; (case hd => rfl); (case hg => rfl); (case hr => first | (go_simp; done) | (go_simp; rfl)); intro gb246 hg w20 hbox hb; have n0_ := Aside0.mk (Kd.R_below (Kd.R_elderB (by (with_reducible repeat (first | apply Kd.R_alloc | apply Kd.R_drewN | apply Kd.R_drew)); exact HO_9.out) gb246 (Nat.le_of_eq hg.symm)) hb); have n1_ := Aside0.mk (below_step (by repeat (first | (with_reducible first | exact HB.out | apply below_alloc | apply pw_below_drewN | apply below_drew1) | exact HB.out)) hb); have n2_ := Aside0.mk (hbox); have n3_ := Aside0.mk ((by rw [hg]; exact (below_size (by repeat (first | (with_reducible first | exact HB.out | apply below_alloc | apply pw_below_drewN | apply below_drew1) | exact HB.out))) : w.heap.size ≤ gb246)); have n4_ := Aside0.mk ((by rw [hg]; exact (below_size (by repeat (first | (with_reducible first | exact HB.out | apply below_alloc | apply pw_below_drewN | apply below_drew1) | exact HB.out))) : w.heap.size ≤ gb246)); clear HO_9; clear HB; have HO_9 := n0_; have HB := n1_; have BK246 := n2_; have GW246 := n3_; have GE246 := n4_; clear n0_ n1_ n2_ n3_ n4_; clear hb hbox hg) | ((with_reducible refine gate_store (t := 32) (p := 11) rfl ?_); refine store_all 32 gb246 32 #[.int .i64 0, .int .i64 0, .int .i64 0, .int .i64 0, .int .i64 0, .int .i64 0, .string (⟨#[]⟩ : ByteArray)] #[.int .i64 ((rd_T32 l1 x10_2).f0), .int .i64 ((rd_T32 l1 x10_2).f1), .int .i64 ((rd_T32 l1 x10_2).f2), .int .i64 ((rd_T32 l1 x10_2).f3), .int .i64 ((rd_T32 l1 x10_2).f4.f0), .int .i64 ((rd_T32 l1 x10_2).f4.f1), .string ((rd_T32 l1 x10_2).f4.f2)] rfl rfl rfl (by first | rfl | (go_simp; done)) (by (with_reducible repeat (first | refine blk_drewN ?_ _ | refine blk_drew ?_ | refine blk_alloc ?_ _)); exact BK246.out) (by kernel_rfl) rfl (by kernel_rfl) ?_; intro w21 hx hg; have n0_ := Aside0.mk (Kd.R_grown HO_9.out hg (fun k_ hk_ he_ => (hk_.2) (Option.some.inj he_))); have n1_ := Aside0.mk ((fun {W_ : World} (hB_ : Below w.heap.size w W_) (hg_ : W_.grownBy w21 (some gb246)) => hB_.grown hg_ hB_.size (fun k_ e_ => by cases e_; exact GE246.out)) (by repeat (first | (with_reducible first | exact HB.out | apply below_alloc | apply pw_below_drewN | apply below_drew1 | refine below_set ?_ GE246.out) | exact HB.out)) hg); have n2_ := Aside0.mk (hx); clear HO_9; clear HB; clear BK246; have HO_9 := n0_; have HB := n1_; have BK246 := n2_; clear n0_ n1_ n2_; clear hx hg; have hcz22_0 : w21.cell? ⟨gb246, 0, none⟩ = some (.int .i64 ((rd_T32 l1 x10_2).f0)) := (blk_cell BK246.out 0).trans rfl; have hcz22_1 : w21.cell? ⟨gb246, 1, none⟩ = some (.int .i64 ((rd_T32 l1 x10_2).f1)) := (blk_cell BK246.out 1).trans rfl; have hcz22_2 : w21.cell? ⟨gb246, 2, none⟩ = some (.int .i64 ((rd_T32 l1 x10_2).f2)) := (blk_cell BK246.out 2).trans rfl; have hcz22_3 : w21.cell? ⟨gb246, 3, none⟩ = some (.int .i64 ((rd_T32 l1 x10_2).f3)) := (blk_cell BK246.out 3).trans rfl; have hcz22_4 : w21.cell? ⟨gb246, 4, none⟩ = some (.int .i64 ((rd_T32 l1 x10_2).f4.f0)) := (blk_cell BK246.out 4).trans rfl; have hcz22_5 : w21.cell? ⟨gb246, 5, none⟩ = some (.int .i64 ((rd_T32 l1 x10_2).f4.f1)) := (blk_cell BK246.out 5).trans rfl; have hcz22_6 : w21.cell? ⟨gb246, 6, none⟩ = some (.string ((rd_T32 l1 x10_2).f4.f2)) := (blk_cell BK246.out 6).trans rfl; have hfz22_0 := blk_frozen BK246.out 0; have hfz22_1 := blk_frozen BK246.out 1; have hfz22_2 := blk_frozen BK246.out 2; have hfz22_3 := blk_frozen BK246.out 3; have hfz22_4 := blk_frozen BK246.out 4; have hfz22_5 := blk_frozen BK246.out 5; have hfz22_6 := blk_frozen BK246.out 6) | ((with_reducible refine gate_builtin (b := .append) (xs := #[.tmp 68, .tmp 70]) rfl ?_); (try (refine gate_guard (by rfl) ?_; dsimp only)); at_builtin; refine Kd.R_append k32 (w0 := w) w.heap.size rfl (.tmp 68) (.tmp 70) 22 32 (.agg #[(.int .i64 0), (.int .i64 0), (.int .i64 0), (.int .i64 0), (.int .i64 0), (.int .i64 0), (.string ⟨#[]⟩)]) 64 rfl Tryd.underlying22 info32 rfl (by decide) (by omega) u9 x9_2 (⟨(rd_T32 l1 x10_2).f0, wrap64 (((rd_T32 l1 x10_2).f1) + (l0.length : Int)), (rd_T32 l1 x10_2).f2, (rd_T32 l1 x10_2).f3, (⟨(rd_T32 l1 x10_2).f4.f0, (rd_T32 l1 x10_2).f4.f1, (rd_T32 l1 x10_2).f4.f2⟩ : S30)⟩ : S32) [.int .i64 ((rd_T32 l1 x10_2).f0), .int .i64 (wrap64 (((rd_T32 l1 x10_2).f1) + (l0.length : Int))), .int .i64 ((rd_T32 l1 x10_2).f2), .int .i64 ((rd_T32 l1 x10_2).f3), .int .i64 ((rd_T32 l1 x10_2).f4.f0), .int .i64 ((rd_T32 l1 x10_2).f4.f1), .string ((rd_T32 l1 x10_2).f4.f2)] (fun k_ => k_ ≠ gb246) (fun _ => False) rfl (by first | (go_simp; done) | (go_simp; rfl)) ?aP (fun _ hk => hk.elim) ?aF ?aO ?aB ?aS ?aL ?_; (case aP => exact k32_mkM _ _ _ (⟨(rd_T32 l1 x10_2).f0, wrap64 (((rd_T32 l1 x10_2).f1) + (l0.length : Int)), (rd_T32 l1 x10_2).f2, (rd_T32 l1 x10_2).f3, (⟨(rd_T32 l1 x10_2).f4.f0, (rd_T32 l1 x10_2).f4.f1, (rd_T32 l1 x10_2).f4.f2⟩ : S30)⟩ : S32)); (case aB => exact (by repeat (first | (with_reducible first | exact HB.out | apply below_alloc | apply pw_below_drewN | apply below_drew1 | refine below_set ?_ GE246.out) | exact HB.out))); (case aF => exact (fun k_ hk => Kd.freshB (g := gb246) (o := .cells #[.int .i64 ((rd_T32 l1 x10_2).f0), .int .i64 (wrap64 (((rd_T32 l1 x10_2).f1) + (l0.length : Int))), .int .i64 ((rd_T32 l1 x10_2).f2), .int .i64 ((rd_T32 l1 x10_2).f3), .int .i64 ((rd_T32 l1 x10_2).f4.f0), .int .i64 ((rd_T32 l1 x10_2).f4.f1), .string ((rd_T32 l1 x10_2).f4.f2)] 32 (0, 0)) (by (with_reducible repeat (first | refine blk_drewN ?_ _ | refine blk_drew ?_ | refine blk_alloc ?_ _)); refine blk_put (cs := #[.int .i64 ((rd_T32 l1 x10_2).f0), .int .i64 ((rd_T32 l1 x10_2).f1), .int .i64 ((rd_T32 l1 x10_2).f2), .int .i64 ((rd_T32 l1 x10_2).f3), .int .i64 ((rd_T32 l1 x10_2).f4.f0), .int .i64 ((rd_T32 l1 x10_2).f4.f1), .string ((rd_T32 l1 x10_2).f4.f2)]) ?_ 1 _ rfl; (with_reducible repeat (first | refine blk_drewN ?_ _ | refine blk_drew ?_ | refine blk_alloc ?_ _)); exact BK246.out) k_ hk)); (case aO => exact (by (with_reducible repeat (first | apply Kd.R_alloc | apply Kd.R_drewN | apply Kd.R_drew)); exact Kd.R_mono (Kd.R_far (p := ⟨gb246, 1, none⟩) (Kd.R_mono HO_9.out (fun k_ hk => (⟨hk, hk.2⟩ : _ ∧ k_ ≠ gb246))) (fun _ hk => hk.2) (.int .i64 (wrap64 (((rd_T32 l1 x10_2).f1) + (l0.length : Int))))) (fun _ hk => hk.1.2))); (case aS => exact (below_size (by repeat (first | (with_reducible first | exact HB.out | apply below_alloc | apply pw_below_drewN | apply below_drew1 | refine below_set ?_ GE246.out) | exact HB.out)))); (case aL => have := LMc19.out; omega); intro v248 w23 ho hb hg hat; rw [← Ny247.out] at ho; have n0_ := Aside0.mk (blk_grown (g := gb246) (o := .cells #[.int .i64 ((rd_T32 l1 x10_2).f0), .int .i64 (wrap64 (((rd_T32 l1 x10_2).f1) + (l0.length : Int))), .int .i64 ((rd_T32 l1 x10_2).f2), .int .i64 ((rd_T32 l1 x10_2).f3), .int .i64 ((rd_T32 l1 x10_2).f4.f0), .int .i64 ((rd_T32 l1 x10_2).f4.f1), .string ((rd_T32 l1 x10_2).f4.f2)] 32 (0, 0)) (by (with_reducible repeat (first | refine blk_drewN ?_ _ | refine blk_drew ?_ | refine blk_alloc ?_ _)); refine blk_put (cs := #[.int .i64 ((rd_T32 l1 x10_2).f0), .int .i64 ((rd_T32 l1 x10_2).f1), .int .i64 ((rd_T32 l1 x10_2).f2), .int .i64 ((rd_T32 l1 x10_2).f3), .int .i64 ((rd_T32 l1 x10_2).f4.f0), .int .i64 ((rd_T32 l1 x10_2).f4.f1), .string ((rd_T32 l1 x10_2).f4.f2)]) ?_ 1 _ rfl; (with_reducible repeat (first | refine blk_drewN ?_ _ | refine blk_drew ?_ | refine blk_alloc ?_ _)); exact BK246.out) hg (Kd.R_away HO_9.out (fun _ hk => hk.2))); have n1_ := Aside0.mk (hb); have n2_ := Aside0.mk (ho); clear BK246; clear HB; clear HO_9; have BK246 := n0_; have HB := n1_; have HO249 := n2_; clear n0_ n1_ n2_; clear ho hb hg hat))
                        go_roundg k2
                        case measure => have := HJ6.out; have := HK2.out; omega
                        case rel => exact ⟨(y247), (wrap64 (x10_2 + 1)), (by first | (with_reducible rfl) | (simp; done) | (simp [*]; done) | rfl | (simp only [not_isEmpty_bne])), H', ⟨by have := HJ6.out; have := HK2.out; omega⟩, ⟨by (with_reducible repeat (first | apply Kd.R_alloc | apply Kd.R_drewN | apply Kd.R_drew)); exact Kd.R_mono HO249.out (fun _ hk => trivial)⟩, ⟨by repeat (first | (with_reducible first | exact HB.out | apply below_alloc | apply pw_below_drewN | apply below_drew1 | refine below_set ?_ GE246.out) | exact HB.out)⟩⟩
                      · rw [if_neg c19] at H
                        exact absurd H (by simp)
                    · rw [if_neg c18] at H
                      have c18b0 : (((rd_T32 l1 x10_2).f0) == 9) = false := beq_eq_false_iff_ne.mpr c18
                      have c18b1 : (((rd_T32 l1 x10_2).f0) != 9) = true := bne_iff_ne.mpr c18
                      by_cases c24 : ((rd_T32 l1 x10_2).f0) = 10
                      · rw [if_pos c24] at H
                        have c24b0 : (((rd_T32 l1 x10_2).f0) == 10) = true := beq_iff_eq.mpr c24
                        have c24b1 : (((rd_T32 l1 x10_2).f0) != 10) = false := bne_eq_false_iff_eq.mpr c24
                        clear c24
                        by_cases c25 : x9_2.length < 2199023255552
                        · rw [if_pos c25] at H
                          have LMc25 := Aside0.mk c25
                          clear c25
                          obtain ⟨y250, hy250⟩ : ∃ y_ : List (S32), y_ = (x9_2 ++ [(⟨(rd_T32 l1 x10_2).f0, wrap64 (((rd_T32 l1 x10_2).f1) + (l0.length : Int)), (rd_T32 l1 x10_2).f2, (rd_T32 l1 x10_2).f3, (⟨(rd_T32 l1 x10_2).f4.f0, (rd_T32 l1 x10_2).f4.f1, (rd_T32 l1 x10_2).f4.f2⟩ : S30)⟩ : S32)]) := ⟨_, rfl⟩
                          replace H : (factotumlaw15_CheckHeads.l0 k2 l0 l1 y250 (wrap64 (x10_2 + 1))) = some r := by first | (rw [hy250]; with_reducible exact H) | (have H2_ := (Option.bind_some _ _).symm.trans H; rw [hy250]; with_reducible exact H2_) | (have H2_ := (Option.bind_some _ _).symm.trans H; with_reducible exact H2_) | with_reducible exact H | (rw [hy250]; exact H) | exact H
                          have Ny250 := Aside0.mk hy250
                          clear hy250
                          have H' := Aside0.mk H
                          clear H
                          have p245 : 0 ≤ (x10_2 : Int) := of_decide_eq_true (by first | (with_reducible assumption) | assumption)
                          have q245 : x10_2 < (l1.length : Int) := of_decide_eq_true (by first | (with_reducible assumption) | assumption)
                          obtain ⟨ad245, e245, hx245_0, hx245_1, hx245_2, hx245_3, hx245_4, hx245_5, hx245_6⟩ := at_T32 HR1.out x10_2 p245 q245
                          cases e245
                          replace hx245_0 := (HB.out.cell (World.block_lt_of_cell? w _ hx245_0)).trans hx245_0
                          replace hx245_1 := (HB.out.cell (World.block_lt_of_cell? w _ hx245_1)).trans hx245_1
                          replace hx245_2 := (HB.out.cell (World.block_lt_of_cell? w _ hx245_2)).trans hx245_2
                          replace hx245_3 := (HB.out.cell (World.block_lt_of_cell? w _ hx245_3)).trans hx245_3
                          replace hx245_4 := (HB.out.cell (World.block_lt_of_cell? w _ hx245_4)).trans hx245_4
                          replace hx245_5 := (HB.out.cell (World.block_lt_of_cell? w _ hx245_5)).trans hx245_5
                          replace hx245_6 := (HB.out.cell (World.block_lt_of_cell? w _ hx245_6)).trans hx245_6
                          replace p245 := eq_true p245
                          replace q245 := eq_true q245
                          go_wp2_with (first | ((with_reducible refine gate_dst (N := 11) rfl ?_); (try (refine gate_guard (by rfl) ?_; dsimp only)); refine box_event ?hg (N := 11) ?hd (cs := #[.int .i64 0, .int .i64 0, .int .i64 0, .int .i64 0, .int .i64 0, .int .i64 0, .string (⟨#[]⟩ : ByteArray)]) (t := 32) ?hr ?_; (case hd => rfl); (case hg => rfl); (case hr => first | (go_simp; done) | (go_simp; rfl)); intro gb246 hg w26 hbox hb; have n0_ := Aside0.mk (Kd.R_below (Kd.R_elderB (by (with_reducible repeat (first | apply Kd.R_alloc | apply Kd.R_drewN | apply Kd.R_drew)); exact HO_9.out) gb246 (Nat.le_of_eq hg.symm)) hb); have n1_ := Aside0.mk (below_step (by repeat (first | (with_reducible first | exact HB.out | apply below_alloc | apply pw_below_drewN | apply below_drew1) | exact HB.out)) hb); have n2_ := Aside0.mk (hbox); have n3_ := Aside0.mk ((by rw [hg]; exact (below_size (by repeat (first | (with_reducible first | exact HB.out | apply below_alloc | apply pw_below_drewN | apply below_drew1) | exact HB.out))) : w.heap.size ≤ gb246)); have n4_ := Aside0.mk ((by rw [hg]; exact (below_size (by repeat (first | (with_reducible first | exact HB.out | apply below_alloc | apply pw_below_drewN | apply below_drew1) | exact HB.out))) : w.heap.size ≤ gb246)); clear HO_9; clear HB; have HO_9 := n0_; have HB := n1_; have BK246 := n2_; have GW246 := n3_; have GE246 := n4_; clear n0_ n1_ n2_ n3_ n4_; clear hb hbox hg) | ((with_reducible refine gate_store (t := 32) (p := 11) rfl ?_); refine store_all 32 gb246 32 #[.int .i64 0, .int .i64 0, .int .i64 0, .int .i64 0, .int .i64 0, .int .i64 0, .string (⟨#[]⟩ : ByteArray)] #[.int .i64 ((rd_T32 l1 x10_2).f0), .int .i64 ((rd_T32 l1 x10_2).f1), .int .i64 ((rd_T32 l1 x10_2).f2), .int .i64 ((rd_T32 l1 x10_2).f3), .int .i64 ((rd_T32 l1 x10_2).f4.f0), .int .i64 ((rd_T32 l1 x10_2).f4.f1), .string ((rd_T32 l1 x10_2).f4.f2)] rfl rfl rfl (by first | rfl | (go_simp; done)) (by (with_reducible repeat (first | refine blk_drewN ?_ _ | refine blk_drew ?_ | refine blk_alloc ?_ _)); exact BK246.out) (by kernel_rfl) rfl (by kernel_rfl) ?_; intro w27 hx hg; have n0_ := Aside0.mk (Kd.R_grown HO_9.out hg (fun k_ hk_ he_ => (hk_.2) (Option.some.inj he_))); have n1_ := Aside0.mk ((fun {W_ : World} (hB_ : Below w.heap.size w W_) (hg_ : W_.grownBy w27 (some gb246)) => hB_.grown hg_ hB_.size (fun k_ e_ => by cases e_; exact GE246.out)) (by repeat (first | (with_reducible first | exact HB.out | apply below_alloc | apply pw_below_drewN | apply below_drew1 | refine below_set ?_ GE246.out) | exact HB.out)) hg); have n2_ := Aside0.mk (hx); clear HO_9; clear HB; clear BK246; have HO_9 := n0_; have HB := n1_; have BK246 := n2_; clear n0_ n1_ n2_; clear hx hg; have hcz28_0 : w27.cell? ⟨gb246, 0, none⟩ = some (.int .i64 ((rd_T32 l1 x10_2).f0)) := (blk_cell BK246.out 0).trans rfl; have hcz28_1 : w27.cell? ⟨gb246, 1, none⟩ = some (.int .i64 ((rd_T32 l1 x10_2).f1)) := (blk_cell BK246.out 1).trans rfl; have hcz28_2 : w27.cell? ⟨gb246, 2, none⟩ = some (.int .i64 ((rd_T32 l1 x10_2).f2)) := (blk_cell BK246.out 2).trans rfl; have hcz28_3 : w27.cell? ⟨gb246, 3, none⟩ = some (.int .i64 ((rd_T32 l1 x10_2).f3)) := (blk_cell BK246.out 3).trans rfl; have hcz28_4 : w27.cell? ⟨gb246, 4, none⟩ = some (.int .i64 ((rd_T32 l1 x10_2).f4.f0)) := (blk_cell BK246.out 4).trans rfl; have hcz28_5 : w27.cell? ⟨gb246, 5, none⟩ = some (.int .i64 ((rd_T32 l1 x10_2).f4.f1)) := (blk_cell BK246.out 5).trans rfl; have hcz28_6 : w27.cell? ⟨gb246, 6, none⟩ = some (.string ((rd_T32 l1 x10_2).f4.f2)) := (blk_cell BK246.out 6).trans rfl; have hfz28_0 := blk_frozen BK246.out 0; have hfz28_1 := blk_frozen BK246.out 1; have hfz28_2 := blk_frozen BK246.out 2; have hfz28_3 := blk_frozen BK246.out 3; have hfz28_4 := blk_frozen BK246.out 4; have hfz28_5 := blk_frozen BK246.out 5; have hfz28_6 := blk_frozen BK246.out 6) | ((with_reducible refine gate_builtin (b := .append) (xs := #[.tmp 68, .tmp 70]) rfl ?_); (try (refine gate_guard (by rfl) ?_; dsimp only)); at_builtin; refine Kd.R_append k32 (w0 := w) w.heap.size rfl (.tmp 68) (.tmp 70) 22 32 (.agg #[(.int .i64 0), (.int .i64 0), (.int .i64 0), (.int .i64 0), (.int .i64 0), (.int .i64 0), (.string ⟨#[]⟩)]) 64 rfl Tryd.underlying22 info32 rfl (by decide) (by omega) u9 x9_2 (⟨(rd_T32 l1 x10_2).f0, wrap64 (((rd_T32 l1 x10_2).f1) + (l0.length : Int)), (rd_T32 l1 x10_2).f2, (rd_T32 l1 x10_2).f3, (⟨(rd_T32 l1 x10_2).f4.f0, (rd_T32 l1 x10_2).f4.f1, (rd_T32 l1 x10_2).f4.f2⟩ : S30)⟩ : S32) [.int .i64 ((rd_T32 l1 x10_2).f0), .int .i64 (wrap64 (((rd_T32 l1 x10_2).f1) + (l0.length : Int))), .int .i64 ((rd_T32 l1 x10_2).f2), .int .i64 ((rd_T32 l1 x10_2).f3), .int .i64 ((rd_T32 l1 x10_2).f4.f0), .int .i64 ((rd_T32 l1 x10_2).f4.f1), .string ((rd_T32 l1 x10_2).f4.f2)] (fun k_ => k_ ≠ gb246) (fun _ => False) rfl (by first | (go_simp; done) | (go_simp; rfl)) ?aP (fun _ hk => hk.elim) ?aF ?aO ?aB ?aS ?aL ?_; (case aP => exact k32_mkM _ _ _ (⟨(rd_T32 l1 x10_2).f0, wrap64 (((rd_T32 l1 x10_2).f1) + (l0.length : Int)), (rd_T32 l1 x10_2).f2, (rd_T32 l1 x10_2).f3, (⟨(rd_T32 l1 x10_2).f4.f0, (rd_T32 l1 x10_2).f4.f1, (rd_T32 l1 x10_2).f4.f2⟩ : S30)⟩ : S32)); (case aB => exact (by repeat (first | (with_reducible first | exact HB.out | apply below_alloc | apply pw_below_drewN | apply below_drew1 | refine below_set ?_ GE246.out) | exact HB.out))); (case aF => exact (fun k_ hk => Kd.freshB (g := gb246) (o := .cells #[.int .i64 ((rd_T32 l1 x10_2).f0), .int .i64 (wrap64 (((rd_T32 l1 x10_2).f1) + (l0.length : Int))), .int .i64 ((rd_T32 l1 x10_2).f2), .int .i64 ((rd_T32 l1 x10_2).f3), .int .i64 ((rd_T32 l1 x10_2).f4.f0), .int .i64 ((rd_T32 l1 x10_2).f4.f1), .string ((rd_T32 l1 x10_2).f4.f2)] 32 (0, 0)) (by (with_reducible repeat (first | refine blk_drewN ?_ _ | refine blk_drew ?_ | refine blk_alloc ?_ _)); refine blk_put (cs := #[.int .i64 ((rd_T32 l1 x10_2).f0), .int .i64 ((rd_T32 l1 x10_2).f1), .int .i64 ((rd_T32 l1 x10_2).f2), .int .i64 ((rd_T32 l1 x10_2).f3), .int .i64 ((rd_T32 l1 x10_2).f4.f0), .int .i64 ((rd_T32 l1 x10_2).f4.f1), .string ((rd_T32 l1 x10_2).f4.f2)]) ?_ 1 _ rfl; (with_reducible repeat (first | refine blk_drewN ?_ _ | refine blk_drew ?_ | refine blk_alloc ?_ _)); exact BK246.out) k_ hk)); (case aO => exact (by (with_reducible repeat (first | apply Kd.R_alloc | apply Kd.R_drewN | apply Kd.R_drew)); exact Kd.R_mono (Kd.R_far (p := ⟨gb246, 1, none⟩) (Kd.R_mono HO_9.out (fun k_ hk => (⟨hk, hk.2⟩ : _ ∧ k_ ≠ gb246))) (fun _ hk => hk.2) (.int .i64 (wrap64 (((rd_T32 l1 x10_2).f1) + (l0.length : Int))))) (fun _ hk => hk.1.2))); (case aS => exact (below_size (by repeat (first | (with_reducible first | exact HB.out | apply below_alloc | apply pw_below_drewN | apply below_drew1 | refine below_set ?_ GE246.out) | exact HB.out)))); (case aL => have := LMc25.out; omega); intro v251 w29 ho hb hg hat; rw [← Ny250.out] at ho; have n0_ := Aside0.mk (blk_grown (g := gb246) (o := .cells #[.int .i64 ((rd_T32 l1 x10_2).f0), .int .i64 (wrap64 (((rd_T32 l1 x10_2).f1) + (l0.length : Int))), .int .i64 ((rd_T32 l1 x10_2).f2), .int .i64 ((rd_T32 l1 x10_2).f3), .int .i64 ((rd_T32 l1 x10_2).f4.f0), .int .i64 ((rd_T32 l1 x10_2).f4.f1), .string ((rd_T32 l1 x10_2).f4.f2)] 32 (0, 0)) (by (with_reducible repeat (first | refine blk_drewN ?_ _ | refine blk_drew ?_ | refine blk_alloc ?_ _)); refine blk_put (cs := #[.int .i64 ((rd_T32 l1 x10_2).f0), .int .i64 ((rd_T32 l1 x10_2).f1), .int .i64 ((rd_T32 l1 x10_2).f2), .int .i64 ((rd_T32 l1 x10_2).f3), .int .i64 ((rd_T32 l1 x10_2).f4.f0), .int .i64 ((rd_T32 l1 x10_2).f4.f1), .string ((rd_T32 l1 x10_2).f4.f2)]) ?_ 1 _ rfl; (with_reducible repeat (first | refine blk_drewN ?_ _ | refine blk_drew ?_ | refine blk_alloc ?_ _)); exact BK246.out) hg (Kd.R_away HO_9.out (fun _ hk => hk.2))); have n1_ := Aside0.mk (hb); have n2_ := Aside0.mk (ho); clear BK246; clear HB; clear HO_9; have BK246 := n0_; have HB := n1_; have HO252 := n2_; clear n0_ n1_ n2_; clear ho hb hg hat))
                          go_roundg k2
                          case measure => have := HJ6.out; have := HK2.out; omega
                          case rel => exact ⟨(y250), (wrap64 (x10_2 + 1)), (by first | (with_reducible rfl) | (simp; done) | (simp [*]; done) | rfl | (simp only [not_isEmpty_bne])), H', ⟨by have := HJ6.out; have := HK2.out; omega⟩, ⟨by (with_reducible repeat (first | apply Kd.R_alloc | apply Kd.R_drewN | apply Kd.R_drew)); exact Kd.R_mono HO252.out (fun _ hk => trivial)⟩, ⟨by repeat (first | (with_reducible first | exact HB.out | apply below_alloc | apply pw_below_drewN | apply below_drew1 | refine below_set ?_ GE246.out) | exact HB.out)⟩⟩
                        · rw [if_neg c25] at H
                          exact absurd H (by simp)
                      · rw [if_neg c24] at H
                        have c24b0 : (((rd_T32 l1 x10_2).f0) == 10) = false := beq_eq_false_iff_ne.mpr c24
                        have c24b1 : (((rd_T32 l1 x10_2).f0) != 10) = true := bne_iff_ne.mpr c24
                        by_cases c30 : x9_2.length < 2199023255552
                        · rw [if_pos c30] at H
                          have LMc30 := Aside0.mk c30
                          clear c30
                          obtain ⟨y253, hy253⟩ : ∃ y_ : List (S32), y_ = (x9_2 ++ [(⟨(rd_T32 l1 x10_2).f0, (rd_T32 l1 x10_2).f1, (rd_T32 l1 x10_2).f2, (rd_T32 l1 x10_2).f3, (⟨(rd_T32 l1 x10_2).f4.f0, (rd_T32 l1 x10_2).f4.f1, (rd_T32 l1 x10_2).f4.f2⟩ : S30)⟩ : S32)]) := ⟨_, rfl⟩
                          replace H : (factotumlaw15_CheckHeads.l0 k2 l0 l1 y253 (wrap64 (x10_2 + 1))) = some r := by first | (rw [hy253]; with_reducible exact H) | (have H2_ := (Option.bind_some _ _).symm.trans H; rw [hy253]; with_reducible exact H2_) | (have H2_ := (Option.bind_some _ _).symm.trans H; with_reducible exact H2_) | with_reducible exact H | (rw [hy253]; exact H) | exact H
                          have Ny253 := Aside0.mk hy253
                          clear hy253
                          have H' := Aside0.mk H
                          clear H
                          have p245 : 0 ≤ (x10_2 : Int) := of_decide_eq_true (by first | (with_reducible assumption) | assumption)
                          have q245 : x10_2 < (l1.length : Int) := of_decide_eq_true (by first | (with_reducible assumption) | assumption)
                          obtain ⟨ad245, e245, hx245_0, hx245_1, hx245_2, hx245_3, hx245_4, hx245_5, hx245_6⟩ := at_T32 HR1.out x10_2 p245 q245
                          cases e245
                          replace hx245_0 := (HB.out.cell (World.block_lt_of_cell? w _ hx245_0)).trans hx245_0
                          replace hx245_1 := (HB.out.cell (World.block_lt_of_cell? w _ hx245_1)).trans hx245_1
                          replace hx245_2 := (HB.out.cell (World.block_lt_of_cell? w _ hx245_2)).trans hx245_2
                          replace hx245_3 := (HB.out.cell (World.block_lt_of_cell? w _ hx245_3)).trans hx245_3
                          replace hx245_4 := (HB.out.cell (World.block_lt_of_cell? w _ hx245_4)).trans hx245_4
                          replace hx245_5 := (HB.out.cell (World.block_lt_of_cell? w _ hx245_5)).trans hx245_5
                          replace hx245_6 := (HB.out.cell (World.block_lt_of_cell? w _ hx245_6)).trans hx245_6
                          replace p245 := eq_true p245
                          replace q245 := eq_true q245
                          go_wp2_with (first | ((with_reducible refine gate_dst (N := 11) rfl ?_); (try (refine gate_guard (by rfl) ?_; dsimp only)); refine box_event ?hg (N := 11) ?hd (cs := #[.int .i64 0, .int .i64 0, .int .i64 0, .int .i64 0, .int .i64 0, .int .i64 0, .string (⟨#[]⟩ : ByteArray)]) (t := 32) ?hr ?_; (case hd => rfl); (case hg => rfl); (case hr => first | (go_simp; done) | (go_simp; rfl)); intro gb246 hg w31 hbox hb; have n0_ := Aside0.mk (Kd.R_below (Kd.R_elderB (by (with_reducible repeat (first | apply Kd.R_alloc | apply Kd.R_drewN | apply Kd.R_drew)); exact HO_9.out) gb246 (Nat.le_of_eq hg.symm)) hb); have n1_ := Aside0.mk (below_step (by repeat (first | (with_reducible first | exact HB.out | apply below_alloc | apply pw_below_drewN | apply below_drew1) | exact HB.out)) hb); have n2_ := Aside0.mk (hbox); have n3_ := Aside0.mk ((by rw [hg]; exact (below_size (by repeat (first | (with_reducible first | exact HB.out | apply below_alloc | apply pw_below_drewN | apply below_drew1) | exact HB.out))) : w.heap.size ≤ gb246)); have n4_ := Aside0.mk ((by rw [hg]; exact (below_size (by repeat (first | (with_reducible first | exact HB.out | apply below_alloc | apply pw_below_drewN | apply below_drew1) | exact HB.out))) : w.heap.size ≤ gb246)); clear HO_9; clear HB; have HO_9 := n0_; have HB := n1_; have BK246 := n2_; have GW246 := n3_; have GE246 := n4_; clear n0_ n1_ n2_ n3_ n4_; clear hb hbox hg) | ((with_reducible refine gate_store (t := 32) (p := 11) rfl ?_); refine store_all 32 gb246 32 #[.int .i64 0, .int .i64 0, .int .i64 0, .int .i64 0, .int .i64 0, .int .i64 0, .string (⟨#[]⟩ : ByteArray)] #[.int .i64 ((rd_T32 l1 x10_2).f0), .int .i64 ((rd_T32 l1 x10_2).f1), .int .i64 ((rd_T32 l1 x10_2).f2), .int .i64 ((rd_T32 l1 x10_2).f3), .int .i64 ((rd_T32 l1 x10_2).f4.f0), .int .i64 ((rd_T32 l1 x10_2).f4.f1), .string ((rd_T32 l1 x10_2).f4.f2)] rfl rfl rfl (by first | rfl | (go_simp; done)) (by (with_reducible repeat (first | refine blk_drewN ?_ _ | refine blk_drew ?_ | refine blk_alloc ?_ _)); exact BK246.out) (by kernel_rfl) rfl (by kernel_rfl) ?_; intro w32 hx hg; have n0_ := Aside0.mk (Kd.R_grown HO_9.out hg (fun k_ hk_ he_ => (hk_.2) (Option.some.inj he_))); have n1_ := Aside0.mk ((fun {W_ : World} (hB_ : Below w.heap.size w W_) (hg_ : W_.grownBy w32 (some gb246)) => hB_.grown hg_ hB_.size (fun k_ e_ => by cases e_; exact GE246.out)) (by repeat (first | (with_reducible first | exact HB.out | apply below_alloc | apply pw_below_drewN | apply below_drew1 | refine below_set ?_ GE246.out) | exact HB.out)) hg); have n2_ := Aside0.mk (hx); clear HO_9; clear HB; clear BK246; have HO_9 := n0_; have HB := n1_; have BK246 := n2_; clear n0_ n1_ n2_; clear hx hg; have hcz33_0 : w32.cell? ⟨gb246, 0, none⟩ = some (.int .i64 ((rd_T32 l1 x10_2).f0)) := (blk_cell BK246.out 0).trans rfl; have hcz33_1 : w32.cell? ⟨gb246, 1, none⟩ = some (.int .i64 ((rd_T32 l1 x10_2).f1)) := (blk_cell BK246.out 1).trans rfl; have hcz33_2 : w32.cell? ⟨gb246, 2, none⟩ = some (.int .i64 ((rd_T32 l1 x10_2).f2)) := (blk_cell BK246.out 2).trans rfl; have hcz33_3 : w32.cell? ⟨gb246, 3, none⟩ = some (.int .i64 ((rd_T32 l1 x10_2).f3)) := (blk_cell BK246.out 3).trans rfl; have hcz33_4 : w32.cell? ⟨gb246, 4, none⟩ = some (.int .i64 ((rd_T32 l1 x10_2).f4.f0)) := (blk_cell BK246.out 4).trans rfl; have hcz33_5 : w32.cell? ⟨gb246, 5, none⟩ = some (.int .i64 ((rd_T32 l1 x10_2).f4.f1)) := (blk_cell BK246.out 5).trans rfl; have hcz33_6 : w32.cell? ⟨gb246, 6, none⟩ = some (.string ((rd_T32 l1 x10_2).f4.f2)) := (blk_cell BK246.out 6).trans rfl; have hfz33_0 := blk_frozen BK246.out 0; have hfz33_1 := blk_frozen BK246.out 1; have hfz33_2 := blk_frozen BK246.out 2; have hfz33_3 := blk_frozen BK246.out 3; have hfz33_4 := blk_frozen BK246.out 4; have hfz33_5 := blk_frozen BK246.out 5; have hfz33_6 := blk_frozen BK246.out 6) | ((with_reducible refine gate_builtin (b := .append) (xs := #[.tmp 68, .tmp 70]) rfl ?_); (try (refine gate_guard (by rfl) ?_; dsimp only)); at_builtin; refine Kd.R_append k32 (w0 := w) w.heap.size rfl (.tmp 68) (.tmp 70) 22 32 (.agg #[(.int .i64 0), (.int .i64 0), (.int .i64 0), (.int .i64 0), (.int .i64 0), (.int .i64 0), (.string ⟨#[]⟩)]) 64 rfl Tryd.underlying22 info32 rfl (by decide) (by omega) u9 x9_2 (⟨(rd_T32 l1 x10_2).f0, (rd_T32 l1 x10_2).f1, (rd_T32 l1 x10_2).f2, (rd_T32 l1 x10_2).f3, (⟨(rd_T32 l1 x10_2).f4.f0, (rd_T32 l1 x10_2).f4.f1, (rd_T32 l1 x10_2).f4.f2⟩ : S30)⟩ : S32) [.int .i64 ((rd_T32 l1 x10_2).f0), .int .i64 ((rd_T32 l1 x10_2).f1), .int .i64 ((rd_T32 l1 x10_2).f2), .int .i64 ((rd_T32 l1 x10_2).f3), .int .i64 ((rd_T32 l1 x10_2).f4.f0), .int .i64 ((rd_T32 l1 x10_2).f4.f1), .string ((rd_T32 l1 x10_2).f4.f2)] (fun k_ => k_ ≠ gb246) (fun _ => False) rfl rfl ?aP (fun _ hk => hk.elim) ?aF ?aO ?aB ?aS ?aL ?_; (case aP => exact k32_mkM _ _ _ (⟨(rd_T32 l1 x10_2).f0, (rd_T32 l1 x10_2).f1, (rd_T32 l1 x10_2).f2, (rd_T32 l1 x10_2).f3, (⟨(rd_T32 l1 x10_2).f4.f0, (rd_T32 l1 x10_2).f4.f1, (rd_T32 l1 x10_2).f4.f2⟩ : S30)⟩ : S32)); (case aB => exact (by repeat (first | (with_reducible first | exact HB.out | apply below_alloc | apply pw_below_drewN | apply below_drew1 | refine below_set ?_ GE246.out) | exact HB.out))); (case aF => exact (fun k_ hk => Kd.freshB (g := gb246) (o := .cells #[.int .i64 ((rd_T32 l1 x10_2).f0), .int .i64 ((rd_T32 l1 x10_2).f1), .int .i64 ((rd_T32 l1 x10_2).f2), .int .i64 ((rd_T32 l1 x10_2).f3), .int .i64 ((rd_T32 l1 x10_2).f4.f0), .int .i64 ((rd_T32 l1 x10_2).f4.f1), .string ((rd_T32 l1 x10_2).f4.f2)] 32 (0, 0)) (by (with_reducible repeat (first | refine blk_drewN ?_ _ | refine blk_drew ?_ | refine blk_alloc ?_ _)); exact BK246.out) k_ hk)); (case aO => exact (by (with_reducible repeat (first | apply Kd.R_alloc | apply Kd.R_drewN | apply Kd.R_drew)); exact Kd.R_mono HO_9.out (fun _ hk => hk.2))); (case aS => exact (below_size (by repeat (first | (with_reducible first | exact HB.out | apply below_alloc | apply pw_below_drewN | apply below_drew1 | refine below_set ?_ GE246.out) | exact HB.out)))); (case aL => have := LMc30.out; omega); intro v254 w34 ho hb hg hat; rw [← Ny253.out] at ho; have n0_ := Aside0.mk (blk_grown (g := gb246) (o := .cells #[.int .i64 ((rd_T32 l1 x10_2).f0), .int .i64 ((rd_T32 l1 x10_2).f1), .int .i64 ((rd_T32 l1 x10_2).f2), .int .i64 ((rd_T32 l1 x10_2).f3), .int .i64 ((rd_T32 l1 x10_2).f4.f0), .int .i64 ((rd_T32 l1 x10_2).f4.f1), .string ((rd_T32 l1 x10_2).f4.f2)] 32 (0, 0)) (by (with_reducible repeat (first | refine blk_drewN ?_ _ | refine blk_drew ?_ | refine blk_alloc ?_ _)); exact BK246.out) hg (Kd.R_away HO_9.out (fun _ hk => hk.2))); have n1_ := Aside0.mk (hb); have n2_ := Aside0.mk (ho); clear BK246; clear HB; clear HO_9; have BK246 := n0_; have HB := n1_; have HO255 := n2_; clear n0_ n1_ n2_; clear ho hb hg hat))
                          go_roundg k2
                          case measure => have := HJ6.out; have := HK2.out; omega
                          case rel => exact ⟨(y253), (wrap64 (x10_2 + 1)), (by first | (with_reducible rfl) | (simp; done) | (simp [*]; done) | rfl | (simp only [not_isEmpty_bne])), H', ⟨by have := HJ6.out; have := HK2.out; omega⟩, ⟨by (with_reducible repeat (first | apply Kd.R_alloc | apply Kd.R_drewN | apply Kd.R_drew)); exact Kd.R_mono HO255.out (fun _ hk => trivial)⟩, ⟨by repeat (first | (with_reducible first | exact HB.out | apply below_alloc | apply pw_below_drewN | apply below_drew1 | refine below_set ?_ GE246.out) | exact HB.out)⟩⟩
                        · rw [if_neg c30] at H
                          exact absurd H (by simp)
                  · rw [if_neg c17] at H
                    exact absurd H (by simp)
                · rw [if_neg c16] at H
                  have c16b0 : decide (x10_2 < (l1.length : Int)) = false := decide_eq_false c16
                  clear c16
                  replace H := Option.bind_eq_some_iff.mp H
                  obtain ⟨⟨t256, t257⟩, A350, H⟩ := H
                  replace H : (if ([] : List (S32)).length + l0.length < 2199023255552 then ((some (([] : List (S32)) ++ l0 : List (S32))).bind fun y258 => (if y258.length < 2199023255552 then ((check_Check.f k2 (y258 ++ [(⟨18, 0, 0, 0, (⟨0, 0, (⟨#[]⟩ : ByteArray)⟩ : S30)⟩ : S32)])).bind fun bt264 => (if t256 = 0 then (if bt264.1 = 0 then ((factotumref13_Same.f k2 x9_2 l0).bind fun t266 => (some (!t266))) else (none)) else (none))) else (none))) else (none)) = some r := H
                  have A35 := Aside0.mk A350
                  clear A350
                  by_cases c36 : ([] : List (S32)).length + l0.length < 2199023255552
                  · rw [if_pos c36] at H
                    have LMc36 := Aside0.mk c36
                    clear c36
                    obtain ⟨y258, hy258⟩ : ∃ y_ : List (S32), y_ = (([] : List (S32)) ++ l0) := ⟨_, rfl⟩
                    replace H : (if y258.length < 2199023255552 then ((check_Check.f k2 (y258 ++ [(⟨18, 0, 0, 0, (⟨0, 0, (⟨#[]⟩ : ByteArray)⟩ : S30)⟩ : S32)])).bind fun bt264 => (if t256 = 0 then (if bt264.1 = 0 then ((factotumref13_Same.f k2 x9_2 l0).bind fun t266 => (some (!t266))) else (none)) else (none))) else (none)) = some r := by first | (rw [hy258]; with_reducible exact H) | (have H2_ := (Option.bind_some _ _).symm.trans H; rw [hy258]; with_reducible exact H2_) | (have H2_ := (Option.bind_some _ _).symm.trans H; with_reducible exact H2_) | with_reducible exact H | (rw [hy258]; exact H) | exact H
                    have Ny258 := Aside0.mk hy258
                    clear hy258
                    by_cases c37 : y258.length < 2199023255552
                    · rw [if_pos c37] at H
                      have LMc37 := Aside0.mk c37
                      clear c37
                      obtain ⟨y261, hy261⟩ : ∃ y_ : List (S32), y_ = (y258 ++ [(⟨18, 0, 0, 0, (⟨0, 0, (⟨#[]⟩ : ByteArray)⟩ : S30)⟩ : S32)]) := ⟨_, rfl⟩
                      replace H : ((check_Check.f k2 y261).bind fun bt264 => (if t256 = 0 then (if bt264.1 = 0 then ((factotumref13_Same.f k2 x9_2 l0).bind fun t266 => (some (!t266))) else (none)) else (none))) = some r := by first | (rw [hy261]; with_reducible exact H) | (have H2_ := (Option.bind_some _ _).symm.trans H; rw [hy261]; with_reducible exact H2_) | (have H2_ := (Option.bind_some _ _).symm.trans H; with_reducible exact H2_) | with_reducible exact H | (rw [hy261]; exact H) | exact H
                      have Ny261 := Aside0.mk hy261
                      clear hy261
                      replace H := Option.bind_eq_some_iff.mp H
                      obtain ⟨⟨t264, t265⟩, A380, H⟩ := H
                      replace H : (if t256 = 0 then (if t264 = 0 then ((factotumref13_Same.f k2 x9_2 l0).bind fun t266 => (some (!t266))) else (none)) else (none)) = some r := H
                      have A38 := Aside0.mk A380
                      clear A380
                      by_cases c39 : t256 = 0
                      · rw [if_pos c39] at H
                        have c39b0 : (t256 == 0) = true := beq_iff_eq.mpr c39
                        have c39b1 : (t256 != 0) = false := bne_eq_false_iff_eq.mpr c39
                        clear c39
                        by_cases c40 : t264 = 0
                        · rw [if_pos c40] at H
                          have c40b0 : (t264 == 0) = true := beq_iff_eq.mpr c40
                          have c40b1 : (t264 != 0) = false := bne_eq_false_iff_eq.mpr c40
                          clear c40
                          replace H := Option.bind_eq_some_iff.mp H
                          obtain ⟨t266, A410, H⟩ := H
                          replace H : (some (!t266)) = some r := H
                          have A41 := Aside0.mk A410
                          clear A410
                          obtain rfl := Option.some.inj H
                          obtain ⟨Ao42, co42, eo42⟩ := Kd.R_slice HO_9.out
                          subst eo42
                          go_wp2_with (first | ((with_reducible refine gate_callee (f := 9) rfl ?_); refine goesL_ (some 74) rfl rfl Tryd.func9 (by kernel_rfl) rfl #[.slice Ao42 x9_2.length co42] rfl (by (try simp only [List.map_toArray, List.map_cons, List.map_nil]); first | done | rfl | (simp only [List.length_drop, List.length_take]; rfl) | (simp (disch := omega) only [u64_in]; rfl)) ?_; (with_reducible refine (check_Check.calls k2 _ _ x9_2 t256 t257 _ ?side1 ?side2 A35.out).mono ?_); (case side1 => repeat (first | exact (Kd.R_reads' HO_9.out).2.2 | (with_reducible refine Kd.C_alloc ?_ _) | (with_reducible refine Kd.C_drewN ?_ _) | (with_reducible refine Kd.C_drew ?_))); (case side2 => exact (Kd.R_reads' HO_9.out).2.1); rintro e w43 ⟨rfl, hb⟩; refine ⟨_, rfl, ?_⟩; have n0_ := Aside0.mk (Kd.R_below (by (with_reducible repeat (first | apply Kd.R_alloc | apply Kd.R_drewN | apply Kd.R_drew)); exact HO_9.out) hb); have n1_ := Aside0.mk (below_step (by repeat (first | (with_reducible first | exact HB.out | apply below_alloc | apply pw_below_drewN | apply below_drew1) | exact HB.out)) hb); clear HO_9; clear HB; have HO_9 := n0_; have HB := n1_; clear n0_ n1_; (try clear hb); (try clear hb2); (try clear hk); (try clear hi)) | ((with_reducible refine gate_builtin (b := .append) (xs := #[.const (.slice none 0 0), .tmp 78]) rfl ?_); (try (refine gate_guard (by rfl) ?_; dsimp only)); at_builtin; refine Kd.R_append_rows k32 (w0 := w) w.heap.size rfl (.const (.slice none 0 0)) (.tmp 78) 22 32 (.agg #[(.int .i64 0), (.int .i64 0), (.int .i64 0), (.int .i64 0), (.int .i64 0), (.int .i64 0), (.string ⟨#[]⟩)]) 64 rfl Tryd.underlying22 info32 rfl (by decide) (by omega) (.slice none 0 0) ([] : List (S32)) l0 _ _ _ (fun k_ => some k_ ≠ (.slice Ao42 x9_2.length co42 : Value).ownBlock) (fun _ => False) rfl rfl ?aO ?aR (fun _ _ h => h) (fun _ h => h.elim) ?aF ?aB ?aS ?aL ?_; (case aR => repeat (first | exact (Kd.C_below HR0.out HB.out) | (with_reducible refine Kd.C_alloc ?_ _) | (with_reducible refine Kd.C_drewN ?_ _) | (with_reducible refine Kd.C_drew ?_))); (case aB => exact (by repeat (first | (with_reducible first | exact HB.out | apply below_alloc | apply pw_below_drewN | apply below_drew1) | exact HB.out))); (case aF => exact (fun k_ hk => Kd.fresh' (Kd.R_lt (by (with_reducible repeat (first | apply Kd.R_alloc | apply Kd.R_drewN | apply Kd.R_drew)); exact HO_9.out)) k_ hk)); (case aO => exact ((Kd.R_nil _ _ _ _ (fun k_ => some k_ ≠ (.slice Ao42 x9_2.length co42 : Value).ownBlock)))); (case aS => exact (below_size (by repeat (first | (with_reducible first | exact HB.out | apply below_alloc | apply pw_below_drewN | apply below_drew1) | exact HB.out)))); (case aL => have := LMc36.out; omega); intro v259 w44 ho hb hg hat; rw [← Ny258.out] at ho; have n0_ := Aside0.mk (Kd.R_after (Kd.R_apart_nil (by (with_reducible repeat (first | apply Kd.R_alloc | apply Kd.R_drewN | apply Kd.R_drew)); exact HO_9.out)) hg hat); have n1_ := Aside0.mk (hb); have n2_ := Aside0.mk (ho); clear HO_9; clear HB; have HO_9 := n0_; have HB := n1_; have HO260 := n2_; clear n0_ n1_ n2_; clear ho hb hg hat) | ((with_reducible refine gate_builtin (b := .append) (xs := #[.tmp 79, .tmp 81]) rfl ?_); (try (refine gate_guard (by rfl) ?_; dsimp only)); at_builtin; refine Kd.R_append k32 (w0 := w) w.heap.size rfl (.tmp 79) (.tmp 81) 22 32 (.agg #[(.int .i64 0), (.int .i64 0), (.int .i64 0), (.int .i64 0), (.int .i64 0), (.int .i64 0), (.string ⟨#[]⟩)]) 64 rfl Tryd.underlying22 info32 rfl (by decide) (by omega) v259 y258 (⟨18, 0, 0, 0, (⟨0, 0, (⟨#[]⟩ : ByteArray)⟩ : S30)⟩ : S32) [.int .i64 18, .int .i64 0, .int .i64 0, .int .i64 0, .int .i64 0, .int .i64 0, .string (⟨#[]⟩ : ByteArray)] (fun k_ => some k_ ≠ (.slice Ao42 x9_2.length co42 : Value).ownBlock) (fun _ => False) rfl rfl ?aP (fun _ hk => hk.elim) ?aF ?aO ?aB ?aS ?aL ?_; (case aP => exact k32_mkM _ _ _ (⟨18, 0, 0, 0, (⟨0, 0, (⟨#[]⟩ : ByteArray)⟩ : S30)⟩ : S32)); (case aB => exact (by repeat (first | (with_reducible first | exact HB.out | apply below_alloc | apply pw_below_drewN | apply below_drew1) | exact HB.out))); (case aF => exact (fun k_ hk => Kd.fresh' (Kd.R_lt (by (with_reducible repeat (first | apply Kd.R_alloc | apply Kd.R_drewN | apply Kd.R_drew)); exact HO_9.out)) k_ hk)); (case aO => exact (by (with_reducible repeat (first | apply Kd.R_alloc | apply Kd.R_drewN | apply Kd.R_drew)); exact HO260.out)); (case aS => exact (below_size (by repeat (first | (with_reducible first | exact HB.out | apply below_alloc | apply pw_below_drewN | apply below_drew1) | exact HB.out)))); (case aL => have := LMc37.out; omega); intro v262 w45 ho hb hg hat; rw [← Ny261.out] at ho; have n0_ := Aside0.mk (Kd.R_after (ok := (fun _ => True)) (by (with_reducible repeat (first | apply Kd.R_alloc | apply Kd.R_drewN | apply Kd.R_drew)); exact HO_9.out) hg hat); have n1_ := Aside0.mk (hb); have n2_ := Aside0.mk (ho); clear HO_9; clear HB; clear HO260; have HO_9 := n0_; have HB := n1_; have HO263 := n2_; clear n0_ n1_ n2_; clear ho hb hg hat; obtain ⟨Ao46, co46, eo46⟩ := Kd.R_slice HO263.out; subst eo46) | ((with_reducible refine gate_callee (f := 9) rfl ?_); refine goesL_ (some 83) rfl rfl Tryd.func9 (by kernel_rfl) rfl #[.slice Ao46 y261.length co46] rfl (by (try simp only [List.map_toArray, List.map_cons, List.map_nil]); first | done | rfl | (simp only [List.length_drop, List.length_take]; rfl) | (simp (disch := omega) only [u64_in]; rfl)) ?_; (with_reducible refine (check_Check.calls k2 _ _ y261 t264 t265 _ ?side1 ?side2 A38.out).mono ?_); (case side1 => repeat (first | exact (Kd.R_reads' HO263.out).2.2 | (with_reducible refine Kd.C_alloc ?_ _) | (with_reducible refine Kd.C_drewN ?_ _) | (with_reducible refine Kd.C_drew ?_))); (case side2 => exact (Kd.R_reads' HO263.out).2.1); rintro e w47 ⟨rfl, hb⟩; refine ⟨_, rfl, ?_⟩; have n0_ := Aside0.mk (Kd.R_below (by (with_reducible repeat (first | apply Kd.R_alloc | apply Kd.R_drewN | apply Kd.R_drew)); exact HO_9.out) hb); have n1_ := Aside0.mk (Kd.R_below (by (with_reducible repeat (first | apply Kd.R_alloc | apply Kd.R_drewN | apply Kd.R_drew)); exact HO263.out) hb); have n2_ := Aside0.mk (below_step (by repeat (first | (with_reducible first | exact HB.out | apply below_alloc | apply pw_below_drewN | apply below_drew1) | exact HB.out)) hb); clear HO_9; clear HO263; clear HB; have HO_9 := n0_; have HO263 := n1_; have HB := n2_; clear n0_ n1_ n2_; (try clear hb); (try clear hb2); (try clear hk); (try clear hi)) | (go_at_call 18; (with_reducible refine (factotumref13_Same.calls k2 _ _ x9_2 _ _ l0 t266 _ ?side1 ?side2 ?side3 ?side4 A41.out).mono ?_); (case side1 => repeat (first | exact (Kd.R_reads' HO_9.out).2.2 | (with_reducible refine Kd.C_alloc ?_ _) | (with_reducible refine Kd.C_drewN ?_ _) | (with_reducible refine Kd.C_drew ?_))); (case side2 => exact (Kd.R_reads' HO_9.out).2.1); (case side3 => repeat (first | exact (Kd.C_below HR0.out HB.out) | (with_reducible refine Kd.C_alloc ?_ _) | (with_reducible refine Kd.C_drewN ?_ _) | (with_reducible refine Kd.C_drew ?_))); (case side4 => exact HC0.out); rintro e w' ⟨rfl, ⟨nd, rfl⟩⟩))
                          go_ret
                          exact ⟨by first | (with_reducible rfl) | (simp only [isEmpty_bne, Bool.not_not] <;> with_reducible rfl) | (simp [errW_none, errW_some] <;> with_reducible rfl) | (simp only [isEmpty_bne, Bool.not_not] <;> rfl) | rfl | (simp [errW_none, errW_some] <;> rfl) | (simp [*, errW_none, errW_some] <;> rfl), by repeat (first | (with_reducible first | exact HB.out | apply below_alloc | apply pw_below_drewN | apply below_drew1) | exact HB.out)⟩
                        · rw [if_neg c40] at H
                          exact absurd H (by simp)
                      · rw [if_neg c39] at H
                        exact absurd H (by simp)
                    · rw [if_neg c37] at H
                      exact absurd H (by simp)
                  · rw [if_neg c36] at H
                    exact absurd H (by simp)
          · rw [if_neg c14] at H
            exact absurd H (by simp)
  · replace c4 := Bool.eq_false_iff.mpr c4
    subst c4
    have H1 : (none) = some r := by rw [if_neg (show ¬ (false = true) by decide)] at H; exact H
    clear H
    have H := H1
    clear H1
    exact absurd H (by simp)

end Go.Proofs.YtbdmfpgiolaooaaDoor.PAll
