/- Printed walks of the functions that the laws reach: each function, what it computes, and that it does. No conditions. -/
import Derived.Test.YtbdmfpgiolaooaaDoorPAllx0
import Derived.Test.YtbdmfpgiolaooaaDoorPAllx17
import Derived.Test.YtbdmfpgiolaooaaDoorPAllx18
import Derived.Test.YtbdmfpgiolaooaaDoorPAllx19
namespace Go.Proofs.YtbdmfpgiolaooaaDoor.PAll
open Go.RowKit Go.Proofs.YtbdmfpgiolaooaaDoor.XW Go.Proofs.YtbdmfpgiolaooaaDoor.XLib Go.Proofs.YtbdmfpgiolaooaaDoorW.PrintWords Go.Proofs.YtbdmfpgiolaooaaDoorW.PrintLast Go.Proofs.YtbdmfpgiolaooaaDoorW.PrintMore
attribute [local go_sem] max2_int min2_int max_two min_two max_three min_three max_four min_four   -- for this text's walks alone
set_option linter.unusedVariables false
set_option linter.unusedSimpArgs false

/-! ### check_Reached: function 16 -/
def check_Reached.l0 : Nat → List (S32) → List Bool → List Int → Option (List Bool)
  | 0, _, _, _ => none
  | k + 1, x0, x5, x6 => if (x6.length : Int) > 0 then (if 0 ≤ (wrap64 ((x6.length : Int) - 1)) then (if (wrap64 ((x6.length : Int) - 1)) < (x6.length : Int) then (if (wrap64 ((x6.length : Int) - 1)) ≤ (x6.length : Int) then ((some (x6.take ((wrap64 ((x6.length : Int) - 1)) : Int).toNat : List Int)).bind fun y196 => (if 0 ≤ (rd x6 (wrap64 ((x6.length : Int) - 1))) then (if (rd x6 (wrap64 ((x6.length : Int) - 1))) < (x5.length : Int) then (if rdOf false x5 (rd x6 (wrap64 ((x6.length : Int) - 1))) = true then (check_Reached.l0 k x0 x5 y196) else ((some (x5.set ((rd x6 (wrap64 ((x6.length : Int) - 1))) : Int).toNat true : List Bool)).bind fun y200 => (if (rd x6 (wrap64 ((x6.length : Int) - 1))) < (x0.length : Int) then ((check_Target.f ((rd_T32 x0 (rd x6 (wrap64 ((x6.length : Int) - 1)))).f0) ((rd_T32 x0 (rd x6 (wrap64 ((x6.length : Int) - 1)))).f1) ((rd_T32 x0 (rd x6 (wrap64 ((x6.length : Int) - 1)))).f2) ((rd_T32 x0 (rd x6 (wrap64 ((x6.length : Int) - 1)))).f3) ((rd_T32 x0 (rd x6 (wrap64 ((x6.length : Int) - 1)))).f4.f0) ((rd_T32 x0 (rd x6 (wrap64 ((x6.length : Int) - 1)))).f4.f1) ((rd_T32 x0 (rd x6 (wrap64 ((x6.length : Int) - 1)))).f4.f2)).bind fun bt202 => (if bt202.2 = true then (if y196.length < 17592186044416 then ((some (y196 ++ [bt202.1] : List Int)).bind fun y204 => ((check_ends.f ((rd_T32 x0 (rd x6 (wrap64 ((x6.length : Int) - 1)))).f0) ((rd_T32 x0 (rd x6 (wrap64 ((x6.length : Int) - 1)))).f1) ((rd_T32 x0 (rd x6 (wrap64 ((x6.length : Int) - 1)))).f2) ((rd_T32 x0 (rd x6 (wrap64 ((x6.length : Int) - 1)))).f3) ((rd_T32 x0 (rd x6 (wrap64 ((x6.length : Int) - 1)))).f4.f0) ((rd_T32 x0 (rd x6 (wrap64 ((x6.length : Int) - 1)))).f4.f1) ((rd_T32 x0 (rd x6 (wrap64 ((x6.length : Int) - 1)))).f4.f2)).bind fun t208 => (if t208 = true then (check_Reached.l0 k x0 y200 y204) else (if y204.length < 17592186044416 then (check_Reached.l0 k x0 y200 (y204 ++ [wrap64 ((rd x6 (wrap64 ((x6.length : Int) - 1))) + 1)])) else (none))))) else (none)) else ((check_ends.f ((rd_T32 x0 (rd x6 (wrap64 ((x6.length : Int) - 1)))).f0) ((rd_T32 x0 (rd x6 (wrap64 ((x6.length : Int) - 1)))).f1) ((rd_T32 x0 (rd x6 (wrap64 ((x6.length : Int) - 1)))).f2) ((rd_T32 x0 (rd x6 (wrap64 ((x6.length : Int) - 1)))).f3) ((rd_T32 x0 (rd x6 (wrap64 ((x6.length : Int) - 1)))).f4.f0) ((rd_T32 x0 (rd x6 (wrap64 ((x6.length : Int) - 1)))).f4.f1) ((rd_T32 x0 (rd x6 (wrap64 ((x6.length : Int) - 1)))).f4.f2)).bind fun t213 => (if t213 = true then (check_Reached.l0 k x0 y200 y196) else (if y196.length < 17592186044416 then (check_Reached.l0 k x0 y200 (y196 ++ [wrap64 ((rd x6 (wrap64 ((x6.length : Int) - 1))) + 1)])) else (none)))))) else (none)))) else (none)) else (none))) else (none)) else (none)) else (none)) else (some x5)
def check_Reached.f (k : Nat) (l0 : List (S32)) : Option (List Bool) := (check_Check.f k l0).bind fun bt187 => (if bt187.1 = 0 then (if 0 ≤ (l0.length : Int) then (if ((l0.length : Int) : Int).toNat ≤ 281474976710656 then (check_Reached.l0 k l0 (List.replicate ((l0.length : Int) : Int).toNat false) (([0] : List Int))) else (none)) else (none)) else (some ([] : List Bool)))
theorem check_Reached.mono_l : ∀ k, (∀ y0 y1 y2, LeO (check_Reached.l0 k y0 y1 y2) (check_Reached.l0 (k + 1) y0 y1 y2))
  | 0 => fun _ _ _ r h => by simp [check_Reached.l0] at h
  | k + 1 => by
    have ih0 := check_Reached.mono_l k
    · intro y0 y1 y2
      unfold check_Reached.l0
      repeat' first
      | (with_reducible exact ih0 _ _ _)
      | (with_reducible exact check_Check.mono _ _)
      | (with_reducible exact LeO.refl _)
      | (with_reducible exact LeO.none _)
      | (with_reducible refine LeO.ite ?_ ?_)
      | (with_reducible refine LeO.bind ?_ (fun _ => ?_))
      | exact ih0 _ _ _
      | exact check_Check.mono _ _
      | exact LeO.none _
      | refine LeO.ite ?_ ?_
      | refine LeO.bind ?_ (fun _ => ?_)
theorem check_Reached.mono : ∀ a0 k, LeO (check_Reached.f k a0) (check_Reached.f (k + 1) a0) := by
  intro a0 k
  have ih0 := check_Reached.mono_l k
  unfold check_Reached.f
  repeat' first
      | (with_reducible exact ih0 _ _ _)
      | (with_reducible exact check_Check.mono _ _)
      | (with_reducible exact LeO.refl _)
      | (with_reducible exact LeO.none _)
      | (with_reducible refine LeO.ite ?_ ?_)
      | (with_reducible refine LeO.bind ?_ (fun _ => ?_))
      | exact ih0 _ _ _
      | exact check_Check.mono _ _
      | exact LeO.none _
      | refine LeO.ite ?_ ?_
      | refine LeO.bind ?_ (fun _ => ?_)
set_option maxHeartbeats 8000000 in
set_option maxRecDepth 100000 in
theorem check_Reached.calls (k : Nat) (A0 : Option Addr) (c0 : Nat) (l0 : List (S32)) (r : List Bool) (w : World) (hr0 : Kd.C k32 w A0 l0.length l0) (hc0 : l0.length ≤ c0) (h : check_Reached.f k l0 = some r) :
    Calls Tryd.prog 16 #[.slice A0 l0.length c0] w fun e w' => ∃ v0_ : Value, e = .returned (v0_) ∧ Kd.R Kd.bool 4 w' w.heap.size (fun _ => True) v0_ r ∧ Below w.heap.size w w' := by
  have hu32 := Tryd.underlying32
  have HR0 := Aside0.mk hr0
  have HC0 := Aside0.mk hc0
  clear hr0 hc0
  have HB := Aside0.mk (Below.refl w.heap.size w)
  have H : ((check_Check.f k l0).bind fun bt187 => (if bt187.1 = 0 then (if 0 ≤ (l0.length : Int) then (if ((l0.length : Int) : Int).toNat ≤ 281474976710656 then (check_Reached.l0 k l0 (List.replicate ((l0.length : Int) : Int).toNat false) (([0] : List Int))) else (none)) else (none)) else (some ([] : List Bool)))) = some r := h
  clear h
  replace H := Option.bind_eq_some_iff.mp H
  obtain ⟨⟨t187, t188⟩, A20, H⟩ := H
  replace H : (if t187 = 0 then (if 0 ≤ (l0.length : Int) then (if ((l0.length : Int) : Int).toNat ≤ 281474976710656 then (check_Reached.l0 k l0 (List.replicate ((l0.length : Int) : Int).toNat false) (([0] : List Int))) else (none)) else (none)) else (some ([] : List Bool))) = some r := H
  have A2 := Aside0.mk A20
  clear A20
  by_cases c3 : t187 = 0
  · rw [if_pos c3] at H
    have c3b0 : (t187 == 0) = true := beq_iff_eq.mpr c3
    have c3b1 : (t187 != 0) = false := bne_eq_false_iff_eq.mpr c3
    clear c3
    by_cases c4 : 0 ≤ (l0.length : Int)
    · rw [if_pos c4] at H
      have c4b0 := eq_true c4
      have c4b1 : decide (0 ≤ (l0.length : Int)) = true := decide_eq_true c4
      clear c4
      by_cases c5 : ((l0.length : Int) : Int).toNat ≤ 281474976710656
      · rw [if_pos c5] at H
        have c5b0 := eq_true c5
        have c5b1 : decide (((l0.length : Int) : Int).toNat ≤ 281474976710656) = true := decide_eq_true c5
        clear c5
        obtain ⟨y189, hy189⟩ : ∃ y_ : List Bool, y_ = (List.replicate ((l0.length : Int) : Int).toNat false) := ⟨_, rfl⟩
        replace H : (check_Reached.l0 k l0 y189 (([0] : List Int))) = some r := by first | (rw [hy189]; with_reducible exact H) | (have H2_ := (Option.bind_some _ _).symm.trans H; rw [hy189]; with_reducible exact H2_) | (have H2_ := (Option.bind_some _ _).symm.trans H; with_reducible exact H2_) | with_reducible exact H | (rw [hy189]; exact H) | exact H
        have Ny189 := Aside0.mk hy189
        clear hy189
        obtain ⟨y192, hy192⟩ : ∃ y_ : List Int, y_ = (([0] : List Int)) := ⟨_, rfl⟩
        replace H : (check_Reached.l0 k l0 y189 y192) = some r := by first | (rw [hy192]; with_reducible exact H) | (have H2_ := (Option.bind_some _ _).symm.trans H; rw [hy192]; with_reducible exact H2_) | (have H2_ := (Option.bind_some _ _).symm.trans H; with_reducible exact H2_) | with_reducible exact H | (rw [hy192]; exact H) | exact H
        have Ny192 := Aside0.mk hy192
        clear hy192
        have H' := Aside0.mk H
        clear H
        go_enter Tryd.func16, Tryd.ntmps16
        go_wp2_with (first | ((with_reducible refine gate_callee (f := 9) rfl ?_); refine goesL_ (some 12) rfl rfl Tryd.func9 (by kernel_rfl) rfl #[.slice A0 l0.length c0] rfl (by (try simp only [List.map_toArray, List.map_cons, List.map_nil]); first | done | rfl | (simp only [List.length_drop, List.length_take]; rfl) | (simp (disch := omega) only [u64_in]; rfl)) ?_; (with_reducible refine (check_Check.calls k _ _ l0 t187 t188 _ ?side1 ?side2 A2.out).mono ?_); (case side1 => repeat (first | exact HR0.out | (with_reducible refine Kd.C_alloc ?_ _) | (with_reducible refine Kd.C_drewN ?_ _) | (with_reducible refine Kd.C_drew ?_))); (case side2 => exact HC0.out); rintro e w6 ⟨rfl, hb⟩; refine ⟨_, rfl, ?_⟩; have n0_ := Aside0.mk (below_step (by repeat (first | (with_reducible first | exact HB.out | apply below_alloc | apply pw_below_drewN | apply below_drew1) | exact HB.out)) hb); clear HB; have HB := n0_; clear n0_; (try clear hb); (try clear hb2); (try clear hk); (try clear hi)) | ((with_reducible refine gate_dst (N := 19) rfl ?_); refine Kd.R_make Kd.bool _ 4 rfl (N := 19) rfl 39 _ _ rfl (l0.length : Int) rfl rfl Tryd.underlying39 (.bool false) 1 info4 rfl (by decide) (by omega) false (ok := fun _ => True) (okp := fun _ => True) rfl (fun _ hk => hk) trivial (of_decide_eq_true (by first | (with_reducible assumption) | assumption)) (Nat.le_trans (Nat.mul_le_mul_right _ (of_decide_eq_true (by first | (with_reducible assumption) | assumption) : (l0.length : Int).toNat ≤ 281474976710656)) (by omega)) (Below.refl _ _) (Nat.le_refl _) ?_; intro v190 w7 ho8 hb hg_ hnew_; clear hg_ hnew_; (first | rw [← Ny189.out] at ho8 | (simp only [Int.reduceToNat] at ho8; rw [← Ny189.out] at ho8)); have n0_ := Aside0.mk (Kd.R_lower ho8 (below_size (by repeat (first | (with_reducible first | exact HB.out | apply below_alloc | apply pw_below_drewN | apply below_drew1) | exact HB.out)))); have n1_ := Aside0.mk (below_step (by repeat (first | (with_reducible first | exact HB.out | apply below_alloc | apply pw_below_drewN | apply below_drew1) | exact HB.out)) hb); clear HB; have HO191 := n0_; have HB := n1_; clear n0_ n1_; clear hb ho8) | ((with_reducible refine gate_dst (N := 20) rfl ?_); refine Kd.R_lit (Kd.int .i64) _ 3 ?hg (N := 20) ?hd (xs := ([0] : List Int)) (inner := [.int .i64 0]) (ok := fun _ => True) (okp := fun _ => True) ?hr ?hp (fun _ hk => hk) trivial (Below.refl _ _) (Nat.le_refl _) (by simp) ?_; (case hd => rfl); (case hg => rfl); (case hr => first | (go_simp; done) | (go_simp; rfl)); (case hp => exact (Reps.one (show Kd.M (Kd.int .i64) _ _ _ 0 [.int .i64 0] from rfl) (Reps.none _ _))); intro v193 w9 ho10 hb hg_ hnew_; clear hg_ hnew_; (first | rw [← Ny192.out] at ho10 | (simp only [Int.reduceToNat] at ho10; rw [← Ny192.out] at ho10)); have n0_ := Aside0.mk (Kd.R_below (by (with_reducible repeat (first | apply Kd.R_alloc | apply Kd.R_drewN | apply Kd.R_drew)); exact HO191.out) hb); have n1_ := Aside0.mk (Kd.R_lower ho10 (below_size (by repeat (first | (with_reducible first | exact HB.out | apply below_alloc | apply pw_below_drewN | apply below_drew1) | exact HB.out)))); have n2_ := Aside0.mk (below_step (by repeat (first | (with_reducible first | exact HB.out | apply below_alloc | apply pw_below_drewN | apply below_drew1) | exact HB.out)) hb); clear HO191; clear HB; have HO191 := n0_; have HO194 := n1_; have HB := n2_; clear n0_ n1_ n2_; clear hb ho10))
        go_loopg [6] k (fun kq v6 w' => ∃ (x5_1 : List Bool) (x6_1 : List Int), Aside0 (check_Reached.l0 kq l0 x5_1 x6_1 = some r) ∧ Aside0 (kq ≤ k) ∧ Aside0 (Kd.R Kd.bool 4 w' w.heap.size (fun _ => True) v190 x5_1) ∧ Aside0 (Kd.R (Kd.int .i64) 3 w' w.heap.size (fun _ => True) v6 x6_1) ∧ Aside0 (Below w.heap.size w w'))
        case atStart => exact ⟨(y189), (y192), H', ⟨Nat.le_refl _⟩, ⟨by (with_reducible repeat (first | apply Kd.R_alloc | apply Kd.R_drewN | apply Kd.R_drew)); exact HO191.out⟩, ⟨by (with_reducible repeat (first | apply Kd.R_alloc | apply Kd.R_drewN | apply Kd.R_drew)); exact HO194.out⟩, ⟨by repeat (first | (with_reducible first | exact HB.out | apply below_alloc | apply pw_below_drewN | apply below_drew1) | exact HB.out)⟩⟩
        case round =>
          clear H'
          try clear c1
          try clear p2
          try clear c3
          try clear c3b0
          try clear c3b1
          try clear c4
          try clear c4b0
          try clear c4b1
          try clear c5
          try clear c5b0
          try clear c5b1
          try clear c9
          obtain ⟨x5_1, x6_1, HA, HK1, HO_5, HO_6, HB⟩ := hrel
          cases gk with
          | zero => exact absurd HA.out (by simp [check_Reached.l0])
          | succ k1 =>
            have H := HA.out
            clear HA
            simp only [check_Reached.l0] at H
            by_cases c11 : (x6_1.length : Int) > 0
            · rw [if_pos c11] at H
              have c11b0 : decide (0 < (x6_1.length : Int)) = true := decide_eq_true c11
              have c11b1 : decide (0 < x6_1.length) = true := decide_eq_true (by omega)
              clear c11
              obtain ⟨ji12, hji12⟩ : ∃ j_ : Int, (wrap64 ((x6_1.length : Int) - 1)) = j_ := ⟨_, rfl⟩
              replace H : (if 0 ≤ (ji12) then (if (ji12) < (x6_1.length : Int) then (if (ji12) ≤ (x6_1.length : Int) then ((some (x6_1.take ((ji12) : Int).toNat : List Int)).bind fun y196 => (if 0 ≤ (rd x6_1 (ji12)) then (if (rd x6_1 (ji12)) < (x5_1.length : Int) then (if rdOf false x5_1 (rd x6_1 (ji12)) = true then (check_Reached.l0 k1 l0 x5_1 y196) else ((some (x5_1.set ((rd x6_1 (ji12)) : Int).toNat true : List Bool)).bind fun y200 => (if (rd x6_1 (ji12)) < (l0.length : Int) then ((check_Target.f ((rd_T32 l0 (rd x6_1 (ji12))).f0) ((rd_T32 l0 (rd x6_1 (ji12))).f1) ((rd_T32 l0 (rd x6_1 (ji12))).f2) ((rd_T32 l0 (rd x6_1 (ji12))).f3) ((rd_T32 l0 (rd x6_1 (ji12))).f4.f0) ((rd_T32 l0 (rd x6_1 (ji12))).f4.f1) ((rd_T32 l0 (rd x6_1 (ji12))).f4.f2)).bind fun bt202 => (if bt202.2 = true then (if y196.length < 17592186044416 then ((some (y196 ++ [bt202.1] : List Int)).bind fun y204 => ((check_ends.f ((rd_T32 l0 (rd x6_1 (ji12))).f0) ((rd_T32 l0 (rd x6_1 (ji12))).f1) ((rd_T32 l0 (rd x6_1 (ji12))).f2) ((rd_T32 l0 (rd x6_1 (ji12))).f3) ((rd_T32 l0 (rd x6_1 (ji12))).f4.f0) ((rd_T32 l0 (rd x6_1 (ji12))).f4.f1) ((rd_T32 l0 (rd x6_1 (ji12))).f4.f2)).bind fun t208 => (if t208 = true then (check_Reached.l0 k1 l0 y200 y204) else (if y204.length < 17592186044416 then (check_Reached.l0 k1 l0 y200 (y204 ++ [wrap64 ((rd x6_1 (ji12)) + 1)])) else (none))))) else (none)) else ((check_ends.f ((rd_T32 l0 (rd x6_1 (ji12))).f0) ((rd_T32 l0 (rd x6_1 (ji12))).f1) ((rd_T32 l0 (rd x6_1 (ji12))).f2) ((rd_T32 l0 (rd x6_1 (ji12))).f3) ((rd_T32 l0 (rd x6_1 (ji12))).f4.f0) ((rd_T32 l0 (rd x6_1 (ji12))).f4.f1) ((rd_T32 l0 (rd x6_1 (ji12))).f4.f2)).bind fun t213 => (if t213 = true then (check_Reached.l0 k1 l0 y200 y196) else (if y196.length < 17592186044416 then (check_Reached.l0 k1 l0 y200 (y196 ++ [wrap64 ((rd x6_1 (ji12)) + 1)])) else (none)))))) else (none)))) else (none)) else (none))) else (none)) else (none)) else (none)) = some r := by first | (rw [hji12] at H; exact H) | (simp only [hji12] at H ⊢; exact H)
              have hji12w : (IntKind.i64.wrap ((x6_1.length : Int) - 1)) = ji12 := (i64_w _).trans hji12
              by_cases c13 : 0 ≤ (ji12)
              · rw [if_pos c13] at H
                have c13b0 : decide (0 ≤ (ji12)) = true := decide_eq_true c13
                clear c13
                by_cases c14 : (ji12) < (x6_1.length : Int)
                · rw [if_pos c14] at H
                  have c14b0 : decide ((ji12) < (x6_1.length : Int)) = true := decide_eq_true c14
                  clear c14
                  by_cases c15 : (ji12) ≤ (x6_1.length : Int)
                  · rw [if_pos c15] at H
                    have c15b0 := eq_true c15
                    have c15b1 : decide ((ji12) ≤ (x6_1.length : Int)) = true := decide_eq_true c15
                    clear c15
                    obtain ⟨y196, hy196⟩ : ∃ y_ : List Int, y_ = (x6_1.take ((ji12) : Int).toNat) := ⟨_, rfl⟩
                    replace H : (if 0 ≤ (rd x6_1 (ji12)) then (if (rd x6_1 (ji12)) < (x5_1.length : Int) then (if rdOf false x5_1 (rd x6_1 (ji12)) = true then (check_Reached.l0 k1 l0 x5_1 y196) else ((some (x5_1.set ((rd x6_1 (ji12)) : Int).toNat true : List Bool)).bind fun y200 => (if (rd x6_1 (ji12)) < (l0.length : Int) then ((check_Target.f ((rd_T32 l0 (rd x6_1 (ji12))).f0) ((rd_T32 l0 (rd x6_1 (ji12))).f1) ((rd_T32 l0 (rd x6_1 (ji12))).f2) ((rd_T32 l0 (rd x6_1 (ji12))).f3) ((rd_T32 l0 (rd x6_1 (ji12))).f4.f0) ((rd_T32 l0 (rd x6_1 (ji12))).f4.f1) ((rd_T32 l0 (rd x6_1 (ji12))).f4.f2)).bind fun bt202 => (if bt202.2 = true then (if y196.length < 17592186044416 then ((some (y196 ++ [bt202.1] : List Int)).bind fun y204 => ((check_ends.f ((rd_T32 l0 (rd x6_1 (ji12))).f0) ((rd_T32 l0 (rd x6_1 (ji12))).f1) ((rd_T32 l0 (rd x6_1 (ji12))).f2) ((rd_T32 l0 (rd x6_1 (ji12))).f3) ((rd_T32 l0 (rd x6_1 (ji12))).f4.f0) ((rd_T32 l0 (rd x6_1 (ji12))).f4.f1) ((rd_T32 l0 (rd x6_1 (ji12))).f4.f2)).bind fun t208 => (if t208 = true then (check_Reached.l0 k1 l0 y200 y204) else (if y204.length < 17592186044416 then (check_Reached.l0 k1 l0 y200 (y204 ++ [wrap64 ((rd x6_1 (ji12)) + 1)])) else (none))))) else (none)) else ((check_ends.f ((rd_T32 l0 (rd x6_1 (ji12))).f0) ((rd_T32 l0 (rd x6_1 (ji12))).f1) ((rd_T32 l0 (rd x6_1 (ji12))).f2) ((rd_T32 l0 (rd x6_1 (ji12))).f3) ((rd_T32 l0 (rd x6_1 (ji12))).f4.f0) ((rd_T32 l0 (rd x6_1 (ji12))).f4.f1) ((rd_T32 l0 (rd x6_1 (ji12))).f4.f2)).bind fun t213 => (if t213 = true then (check_Reached.l0 k1 l0 y200 y196) else (if y196.length < 17592186044416 then (check_Reached.l0 k1 l0 y200 (y196 ++ [wrap64 ((rd x6_1 (ji12)) + 1)])) else (none)))))) else (none)))) else (none)) else (none)) = some r := by first | (rw [hy196]; with_reducible exact H) | (have H2_ := (Option.bind_some _ _).symm.trans H; rw [hy196]; with_reducible exact H2_) | (have H2_ := (Option.bind_some _ _).symm.trans H; with_reducible exact H2_) | with_reducible exact H | (rw [hy196]; exact H) | exact H
                    have Ny196 := Aside0.mk hy196
                    clear hy196
                    by_cases c16 : 0 ≤ (rd x6_1 (ji12))
                    · rw [if_pos c16] at H
                      have c16b0 : decide (0 ≤ (rd x6_1 (ji12))) = true := decide_eq_true c16
                      clear c16
                      by_cases c17 : (rd x6_1 (ji12)) < (x5_1.length : Int)
                      · rw [if_pos c17] at H
                        have c17b0 : decide ((rd x6_1 (ji12)) < (x5_1.length : Int)) = true := decide_eq_true c17
                        clear c17
                        obtain ⟨bq18, hbq18⟩ : ∃ b_ : Bool, b_ = (rdOf false x5_1 (rd x6_1 (ji12))) := ⟨_, rfl⟩
                        replace H : (if bq18 = true then (check_Reached.l0 k1 l0 x5_1 y196) else ((some (x5_1.set ((rd x6_1 (ji12)) : Int).toNat true : List Bool)).bind fun y200 => (if (rd x6_1 (ji12)) < (l0.length : Int) then ((check_Target.f ((rd_T32 l0 (rd x6_1 (ji12))).f0) ((rd_T32 l0 (rd x6_1 (ji12))).f1) ((rd_T32 l0 (rd x6_1 (ji12))).f2) ((rd_T32 l0 (rd x6_1 (ji12))).f3) ((rd_T32 l0 (rd x6_1 (ji12))).f4.f0) ((rd_T32 l0 (rd x6_1 (ji12))).f4.f1) ((rd_T32 l0 (rd x6_1 (ji12))).f4.f2)).bind fun bt202 => (if bt202.2 = true then (if y196.length < 17592186044416 then ((some (y196 ++ [bt202.1] : List Int)).bind fun y204 => ((check_ends.f ((rd_T32 l0 (rd x6_1 (ji12))).f0) ((rd_T32 l0 (rd x6_1 (ji12))).f1) ((rd_T32 l0 (rd x6_1 (ji12))).f2) ((rd_T32 l0 (rd x6_1 (ji12))).f3) ((rd_T32 l0 (rd x6_1 (ji12))).f4.f0) ((rd_T32 l0 (rd x6_1 (ji12))).f4.f1) ((rd_T32 l0 (rd x6_1 (ji12))).f4.f2)).bind fun t208 => (if t208 = true then (check_Reached.l0 k1 l0 y200 y204) else (if y204.length < 17592186044416 then (check_Reached.l0 k1 l0 y200 (y204 ++ [wrap64 ((rd x6_1 (ji12)) + 1)])) else (none))))) else (none)) else ((check_ends.f ((rd_T32 l0 (rd x6_1 (ji12))).f0) ((rd_T32 l0 (rd x6_1 (ji12))).f1) ((rd_T32 l0 (rd x6_1 (ji12))).f2) ((rd_T32 l0 (rd x6_1 (ji12))).f3) ((rd_T32 l0 (rd x6_1 (ji12))).f4.f0) ((rd_T32 l0 (rd x6_1 (ji12))).f4.f1) ((rd_T32 l0 (rd x6_1 (ji12))).f4.f2)).bind fun t213 => (if t213 = true then (check_Reached.l0 k1 l0 y200 y196) else (if y196.length < 17592186044416 then (check_Reached.l0 k1 l0 y200 (y196 ++ [wrap64 ((rd x6_1 (ji12)) + 1)])) else (none)))))) else (none)))) = some r := by rw [← hbq18] at H; exact H
                        have Nbq18 := Aside0.mk hbq18
                        clear hbq18
                        by_cases c19 : bq18 = true
                        · subst c19
                          have H1 : (check_Reached.l0 k1 l0 x5_1 y196) = some r := by rw [if_pos rfl] at H; exact H
                          clear H
                          have H := H1
                          clear H1
                          have H' := Aside0.mk H
                          clear H
                          obtain ⟨Ao20, co20, eo20⟩ := Kd.R_slice HO_6.out
                          subst eo20
                          have p195 : 0 ≤ ((ji12) : Int) := of_decide_eq_true (by first | (with_reducible assumption) | assumption)
                          have q195 : (ji12) < (x6_1.length : Int) := of_decide_eq_true (by first | (with_reducible assumption) | assumption)
                          obtain ⟨ad195, e195, hx195_0⟩ := Kd.at_int (Kd.R_reads' HO_6.out).2.2 (ji12) p195 q195
                          cases e195
                          replace p195 := eq_true p195
                          replace q195 := eq_true q195
                          have q21 : ((ji12) : Int) ≤ ((x6_1.length : Int) : Int) := of_decide_eq_true (by first | (with_reducible assumption) | assumption)
                          obtain ⟨i021, hi021, _, hsz21, _⟩ := info_parts info3
                          have hcut21 := cut_to (P := Tryd.prog) 36 3 .i64 Tryd.underlying36 hi021 (some ad195) x6_1.length co20 (ji12) (of_decide_eq_true (by first | (with_reducible assumption) | assumption)) q21 (Kd.R_reads' HO_6.out).2.1
                          have hr21 := Kd.R_take (m := ((ji12) : Int).toNat) HO_6.out (by omega)
                          have hy21 : y196.length = ((ji12) : Int).toNat := (by rw [Ny196.out, List.length_take]; omega)
                          rw [← Ny196.out] at hr21
                          rw [← hy21] at hr21 hcut21
                          clear hy21 hi021 hsz21 HO_6
                          have HO198 := Aside0.mk hr21
                          clear hr21
                          replace q21 := eq_true q21
                          obtain ⟨Ao22, co22, eo22⟩ := Kd.R_slice HO_5.out
                          subst eo22
                          have p199 : 0 ≤ ((rd x6_1 (ji12)) : Int) := of_decide_eq_true (by first | (with_reducible assumption) | assumption)
                          have q199 : (rd x6_1 (ji12)) < (x5_1.length : Int) := of_decide_eq_true (by first | (with_reducible assumption) | assumption)
                          obtain ⟨ad199, e199, hx199_0⟩ := Kd.at_bool (Kd.R_reads' HO_5.out).2.2 (rd x6_1 (ji12)) p199 q199
                          (try rw [← Nbq18.out] at hx199_0)
                          cases e199
                          replace p199 := eq_true p199
                          replace q199 := eq_true q199
                          go_wp2
                          go_roundg k1
                          case measure => have := HK1.out; omega
                          case rel => exact ⟨(x5_1), (y196), H', ⟨by have := HK1.out; omega⟩, ⟨by (with_reducible repeat (first | apply Kd.R_alloc | apply Kd.R_drewN | apply Kd.R_drew)); exact HO_5.out⟩, ⟨by (with_reducible repeat (first | apply Kd.R_alloc | apply Kd.R_drewN | apply Kd.R_drew)); exact HO198.out⟩, ⟨by repeat (first | (with_reducible first | exact HB.out | apply below_alloc | apply pw_below_drewN | apply below_drew1) | exact HB.out)⟩⟩
                        · replace c19 := Bool.eq_false_iff.mpr c19
                          subst c19
                          have H1 : ((some (x5_1.set ((rd x6_1 (ji12)) : Int).toNat true : List Bool)).bind fun y200 => (if (rd x6_1 (ji12)) < (l0.length : Int) then ((check_Target.f ((rd_T32 l0 (rd x6_1 (ji12))).f0) ((rd_T32 l0 (rd x6_1 (ji12))).f1) ((rd_T32 l0 (rd x6_1 (ji12))).f2) ((rd_T32 l0 (rd x6_1 (ji12))).f3) ((rd_T32 l0 (rd x6_1 (ji12))).f4.f0) ((rd_T32 l0 (rd x6_1 (ji12))).f4.f1) ((rd_T32 l0 (rd x6_1 (ji12))).f4.f2)).bind fun bt202 => (if bt202.2 = true then (if y196.length < 17592186044416 then ((some (y196 ++ [bt202.1] : List Int)).bind fun y204 => ((check_ends.f ((rd_T32 l0 (rd x6_1 (ji12))).f0) ((rd_T32 l0 (rd x6_1 (ji12))).f1) ((rd_T32 l0 (rd x6_1 (ji12))).f2) ((rd_T32 l0 (rd x6_1 (ji12))).f3) ((rd_T32 l0 (rd x6_1 (ji12))).f4.f0) ((rd_T32 l0 (rd x6_1 (ji12))).f4.f1) ((rd_T32 l0 (rd x6_1 (ji12))).f4.f2)).bind fun t208 => (if t208 = true then (check_Reached.l0 k1 l0 y200 y204) else (if y204.length < 17592186044416 then (check_Reached.l0 k1 l0 y200 (y204 ++ [wrap64 ((rd x6_1 (ji12)) + 1)])) else (none))))) else (none)) else ((check_ends.f ((rd_T32 l0 (rd x6_1 (ji12))).f0) ((rd_T32 l0 (rd x6_1 (ji12))).f1) ((rd_T32 l0 (rd x6_1 (ji12))).f2) ((rd_T32 l0 (rd x6_1 (ji12))).f3) ((rd_T32 l0 (rd x6_1 (ji12))).f4.f0) ((rd_T32 l0 (rd x6_1 (ji12))).f4.f1) ((rd_T32 l0 (rd x6_1 (ji12))).f4.f2)).bind fun t213 => (if t213 = true then (check_Reached.l0 k1 l0 y200 y196) else (if y196.length < 17592186044416 then (check_Reached.l0 k1 l0 y200 (y196 ++ [wrap64 ((rd x6_1 (ji12)) + 1)])) else (none)))))) else (none))) = some r := by rw [if_neg (show ¬ (false = true) by decide)] at H; exact H
                          clear H
                          have H := H1
                          clear H1
                          obtain ⟨y200, hy200⟩ : ∃ y_ : List Bool, y_ = (x5_1.set ((rd x6_1 (ji12)) : Int).toNat true) := ⟨_, rfl⟩
                          replace H : (if (rd x6_1 (ji12)) < (l0.length : Int) then ((check_Target.f ((rd_T32 l0 (rd x6_1 (ji12))).f0) ((rd_T32 l0 (rd x6_1 (ji12))).f1) ((rd_T32 l0 (rd x6_1 (ji12))).f2) ((rd_T32 l0 (rd x6_1 (ji12))).f3) ((rd_T32 l0 (rd x6_1 (ji12))).f4.f0) ((rd_T32 l0 (rd x6_1 (ji12))).f4.f1) ((rd_T32 l0 (rd x6_1 (ji12))).f4.f2)).bind fun bt202 => (if bt202.2 = true then (if y196.length < 17592186044416 then ((some (y196 ++ [bt202.1] : List Int)).bind fun y204 => ((check_ends.f ((rd_T32 l0 (rd x6_1 (ji12))).f0) ((rd_T32 l0 (rd x6_1 (ji12))).f1) ((rd_T32 l0 (rd x6_1 (ji12))).f2) ((rd_T32 l0 (rd x6_1 (ji12))).f3) ((rd_T32 l0 (rd x6_1 (ji12))).f4.f0) ((rd_T32 l0 (rd x6_1 (ji12))).f4.f1) ((rd_T32 l0 (rd x6_1 (ji12))).f4.f2)).bind fun t208 => (if t208 = true then (check_Reached.l0 k1 l0 y200 y204) else (if y204.length < 17592186044416 then (check_Reached.l0 k1 l0 y200 (y204 ++ [wrap64 ((rd x6_1 (ji12)) + 1)])) else (none))))) else (none)) else ((check_ends.f ((rd_T32 l0 (rd x6_1 (ji12))).f0) ((rd_T32 l0 (rd x6_1 (ji12))).f1) ((rd_T32 l0 (rd x6_1 (ji12))).f2) ((rd_T32 l0 (rd x6_1 (ji12))).f3) ((rd_T32 l0 (rd x6_1 (ji12))).f4.f0) ((rd_T32 l0 (rd x6_1 (ji12))).f4.f1) ((rd_T32 l0 (rd x6_1 (ji12))).f4.f2)).bind fun t213 => (if t213 = true then (check_Reached.l0 k1 l0 y200 y196) else (if y196.length < 17592186044416 then (check_Reached.l0 k1 l0 y200 (y196 ++ [wrap64 ((rd x6_1 (ji12)) + 1)])) else (none)))))) else (none)) = some r := by first | (rw [hy200]; with_reducible exact H) | (have H2_ := (Option.bind_some _ _).symm.trans H; rw [hy200]; with_reducible exact H2_) | (have H2_ := (Option.bind_some _ _).symm.trans H; with_reducible exact H2_) | with_reducible exact H | (rw [hy200]; exact H) | exact H
                          have Ny200 := Aside0.mk hy200
                          clear hy200
                          by_cases c24 : (rd x6_1 (ji12)) < (l0.length : Int)
                          · rw [if_pos c24] at H
                            have c24b0 : decide ((rd x6_1 (ji12)) < (l0.length : Int)) = true := decide_eq_true c24
                            clear c24
                            replace H := Option.bind_eq_some_iff.mp H
                            obtain ⟨⟨t202, t203⟩, A250, H⟩ := H
                            replace H : (if t203 = true then (if y196.length < 17592186044416 then ((some (y196 ++ [t202] : List Int)).bind fun y204 => ((check_ends.f ((rd_T32 l0 (rd x6_1 (ji12))).f0) ((rd_T32 l0 (rd x6_1 (ji12))).f1) ((rd_T32 l0 (rd x6_1 (ji12))).f2) ((rd_T32 l0 (rd x6_1 (ji12))).f3) ((rd_T32 l0 (rd x6_1 (ji12))).f4.f0) ((rd_T32 l0 (rd x6_1 (ji12))).f4.f1) ((rd_T32 l0 (rd x6_1 (ji12))).f4.f2)).bind fun t208 => (if t208 = true then (check_Reached.l0 k1 l0 y200 y204) else (if y204.length < 17592186044416 then (check_Reached.l0 k1 l0 y200 (y204 ++ [wrap64 ((rd x6_1 (ji12)) + 1)])) else (none))))) else (none)) else ((check_ends.f ((rd_T32 l0 (rd x6_1 (ji12))).f0) ((rd_T32 l0 (rd x6_1 (ji12))).f1) ((rd_T32 l0 (rd x6_1 (ji12))).f2) ((rd_T32 l0 (rd x6_1 (ji12))).f3) ((rd_T32 l0 (rd x6_1 (ji12))).f4.f0) ((rd_T32 l0 (rd x6_1 (ji12))).f4.f1) ((rd_T32 l0 (rd x6_1 (ji12))).f4.f2)).bind fun t213 => (if t213 = true then (check_Reached.l0 k1 l0 y200 y196) else (if y196.length < 17592186044416 then (check_Reached.l0 k1 l0 y200 (y196 ++ [wrap64 ((rd x6_1 (ji12)) + 1)])) else (none))))) = some r := H
                            have A25 := Aside0.mk A250
                            clear A250
                            by_cases c26 : t203 = true
                            · subst c26
                              have H1 : (if y196.length < 17592186044416 then ((some (y196 ++ [t202] : List Int)).bind fun y204 => ((check_ends.f ((rd_T32 l0 (rd x6_1 (ji12))).f0) ((rd_T32 l0 (rd x6_1 (ji12))).f1) ((rd_T32 l0 (rd x6_1 (ji12))).f2) ((rd_T32 l0 (rd x6_1 (ji12))).f3) ((rd_T32 l0 (rd x6_1 (ji12))).f4.f0) ((rd_T32 l0 (rd x6_1 (ji12))).f4.f1) ((rd_T32 l0 (rd x6_1 (ji12))).f4.f2)).bind fun t208 => (if t208 = true then (check_Reached.l0 k1 l0 y200 y204) else (if y204.length < 17592186044416 then (check_Reached.l0 k1 l0 y200 (y204 ++ [wrap64 ((rd x6_1 (ji12)) + 1)])) else (none))))) else (none)) = some r := by rw [if_pos rfl] at H; exact H
                              clear H
                              have H := H1
                              clear H1
                              by_cases c27 : y196.length < 17592186044416
                              · rw [if_pos c27] at H
                                have LMc27 := Aside0.mk c27
                                clear c27
                                obtain ⟨y204, hy204⟩ : ∃ y_ : List Int, y_ = (y196 ++ [t202]) := ⟨_, rfl⟩
                                replace H : ((check_ends.f ((rd_T32 l0 (rd x6_1 (ji12))).f0) ((rd_T32 l0 (rd x6_1 (ji12))).f1) ((rd_T32 l0 (rd x6_1 (ji12))).f2) ((rd_T32 l0 (rd x6_1 (ji12))).f3) ((rd_T32 l0 (rd x6_1 (ji12))).f4.f0) ((rd_T32 l0 (rd x6_1 (ji12))).f4.f1) ((rd_T32 l0 (rd x6_1 (ji12))).f4.f2)).bind fun t208 => (if t208 = true then (check_Reached.l0 k1 l0 y200 y204) else (if y204.length < 17592186044416 then (check_Reached.l0 k1 l0 y200 (y204 ++ [wrap64 ((rd x6_1 (ji12)) + 1)])) else (none)))) = some r := by first | (rw [hy204]; with_reducible exact H) | (have H2_ := (Option.bind_some _ _).symm.trans H; rw [hy204]; with_reducible exact H2_) | (have H2_ := (Option.bind_some _ _).symm.trans H; with_reducible exact H2_) | with_reducible exact H | (rw [hy204]; exact H) | exact H
                                have Ny204 := Aside0.mk hy204
                                clear hy204
                                replace H := Option.bind_eq_some_iff.mp H
                                obtain ⟨t208, A280, H⟩ := H
                                replace H : (if t208 = true then (check_Reached.l0 k1 l0 y200 y204) else (if y204.length < 17592186044416 then (check_Reached.l0 k1 l0 y200 (y204 ++ [wrap64 ((rd x6_1 (ji12)) + 1)])) else (none))) = some r := H
                                have A28 := Aside0.mk A280
                                clear A280
                                by_cases c29 : t208 = true
                                · subst c29
                                  have H1 : (check_Reached.l0 k1 l0 y200 y204) = some r := by rw [if_pos rfl] at H; exact H
                                  clear H
                                  have H := H1
                                  clear H1
                                  have H' := Aside0.mk H
                                  clear H
                                  obtain ⟨Ao30, co30, eo30⟩ := Kd.R_slice HO_6.out
                                  subst eo30
                                  have p195 : 0 ≤ ((ji12) : Int) := of_decide_eq_true (by first | (with_reducible assumption) | assumption)
                                  have q195 : (ji12) < (x6_1.length : Int) := of_decide_eq_true (by first | (with_reducible assumption) | assumption)
                                  obtain ⟨ad195, e195, hx195_0⟩ := Kd.at_int (Kd.R_reads' HO_6.out).2.2 (ji12) p195 q195
                                  cases e195
                                  replace p195 := eq_true p195
                                  replace q195 := eq_true q195
                                  have q31 : ((ji12) : Int) ≤ ((x6_1.length : Int) : Int) := of_decide_eq_true (by first | (with_reducible assumption) | assumption)
                                  obtain ⟨i031, hi031, _, hsz31, _⟩ := info_parts info3
                                  have hcut31 := cut_to (P := Tryd.prog) 36 3 .i64 Tryd.underlying36 hi031 (some ad195) x6_1.length co30 (ji12) (of_decide_eq_true (by first | (with_reducible assumption) | assumption)) q31 (Kd.R_reads' HO_6.out).2.1
                                  have hr31 := Kd.R_take (m := ((ji12) : Int).toNat) HO_6.out (by omega)
                                  have hy31 : y196.length = ((ji12) : Int).toNat := (by rw [Ny196.out, List.length_take]; omega)
                                  rw [← Ny196.out] at hr31
                                  rw [← hy31] at hr31 hcut31
                                  clear hy31 hi031 hsz31 HO_6
                                  have HO198 := Aside0.mk hr31
                                  clear hr31
                                  replace q31 := eq_true q31
                                  obtain ⟨Ao32, co32, eo32⟩ := Kd.R_slice HO_5.out
                                  subst eo32
                                  have p199 : 0 ≤ ((rd x6_1 (ji12)) : Int) := of_decide_eq_true (by first | (with_reducible assumption) | assumption)
                                  have q199 : (rd x6_1 (ji12)) < (x5_1.length : Int) := of_decide_eq_true (by first | (with_reducible assumption) | assumption)
                                  obtain ⟨ad199, e199, hx199_0⟩ := Kd.at_bool (Kd.R_reads' HO_5.out).2.2 (rd x6_1 (ji12)) p199 q199
                                  (try rw [← Nbq18.out] at hx199_0)
                                  cases e199
                                  replace p199 := eq_true p199
                                  replace q199 := eq_true q199
                                  have p23 : 0 ≤ ((rd x6_1 (ji12)) : Int) := of_decide_eq_true (by first | (with_reducible assumption) | assumption)
                                  have q23 : ((rd x6_1 (ji12)) : Int) < ((x5_1.length : Int) : Int) := of_decide_eq_true (by first | (with_reducible assumption) | assumption)
                                  obtain ⟨go23, co23, eo23, gb23, gl23, cl23, HG23⟩ := Kd.R_form HO_5.out (by omega)
                                  (first | cases eo23 | (injection eo23 with ea_ en_ ec_; (first | subst ea_ | (injection ea_ with ea_; subst ea_)); subst ec_; clear en_))
                                  have GB23 := Aside0.mk gb23
                                  have GG23 := Aside0.mk HG23
                                  clear gb23 gl23 HG23
                                  (first | simp only [add_plain] at hx199_0 | skip)
                                  obtain ⟨hx23_0, hf23_0⟩ := Kd.R_celln false HO_5.out ((rd x6_1 (ji12)) : Int) p23 q23
                                  replace p23 := eq_true p23
                                  replace q23 := eq_true q23
                                  have HP33 := Kd.R_putg HO_5.out ((rd x6_1 (ji12)) : Int) true
                                  go_wp2_with (first | ((with_reducible refine gate_store (t := 4) (p := 41) rfl ?_); refine store_event (t := 4) (p := 41) (v := ?vo_w34) (w1 := (wr.setCell ⟨go23, ((rd x6_1 (ji12)) : Int).toNat, none⟩ (.bool true))) ?hg ?ho ?hn ?hr ?_; (case ho => rfl); (case hg => rfl); (case hn => rfl); (case hr => first | (go_simp; done) | (go_simp; rfl)); intro w34 hw; have hg : wr.grownBy w34 (some go23) := (by rw [hw]; exact HP33.2); have hp_ : Kd.R Kd.bool 4 w34 w.heap.size (fun _ => True) (.slice (some ⟨go23, 0, none⟩) x5_1.length co32) y200 := (by rw [hw, Ny200.out]; exact HP33.1); clear HP33; have n0_ := Aside0.mk (hp_); have n1_ := Aside0.mk (Kd.R_over' (v := (.slice (some ⟨go23, 0, none⟩) x5_1.length co32)) (by (with_reducible repeat (first | apply Kd.R_alloc | apply Kd.R_drewN | apply Kd.R_drew)); exact HO198.out) (Kd.R_typed HO_5.out) (by decide) hg); have n2_ := Aside0.mk ((by rw [hw]; exact below_set (HB.out) GB23.out : Below w.heap.size w w34)); clear HO_5; clear HO198; clear HB; have HO_5 := n0_; have HO198 := n1_; have HB := n2_; clear n0_ n1_ n2_; clear hg hw hp_; have p201 : 0 ≤ ((rd x6_1 (ji12)) : Int) := of_decide_eq_true (by first | (with_reducible assumption) | assumption); have q201 : (rd x6_1 (ji12)) < (l0.length : Int) := of_decide_eq_true (by first | (with_reducible assumption) | assumption); obtain ⟨ad201, e201, hx201_0, hx201_1, hx201_2, hx201_3, hx201_4, hx201_5, hx201_6⟩ := at_T32 HR0.out (rd x6_1 (ji12)) p201 q201; cases e201; replace hx201_0 := (HB.out.cell (World.block_lt_of_cell? w _ hx201_0)).trans hx201_0; replace hx201_1 := (HB.out.cell (World.block_lt_of_cell? w _ hx201_1)).trans hx201_1; replace hx201_2 := (HB.out.cell (World.block_lt_of_cell? w _ hx201_2)).trans hx201_2; replace hx201_3 := (HB.out.cell (World.block_lt_of_cell? w _ hx201_3)).trans hx201_3; replace hx201_4 := (HB.out.cell (World.block_lt_of_cell? w _ hx201_4)).trans hx201_4; replace hx201_5 := (HB.out.cell (World.block_lt_of_cell? w _ hx201_5)).trans hx201_5; replace hx201_6 := (HB.out.cell (World.block_lt_of_cell? w _ hx201_6)).trans hx201_6; replace p201 := eq_true p201; replace q201 := eq_true q201) | ((with_reducible refine gate_callee (f := 11) rfl ?_); refine goesL_ (some 47) rfl rfl Tryd.func11 (by kernel_rfl) rfl #[.agg #[.int .i64 ((rd_T32 l0 (rd x6_1 (ji12))).f0), .int .i64 ((rd_T32 l0 (rd x6_1 (ji12))).f1), .int .i64 ((rd_T32 l0 (rd x6_1 (ji12))).f2), .int .i64 ((rd_T32 l0 (rd x6_1 (ji12))).f3), .int .i64 ((rd_T32 l0 (rd x6_1 (ji12))).f4.f0), .int .i64 ((rd_T32 l0 (rd x6_1 (ji12))).f4.f1), .string ((rd_T32 l0 (rd x6_1 (ji12))).f4.f2)]] rfl (by (try simp only [List.map_toArray, List.map_cons, List.map_nil]); first | done | (simp only [hji12]; rfl) | rfl | (simp only [List.length_drop, List.length_take]; rfl) | (simp (disch := omega) only [u64_in]; rfl)) ?_; (with_reducible refine (check_Target.calls ((rd_T32 l0 (rd x6_1 (ji12))).f0) ((rd_T32 l0 (rd x6_1 (ji12))).f1) ((rd_T32 l0 (rd x6_1 (ji12))).f2) ((rd_T32 l0 (rd x6_1 (ji12))).f3) ((rd_T32 l0 (rd x6_1 (ji12))).f4.f0) ((rd_T32 l0 (rd x6_1 (ji12))).f4.f1) ((rd_T32 l0 (rd x6_1 (ji12))).f4.f2) t202 true _ A25.out).mono ?_); rintro e w35 ⟨rfl, hb⟩; refine ⟨_, rfl, ?_⟩; have n0_ := Aside0.mk (Kd.R_below (by (with_reducible repeat (first | apply Kd.R_alloc | apply Kd.R_drewN | apply Kd.R_drew)); exact HO_5.out) hb); have n1_ := Aside0.mk (Kd.R_below (by (with_reducible repeat (first | apply Kd.R_alloc | apply Kd.R_drewN | apply Kd.R_drew)); exact HO198.out) hb); have n2_ := Aside0.mk (below_step (by repeat (first | (with_reducible first | exact HB.out | apply below_alloc | apply pw_below_drewN | apply below_drew1) | exact HB.out)) hb); clear HO_5; clear HO198; clear HB; have HO_5 := n0_; have HO198 := n1_; have HB := n2_; clear n0_ n1_ n2_; (try clear hb); (try clear hb2); (try clear hk); (try clear hi)) | ((with_reducible refine gate_builtin (b := .append) (xs := #[.tmp 51, .tmp 53]) rfl ?_); at_builtin; refine Kd.R_append (Kd.int .i64) (w0 := w) w.heap.size rfl (.tmp 51) (.tmp 53) 36 3 (.int .i64 0) 8 rfl Tryd.underlying36 info3 rfl (by decide) (by omega) (.slice (some ad195) y196.length co30) y196 t202 [.int .i64 t202] (fun _ => True) (fun _ => False) rfl rfl ?aP (fun _ hk => hk.elim) ?aF ?aO ?aB ?aS ?aL ?_; (case aP => exact rfl); (case aB => exact (by repeat (first | (with_reducible first | exact HB.out | apply below_alloc | apply pw_below_drewN | apply below_drew1) | exact HB.out))); (case aF => exact (fun _ _ => trivial)); (case aO => exact (by (with_reducible repeat (first | apply Kd.R_alloc | apply Kd.R_drewN | apply Kd.R_drew)); exact HO198.out)); (case aS => exact (below_size (by repeat (first | (with_reducible first | exact HB.out | apply below_alloc | apply pw_below_drewN | apply below_drew1) | exact HB.out)))); (case aL => have := LMc27.out; omega); intro v205 w36 ho hb hg hat; rw [← Ny204.out] at ho; have n0_ := Aside0.mk (Kd.R_over' (by (with_reducible repeat (first | apply Kd.R_alloc | apply Kd.R_drewN | apply Kd.R_drew)); exact HO_5.out) (Kd.R_typed (by (with_reducible repeat (first | apply Kd.R_alloc | apply Kd.R_drewN | apply Kd.R_drew)); exact HO198.out)) (by decide) hg); have n1_ := Aside0.mk (hb); have n2_ := Aside0.mk (ho); clear HO_5; clear HB; clear HO198; have HO_5 := n0_; have HB := n1_; have HO206 := n2_; clear n0_ n1_ n2_; clear ho hb hg hat; have p207 : 0 ≤ ((rd x6_1 (ji12)) : Int) := of_decide_eq_true (by first | (with_reducible assumption) | assumption); have q207 : (rd x6_1 (ji12)) < (l0.length : Int) := of_decide_eq_true (by first | (with_reducible assumption) | assumption); obtain ⟨ad207, e207, hx207_0, hx207_1, hx207_2, hx207_3, hx207_4, hx207_5, hx207_6⟩ := at_T32 HR0.out (rd x6_1 (ji12)) p207 q207; obtain rfl : ad201 = ad207 := (by injection e207); replace hx207_0 := (HB.out.cell (World.block_lt_of_cell? w _ hx207_0)).trans hx207_0; replace hx207_1 := (HB.out.cell (World.block_lt_of_cell? w _ hx207_1)).trans hx207_1; replace hx207_2 := (HB.out.cell (World.block_lt_of_cell? w _ hx207_2)).trans hx207_2; replace hx207_3 := (HB.out.cell (World.block_lt_of_cell? w _ hx207_3)).trans hx207_3; replace hx207_4 := (HB.out.cell (World.block_lt_of_cell? w _ hx207_4)).trans hx207_4; replace hx207_5 := (HB.out.cell (World.block_lt_of_cell? w _ hx207_5)).trans hx207_5; replace hx207_6 := (HB.out.cell (World.block_lt_of_cell? w _ hx207_6)).trans hx207_6; replace p207 := eq_true p207; replace q207 := eq_true q207) | ((with_reducible refine gate_callee (f := 24) rfl ?_); refine goesL_ (some 59) rfl rfl Tryd.func24 (by kernel_rfl) rfl #[.agg #[.int .i64 ((rd_T32 l0 (rd x6_1 (ji12))).f0), .int .i64 ((rd_T32 l0 (rd x6_1 (ji12))).f1), .int .i64 ((rd_T32 l0 (rd x6_1 (ji12))).f2), .int .i64 ((rd_T32 l0 (rd x6_1 (ji12))).f3), .int .i64 ((rd_T32 l0 (rd x6_1 (ji12))).f4.f0), .int .i64 ((rd_T32 l0 (rd x6_1 (ji12))).f4.f1), .string ((rd_T32 l0 (rd x6_1 (ji12))).f4.f2)]] rfl (by (try simp only [List.map_toArray, List.map_cons, List.map_nil]); first | done | (simp only [hji12]; rfl) | rfl | (simp only [List.length_drop, List.length_take]; rfl) | (simp (disch := omega) only [u64_in]; rfl)) ?_; (with_reducible refine (check_ends.calls ((rd_T32 l0 (rd x6_1 (ji12))).f0) ((rd_T32 l0 (rd x6_1 (ji12))).f1) ((rd_T32 l0 (rd x6_1 (ji12))).f2) ((rd_T32 l0 (rd x6_1 (ji12))).f3) ((rd_T32 l0 (rd x6_1 (ji12))).f4.f0) ((rd_T32 l0 (rd x6_1 (ji12))).f4.f1) ((rd_T32 l0 (rd x6_1 (ji12))).f4.f2) true _ A28.out).mono ?_); rintro e w37 ⟨rfl, hb⟩; refine ⟨_, rfl, ?_⟩; have n0_ := Aside0.mk (Kd.R_below (by (with_reducible repeat (first | apply Kd.R_alloc | apply Kd.R_drewN | apply Kd.R_drew)); exact HO_5.out) hb); have n1_ := Aside0.mk (Kd.R_below (by (with_reducible repeat (first | apply Kd.R_alloc | apply Kd.R_drewN | apply Kd.R_drew)); exact HO206.out) hb); have n2_ := Aside0.mk (below_step (by repeat (first | (with_reducible first | exact HB.out | apply below_alloc | apply pw_below_drewN | apply below_drew1) | exact HB.out)) hb); clear HO_5; clear HO206; clear HB; have HO_5 := n0_; have HO206 := n1_; have HB := n2_; clear n0_ n1_ n2_; (try clear hb); (try clear hb2); (try clear hk); (try clear hi)))
                                  go_roundg k1
                                  case measure => have := HK1.out; omega
                                  case rel => exact ⟨(y200), (y204), H', ⟨by have := HK1.out; omega⟩, ⟨by (with_reducible repeat (first | apply Kd.R_alloc | apply Kd.R_drewN | apply Kd.R_drew)); exact HO_5.out⟩, ⟨by (with_reducible repeat (first | apply Kd.R_alloc | apply Kd.R_drewN | apply Kd.R_drew)); exact HO206.out⟩, ⟨by repeat (first | (with_reducible first | exact HB.out | apply below_alloc | apply pw_below_drewN | apply below_drew1) | exact HB.out)⟩⟩
                                · replace c29 := Bool.eq_false_iff.mpr c29
                                  subst c29
                                  have H1 : (if y204.length < 17592186044416 then (check_Reached.l0 k1 l0 y200 (y204 ++ [wrap64 ((rd x6_1 (ji12)) + 1)])) else (none)) = some r := by rw [if_neg (show ¬ (false = true) by decide)] at H; exact H
                                  clear H
                                  have H := H1
                                  clear H1
                                  by_cases c38 : y204.length < 17592186044416
                                  · rw [if_pos c38] at H
                                    have LMc38 := Aside0.mk c38
                                    clear c38
                                    obtain ⟨y209, hy209⟩ : ∃ y_ : List Int, y_ = (y204 ++ [wrap64 ((rd x6_1 (ji12)) + 1)]) := ⟨_, rfl⟩
                                    replace H : (check_Reached.l0 k1 l0 y200 y209) = some r := by first | (rw [hy209]; with_reducible exact H) | (have H2_ := (Option.bind_some _ _).symm.trans H; rw [hy209]; with_reducible exact H2_) | (have H2_ := (Option.bind_some _ _).symm.trans H; with_reducible exact H2_) | with_reducible exact H | (rw [hy209]; exact H) | exact H
                                    have Ny209 := Aside0.mk hy209
                                    clear hy209
                                    have H' := Aside0.mk H
                                    clear H
                                    obtain ⟨Ao39, co39, eo39⟩ := Kd.R_slice HO_6.out
                                    subst eo39
                                    have p195 : 0 ≤ ((ji12) : Int) := of_decide_eq_true (by first | (with_reducible assumption) | assumption)
                                    have q195 : (ji12) < (x6_1.length : Int) := of_decide_eq_true (by first | (with_reducible assumption) | assumption)
                                    obtain ⟨ad195, e195, hx195_0⟩ := Kd.at_int (Kd.R_reads' HO_6.out).2.2 (ji12) p195 q195
                                    cases e195
                                    replace p195 := eq_true p195
                                    replace q195 := eq_true q195
                                    have q40 : ((ji12) : Int) ≤ ((x6_1.length : Int) : Int) := of_decide_eq_true (by first | (with_reducible assumption) | assumption)
                                    obtain ⟨i040, hi040, _, hsz40, _⟩ := info_parts info3
                                    have hcut40 := cut_to (P := Tryd.prog) 36 3 .i64 Tryd.underlying36 hi040 (some ad195) x6_1.length co39 (ji12) (of_decide_eq_true (by first | (with_reducible assumption) | assumption)) q40 (Kd.R_reads' HO_6.out).2.1
                                    have hr40 := Kd.R_take (m := ((ji12) : Int).toNat) HO_6.out (by omega)
                                    have hy40 : y196.length = ((ji12) : Int).toNat := (by rw [Ny196.out, List.length_take]; omega)
                                    rw [← Ny196.out] at hr40
                                    rw [← hy40] at hr40 hcut40
                                    clear hy40 hi040 hsz40 HO_6
                                    have HO198 := Aside0.mk hr40
                                    clear hr40
                                    replace q40 := eq_true q40
                                    obtain ⟨Ao41, co41, eo41⟩ := Kd.R_slice HO_5.out
                                    subst eo41
                                    have p199 : 0 ≤ ((rd x6_1 (ji12)) : Int) := of_decide_eq_true (by first | (with_reducible assumption) | assumption)
                                    have q199 : (rd x6_1 (ji12)) < (x5_1.length : Int) := of_decide_eq_true (by first | (with_reducible assumption) | assumption)
                                    obtain ⟨ad199, e199, hx199_0⟩ := Kd.at_bool (Kd.R_reads' HO_5.out).2.2 (rd x6_1 (ji12)) p199 q199
                                    (try rw [← Nbq18.out] at hx199_0)
                                    cases e199
                                    replace p199 := eq_true p199
                                    replace q199 := eq_true q199
                                    have p23 : 0 ≤ ((rd x6_1 (ji12)) : Int) := of_decide_eq_true (by first | (with_reducible assumption) | assumption)
                                    have q23 : ((rd x6_1 (ji12)) : Int) < ((x5_1.length : Int) : Int) := of_decide_eq_true (by first | (with_reducible assumption) | assumption)
                                    obtain ⟨go23, co23, eo23, gb23, gl23, cl23, HG23⟩ := Kd.R_form HO_5.out (by omega)
                                    (first | cases eo23 | (injection eo23 with ea_ en_ ec_; (first | subst ea_ | (injection ea_ with ea_; subst ea_)); subst ec_; clear en_))
                                    have GB23 := Aside0.mk gb23
                                    have GG23 := Aside0.mk HG23
                                    clear gb23 gl23 HG23
                                    (first | simp only [add_plain] at hx199_0 | skip)
                                    obtain ⟨hx23_0, hf23_0⟩ := Kd.R_celln false HO_5.out ((rd x6_1 (ji12)) : Int) p23 q23
                                    replace p23 := eq_true p23
                                    replace q23 := eq_true q23
                                    have HP42 := Kd.R_putg HO_5.out ((rd x6_1 (ji12)) : Int) true
                                    go_wp2_with (first | ((with_reducible refine gate_store (t := 4) (p := 41) rfl ?_); refine store_event (t := 4) (p := 41) (v := ?vo_w43) (w1 := (wr.setCell ⟨go23, ((rd x6_1 (ji12)) : Int).toNat, none⟩ (.bool true))) ?hg ?ho ?hn ?hr ?_; (case ho => rfl); (case hg => rfl); (case hn => rfl); (case hr => first | (go_simp; done) | (go_simp; rfl)); intro w43 hw; have hg : wr.grownBy w43 (some go23) := (by rw [hw]; exact HP42.2); have hp_ : Kd.R Kd.bool 4 w43 w.heap.size (fun _ => True) (.slice (some ⟨go23, 0, none⟩) x5_1.length co41) y200 := (by rw [hw, Ny200.out]; exact HP42.1); clear HP42; have n0_ := Aside0.mk (hp_); have n1_ := Aside0.mk (Kd.R_over' (v := (.slice (some ⟨go23, 0, none⟩) x5_1.length co41)) (by (with_reducible repeat (first | apply Kd.R_alloc | apply Kd.R_drewN | apply Kd.R_drew)); exact HO198.out) (Kd.R_typed HO_5.out) (by decide) hg); have n2_ := Aside0.mk ((by rw [hw]; exact below_set (HB.out) GB23.out : Below w.heap.size w w43)); clear HO_5; clear HO198; clear HB; have HO_5 := n0_; have HO198 := n1_; have HB := n2_; clear n0_ n1_ n2_; clear hg hw hp_; have p201 : 0 ≤ ((rd x6_1 (ji12)) : Int) := of_decide_eq_true (by first | (with_reducible assumption) | assumption); have q201 : (rd x6_1 (ji12)) < (l0.length : Int) := of_decide_eq_true (by first | (with_reducible assumption) | assumption); obtain ⟨ad201, e201, hx201_0, hx201_1, hx201_2, hx201_3, hx201_4, hx201_5, hx201_6⟩ := at_T32 HR0.out (rd x6_1 (ji12)) p201 q201; cases e201; replace hx201_0 := (HB.out.cell (World.block_lt_of_cell? w _ hx201_0)).trans hx201_0; replace hx201_1 := (HB.out.cell (World.block_lt_of_cell? w _ hx201_1)).trans hx201_1; replace hx201_2 := (HB.out.cell (World.block_lt_of_cell? w _ hx201_2)).trans hx201_2; replace hx201_3 := (HB.out.cell (World.block_lt_of_cell? w _ hx201_3)).trans hx201_3; replace hx201_4 := (HB.out.cell (World.block_lt_of_cell? w _ hx201_4)).trans hx201_4; replace hx201_5 := (HB.out.cell (World.block_lt_of_cell? w _ hx201_5)).trans hx201_5; replace hx201_6 := (HB.out.cell (World.block_lt_of_cell? w _ hx201_6)).trans hx201_6; replace p201 := eq_true p201; replace q201 := eq_true q201) | ((with_reducible refine gate_callee (f := 11) rfl ?_); refine goesL_ (some 47) rfl rfl Tryd.func11 (by kernel_rfl) rfl #[.agg #[.int .i64 ((rd_T32 l0 (rd x6_1 (ji12))).f0), .int .i64 ((rd_T32 l0 (rd x6_1 (ji12))).f1), .int .i64 ((rd_T32 l0 (rd x6_1 (ji12))).f2), .int .i64 ((rd_T32 l0 (rd x6_1 (ji12))).f3), .int .i64 ((rd_T32 l0 (rd x6_1 (ji12))).f4.f0), .int .i64 ((rd_T32 l0 (rd x6_1 (ji12))).f4.f1), .string ((rd_T32 l0 (rd x6_1 (ji12))).f4.f2)]] rfl (by (try simp only [List.map_toArray, List.map_cons, List.map_nil]); first | done | (simp only [hji12]; rfl) | rfl | (simp only [List.length_drop, List.length_take]; rfl) | (simp (disch := omega) only [u64_in]; rfl)) ?_; (with_reducible refine (check_Target.calls ((rd_T32 l0 (rd x6_1 (ji12))).f0) ((rd_T32 l0 (rd x6_1 (ji12))).f1) ((rd_T32 l0 (rd x6_1 (ji12))).f2) ((rd_T32 l0 (rd x6_1 (ji12))).f3) ((rd_T32 l0 (rd x6_1 (ji12))).f4.f0) ((rd_T32 l0 (rd x6_1 (ji12))).f4.f1) ((rd_T32 l0 (rd x6_1 (ji12))).f4.f2) t202 true _ A25.out).mono ?_); rintro e w44 ⟨rfl, hb⟩; refine ⟨_, rfl, ?_⟩; have n0_ := Aside0.mk (Kd.R_below (by (with_reducible repeat (first | apply Kd.R_alloc | apply Kd.R_drewN | apply Kd.R_drew)); exact HO_5.out) hb); have n1_ := Aside0.mk (Kd.R_below (by (with_reducible repeat (first | apply Kd.R_alloc | apply Kd.R_drewN | apply Kd.R_drew)); exact HO198.out) hb); have n2_ := Aside0.mk (below_step (by repeat (first | (with_reducible first | exact HB.out | apply below_alloc | apply pw_below_drewN | apply below_drew1) | exact HB.out)) hb); clear HO_5; clear HO198; clear HB; have HO_5 := n0_; have HO198 := n1_; have HB := n2_; clear n0_ n1_ n2_; (try clear hb); (try clear hb2); (try clear hk); (try clear hi)) | ((with_reducible refine gate_builtin (b := .append) (xs := #[.tmp 51, .tmp 53]) rfl ?_); at_builtin; refine Kd.R_append (Kd.int .i64) (w0 := w) w.heap.size rfl (.tmp 51) (.tmp 53) 36 3 (.int .i64 0) 8 rfl Tryd.underlying36 info3 rfl (by decide) (by omega) (.slice (some ad195) y196.length co39) y196 t202 [.int .i64 t202] (fun _ => True) (fun _ => False) rfl rfl ?aP (fun _ hk => hk.elim) ?aF ?aO ?aB ?aS ?aL ?_; (case aP => exact rfl); (case aB => exact (by repeat (first | (with_reducible first | exact HB.out | apply below_alloc | apply pw_below_drewN | apply below_drew1) | exact HB.out))); (case aF => exact (fun _ _ => trivial)); (case aO => exact (by (with_reducible repeat (first | apply Kd.R_alloc | apply Kd.R_drewN | apply Kd.R_drew)); exact HO198.out)); (case aS => exact (below_size (by repeat (first | (with_reducible first | exact HB.out | apply below_alloc | apply pw_below_drewN | apply below_drew1) | exact HB.out)))); (case aL => have := LMc27.out; omega); intro v205 w45 ho hb hg hat; rw [← Ny204.out] at ho; have n0_ := Aside0.mk (Kd.R_over' (by (with_reducible repeat (first | apply Kd.R_alloc | apply Kd.R_drewN | apply Kd.R_drew)); exact HO_5.out) (Kd.R_typed (by (with_reducible repeat (first | apply Kd.R_alloc | apply Kd.R_drewN | apply Kd.R_drew)); exact HO198.out)) (by decide) hg); have n1_ := Aside0.mk (hb); have n2_ := Aside0.mk (ho); clear HO_5; clear HB; clear HO198; have HO_5 := n0_; have HB := n1_; have HO206 := n2_; clear n0_ n1_ n2_; clear ho hb hg hat; have p207 : 0 ≤ ((rd x6_1 (ji12)) : Int) := of_decide_eq_true (by first | (with_reducible assumption) | assumption); have q207 : (rd x6_1 (ji12)) < (l0.length : Int) := of_decide_eq_true (by first | (with_reducible assumption) | assumption); obtain ⟨ad207, e207, hx207_0, hx207_1, hx207_2, hx207_3, hx207_4, hx207_5, hx207_6⟩ := at_T32 HR0.out (rd x6_1 (ji12)) p207 q207; obtain rfl : ad201 = ad207 := (by injection e207); replace hx207_0 := (HB.out.cell (World.block_lt_of_cell? w _ hx207_0)).trans hx207_0; replace hx207_1 := (HB.out.cell (World.block_lt_of_cell? w _ hx207_1)).trans hx207_1; replace hx207_2 := (HB.out.cell (World.block_lt_of_cell? w _ hx207_2)).trans hx207_2; replace hx207_3 := (HB.out.cell (World.block_lt_of_cell? w _ hx207_3)).trans hx207_3; replace hx207_4 := (HB.out.cell (World.block_lt_of_cell? w _ hx207_4)).trans hx207_4; replace hx207_5 := (HB.out.cell (World.block_lt_of_cell? w _ hx207_5)).trans hx207_5; replace hx207_6 := (HB.out.cell (World.block_lt_of_cell? w _ hx207_6)).trans hx207_6; replace p207 := eq_true p207; replace q207 := eq_true q207) | ((with_reducible refine gate_callee (f := 24) rfl ?_); refine goesL_ (some 59) rfl rfl Tryd.func24 (by kernel_rfl) rfl #[.agg #[.int .i64 ((rd_T32 l0 (rd x6_1 (ji12))).f0), .int .i64 ((rd_T32 l0 (rd x6_1 (ji12))).f1), .int .i64 ((rd_T32 l0 (rd x6_1 (ji12))).f2), .int .i64 ((rd_T32 l0 (rd x6_1 (ji12))).f3), .int .i64 ((rd_T32 l0 (rd x6_1 (ji12))).f4.f0), .int .i64 ((rd_T32 l0 (rd x6_1 (ji12))).f4.f1), .string ((rd_T32 l0 (rd x6_1 (ji12))).f4.f2)]] rfl (by (try simp only [List.map_toArray, List.map_cons, List.map_nil]); first | done | (simp only [hji12]; rfl) | rfl | (simp only [List.length_drop, List.length_take]; rfl) | (simp (disch := omega) only [u64_in]; rfl)) ?_; (with_reducible refine (check_ends.calls ((rd_T32 l0 (rd x6_1 (ji12))).f0) ((rd_T32 l0 (rd x6_1 (ji12))).f1) ((rd_T32 l0 (rd x6_1 (ji12))).f2) ((rd_T32 l0 (rd x6_1 (ji12))).f3) ((rd_T32 l0 (rd x6_1 (ji12))).f4.f0) ((rd_T32 l0 (rd x6_1 (ji12))).f4.f1) ((rd_T32 l0 (rd x6_1 (ji12))).f4.f2) false _ A28.out).mono ?_); rintro e w46 ⟨rfl, hb⟩; refine ⟨_, rfl, ?_⟩; have n0_ := Aside0.mk (Kd.R_below (by (with_reducible repeat (first | apply Kd.R_alloc | apply Kd.R_drewN | apply Kd.R_drew)); exact HO_5.out) hb); have n1_ := Aside0.mk (Kd.R_below (by (with_reducible repeat (first | apply Kd.R_alloc | apply Kd.R_drewN | apply Kd.R_drew)); exact HO206.out) hb); have n2_ := Aside0.mk (below_step (by repeat (first | (with_reducible first | exact HB.out | apply below_alloc | apply pw_below_drewN | apply below_drew1) | exact HB.out)) hb); clear HO_5; clear HO206; clear HB; have HO_5 := n0_; have HO206 := n1_; have HB := n2_; clear n0_ n1_ n2_; (try clear hb); (try clear hb2); (try clear hk); (try clear hi)) | ((with_reducible refine gate_builtin (b := .append) (xs := #[.tmp 61, .tmp 64]) rfl ?_); at_builtin; refine Kd.R_append (Kd.int .i64) (w0 := w) w.heap.size rfl (.tmp 61) (.tmp 64) 36 3 (.int .i64 0) 8 rfl Tryd.underlying36 info3 rfl (by decide) (by omega) v205 y204 (wrap64 ((rd x6_1 (ji12)) + 1)) [.int .i64 (wrap64 ((rd x6_1 (ji12)) + 1))] (fun _ => True) (fun _ => False) rfl rfl ?aP (fun _ hk => hk.elim) ?aF ?aO ?aB ?aS ?aL ?_; (case aP => exact rfl); (case aB => exact (by repeat (first | (with_reducible first | exact HB.out | apply below_alloc | apply pw_below_drewN | apply below_drew1) | exact HB.out))); (case aF => exact (fun _ _ => trivial)); (case aO => exact (by (with_reducible repeat (first | apply Kd.R_alloc | apply Kd.R_drewN | apply Kd.R_drew)); exact HO206.out)); (case aS => exact (below_size (by repeat (first | (with_reducible first | exact HB.out | apply below_alloc | apply pw_below_drewN | apply below_drew1) | exact HB.out)))); (case aL => have := LMc38.out; omega); intro v210 w47 ho hb hg hat; rw [← Ny209.out] at ho; have n0_ := Aside0.mk (Kd.R_over' (by (with_reducible repeat (first | apply Kd.R_alloc | apply Kd.R_drewN | apply Kd.R_drew)); exact HO_5.out) (Kd.R_typed (by (with_reducible repeat (first | apply Kd.R_alloc | apply Kd.R_drewN | apply Kd.R_drew)); exact HO206.out)) (by decide) hg); have n1_ := Aside0.mk (hb); have n2_ := Aside0.mk (ho); clear HO_5; clear HB; clear HO206; have HO_5 := n0_; have HB := n1_; have HO211 := n2_; clear n0_ n1_ n2_; clear ho hb hg hat))
                                    go_roundg k1
                                    case measure => have := HK1.out; omega
                                    case rel => exact ⟨(y200), (y209), H', ⟨by have := HK1.out; omega⟩, ⟨by (with_reducible repeat (first | apply Kd.R_alloc | apply Kd.R_drewN | apply Kd.R_drew)); exact HO_5.out⟩, ⟨by (with_reducible repeat (first | apply Kd.R_alloc | apply Kd.R_drewN | apply Kd.R_drew)); exact HO211.out⟩, ⟨by repeat (first | (with_reducible first | exact HB.out | apply below_alloc | apply pw_below_drewN | apply below_drew1) | exact HB.out)⟩⟩
                                  · rw [if_neg c38] at H
                                    exact absurd H (by simp)
                              · rw [if_neg c27] at H
                                exact absurd H (by simp)
                            · replace c26 := Bool.eq_false_iff.mpr c26
                              subst c26
                              have H1 : ((check_ends.f ((rd_T32 l0 (rd x6_1 (ji12))).f0) ((rd_T32 l0 (rd x6_1 (ji12))).f1) ((rd_T32 l0 (rd x6_1 (ji12))).f2) ((rd_T32 l0 (rd x6_1 (ji12))).f3) ((rd_T32 l0 (rd x6_1 (ji12))).f4.f0) ((rd_T32 l0 (rd x6_1 (ji12))).f4.f1) ((rd_T32 l0 (rd x6_1 (ji12))).f4.f2)).bind fun t213 => (if t213 = true then (check_Reached.l0 k1 l0 y200 y196) else (if y196.length < 17592186044416 then (check_Reached.l0 k1 l0 y200 (y196 ++ [wrap64 ((rd x6_1 (ji12)) + 1)])) else (none)))) = some r := by rw [if_neg (show ¬ (false = true) by decide)] at H; exact H
                              clear H
                              have H := H1
                              clear H1
                              replace H := Option.bind_eq_some_iff.mp H
                              obtain ⟨t213, A480, H⟩ := H
                              replace H : (if t213 = true then (check_Reached.l0 k1 l0 y200 y196) else (if y196.length < 17592186044416 then (check_Reached.l0 k1 l0 y200 (y196 ++ [wrap64 ((rd x6_1 (ji12)) + 1)])) else (none))) = some r := H
                              have A48 := Aside0.mk A480
                              clear A480
                              by_cases c49 : t213 = true
                              · subst c49
                                have H1 : (check_Reached.l0 k1 l0 y200 y196) = some r := by rw [if_pos rfl] at H; exact H
                                clear H
                                have H := H1
                                clear H1
                                have H' := Aside0.mk H
                                clear H
                                obtain ⟨Ao50, co50, eo50⟩ := Kd.R_slice HO_6.out
                                subst eo50
                                have p195 : 0 ≤ ((ji12) : Int) := of_decide_eq_true (by first | (with_reducible assumption) | assumption)
                                have q195 : (ji12) < (x6_1.length : Int) := of_decide_eq_true (by first | (with_reducible assumption) | assumption)
                                obtain ⟨ad195, e195, hx195_0⟩ := Kd.at_int (Kd.R_reads' HO_6.out).2.2 (ji12) p195 q195
                                cases e195
                                replace p195 := eq_true p195
                                replace q195 := eq_true q195
                                have q51 : ((ji12) : Int) ≤ ((x6_1.length : Int) : Int) := of_decide_eq_true (by first | (with_reducible assumption) | assumption)
                                obtain ⟨i051, hi051, _, hsz51, _⟩ := info_parts info3
                                have hcut51 := cut_to (P := Tryd.prog) 36 3 .i64 Tryd.underlying36 hi051 (some ad195) x6_1.length co50 (ji12) (of_decide_eq_true (by first | (with_reducible assumption) | assumption)) q51 (Kd.R_reads' HO_6.out).2.1
                                have hr51 := Kd.R_take (m := ((ji12) : Int).toNat) HO_6.out (by omega)
                                have hy51 : y196.length = ((ji12) : Int).toNat := (by rw [Ny196.out, List.length_take]; omega)
                                rw [← Ny196.out] at hr51
                                rw [← hy51] at hr51 hcut51
                                clear hy51 hi051 hsz51 HO_6
                                have HO198 := Aside0.mk hr51
                                clear hr51
                                replace q51 := eq_true q51
                                obtain ⟨Ao52, co52, eo52⟩ := Kd.R_slice HO_5.out
                                subst eo52
                                have p199 : 0 ≤ ((rd x6_1 (ji12)) : Int) := of_decide_eq_true (by first | (with_reducible assumption) | assumption)
                                have q199 : (rd x6_1 (ji12)) < (x5_1.length : Int) := of_decide_eq_true (by first | (with_reducible assumption) | assumption)
                                obtain ⟨ad199, e199, hx199_0⟩ := Kd.at_bool (Kd.R_reads' HO_5.out).2.2 (rd x6_1 (ji12)) p199 q199
                                (try rw [← Nbq18.out] at hx199_0)
                                cases e199
                                replace p199 := eq_true p199
                                replace q199 := eq_true q199
                                have p23 : 0 ≤ ((rd x6_1 (ji12)) : Int) := of_decide_eq_true (by first | (with_reducible assumption) | assumption)
                                have q23 : ((rd x6_1 (ji12)) : Int) < ((x5_1.length : Int) : Int) := of_decide_eq_true (by first | (with_reducible assumption) | assumption)
                                obtain ⟨go23, co23, eo23, gb23, gl23, cl23, HG23⟩ := Kd.R_form HO_5.out (by omega)
                                (first | cases eo23 | (injection eo23 with ea_ en_ ec_; (first | subst ea_ | (injection ea_ with ea_; subst ea_)); subst ec_; clear en_))
                                have GB23 := Aside0.mk gb23
                                have GG23 := Aside0.mk HG23
                                clear gb23 gl23 HG23
                                (first | simp only [add_plain] at hx199_0 | skip)
                                obtain ⟨hx23_0, hf23_0⟩ := Kd.R_celln false HO_5.out ((rd x6_1 (ji12)) : Int) p23 q23
                                replace p23 := eq_true p23
                                replace q23 := eq_true q23
                                have HP53 := Kd.R_putg HO_5.out ((rd x6_1 (ji12)) : Int) true
                                go_wp2_with (first | ((with_reducible refine gate_store (t := 4) (p := 41) rfl ?_); refine store_event (t := 4) (p := 41) (v := ?vo_w54) (w1 := (wr.setCell ⟨go23, ((rd x6_1 (ji12)) : Int).toNat, none⟩ (.bool true))) ?hg ?ho ?hn ?hr ?_; (case ho => rfl); (case hg => rfl); (case hn => rfl); (case hr => first | (go_simp; done) | (go_simp; rfl)); intro w54 hw; have hg : wr.grownBy w54 (some go23) := (by rw [hw]; exact HP53.2); have hp_ : Kd.R Kd.bool 4 w54 w.heap.size (fun _ => True) (.slice (some ⟨go23, 0, none⟩) x5_1.length co52) y200 := (by rw [hw, Ny200.out]; exact HP53.1); clear HP53; have n0_ := Aside0.mk (hp_); have n1_ := Aside0.mk (Kd.R_over' (v := (.slice (some ⟨go23, 0, none⟩) x5_1.length co52)) (by (with_reducible repeat (first | apply Kd.R_alloc | apply Kd.R_drewN | apply Kd.R_drew)); exact HO198.out) (Kd.R_typed HO_5.out) (by decide) hg); have n2_ := Aside0.mk ((by rw [hw]; exact below_set (HB.out) GB23.out : Below w.heap.size w w54)); clear HO_5; clear HO198; clear HB; have HO_5 := n0_; have HO198 := n1_; have HB := n2_; clear n0_ n1_ n2_; clear hg hw hp_; have p201 : 0 ≤ ((rd x6_1 (ji12)) : Int) := of_decide_eq_true (by first | (with_reducible assumption) | assumption); have q201 : (rd x6_1 (ji12)) < (l0.length : Int) := of_decide_eq_true (by first | (with_reducible assumption) | assumption); obtain ⟨ad201, e201, hx201_0, hx201_1, hx201_2, hx201_3, hx201_4, hx201_5, hx201_6⟩ := at_T32 HR0.out (rd x6_1 (ji12)) p201 q201; cases e201; replace hx201_0 := (HB.out.cell (World.block_lt_of_cell? w _ hx201_0)).trans hx201_0; replace hx201_1 := (HB.out.cell (World.block_lt_of_cell? w _ hx201_1)).trans hx201_1; replace hx201_2 := (HB.out.cell (World.block_lt_of_cell? w _ hx201_2)).trans hx201_2; replace hx201_3 := (HB.out.cell (World.block_lt_of_cell? w _ hx201_3)).trans hx201_3; replace hx201_4 := (HB.out.cell (World.block_lt_of_cell? w _ hx201_4)).trans hx201_4; replace hx201_5 := (HB.out.cell (World.block_lt_of_cell? w _ hx201_5)).trans hx201_5; replace hx201_6 := (HB.out.cell (World.block_lt_of_cell? w _ hx201_6)).trans hx201_6; replace p201 := eq_true p201; replace q201 := eq_true q201) | ((with_reducible refine gate_callee (f := 11) rfl ?_); refine goesL_ (some 47) rfl rfl Tryd.func11 (by kernel_rfl) rfl #[.agg #[.int .i64 ((rd_T32 l0 (rd x6_1 (ji12))).f0), .int .i64 ((rd_T32 l0 (rd x6_1 (ji12))).f1), .int .i64 ((rd_T32 l0 (rd x6_1 (ji12))).f2), .int .i64 ((rd_T32 l0 (rd x6_1 (ji12))).f3), .int .i64 ((rd_T32 l0 (rd x6_1 (ji12))).f4.f0), .int .i64 ((rd_T32 l0 (rd x6_1 (ji12))).f4.f1), .string ((rd_T32 l0 (rd x6_1 (ji12))).f4.f2)]] rfl (by (try simp only [List.map_toArray, List.map_cons, List.map_nil]); first | done | (simp only [hji12]; rfl) | rfl | (simp only [List.length_drop, List.length_take]; rfl) | (simp (disch := omega) only [u64_in]; rfl)) ?_; (with_reducible refine (check_Target.calls ((rd_T32 l0 (rd x6_1 (ji12))).f0) ((rd_T32 l0 (rd x6_1 (ji12))).f1) ((rd_T32 l0 (rd x6_1 (ji12))).f2) ((rd_T32 l0 (rd x6_1 (ji12))).f3) ((rd_T32 l0 (rd x6_1 (ji12))).f4.f0) ((rd_T32 l0 (rd x6_1 (ji12))).f4.f1) ((rd_T32 l0 (rd x6_1 (ji12))).f4.f2) t202 false _ A25.out).mono ?_); rintro e w55 ⟨rfl, hb⟩; refine ⟨_, rfl, ?_⟩; have n0_ := Aside0.mk (Kd.R_below (by (with_reducible repeat (first | apply Kd.R_alloc | apply Kd.R_drewN | apply Kd.R_drew)); exact HO_5.out) hb); have n1_ := Aside0.mk (Kd.R_below (by (with_reducible repeat (first | apply Kd.R_alloc | apply Kd.R_drewN | apply Kd.R_drew)); exact HO198.out) hb); have n2_ := Aside0.mk (below_step (by repeat (first | (with_reducible first | exact HB.out | apply below_alloc | apply pw_below_drewN | apply below_drew1) | exact HB.out)) hb); clear HO_5; clear HO198; clear HB; have HO_5 := n0_; have HO198 := n1_; have HB := n2_; clear n0_ n1_ n2_; (try clear hb); (try clear hb2); (try clear hk); (try clear hi); have p212 : 0 ≤ ((rd x6_1 (ji12)) : Int) := of_decide_eq_true (by first | (with_reducible assumption) | assumption); have q212 : (rd x6_1 (ji12)) < (l0.length : Int) := of_decide_eq_true (by first | (with_reducible assumption) | assumption); obtain ⟨ad212, e212, hx212_0, hx212_1, hx212_2, hx212_3, hx212_4, hx212_5, hx212_6⟩ := at_T32 HR0.out (rd x6_1 (ji12)) p212 q212; obtain rfl : ad201 = ad212 := (by injection e212); replace hx212_0 := (HB.out.cell (World.block_lt_of_cell? w _ hx212_0)).trans hx212_0; replace hx212_1 := (HB.out.cell (World.block_lt_of_cell? w _ hx212_1)).trans hx212_1; replace hx212_2 := (HB.out.cell (World.block_lt_of_cell? w _ hx212_2)).trans hx212_2; replace hx212_3 := (HB.out.cell (World.block_lt_of_cell? w _ hx212_3)).trans hx212_3; replace hx212_4 := (HB.out.cell (World.block_lt_of_cell? w _ hx212_4)).trans hx212_4; replace hx212_5 := (HB.out.cell (World.block_lt_of_cell? w _ hx212_5)).trans hx212_5; replace hx212_6 := (HB.out.cell (World.block_lt_of_cell? w _ hx212_6)).trans hx212_6; replace p212 := eq_true p212; replace q212 := eq_true q212) | ((with_reducible refine gate_callee (f := 24) rfl ?_); refine goesL_ (some 59) rfl rfl Tryd.func24 (by kernel_rfl) rfl #[.agg #[.int .i64 ((rd_T32 l0 (rd x6_1 (ji12))).f0), .int .i64 ((rd_T32 l0 (rd x6_1 (ji12))).f1), .int .i64 ((rd_T32 l0 (rd x6_1 (ji12))).f2), .int .i64 ((rd_T32 l0 (rd x6_1 (ji12))).f3), .int .i64 ((rd_T32 l0 (rd x6_1 (ji12))).f4.f0), .int .i64 ((rd_T32 l0 (rd x6_1 (ji12))).f4.f1), .string ((rd_T32 l0 (rd x6_1 (ji12))).f4.f2)]] rfl (by (try simp only [List.map_toArray, List.map_cons, List.map_nil]); first | done | (simp only [hji12]; rfl) | rfl | (simp only [List.length_drop, List.length_take]; rfl) | (simp (disch := omega) only [u64_in]; rfl)) ?_; (with_reducible refine (check_ends.calls ((rd_T32 l0 (rd x6_1 (ji12))).f0) ((rd_T32 l0 (rd x6_1 (ji12))).f1) ((rd_T32 l0 (rd x6_1 (ji12))).f2) ((rd_T32 l0 (rd x6_1 (ji12))).f3) ((rd_T32 l0 (rd x6_1 (ji12))).f4.f0) ((rd_T32 l0 (rd x6_1 (ji12))).f4.f1) ((rd_T32 l0 (rd x6_1 (ji12))).f4.f2) true _ A48.out).mono ?_); rintro e w56 ⟨rfl, hb⟩; refine ⟨_, rfl, ?_⟩; have n0_ := Aside0.mk (Kd.R_below (by (with_reducible repeat (first | apply Kd.R_alloc | apply Kd.R_drewN | apply Kd.R_drew)); exact HO_5.out) hb); have n1_ := Aside0.mk (Kd.R_below (by (with_reducible repeat (first | apply Kd.R_alloc | apply Kd.R_drewN | apply Kd.R_drew)); exact HO198.out) hb); have n2_ := Aside0.mk (below_step (by repeat (first | (with_reducible first | exact HB.out | apply below_alloc | apply pw_below_drewN | apply below_drew1) | exact HB.out)) hb); clear HO_5; clear HO198; clear HB; have HO_5 := n0_; have HO198 := n1_; have HB := n2_; clear n0_ n1_ n2_; (try clear hb); (try clear hb2); (try clear hk); (try clear hi)))
                                go_roundg k1
                                case measure => have := HK1.out; omega
                                case rel => exact ⟨(y200), (y196), H', ⟨by have := HK1.out; omega⟩, ⟨by (with_reducible repeat (first | apply Kd.R_alloc | apply Kd.R_drewN | apply Kd.R_drew)); exact HO_5.out⟩, ⟨by (with_reducible repeat (first | apply Kd.R_alloc | apply Kd.R_drewN | apply Kd.R_drew)); exact HO198.out⟩, ⟨by repeat (first | (with_reducible first | exact HB.out | apply below_alloc | apply pw_below_drewN | apply below_drew1) | exact HB.out)⟩⟩
                              · replace c49 := Bool.eq_false_iff.mpr c49
                                subst c49
                                have H1 : (if y196.length < 17592186044416 then (check_Reached.l0 k1 l0 y200 (y196 ++ [wrap64 ((rd x6_1 (ji12)) + 1)])) else (none)) = some r := by rw [if_neg (show ¬ (false = true) by decide)] at H; exact H
                                clear H
                                have H := H1
                                clear H1
                                by_cases c57 : y196.length < 17592186044416
                                · rw [if_pos c57] at H
                                  have LMc57 := Aside0.mk c57
                                  clear c57
                                  obtain ⟨y214, hy214⟩ : ∃ y_ : List Int, y_ = (y196 ++ [wrap64 ((rd x6_1 (ji12)) + 1)]) := ⟨_, rfl⟩
                                  replace H : (check_Reached.l0 k1 l0 y200 y214) = some r := by first | (rw [hy214]; with_reducible exact H) | (have H2_ := (Option.bind_some _ _).symm.trans H; rw [hy214]; with_reducible exact H2_) | (have H2_ := (Option.bind_some _ _).symm.trans H; with_reducible exact H2_) | with_reducible exact H | (rw [hy214]; exact H) | exact H
                                  have Ny214 := Aside0.mk hy214
                                  clear hy214
                                  have H' := Aside0.mk H
                                  clear H
                                  obtain ⟨Ao58, co58, eo58⟩ := Kd.R_slice HO_6.out
                                  subst eo58
                                  have p195 : 0 ≤ ((ji12) : Int) := of_decide_eq_true (by first | (with_reducible assumption) | assumption)
                                  have q195 : (ji12) < (x6_1.length : Int) := of_decide_eq_true (by first | (with_reducible assumption) | assumption)
                                  obtain ⟨ad195, e195, hx195_0⟩ := Kd.at_int (Kd.R_reads' HO_6.out).2.2 (ji12) p195 q195
                                  cases e195
                                  replace p195 := eq_true p195
                                  replace q195 := eq_true q195
                                  have q59 : ((ji12) : Int) ≤ ((x6_1.length : Int) : Int) := of_decide_eq_true (by first | (with_reducible assumption) | assumption)
                                  obtain ⟨i059, hi059, _, hsz59, _⟩ := info_parts info3
                                  have hcut59 := cut_to (P := Tryd.prog) 36 3 .i64 Tryd.underlying36 hi059 (some ad195) x6_1.length co58 (ji12) (of_decide_eq_true (by first | (with_reducible assumption) | assumption)) q59 (Kd.R_reads' HO_6.out).2.1
                                  have hr59 := Kd.R_take (m := ((ji12) : Int).toNat) HO_6.out (by omega)
                                  have hy59 : y196.length = ((ji12) : Int).toNat := (by rw [Ny196.out, List.length_take]; omega)
                                  rw [← Ny196.out] at hr59
                                  rw [← hy59] at hr59 hcut59
                                  clear hy59 hi059 hsz59 HO_6
                                  have HO198 := Aside0.mk hr59
                                  clear hr59
                                  replace q59 := eq_true q59
                                  obtain ⟨Ao60, co60, eo60⟩ := Kd.R_slice HO_5.out
                                  subst eo60
                                  have p199 : 0 ≤ ((rd x6_1 (ji12)) : Int) := of_decide_eq_true (by first | (with_reducible assumption) | assumption)
                                  have q199 : (rd x6_1 (ji12)) < (x5_1.length : Int) := of_decide_eq_true (by first | (with_reducible assumption) | assumption)
                                  obtain ⟨ad199, e199, hx199_0⟩ := Kd.at_bool (Kd.R_reads' HO_5.out).2.2 (rd x6_1 (ji12)) p199 q199
                                  (try rw [← Nbq18.out] at hx199_0)
                                  cases e199
                                  replace p199 := eq_true p199
                                  replace q199 := eq_true q199
                                  have p23 : 0 ≤ ((rd x6_1 (ji12)) : Int) := of_decide_eq_true (by first | (with_reducible assumption) | assumption)
                                  have q23 : ((rd x6_1 (ji12)) : Int) < ((x5_1.length : Int) : Int) := of_decide_eq_true (by first | (with_reducible assumption) | assumption)
                                  obtain ⟨go23, co23, eo23, gb23, gl23, cl23, HG23⟩ := Kd.R_form HO_5.out (by omega)
                                  (first | cases eo23 | (injection eo23 with ea_ en_ ec_; (first | subst ea_ | (injection ea_ with ea_; subst ea_)); subst ec_; clear en_))
                                  have GB23 := Aside0.mk gb23
                                  have GG23 := Aside0.mk HG23
                                  clear gb23 gl23 HG23
                                  (first | simp only [add_plain] at hx199_0 | skip)
                                  obtain ⟨hx23_0, hf23_0⟩ := Kd.R_celln false HO_5.out ((rd x6_1 (ji12)) : Int) p23 q23
                                  replace p23 := eq_true p23
                                  replace q23 := eq_true q23
                                  have HP61 := Kd.R_putg HO_5.out ((rd x6_1 (ji12)) : Int) true
                                  go_wp2_with (first | ((with_reducible refine gate_store (t := 4) (p := 41) rfl ?_); refine store_event (t := 4) (p := 41) (v := ?vo_w62) (w1 := (wr.setCell ⟨go23, ((rd x6_1 (ji12)) : Int).toNat, none⟩ (.bool true))) ?hg ?ho ?hn ?hr ?_; (case ho => rfl); (case hg => rfl); (case hn => rfl); (case hr => first | (go_simp; done) | (go_simp; rfl)); intro w62 hw; have hg : wr.grownBy w62 (some go23) := (by rw [hw]; exact HP61.2); have hp_ : Kd.R Kd.bool 4 w62 w.heap.size (fun _ => True) (.slice (some ⟨go23, 0, none⟩) x5_1.length co60) y200 := (by rw [hw, Ny200.out]; exact HP61.1); clear HP61; have n0_ := Aside0.mk (hp_); have n1_ := Aside0.mk (Kd.R_over' (v := (.slice (some ⟨go23, 0, none⟩) x5_1.length co60)) (by (with_reducible repeat (first | apply Kd.R_alloc | apply Kd.R_drewN | apply Kd.R_drew)); exact HO198.out) (Kd.R_typed HO_5.out) (by decide) hg); have n2_ := Aside0.mk ((by rw [hw]; exact below_set (HB.out) GB23.out : Below w.heap.size w w62)); clear HO_5; clear HO198; clear HB; have HO_5 := n0_; have HO198 := n1_; have HB := n2_; clear n0_ n1_ n2_; clear hg hw hp_; have p201 : 0 ≤ ((rd x6_1 (ji12)) : Int) := of_decide_eq_true (by first | (with_reducible assumption) | assumption); have q201 : (rd x6_1 (ji12)) < (l0.length : Int) := of_decide_eq_true (by first | (with_reducible assumption) | assumption); obtain ⟨ad201, e201, hx201_0, hx201_1, hx201_2, hx201_3, hx201_4, hx201_5, hx201_6⟩ := at_T32 HR0.out (rd x6_1 (ji12)) p201 q201; cases e201; replace hx201_0 := (HB.out.cell (World.block_lt_of_cell? w _ hx201_0)).trans hx201_0; replace hx201_1 := (HB.out.cell (World.block_lt_of_cell? w _ hx201_1)).trans hx201_1; replace hx201_2 := (HB.out.cell (World.block_lt_of_cell? w _ hx201_2)).trans hx201_2; replace hx201_3 := (HB.out.cell (World.block_lt_of_cell? w _ hx201_3)).trans hx201_3; replace hx201_4 := (HB.out.cell (World.block_lt_of_cell? w _ hx201_4)).trans hx201_4; replace hx201_5 := (HB.out.cell (World.block_lt_of_cell? w _ hx201_5)).trans hx201_5; replace hx201_6 := (HB.out.cell (World.block_lt_of_cell? w _ hx201_6)).trans hx201_6; replace p201 := eq_true p201; replace q201 := eq_true q201) | ((with_reducible refine gate_callee (f := 11) rfl ?_); refine goesL_ (some 47) rfl rfl Tryd.func11 (by kernel_rfl) rfl #[.agg #[.int .i64 ((rd_T32 l0 (rd x6_1 (ji12))).f0), .int .i64 ((rd_T32 l0 (rd x6_1 (ji12))).f1), .int .i64 ((rd_T32 l0 (rd x6_1 (ji12))).f2), .int .i64 ((rd_T32 l0 (rd x6_1 (ji12))).f3), .int .i64 ((rd_T32 l0 (rd x6_1 (ji12))).f4.f0), .int .i64 ((rd_T32 l0 (rd x6_1 (ji12))).f4.f1), .string ((rd_T32 l0 (rd x6_1 (ji12))).f4.f2)]] rfl (by (try simp only [List.map_toArray, List.map_cons, List.map_nil]); first | done | (simp only [hji12]; rfl) | rfl | (simp only [List.length_drop, List.length_take]; rfl) | (simp (disch := omega) only [u64_in]; rfl)) ?_; (with_reducible refine (check_Target.calls ((rd_T32 l0 (rd x6_1 (ji12))).f0) ((rd_T32 l0 (rd x6_1 (ji12))).f1) ((rd_T32 l0 (rd x6_1 (ji12))).f2) ((rd_T32 l0 (rd x6_1 (ji12))).f3) ((rd_T32 l0 (rd x6_1 (ji12))).f4.f0) ((rd_T32 l0 (rd x6_1 (ji12))).f4.f1) ((rd_T32 l0 (rd x6_1 (ji12))).f4.f2) t202 false _ A25.out).mono ?_); rintro e w63 ⟨rfl, hb⟩; refine ⟨_, rfl, ?_⟩; have n0_ := Aside0.mk (Kd.R_below (by (with_reducible repeat (first | apply Kd.R_alloc | apply Kd.R_drewN | apply Kd.R_drew)); exact HO_5.out) hb); have n1_ := Aside0.mk (Kd.R_below (by (with_reducible repeat (first | apply Kd.R_alloc | apply Kd.R_drewN | apply Kd.R_drew)); exact HO198.out) hb); have n2_ := Aside0.mk (below_step (by repeat (first | (with_reducible first | exact HB.out | apply below_alloc | apply pw_below_drewN | apply below_drew1) | exact HB.out)) hb); clear HO_5; clear HO198; clear HB; have HO_5 := n0_; have HO198 := n1_; have HB := n2_; clear n0_ n1_ n2_; (try clear hb); (try clear hb2); (try clear hk); (try clear hi); have p212 : 0 ≤ ((rd x6_1 (ji12)) : Int) := of_decide_eq_true (by first | (with_reducible assumption) | assumption); have q212 : (rd x6_1 (ji12)) < (l0.length : Int) := of_decide_eq_true (by first | (with_reducible assumption) | assumption); obtain ⟨ad212, e212, hx212_0, hx212_1, hx212_2, hx212_3, hx212_4, hx212_5, hx212_6⟩ := at_T32 HR0.out (rd x6_1 (ji12)) p212 q212; obtain rfl : ad201 = ad212 := (by injection e212); replace hx212_0 := (HB.out.cell (World.block_lt_of_cell? w _ hx212_0)).trans hx212_0; replace hx212_1 := (HB.out.cell (World.block_lt_of_cell? w _ hx212_1)).trans hx212_1; replace hx212_2 := (HB.out.cell (World.block_lt_of_cell? w _ hx212_2)).trans hx212_2; replace hx212_3 := (HB.out.cell (World.block_lt_of_cell? w _ hx212_3)).trans hx212_3; replace hx212_4 := (HB.out.cell (World.block_lt_of_cell? w _ hx212_4)).trans hx212_4; replace hx212_5 := (HB.out.cell (World.block_lt_of_cell? w _ hx212_5)).trans hx212_5; replace hx212_6 := (HB.out.cell (World.block_lt_of_cell? w _ hx212_6)).trans hx212_6; replace p212 := eq_true p212; replace q212 := eq_true q212) | ((with_reducible refine gate_callee (f := 24) rfl ?_); refine goesL_ (some 59) rfl rfl Tryd.func24 (by kernel_rfl) rfl #[.agg #[.int .i64 ((rd_T32 l0 (rd x6_1 (ji12))).f0), .int .i64 ((rd_T32 l0 (rd x6_1 (ji12))).f1), .int .i64 ((rd_T32 l0 (rd x6_1 (ji12))).f2), .int .i64 ((rd_T32 l0 (rd x6_1 (ji12))).f3), .int .i64 ((rd_T32 l0 (rd x6_1 (ji12))).f4.f0), .int .i64 ((rd_T32 l0 (rd x6_1 (ji12))).f4.f1), .string ((rd_T32 l0 (rd x6_1 (ji12))).f4.f2)]] rfl (by (try simp only [List.map_toArray, List.map_cons, List.map_nil]); first | done | (simp only [hji12]; rfl) | rfl | (simp only [List.length_drop, List.length_take]; rfl) | (simp (disch := omega) only [u64_in]; rfl)) ?_; (with_reducible refine (check_ends.calls ((rd_T32 l0 (rd x6_1 (ji12))).f0) ((rd_T32 l0 (rd x6_1 (ji12))).f1) ((rd_T32 l0 (rd x6_1 (ji12))).f2) ((rd_T32 l0 (rd x6_1 (ji12))).f3) ((rd_T32 l0 (rd x6_1 (ji12))).f4.f0) ((rd_T32 l0 (rd x6_1 (ji12))).f4.f1) ((rd_T32 l0 (rd x6_1 (ji12))).f4.f2) false _ A48.out).mono ?_); rintro e w64 ⟨rfl, hb⟩; refine ⟨_, rfl, ?_⟩; have n0_ := Aside0.mk (Kd.R_below (by (with_reducible repeat (first | apply Kd.R_alloc | apply Kd.R_drewN | apply Kd.R_drew)); exact HO_5.out) hb); have n1_ := Aside0.mk (Kd.R_below (by (with_reducible repeat (first | apply Kd.R_alloc | apply Kd.R_drewN | apply Kd.R_drew)); exact HO198.out) hb); have n2_ := Aside0.mk (below_step (by repeat (first | (with_reducible first | exact HB.out | apply below_alloc | apply pw_below_drewN | apply below_drew1) | exact HB.out)) hb); clear HO_5; clear HO198; clear HB; have HO_5 := n0_; have HO198 := n1_; have HB := n2_; clear n0_ n1_ n2_; (try clear hb); (try clear hb2); (try clear hk); (try clear hi)) | ((with_reducible refine gate_builtin (b := .append) (xs := #[.tmp 61, .tmp 64]) rfl ?_); at_builtin; refine Kd.R_append (Kd.int .i64) (w0 := w) w.heap.size rfl (.tmp 61) (.tmp 64) 36 3 (.int .i64 0) 8 rfl Tryd.underlying36 info3 rfl (by decide) (by omega) (.slice (some ad195) y196.length co58) y196 (wrap64 ((rd x6_1 (ji12)) + 1)) [.int .i64 (wrap64 ((rd x6_1 (ji12)) + 1))] (fun _ => True) (fun _ => False) rfl rfl ?aP (fun _ hk => hk.elim) ?aF ?aO ?aB ?aS ?aL ?_; (case aP => exact rfl); (case aB => exact (by repeat (first | (with_reducible first | exact HB.out | apply below_alloc | apply pw_below_drewN | apply below_drew1) | exact HB.out))); (case aF => exact (fun _ _ => trivial)); (case aO => exact (by (with_reducible repeat (first | apply Kd.R_alloc | apply Kd.R_drewN | apply Kd.R_drew)); exact HO198.out)); (case aS => exact (below_size (by repeat (first | (with_reducible first | exact HB.out | apply below_alloc | apply pw_below_drewN | apply below_drew1) | exact HB.out)))); (case aL => have := LMc57.out; omega); intro v215 w65 ho hb hg hat; rw [← Ny214.out] at ho; have n0_ := Aside0.mk (Kd.R_over' (by (with_reducible repeat (first | apply Kd.R_alloc | apply Kd.R_drewN | apply Kd.R_drew)); exact HO_5.out) (Kd.R_typed (by (with_reducible repeat (first | apply Kd.R_alloc | apply Kd.R_drewN | apply Kd.R_drew)); exact HO198.out)) (by decide) hg); have n1_ := Aside0.mk (hb); have n2_ := Aside0.mk (ho); clear HO_5; clear HB; clear HO198; have HO_5 := n0_; have HB := n1_; have HO216 := n2_; clear n0_ n1_ n2_; clear ho hb hg hat))
                                  go_roundg k1
                                  case measure => have := HK1.out; omega
                                  case rel => exact ⟨(y200), (y214), H', ⟨by have := HK1.out; omega⟩, ⟨by (with_reducible repeat (first | apply Kd.R_alloc | apply Kd.R_drewN | apply Kd.R_drew)); exact HO_5.out⟩, ⟨by (with_reducible repeat (first | apply Kd.R_alloc | apply Kd.R_drewN | apply Kd.R_drew)); exact HO216.out⟩, ⟨by repeat (first | (with_reducible first | exact HB.out | apply below_alloc | apply pw_below_drewN | apply below_drew1) | exact HB.out)⟩⟩
                                · rw [if_neg c57] at H
                                  exact absurd H (by simp)
                          · rw [if_neg c24] at H
                            exact absurd H (by simp)
                      · rw [if_neg c17] at H
                        exact absurd H (by simp)
                    · rw [if_neg c16] at H
                      exact absurd H (by simp)
                  · rw [if_neg c15] at H
                    exact absurd H (by simp)
                · rw [if_neg c14] at H
                  exact absurd H (by simp)
              · rw [if_neg c13] at H
                exact absurd H (by simp)
            · rw [if_neg c11] at H
              have c11b0 : decide (0 < (x6_1.length : Int)) = false := decide_eq_false c11
              have c11b1 : decide (0 < x6_1.length) = false := decide_eq_false (by omega)
              clear c11
              obtain rfl := Option.some.inj H
              obtain ⟨Ao66, co66, eo66⟩ := Kd.R_slice HO_6.out
              subst eo66
              go_wp2
              go_ret
              exact ⟨_, by first | (with_reducible rfl) | (simp only [isEmpty_bne, Bool.not_not] <;> with_reducible rfl) | (simp [errW_none, errW_some] <;> with_reducible rfl) | (simp only [isEmpty_bne, Bool.not_not] <;> rfl) | rfl | (simp [errW_none, errW_some] <;> rfl) | (simp [*, errW_none, errW_some] <;> rfl), by (with_reducible repeat (first | apply Kd.R_alloc | apply Kd.R_drewN | apply Kd.R_drew)); exact HO_5.out, by repeat (first | (with_reducible first | exact HB.out | apply below_alloc | apply pw_below_drewN | apply below_drew1) | exact HB.out)⟩
      · rw [if_neg c5] at H
        exact absurd H (by simp)
    · rw [if_neg c4] at H
      exact absurd H (by simp)
  · rw [if_neg c3] at H
    have c3b0 : (t187 == 0) = false := beq_eq_false_iff_ne.mpr c3
    have c3b1 : (t187 != 0) = true := bne_iff_ne.mpr c3
    obtain rfl := Option.some.inj H
    go_enter Tryd.func16, Tryd.ntmps16
    go_wp2_with (first | ((with_reducible refine gate_callee (f := 9) rfl ?_); refine goesL_ (some 12) rfl rfl Tryd.func9 (by kernel_rfl) rfl #[.slice A0 l0.length c0] rfl (by (try simp only [List.map_toArray, List.map_cons, List.map_nil]); first | done | rfl | (simp only [List.length_drop, List.length_take]; rfl) | (simp (disch := omega) only [u64_in]; rfl)) ?_; (with_reducible refine (check_Check.calls k _ _ l0 t187 t188 _ ?side1 ?side2 A2.out).mono ?_); (case side1 => repeat (first | exact HR0.out | (with_reducible refine Kd.C_alloc ?_ _) | (with_reducible refine Kd.C_drewN ?_ _) | (with_reducible refine Kd.C_drew ?_))); (case side2 => exact HC0.out); rintro e w67 ⟨rfl, hb⟩; refine ⟨_, rfl, ?_⟩; have n0_ := Aside0.mk (below_step (by repeat (first | (with_reducible first | exact HB.out | apply below_alloc | apply pw_below_drewN | apply below_drew1) | exact HB.out)) hb); clear HB; have HB := n0_; clear n0_; (try clear hb); (try clear hb2); (try clear hk); (try clear hi)))
    go_ret
    exact ⟨_, by first | (with_reducible rfl) | (simp only [isEmpty_bne, Bool.not_not] <;> with_reducible rfl) | (simp [errW_none, errW_some] <;> with_reducible rfl) | (simp only [isEmpty_bne, Bool.not_not] <;> rfl) | rfl | (simp [errW_none, errW_some] <;> rfl) | (simp [*, errW_none, errW_some] <;> rfl), by first | exact Kd.R_nil _ _ _ _ _ | exact Kd.N_nil _ _ _ _ _ | exact Kd.V_nil _ _ _ _ _ | exact Kd.Q_nil _ _ _ _ _ | exact Kd.S_nil _ _ _ _ _, by repeat (first | (with_reducible first | exact HB.out | apply below_alloc | apply pw_below_drewN | apply below_drew1) | exact HB.out)⟩

end Go.Proofs.YtbdmfpgiolaooaaDoor.PAll
