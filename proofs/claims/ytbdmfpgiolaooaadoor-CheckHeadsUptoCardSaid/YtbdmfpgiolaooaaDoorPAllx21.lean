/- Printed walks of the functions that the laws reach: each function, what it computes, and that it does. No conditions. -/
import Derived.Test.YtbdmfpgiolaooaaDoorPAllx0
import Derived.Test.YtbdmfpgiolaooaaDoorPAllx14
import Derived.Test.YtbdmfpgiolaooaaDoorPAllx19
import Derived.Test.YtbdmfpgiolaooaaDoorPAllx20
namespace Go.Proofs.YtbdmfpgiolaooaaDoor.PAll
open Go.RowKit Go.Proofs.YtbdmfpgiolaooaaDoor.XW Go.Proofs.YtbdmfpgiolaooaaDoor.XLib Go.Proofs.YtbdmfpgiolaooaaDoorW.PrintWords Go.Proofs.YtbdmfpgiolaooaaDoorW.PrintLast Go.Proofs.YtbdmfpgiolaooaaDoorW.PrintMore
attribute [local go_sem] max2_int min2_int max_two min_two max_three min_three max_four min_four   -- for this text's walks alone
set_option linter.unusedVariables false
set_option linter.unusedSimpArgs false

/-! ### factotumlaw15_lives: function 8 -/
def factotumlaw15_lives.f (k : Nat)  : Option (Bool) := (some (([(⟨1, 0, 0, 0, (⟨1, 1, (⟨#[]⟩ : ByteArray)⟩ : S30)⟩ : S32), (⟨18, 0, 0, 0, (⟨0, 0, (⟨#[]⟩ : ByteArray)⟩ : S30)⟩ : S32)] : List (S32)) : List (S32))).bind fun y217 => ((check_Check.f k y217).bind fun bt220 => (if 1 ≤ (y217.length : Int) then ((check_Check.f k (y217.take 1)).bind fun bt226 => (if bt220.1 = 0 then (if bt226.1 = 13 then (if bt226.2 = 0 then ((check_Reached.f k y217).bind fun t228 => (if (t228.length : Int) = 2 then (if 1 < (y217.length : Int) then ((check_Registers.f ((rd_T32 y217 1).f0) ((rd_T32 y217 1).f1) ((rd_T32 y217 1).f2) ((rd_T32 y217 1).f3) ((rd_T32 y217 1).f4.f0) ((rd_T32 y217 1).f4.f1) ((rd_T32 y217 1).f4.f2)).bind fun t232 => (some ((t232.length : Int) == 1))) else (none)) else (none))) else (none)) else (none)) else (none))) else (none)))
theorem factotumlaw15_lives.mono : ∀ k, LeO (factotumlaw15_lives.f k ) (factotumlaw15_lives.f (k + 1) ) := by
  intro  k
  unfold factotumlaw15_lives.f
  repeat' first
      | (with_reducible exact check_Check.mono _ _)
      | (with_reducible exact check_Reached.mono _ _)
      | (with_reducible exact LeO.refl _)
      | (with_reducible exact LeO.none _)
      | (with_reducible refine LeO.ite ?_ ?_)
      | (with_reducible refine LeO.bind ?_ (fun _ => ?_))
      | exact check_Check.mono _ _
      | exact check_Reached.mono _ _
      | exact LeO.none _
      | refine LeO.ite ?_ ?_
      | refine LeO.bind ?_ (fun _ => ?_)
set_option maxHeartbeats 8000000 in
set_option maxRecDepth 100000 in
theorem factotumlaw15_lives.calls (k : Nat)  (r : Bool) (w : World) (h : factotumlaw15_lives.f k  = some r) :
    Calls Tryd.prog 8 #[] w fun e w' => e = .returned (.bool r) ∧ Below w.heap.size w w' := by
  have hu30 := Tryd.underlying30
  have hu32 := Tryd.underlying32
  have HB := Aside0.mk (Below.refl w.heap.size w)
  have H : ((some (([(⟨1, 0, 0, 0, (⟨1, 1, (⟨#[]⟩ : ByteArray)⟩ : S30)⟩ : S32), (⟨18, 0, 0, 0, (⟨0, 0, (⟨#[]⟩ : ByteArray)⟩ : S30)⟩ : S32)] : List (S32)) : List (S32))).bind fun y217 => ((check_Check.f k y217).bind fun bt220 => (if 1 ≤ (y217.length : Int) then ((check_Check.f k (y217.take 1)).bind fun bt226 => (if bt220.1 = 0 then (if bt226.1 = 13 then (if bt226.2 = 0 then ((check_Reached.f k y217).bind fun t228 => (if (t228.length : Int) = 2 then (if 1 < (y217.length : Int) then ((check_Registers.f ((rd_T32 y217 1).f0) ((rd_T32 y217 1).f1) ((rd_T32 y217 1).f2) ((rd_T32 y217 1).f3) ((rd_T32 y217 1).f4.f0) ((rd_T32 y217 1).f4.f1) ((rd_T32 y217 1).f4.f2)).bind fun t232 => (some ((t232.length : Int) == 1))) else (none)) else (none))) else (none)) else (none)) else (none))) else (none)))) = some r := h
  clear h
  obtain ⟨y217, hy217⟩ : ∃ y_ : List (S32), y_ = (([(⟨1, 0, 0, 0, (⟨1, 1, (⟨#[]⟩ : ByteArray)⟩ : S30)⟩ : S32), (⟨18, 0, 0, 0, (⟨0, 0, (⟨#[]⟩ : ByteArray)⟩ : S30)⟩ : S32)] : List (S32))) := ⟨_, rfl⟩
  replace H : ((check_Check.f k y217).bind fun bt220 => (if 1 ≤ (y217.length : Int) then ((check_Check.f k (y217.take 1)).bind fun bt226 => (if bt220.1 = 0 then (if bt226.1 = 13 then (if bt226.2 = 0 then ((check_Reached.f k y217).bind fun t228 => (if (t228.length : Int) = 2 then (if 1 < (y217.length : Int) then ((check_Registers.f ((rd_T32 y217 1).f0) ((rd_T32 y217 1).f1) ((rd_T32 y217 1).f2) ((rd_T32 y217 1).f3) ((rd_T32 y217 1).f4.f0) ((rd_T32 y217 1).f4.f1) ((rd_T32 y217 1).f4.f2)).bind fun t232 => (some ((t232.length : Int) == 1))) else (none)) else (none))) else (none)) else (none)) else (none))) else (none))) = some r := by first | (rw [hy217]; with_reducible exact H) | (have H2_ := (Option.bind_some _ _).symm.trans H; rw [hy217]; with_reducible exact H2_) | (have H2_ := (Option.bind_some _ _).symm.trans H; with_reducible exact H2_) | with_reducible exact H | (rw [hy217]; exact H) | exact H
  have Ny217 := Aside0.mk hy217
  clear hy217
  replace H := Option.bind_eq_some_iff.mp H
  obtain ⟨⟨t220, t221⟩, A10, H⟩ := H
  replace H : (if 1 ≤ (y217.length : Int) then ((check_Check.f k (y217.take 1)).bind fun bt226 => (if t220 = 0 then (if bt226.1 = 13 then (if bt226.2 = 0 then ((check_Reached.f k y217).bind fun t228 => (if (t228.length : Int) = 2 then (if 1 < (y217.length : Int) then ((check_Registers.f ((rd_T32 y217 1).f0) ((rd_T32 y217 1).f1) ((rd_T32 y217 1).f2) ((rd_T32 y217 1).f3) ((rd_T32 y217 1).f4.f0) ((rd_T32 y217 1).f4.f1) ((rd_T32 y217 1).f4.f2)).bind fun t232 => (some ((t232.length : Int) == 1))) else (none)) else (none))) else (none)) else (none)) else (none))) else (none)) = some r := H
  have A1 := Aside0.mk A10
  clear A10
  by_cases c2 : 1 ≤ (y217.length : Int)
  · rw [if_pos c2] at H
    have c2b0 := eq_true c2
    have c2b1 : decide (1 ≤ (y217.length : Int)) = true := decide_eq_true c2
    clear c2
    obtain ⟨y222, hy222⟩ : ∃ y_ : List (S32), y_ = (y217.take 1) := ⟨_, rfl⟩
    replace H : ((check_Check.f k y222).bind fun bt226 => (if t220 = 0 then (if bt226.1 = 13 then (if bt226.2 = 0 then ((check_Reached.f k y217).bind fun t228 => (if (t228.length : Int) = 2 then (if 1 < (y217.length : Int) then ((check_Registers.f ((rd_T32 y217 1).f0) ((rd_T32 y217 1).f1) ((rd_T32 y217 1).f2) ((rd_T32 y217 1).f3) ((rd_T32 y217 1).f4.f0) ((rd_T32 y217 1).f4.f1) ((rd_T32 y217 1).f4.f2)).bind fun t232 => (some ((t232.length : Int) == 1))) else (none)) else (none))) else (none)) else (none)) else (none))) = some r := by first | (rw [hy222]; with_reducible exact H) | (have H2_ := (Option.bind_some _ _).symm.trans H; rw [hy222]; with_reducible exact H2_) | (have H2_ := (Option.bind_some _ _).symm.trans H; with_reducible exact H2_) | with_reducible exact H | (rw [hy222]; exact H) | exact H
    have Ny222 := Aside0.mk hy222
    clear hy222
    replace H := Option.bind_eq_some_iff.mp H
    obtain ⟨⟨t226, t227⟩, A30, H⟩ := H
    replace H : (if t220 = 0 then (if t226 = 13 then (if t227 = 0 then ((check_Reached.f k y217).bind fun t228 => (if (t228.length : Int) = 2 then (if 1 < (y217.length : Int) then ((check_Registers.f ((rd_T32 y217 1).f0) ((rd_T32 y217 1).f1) ((rd_T32 y217 1).f2) ((rd_T32 y217 1).f3) ((rd_T32 y217 1).f4.f0) ((rd_T32 y217 1).f4.f1) ((rd_T32 y217 1).f4.f2)).bind fun t232 => (some ((t232.length : Int) == 1))) else (none)) else (none))) else (none)) else (none)) else (none)) = some r := H
    have A3 := Aside0.mk A30
    clear A30
    by_cases c4 : t220 = 0
    · rw [if_pos c4] at H
      have c4b0 : (t220 == 0) = true := beq_iff_eq.mpr c4
      have c4b1 : (t220 != 0) = false := bne_eq_false_iff_eq.mpr c4
      clear c4
      by_cases c5 : t226 = 13
      · rw [if_pos c5] at H
        have c5b0 : (t226 == 13) = true := beq_iff_eq.mpr c5
        have c5b1 : (t226 != 13) = false := bne_eq_false_iff_eq.mpr c5
        clear c5
        by_cases c6 : t227 = 0
        · rw [if_pos c6] at H
          have c6b0 : (t227 == 0) = true := beq_iff_eq.mpr c6
          have c6b1 : (t227 != 0) = false := bne_eq_false_iff_eq.mpr c6
          clear c6
          replace H := Option.bind_eq_some_iff.mp H
          obtain ⟨t228, A70, H⟩ := H
          replace H : (if (t228.length : Int) = 2 then (if 1 < (y217.length : Int) then ((check_Registers.f ((rd_T32 y217 1).f0) ((rd_T32 y217 1).f1) ((rd_T32 y217 1).f2) ((rd_T32 y217 1).f3) ((rd_T32 y217 1).f4.f0) ((rd_T32 y217 1).f4.f1) ((rd_T32 y217 1).f4.f2)).bind fun t232 => (some ((t232.length : Int) == 1))) else (none)) else (none)) = some r := H
          have A7 := Aside0.mk A70
          clear A70
          by_cases c8 : (t228.length : Int) = 2
          · rw [if_pos c8] at H
            have c8b0 : ((t228.length : Int) == 2) = true := beq_iff_eq.mpr c8
            have c8b1 : ((t228.length : Int) != 2) = false := bne_eq_false_iff_eq.mpr c8
            clear c8
            by_cases c9 : 1 < (y217.length : Int)
            · rw [if_pos c9] at H
              have c9b0 : decide (1 < (y217.length : Int)) = true := decide_eq_true c9
              have c9b1 : decide (1 < y217.length) = true := decide_eq_true (by omega)
              clear c9
              replace H := Option.bind_eq_some_iff.mp H
              obtain ⟨t232, A100, H⟩ := H
              replace H : (some ((t232.length : Int) == 1)) = some r := H
              have A10 := Aside0.mk A100
              clear A100
              obtain rfl := Option.some.inj H
              go_enter Tryd.func8, Tryd.ntmps8
              go_wp2_with (first | ((with_reducible refine gate_dst (N := 9) rfl ?_); (try (refine gate_guard (by rfl) ?_; dsimp only)); refine Kd.R_lit k32 _ 32 ?hg (N := 9) ?hd (xs := ([(⟨1, 0, 0, 0, (⟨1, 1, (⟨#[]⟩ : ByteArray)⟩ : S30)⟩ : S32), (⟨18, 0, 0, 0, (⟨0, 0, (⟨#[]⟩ : ByteArray)⟩ : S30)⟩ : S32)] : List (S32))) (inner := [.int .i64 1, .int .i64 0, .int .i64 0, .int .i64 0, .int .i64 1, .int .i64 1, .string (⟨#[]⟩ : ByteArray), .int .i64 18, .int .i64 0, .int .i64 0, .int .i64 0, .int .i64 0, .int .i64 0, .string (⟨#[]⟩ : ByteArray)]) (ok := fun _ => True) (okp := fun _ => True) ?hr ?hp (fun _ hk => hk) trivial (Below.refl _ _) (Nat.le_refl _) (by simp) ?_; (case hd => rfl); (case hg => rfl); (case hr => first | (go_simp; done) | (go_simp; rfl)); (case hp => exact (Reps.c7 (show Kd.M k32 _ _ _ (⟨1, 0, 0, 0, (⟨1, 1, (⟨#[]⟩ : ByteArray)⟩ : S30)⟩ : S32) [.int .i64 1, .int .i64 0, .int .i64 0, .int .i64 0, .int .i64 1, .int .i64 1, .string (⟨#[]⟩ : ByteArray)] from (k32_mkM _ _ _ (⟨1, 0, 0, 0, (⟨1, 1, (⟨#[]⟩ : ByteArray)⟩ : S30)⟩ : S32) )) (Reps.c7 (show Kd.M k32 _ _ _ (⟨18, 0, 0, 0, (⟨0, 0, (⟨#[]⟩ : ByteArray)⟩ : S30)⟩ : S32) [.int .i64 18, .int .i64 0, .int .i64 0, .int .i64 0, .int .i64 0, .int .i64 0, .string (⟨#[]⟩ : ByteArray)] from (k32_mkM _ _ _ (⟨18, 0, 0, 0, (⟨0, 0, (⟨#[]⟩ : ByteArray)⟩ : S30)⟩ : S32) )) (Reps.none _ _)))); intro v218 w11 ho12 hb hg_ hnew_; clear hg_ hnew_; (first | rw [← Ny217.out] at ho12 | (simp only [Int.reduceToNat] at ho12; rw [← Ny217.out] at ho12)); have n0_ := Aside0.mk (Kd.R_lower ho12 (below_size (by repeat (first | (with_reducible first | exact HB.out | apply below_alloc | apply pw_below_drewN | apply below_drew1) | exact HB.out)))); have n1_ := Aside0.mk (below_step (by repeat (first | (with_reducible first | exact HB.out | apply below_alloc | apply pw_below_drewN | apply below_drew1) | exact HB.out)) hb); clear HB; have HO219 := n0_; have HB := n1_; clear n0_ n1_; clear hb ho12; obtain ⟨Ao13, co13, eo13⟩ := Kd.R_slice HO219.out; subst eo13) | ((with_reducible refine gate_callee (f := 9) rfl ?_); refine goesL_ (some 12) rfl rfl Tryd.func9 (by kernel_rfl) rfl #[.slice Ao13 y217.length co13] rfl (by (try simp only [List.map_toArray, List.map_cons, List.map_nil]); first | done | rfl | (simp only [List.length_drop, List.length_take]; rfl) | (simp (disch := omega) only [u64_in]; rfl)) ?_; (with_reducible refine (check_Check.calls k _ _ y217 t220 t221 _ ?side1 ?side2 A1.out).mono ?_); (case side1 => repeat (first | exact (Kd.R_reads' HO219.out).2.2 | (with_reducible refine Kd.C_alloc ?_ _) | (with_reducible refine Kd.C_drewN ?_ _) | (with_reducible refine Kd.C_drew ?_))); (case side2 => exact (Kd.R_reads' HO219.out).2.1); rintro e w14 ⟨rfl, hb⟩; refine ⟨_, rfl, ?_⟩; have n0_ := Aside0.mk (Kd.R_below (by (with_reducible repeat (first | apply Kd.R_alloc | apply Kd.R_drewN | apply Kd.R_drew)); exact HO219.out) hb); have n1_ := Aside0.mk (below_step (by repeat (first | (with_reducible first | exact HB.out | apply below_alloc | apply pw_below_drewN | apply below_drew1) | exact HB.out)) hb); clear HO219; clear HB; have HO219 := n0_; have HB := n1_; clear n0_ n1_; (try clear hb); (try clear hb2); (try clear hk); (try clear hi); have q15 : (1 : Int) ≤ ((y217.length : Int) : Int) := of_decide_eq_true (by first | (with_reducible assumption) | assumption); obtain ⟨i015, hi015, _, hsz15, _⟩ := info_parts info32; have hroom15 : y217.length ≤ co13 := (Kd.R_reads' HO219.out).2.1; have hC15 : Kd.C k32 _ Ao13 y217.length y217 := (Kd.R_reads' HO219.out).2.2; have hcut15 := cut_to (P := Tryd.prog) 22 32 .i64 Tryd.underlying22 hi015 Ao13 y217.length co13 1 (by omega) q15 hroom15; have hr15 := Kd.C_take (m := 1) hC15 (by omega); have hy15 : y222.length = (1 : Int).toNat := (by rw [Ny222.out, List.length_take]; omega); rw [← Ny222.out] at hr15; rw [← hy15] at hcut15; have HR225 := Aside0.mk hr15; have HC225 := Aside0.mk (show y222.length ≤ co13 from by omega); clear hr15 hC15 hroom15 hi015 hsz15; have KY15 := Aside0.mk hy15; clear hy15; have KL15 := Aside0.mk (show 1 ≤ y217.length from by omega); replace q15 := eq_true q15) | ((with_reducible refine gate_callee (f := 9) rfl ?_); refine goesL_ (some 18) rfl rfl Tryd.func9 (by kernel_rfl) rfl #[.slice Ao13 y222.length co13] rfl (by (try simp only [List.map_toArray, List.map_cons, List.map_nil]); first | done | rfl | (simp only [List.length_drop, List.length_take]; rfl) | (simp (disch := omega) only [u64_in]; rfl)) ?_; (with_reducible refine (check_Check.calls k _ _ y222 t226 t227 _ ?side1 ?side2 A3.out).mono ?_); (case side1 => repeat (first | exact (by repeat (first | (with_reducible exact HR225.out) | (with_reducible refine Kd.C_alloc ?_ _) | (with_reducible refine Kd.C_drewN ?_ _) | (with_reducible refine Kd.C_drew ?_) | exact HR225.out)) | (with_reducible refine Kd.C_alloc ?_ _) | (with_reducible refine Kd.C_drewN ?_ _) | (with_reducible refine Kd.C_drew ?_))); (case side2 => exact HC225.out); rintro e w16 ⟨rfl, hb⟩; refine ⟨_, rfl, ?_⟩; have n0_ := Aside0.mk (Kd.R_below (by (with_reducible repeat (first | apply Kd.R_alloc | apply Kd.R_drewN | apply Kd.R_drew)); exact HO219.out) hb); have n1_ := Aside0.mk (Kd.C_below (by repeat (first | (with_reducible exact HR225.out) | (with_reducible refine Kd.C_alloc ?_ _) | (with_reducible refine Kd.C_drewN ?_ _) | (with_reducible refine Kd.C_drew ?_) | exact HR225.out)) hb); have n2_ := Aside0.mk (below_step (by repeat (first | (with_reducible first | exact HB.out | apply below_alloc | apply pw_below_drewN | apply below_drew1) | exact HB.out)) hb); clear HO219; clear HR225; clear HB; have HO219 := n0_; have HR225 := n1_; have HB := n2_; clear n0_ n1_ n2_; (try clear hb); (try clear hb2); (try clear hk); (try clear hi)) | (go_at_call 16; (with_reducible refine (check_Reached.calls k _ _ y217 t228 _ ?side1 ?side2 A7.out).mono ?_); (case side1 => repeat (first | exact (Kd.R_reads' HO219.out).2.2 | (with_reducible refine Kd.C_alloc ?_ _) | (with_reducible refine Kd.C_drewN ?_ _) | (with_reducible refine Kd.C_drew ?_))); (case side2 => exact (Kd.R_reads' HO219.out).2.1); rintro e w17 ⟨v229, rfl, ho0, hb⟩; have n0_ := Aside0.mk (Kd.R_below (by (with_reducible repeat (first | apply Kd.R_alloc | apply Kd.R_drewN | apply Kd.R_drew)); exact HO219.out) hb); have n1_ := Aside0.mk (Kd.R_lower ho0 (below_size (by repeat (first | (with_reducible first | exact HB.out | apply below_alloc | apply pw_below_drewN | apply below_drew1) | exact HB.out)))); have n2_ := Aside0.mk (Kd.C_below (by repeat (first | (with_reducible exact HR225.out) | (with_reducible refine Kd.C_alloc ?_ _) | (with_reducible refine Kd.C_drewN ?_ _) | (with_reducible refine Kd.C_drew ?_) | exact HR225.out)) hb); have n3_ := Aside0.mk (below_step (by repeat (first | (with_reducible first | exact HB.out | apply below_alloc | apply pw_below_drewN | apply below_drew1) | exact HB.out)) hb); clear HO219; clear HR225; clear HB; have HO219 := n0_; have HO230 := n1_; have HR225 := n2_; have HB := n3_; clear n0_ n1_ n2_ n3_; (try clear hb); (try clear hb2); (try clear hk); (try clear hi); (try clear ho0); obtain ⟨Ao18, co18, eo18⟩ := Kd.R_slice HO230.out; subst eo18; have p231 : 0 ≤ (1 : Int) := (by omega); have q231 : 1 < (y217.length : Int) := of_decide_eq_true (by first | (with_reducible assumption) | assumption); obtain ⟨ad231, e231, hx231_0, hx231_1, hx231_2, hx231_3, hx231_4, hx231_5, hx231_6⟩ := at_T32 (Kd.R_reads' HO219.out).2.2 1 p231 q231; cases e231; (try simp only [show (1 : Int).toNat = 1 from rfl, Nat.reduceMul, Nat.reduceEqDiff, Go.Addr.add, ↓reduceIte] at hx231_0); (try simp only [show (1 : Int).toNat = 1 from rfl, Nat.reduceMul, Nat.reduceEqDiff, Go.Addr.add, ↓reduceIte] at hx231_1); (try simp only [show (1 : Int).toNat = 1 from rfl, Nat.reduceMul, Nat.reduceEqDiff, Go.Addr.add, ↓reduceIte] at hx231_2); (try simp only [show (1 : Int).toNat = 1 from rfl, Nat.reduceMul, Nat.reduceEqDiff, Go.Addr.add, ↓reduceIte] at hx231_3); (try simp only [show (1 : Int).toNat = 1 from rfl, Nat.reduceMul, Nat.reduceEqDiff, Go.Addr.add, ↓reduceIte] at hx231_4); (try simp only [show (1 : Int).toNat = 1 from rfl, Nat.reduceMul, Nat.reduceEqDiff, Go.Addr.add, ↓reduceIte] at hx231_5); (try simp only [show (1 : Int).toNat = 1 from rfl, Nat.reduceMul, Nat.reduceEqDiff, Go.Addr.add, ↓reduceIte] at hx231_6); have qi231 : (1 < y217.length) = True := eq_true (by omega); (try rw [show ((1 : Int)).toNat = 1 from rfl] at hx231_0); (try rw [show 1 * 7 = 7 from rfl] at hx231_0); (try rw [show ((1 : Int)).toNat = 1 from rfl] at hx231_1); (try rw [show 1 * 7 = 7 from rfl] at hx231_1); (try rw [show ((1 : Int)).toNat = 1 from rfl] at hx231_2); (try rw [show 1 * 7 = 7 from rfl] at hx231_2); (try rw [show ((1 : Int)).toNat = 1 from rfl] at hx231_3); (try rw [show 1 * 7 = 7 from rfl] at hx231_3); (try rw [show ((1 : Int)).toNat = 1 from rfl] at hx231_4); (try rw [show 1 * 7 = 7 from rfl] at hx231_4); (try rw [show ((1 : Int)).toNat = 1 from rfl] at hx231_5); (try rw [show 1 * 7 = 7 from rfl] at hx231_5); (try rw [show ((1 : Int)).toNat = 1 from rfl] at hx231_6); (try rw [show 1 * 7 = 7 from rfl] at hx231_6); replace p231 := eq_true p231; replace q231 := eq_true q231) | (go_at_call 14; (with_reducible refine (check_Registers.calls ((rd_T32 y217 1).f0) ((rd_T32 y217 1).f1) ((rd_T32 y217 1).f2) ((rd_T32 y217 1).f3) ((rd_T32 y217 1).f4.f0) ((rd_T32 y217 1).f4.f1) ((rd_T32 y217 1).f4.f2) t232 _ A10.out).mono ?_); rintro e w19 ⟨v233, rfl, ho0, hb⟩; have n0_ := Aside0.mk (Kd.R_below (by (with_reducible repeat (first | apply Kd.R_alloc | apply Kd.R_drewN | apply Kd.R_drew)); exact HO219.out) hb); have n1_ := Aside0.mk (Kd.R_below (by (with_reducible repeat (first | apply Kd.R_alloc | apply Kd.R_drewN | apply Kd.R_drew)); exact HO230.out) hb); have n2_ := Aside0.mk (Kd.Q_lower ho0 (below_size (by repeat (first | (with_reducible first | exact HB.out | apply below_alloc | apply pw_below_drewN | apply below_drew1) | exact HB.out)))); have n3_ := Aside0.mk (Kd.C_below (by repeat (first | (with_reducible exact HR225.out) | (with_reducible refine Kd.C_alloc ?_ _) | (with_reducible refine Kd.C_drewN ?_ _) | (with_reducible refine Kd.C_drew ?_) | exact HR225.out)) hb); have n4_ := Aside0.mk (below_step (by repeat (first | (with_reducible first | exact HB.out | apply below_alloc | apply pw_below_drewN | apply below_drew1) | exact HB.out)) hb); clear HO219; clear HO230; clear HR225; clear HB; have HO219 := n0_; have HO230 := n1_; have HO234 := n2_; have HR225 := n3_; have HB := n4_; clear n0_ n1_ n2_ n3_ n4_; (try clear hb); (try clear hb2); (try clear hk); (try clear hi); (try clear ho0); obtain ⟨Ao20, co20, eo20, _⟩ := Kd.Q_slice HO234.out; subst eo20))
              go_ret
              exact ⟨by first | (with_reducible rfl) | (simp only [isEmpty_bne, Bool.not_not] <;> with_reducible rfl) | (simp [errW_none, errW_some] <;> with_reducible rfl) | (simp only [isEmpty_bne, Bool.not_not] <;> rfl) | rfl | (simp [errW_none, errW_some] <;> rfl) | (simp [*, errW_none, errW_some] <;> rfl), by repeat (first | (with_reducible first | exact HB.out | apply below_alloc | apply pw_below_drewN | apply below_drew1) | exact HB.out)⟩
            · rw [if_neg c9] at H
              exact absurd H (by simp)
          · rw [if_neg c8] at H
            exact absurd H (by simp)
        · rw [if_neg c6] at H
          exact absurd H (by simp)
      · rw [if_neg c5] at H
        exact absurd H (by simp)
    · rw [if_neg c4] at H
      exact absurd H (by simp)
  · rw [if_neg c2] at H
    exact absurd H (by simp)

end Go.Proofs.YtbdmfpgiolaooaaDoor.PAll
