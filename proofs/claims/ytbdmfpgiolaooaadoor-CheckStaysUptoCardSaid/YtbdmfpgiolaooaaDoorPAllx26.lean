/- Printed walks of the functions that the laws reach: each function, what it computes, and that it does. No conditions. -/
import Derived.Test.YtbdmfpgiolaooaaDoorPAllx0
import Derived.Test.YtbdmfpgiolaooaaDoorPAllx23
import Derived.Test.YtbdmfpgiolaooaaDoorPAllx24
import Derived.Test.YtbdmfpgiolaooaaDoorPAllx25
namespace Go.Proofs.YtbdmfpgiolaooaaDoor.PAll
open Go.RowKit Go.Proofs.YtbdmfpgiolaooaaDoor.XW Go.Proofs.YtbdmfpgiolaooaaDoor.XLib Go.Proofs.YtbdmfpgiolaooaaDoorW.PrintWords Go.Proofs.YtbdmfpgiolaooaaDoorW.PrintLast Go.Proofs.YtbdmfpgiolaooaaDoorW.PrintMore
attribute [local go_sem] max2_int min2_int max_two min_two max_three min_three max_four min_four   -- for this text's walks alone
set_option linter.unusedVariables false
set_option linter.unusedSimpArgs false

/-! ### factotumref15_Check: function 10 -/
mutual
def factotumref15_Check.l0 : Nat → List (S32) → Int → Option (Int × Int)
  | 0, _, _ => none
  | k + 1, x0, x4 => if x4 < (x0.length : Int) then (if 0 ≤ x4 then ((factotumref13_Right.f k ((rd_T32 x0 x4).f0) ((rd_T32 x0 x4).f1) ((rd_T32 x0 x4).f2) ((rd_T32 x0 x4).f3) ((rd_T32 x0 x4).f4.f0) ((rd_T32 x0 x4).f4.f1) ((rd_T32 x0 x4).f4.f2)).bind fun t263 => (if t263 = true then (factotumref15_Check.l0 k x0 (wrap64 (x4 + 1))) else (some (4, x4)))) else (none)) else (factotumref15_Check.l1 k x0 0)
def factotumref15_Check.l1 : Nat → List (S32) → Int → Option (Int × Int)
  | 0, _, _ => none
  | k + 1, x0, x5 => if x5 < (x0.length : Int) then (if 0 ≤ x5 then ((factotumref15_Registers.f k ((rd_T32 x0 x5).f0) ((rd_T32 x0 x5).f1) ((rd_T32 x0 x5).f2) ((rd_T32 x0 x5).f3) ((rd_T32 x0 x5).f4.f0) ((rd_T32 x0 x5).f4.f1) ((rd_T32 x0 x5).f4.f2)).bind fun t265 => (factotumref15_Check.l2 k x0 x5 t265 0)) else (none)) else (factotumref15_Check.l3 k x0 0)
def factotumref15_Check.l2 : Nat → List (S32) → Int → List Int → Int → Option (Int × Int)
  | 0, _, _, _, _ => none
  | k + 1, x0, x5, x6, x7 => if x7 < (x6.length : Int) then (if 0 ≤ x7 then (if (rd x6 x7) ≥ 6 then (some (6, x5)) else (factotumref15_Check.l2 k x0 x5 x6 (wrap64 (x7 + 1)))) else (none)) else (factotumref15_Check.l1 k x0 (wrap64 (x5 + 1)))
def factotumref15_Check.l3 : Nat → List (S32) → Int → Option (Int × Int)
  | 0, _, _ => none
  | k + 1, x0, x8 => if x8 < (x0.length : Int) then (if 0 ≤ x8 then ((factotumref15_Target.f ((rd_T32 x0 x8).f0) ((rd_T32 x0 x8).f1) ((rd_T32 x0 x8).f2) ((rd_T32 x0 x8).f3) ((rd_T32 x0 x8).f4.f0) ((rd_T32 x0 x8).f4.f1) ((rd_T32 x0 x8).f4.f2)).bind fun bt270 => (if bt270.2 = true then (if bt270.1 ≥ (x0.length : Int) then (some (7, x8)) else (factotumref15_Check.l3 k x0 (wrap64 (x8 + 1)))) else (factotumref15_Check.l3 k x0 (wrap64 (x8 + 1))))) else (none)) else (if 0 ≤ (wrap64 ((x0.length : Int) - 1)) then (if (wrap64 ((x0.length : Int) - 1)) < (x0.length : Int) then ((factotumref15_ends.f ((rd_T32 x0 (wrap64 ((x0.length : Int) - 1))).f0) ((rd_T32 x0 (wrap64 ((x0.length : Int) - 1))).f1) ((rd_T32 x0 (wrap64 ((x0.length : Int) - 1))).f2) ((rd_T32 x0 (wrap64 ((x0.length : Int) - 1))).f3) ((rd_T32 x0 (wrap64 ((x0.length : Int) - 1))).f4.f0) ((rd_T32 x0 (wrap64 ((x0.length : Int) - 1))).f4.f1) ((rd_T32 x0 (wrap64 ((x0.length : Int) - 1))).f4.f2)).bind fun t273 => (if t273 = true then (some (0, 0)) else (some (13, wrap64 ((x0.length : Int) - 1))))) else (none)) else (none))
end
def factotumref15_Check.f (k : Nat) (l0 : List (S32)) : Option (Int × Int) := if (l0.length : Int) = 0 then (some (1, 0)) else (if (l0.length : Int) > 64 then (some (3, 64)) else (factotumref15_Check.l0 k l0 0))
theorem factotumref15_Check.mono_l : ∀ k, (∀ y0 y1, LeO (factotumref15_Check.l0 k y0 y1) (factotumref15_Check.l0 (k + 1) y0 y1)) ∧ (∀ y0 y1, LeO (factotumref15_Check.l1 k y0 y1) (factotumref15_Check.l1 (k + 1) y0 y1)) ∧ (∀ y0 y1 y2 y3, LeO (factotumref15_Check.l2 k y0 y1 y2 y3) (factotumref15_Check.l2 (k + 1) y0 y1 y2 y3)) ∧ (∀ y0 y1, LeO (factotumref15_Check.l3 k y0 y1) (factotumref15_Check.l3 (k + 1) y0 y1))
  | 0 => ⟨fun _ _ r h => by simp [factotumref15_Check.l0] at h, fun _ _ r h => by simp [factotumref15_Check.l1] at h, fun _ _ _ _ r h => by simp [factotumref15_Check.l2] at h, fun _ _ r h => by simp [factotumref15_Check.l3] at h⟩
  | k + 1 => by
    obtain ⟨ih0, ih1, ih2, ih3⟩ := factotumref15_Check.mono_l k
    refine ⟨?_, ?_, ?_, ?_⟩
    · intro y0 y1
      unfold factotumref15_Check.l0
      repeat' first
      | (with_reducible exact ih0 _ _)
      | (with_reducible exact ih1 _ _)
      | (with_reducible exact ih2 _ _ _ _)
      | (with_reducible exact ih3 _ _)
      | (with_reducible exact factotumref13_Right.mono _ _ _ _ _ _ _ _)
      | (with_reducible exact factotumref15_Registers.mono _ _ _ _ _ _ _ _)
      | (with_reducible exact LeO.refl _)
      | (with_reducible exact LeO.none _)
      | (with_reducible refine LeO.ite ?_ ?_)
      | (with_reducible refine LeO.bind ?_ (fun _ => ?_))
      | exact ih0 _ _
      | exact ih1 _ _
      | exact ih2 _ _ _ _
      | exact ih3 _ _
      | exact factotumref13_Right.mono _ _ _ _ _ _ _ _
      | exact factotumref15_Registers.mono _ _ _ _ _ _ _ _
      | exact LeO.none _
      | refine LeO.ite ?_ ?_
      | refine LeO.bind ?_ (fun _ => ?_)
    · intro y0 y1
      unfold factotumref15_Check.l1
      repeat' first
      | (with_reducible exact ih0 _ _)
      | (with_reducible exact ih1 _ _)
      | (with_reducible exact ih2 _ _ _ _)
      | (with_reducible exact ih3 _ _)
      | (with_reducible exact factotumref13_Right.mono _ _ _ _ _ _ _ _)
      | (with_reducible exact factotumref15_Registers.mono _ _ _ _ _ _ _ _)
      | (with_reducible exact LeO.refl _)
      | (with_reducible exact LeO.none _)
      | (with_reducible refine LeO.ite ?_ ?_)
      | (with_reducible refine LeO.bind ?_ (fun _ => ?_))
      | exact ih0 _ _
      | exact ih1 _ _
      | exact ih2 _ _ _ _
      | exact ih3 _ _
      | exact factotumref13_Right.mono _ _ _ _ _ _ _ _
      | exact factotumref15_Registers.mono _ _ _ _ _ _ _ _
      | exact LeO.none _
      | refine LeO.ite ?_ ?_
      | refine LeO.bind ?_ (fun _ => ?_)
    · intro y0 y1 y2 y3
      unfold factotumref15_Check.l2
      repeat' first
      | (with_reducible exact ih0 _ _)
      | (with_reducible exact ih1 _ _)
      | (with_reducible exact ih2 _ _ _ _)
      | (with_reducible exact ih3 _ _)
      | (with_reducible exact factotumref13_Right.mono _ _ _ _ _ _ _ _)
      | (with_reducible exact factotumref15_Registers.mono _ _ _ _ _ _ _ _)
      | (with_reducible exact LeO.refl _)
      | (with_reducible exact LeO.none _)
      | (with_reducible refine LeO.ite ?_ ?_)
      | (with_reducible refine LeO.bind ?_ (fun _ => ?_))
      | exact ih0 _ _
      | exact ih1 _ _
      | exact ih2 _ _ _ _
      | exact ih3 _ _
      | exact factotumref13_Right.mono _ _ _ _ _ _ _ _
      | exact factotumref15_Registers.mono _ _ _ _ _ _ _ _
      | exact LeO.none _
      | refine LeO.ite ?_ ?_
      | refine LeO.bind ?_ (fun _ => ?_)
    · intro y0 y1
      unfold factotumref15_Check.l3
      repeat' first
      | (with_reducible exact ih0 _ _)
      | (with_reducible exact ih1 _ _)
      | (with_reducible exact ih2 _ _ _ _)
      | (with_reducible exact ih3 _ _)
      | (with_reducible exact factotumref13_Right.mono _ _ _ _ _ _ _ _)
      | (with_reducible exact factotumref15_Registers.mono _ _ _ _ _ _ _ _)
      | (with_reducible exact LeO.refl _)
      | (with_reducible exact LeO.none _)
      | (with_reducible refine LeO.ite ?_ ?_)
      | (with_reducible refine LeO.bind ?_ (fun _ => ?_))
      | exact ih0 _ _
      | exact ih1 _ _
      | exact ih2 _ _ _ _
      | exact ih3 _ _
      | exact factotumref13_Right.mono _ _ _ _ _ _ _ _
      | exact factotumref15_Registers.mono _ _ _ _ _ _ _ _
      | exact LeO.none _
      | refine LeO.ite ?_ ?_
      | refine LeO.bind ?_ (fun _ => ?_)
theorem factotumref15_Check.mono : ∀ a0 k, LeO (factotumref15_Check.f k a0) (factotumref15_Check.f (k + 1) a0) := by
  intro a0 k
  obtain ⟨ih0, ih1, ih2, ih3⟩ := factotumref15_Check.mono_l k
  unfold factotumref15_Check.f
  repeat' first
      | (with_reducible exact ih0 _ _)
      | (with_reducible exact ih1 _ _)
      | (with_reducible exact ih2 _ _ _ _)
      | (with_reducible exact ih3 _ _)
      | (with_reducible exact factotumref13_Right.mono _ _ _ _ _ _ _ _)
      | (with_reducible exact factotumref15_Registers.mono _ _ _ _ _ _ _ _)
      | (with_reducible exact LeO.refl _)
      | (with_reducible exact LeO.none _)
      | (with_reducible refine LeO.ite ?_ ?_)
      | (with_reducible refine LeO.bind ?_ (fun _ => ?_))
      | exact ih0 _ _
      | exact ih1 _ _
      | exact ih2 _ _ _ _
      | exact ih3 _ _
      | exact factotumref13_Right.mono _ _ _ _ _ _ _ _
      | exact factotumref15_Registers.mono _ _ _ _ _ _ _ _
      | exact LeO.none _
      | refine LeO.ite ?_ ?_
      | refine LeO.bind ?_ (fun _ => ?_)
set_option maxHeartbeats 8000000 in
set_option maxRecDepth 100000 in
theorem factotumref15_Check.calls (k : Nat) (A0 : Option Addr) (c0 : Nat) (l0 : List (S32)) (r1 : Int) (r2 : Int) (w : World) (hr0 : Kd.C k32 w A0 l0.length l0) (hc0 : l0.length ≤ c0) (h : factotumref15_Check.f k l0 = some (r1, r2)) :
    Calls Tryd.prog 10 #[.slice A0 l0.length c0] w fun e w' => e = .returned (.tuple #[.int .i64 r1, .int .i64 r2]) ∧ Below w.heap.size w w' := by
  have hu32 := Tryd.underlying32
  have HR0 := Aside0.mk hr0
  have HC0 := Aside0.mk hc0
  clear hr0 hc0
  have HB := Aside0.mk (Below.refl w.heap.size w)
  have H : (if (l0.length : Int) = 0 then (some (1, 0)) else (if (l0.length : Int) > 64 then (some (3, 64)) else (factotumref15_Check.l0 k l0 0))) = some (r1, r2) := h
  clear h
  by_cases c2 : (l0.length : Int) = 0
  · rw [if_pos c2] at H
    have c2b0 : ((l0.length : Int) == 0) = true := beq_iff_eq.mpr c2
    have c2b1 : ((l0.length : Int) != 0) = false := bne_eq_false_iff_eq.mpr c2
    clear c2
    simp only [Option.some.injEq, Prod.mk.injEq] at H
    obtain ⟨rfl, rfl⟩ := H
    go_enter Tryd.func10, Tryd.ntmps10
    go_wp2
    go_ret2
    exact ⟨by first | (with_reducible rfl) | (simp only [isEmpty_bne, Bool.not_not] <;> with_reducible rfl) | (simp [errW_none, errW_some] <;> with_reducible rfl) | (simp only [isEmpty_bne, Bool.not_not] <;> rfl) | rfl | (simp [errW_none, errW_some] <;> rfl) | (simp [*, errW_none, errW_some] <;> rfl), by repeat (first | (with_reducible first | exact HB.out | apply below_alloc | apply pw_below_drewN | apply below_drew1) | exact HB.out)⟩
  · rw [if_neg c2] at H
    have c2b0 : ((l0.length : Int) == 0) = false := beq_eq_false_iff_ne.mpr c2
    have c2b1 : ((l0.length : Int) != 0) = true := bne_iff_ne.mpr c2
    have c2b2 : ¬ (l0 = []) := fun h_ => c2 (by rw [h_]; rfl)
    by_cases c3 : (l0.length : Int) > 64
    · rw [if_pos c3] at H
      have c3b0 : decide (64 < (l0.length : Int)) = true := decide_eq_true c3
      have c3b1 : decide (64 < l0.length) = true := decide_eq_true (by omega)
      clear c3
      simp only [Option.some.injEq, Prod.mk.injEq] at H
      obtain ⟨rfl, rfl⟩ := H
      go_enter Tryd.func10, Tryd.ntmps10
      go_wp2
      go_ret2
      exact ⟨by first | (with_reducible rfl) | (simp only [isEmpty_bne, Bool.not_not] <;> with_reducible rfl) | (simp [errW_none, errW_some] <;> with_reducible rfl) | (simp only [isEmpty_bne, Bool.not_not] <;> rfl) | rfl | (simp [errW_none, errW_some] <;> rfl) | (simp [*, errW_none, errW_some] <;> rfl), by repeat (first | (with_reducible first | exact HB.out | apply below_alloc | apply pw_below_drewN | apply below_drew1) | exact HB.out)⟩
    · rw [if_neg c3] at H
      have c3b0 : decide (64 < (l0.length : Int)) = false := decide_eq_false c3
      have c3b1 : decide (64 < l0.length) = false := decide_eq_false (by omega)
      clear c3
      have H' := Aside0.mk H
      clear H
      go_enter Tryd.func10, Tryd.ntmps10
      go_wp2
      go_loopg [4] k (fun kq v4 w' => ∃ (x4_1 : Int), v4 = .int .i64 x4_1 ∧ Aside0 (factotumref15_Check.l0 kq l0 x4_1 = some (r1, r2)) ∧ Aside0 (kq ≤ k) ∧ Aside0 (Below w.heap.size w w'))
      case atStart => exact ⟨(0), (by first | (with_reducible rfl) | (simp; done) | (simp [*]; done) | rfl | (simp only [not_isEmpty_bne])), H', ⟨Nat.le_refl _⟩, ⟨by repeat (first | (with_reducible first | exact HB.out | apply below_alloc | apply pw_below_drewN | apply below_drew1) | exact HB.out)⟩⟩
      case round =>
        clear H'
        try clear c1
        try clear c2
        try clear c2b0
        try clear c2b1
        try clear c2b2
        try clear p2
        try clear c3
        try clear c3b0
        try clear c3b1
        obtain ⟨x4_1, rfl, HA, HK1, HB⟩ := hrel
        cases gk with
        | zero => exact absurd HA.out (by simp [factotumref15_Check.l0])
        | succ k1 =>
          have H := HA.out
          clear HA
          simp only [factotumref15_Check.l0] at H
          by_cases c4 : x4_1 < (l0.length : Int)
          · rw [if_pos c4] at H
            have c4b0 : decide (x4_1 < (l0.length : Int)) = true := decide_eq_true c4
            clear c4
            by_cases c5 : 0 ≤ x4_1
            · rw [if_pos c5] at H
              have c5b0 : decide (0 ≤ x4_1) = true := decide_eq_true c5
              clear c5
              replace H := Option.bind_eq_some_iff.mp H
              obtain ⟨t263, A60, H⟩ := H
              replace H : (if t263 = true then (factotumref15_Check.l0 k1 l0 (wrap64 (x4_1 + 1))) else (some (4, x4_1))) = some (r1, r2) := H
              have A6 := Aside0.mk A60
              clear A60
              by_cases c7 : t263 = true
              · subst c7
                have H1 : (factotumref15_Check.l0 k1 l0 (wrap64 (x4_1 + 1))) = some (r1, r2) := by rw [if_pos rfl] at H; exact H
                clear H
                have H := H1
                clear H1
                have H' := Aside0.mk H
                clear H
                have p262 : 0 ≤ (x4_1 : Int) := of_decide_eq_true (by first | (with_reducible assumption) | assumption)
                have q262 : x4_1 < (l0.length : Int) := of_decide_eq_true (by first | (with_reducible assumption) | assumption)
                obtain ⟨ad262, e262, hx262_0, hx262_1, hx262_2, hx262_3, hx262_4, hx262_5, hx262_6⟩ := at_T32 HR0.out x4_1 p262 q262
                cases e262
                replace hx262_0 := (HB.out.cell (World.block_lt_of_cell? w _ hx262_0)).trans hx262_0
                replace hx262_1 := (HB.out.cell (World.block_lt_of_cell? w _ hx262_1)).trans hx262_1
                replace hx262_2 := (HB.out.cell (World.block_lt_of_cell? w _ hx262_2)).trans hx262_2
                replace hx262_3 := (HB.out.cell (World.block_lt_of_cell? w _ hx262_3)).trans hx262_3
                replace hx262_4 := (HB.out.cell (World.block_lt_of_cell? w _ hx262_4)).trans hx262_4
                replace hx262_5 := (HB.out.cell (World.block_lt_of_cell? w _ hx262_5)).trans hx262_5
                replace hx262_6 := (HB.out.cell (World.block_lt_of_cell? w _ hx262_6)).trans hx262_6
                replace p262 := eq_true p262
                replace q262 := eq_true q262
                go_wp2_with (first | ((with_reducible refine gate_callee (f := 25) rfl ?_); refine goesL_ (some 27) rfl rfl Tryd.func25 (by kernel_rfl) rfl #[.agg #[.int .i64 ((rd_T32 l0 x4_1).f0), .int .i64 ((rd_T32 l0 x4_1).f1), .int .i64 ((rd_T32 l0 x4_1).f2), .int .i64 ((rd_T32 l0 x4_1).f3), .int .i64 ((rd_T32 l0 x4_1).f4.f0), .int .i64 ((rd_T32 l0 x4_1).f4.f1), .string ((rd_T32 l0 x4_1).f4.f2)]] rfl (by (try simp only [List.map_toArray, List.map_cons, List.map_nil]); first | done | rfl | (simp only [List.length_drop, List.length_take]; rfl) | (simp (disch := omega) only [u64_in]; rfl)) ?_; (with_reducible refine (factotumref13_Right.calls k1 ((rd_T32 l0 x4_1).f0) ((rd_T32 l0 x4_1).f1) ((rd_T32 l0 x4_1).f2) ((rd_T32 l0 x4_1).f3) ((rd_T32 l0 x4_1).f4.f0) ((rd_T32 l0 x4_1).f4.f1) ((rd_T32 l0 x4_1).f4.f2) true _ A6.out).mono ?_); rintro e w8 ⟨rfl, hb⟩; refine ⟨_, rfl, ?_⟩; have n0_ := Aside0.mk (below_step (by repeat (first | (with_reducible first | exact HB.out | apply below_alloc | apply pw_below_drewN | apply below_drew1) | exact HB.out)) hb); clear HB; have HB := n0_; clear n0_; (try clear hb); (try clear hb2); (try clear hk); (try clear hi)))
                go_roundg k1
                case measure => have := HK1.out; omega
                case rel => exact ⟨(wrap64 (x4_1 + 1)), (by first | (with_reducible rfl) | (simp; done) | (simp [*]; done) | rfl | (simp only [not_isEmpty_bne])), H', ⟨by have := HK1.out; omega⟩, ⟨by repeat (first | (with_reducible first | exact HB.out | apply below_alloc | apply pw_below_drewN | apply below_drew1) | exact HB.out)⟩⟩
              · replace c7 := Bool.eq_false_iff.mpr c7
                subst c7
                have H1 : (some (4, x4_1)) = some (r1, r2) := by rw [if_neg (show ¬ (false = true) by decide)] at H; exact H
                clear H
                have H := H1
                clear H1
                simp only [Option.some.injEq, Prod.mk.injEq] at H
                obtain ⟨rfl, rfl⟩ := H
                have p262 : 0 ≤ (x4_1 : Int) := of_decide_eq_true (by first | (with_reducible assumption) | assumption)
                have q262 : x4_1 < (l0.length : Int) := of_decide_eq_true (by first | (with_reducible assumption) | assumption)
                obtain ⟨ad262, e262, hx262_0, hx262_1, hx262_2, hx262_3, hx262_4, hx262_5, hx262_6⟩ := at_T32 HR0.out x4_1 p262 q262
                cases e262
                replace hx262_0 := (HB.out.cell (World.block_lt_of_cell? w _ hx262_0)).trans hx262_0
                replace hx262_1 := (HB.out.cell (World.block_lt_of_cell? w _ hx262_1)).trans hx262_1
                replace hx262_2 := (HB.out.cell (World.block_lt_of_cell? w _ hx262_2)).trans hx262_2
                replace hx262_3 := (HB.out.cell (World.block_lt_of_cell? w _ hx262_3)).trans hx262_3
                replace hx262_4 := (HB.out.cell (World.block_lt_of_cell? w _ hx262_4)).trans hx262_4
                replace hx262_5 := (HB.out.cell (World.block_lt_of_cell? w _ hx262_5)).trans hx262_5
                replace hx262_6 := (HB.out.cell (World.block_lt_of_cell? w _ hx262_6)).trans hx262_6
                replace p262 := eq_true p262
                replace q262 := eq_true q262
                go_wp2_with (first | ((with_reducible refine gate_callee (f := 25) rfl ?_); refine goesL_ (some 27) rfl rfl Tryd.func25 (by kernel_rfl) rfl #[.agg #[.int .i64 ((rd_T32 l0 x4_1).f0), .int .i64 ((rd_T32 l0 x4_1).f1), .int .i64 ((rd_T32 l0 x4_1).f2), .int .i64 ((rd_T32 l0 x4_1).f3), .int .i64 ((rd_T32 l0 x4_1).f4.f0), .int .i64 ((rd_T32 l0 x4_1).f4.f1), .string ((rd_T32 l0 x4_1).f4.f2)]] rfl (by (try simp only [List.map_toArray, List.map_cons, List.map_nil]); first | done | rfl | (simp only [List.length_drop, List.length_take]; rfl) | (simp (disch := omega) only [u64_in]; rfl)) ?_; (with_reducible refine (factotumref13_Right.calls k1 ((rd_T32 l0 x4_1).f0) ((rd_T32 l0 x4_1).f1) ((rd_T32 l0 x4_1).f2) ((rd_T32 l0 x4_1).f3) ((rd_T32 l0 x4_1).f4.f0) ((rd_T32 l0 x4_1).f4.f1) ((rd_T32 l0 x4_1).f4.f2) false _ A6.out).mono ?_); rintro e w9 ⟨rfl, hb⟩; refine ⟨_, rfl, ?_⟩; have n0_ := Aside0.mk (below_step (by repeat (first | (with_reducible first | exact HB.out | apply below_alloc | apply pw_below_drewN | apply below_drew1) | exact HB.out)) hb); clear HB; have HB := n0_; clear n0_; (try clear hb); (try clear hb2); (try clear hk); (try clear hi)))
                go_ret2
                exact ⟨by first | (with_reducible rfl) | (simp only [isEmpty_bne, Bool.not_not] <;> with_reducible rfl) | (simp [errW_none, errW_some] <;> with_reducible rfl) | (simp only [isEmpty_bne, Bool.not_not] <;> rfl) | rfl | (simp [errW_none, errW_some] <;> rfl) | (simp [*, errW_none, errW_some] <;> rfl), by repeat (first | (with_reducible first | exact HB.out | apply below_alloc | apply pw_below_drewN | apply below_drew1) | exact HB.out)⟩
            · rw [if_neg c5] at H
              exact absurd H (by simp)
          · rw [if_neg c4] at H
            have c4b0 : decide (x4_1 < (l0.length : Int)) = false := decide_eq_false c4
            clear c4
            have H' := Aside0.mk H
            clear H
            go_wp2
            go_loopg [5] k1 (fun kq v5 w' => ∃ (x5_2 : Int), v5 = .int .i64 x5_2 ∧ Aside0 (factotumref15_Check.l1 kq l0 x5_2 = some (r1, r2)) ∧ Aside0 (kq ≤ k1) ∧ Aside0 (Below w.heap.size w w'))
            case atStart => exact ⟨(0), (by first | (with_reducible rfl) | (simp; done) | (simp [*]; done) | rfl | (simp only [not_isEmpty_bne])), H', ⟨Nat.le_refl _⟩, ⟨by repeat (first | (with_reducible first | exact HB.out | apply below_alloc | apply pw_below_drewN | apply below_drew1) | exact HB.out)⟩⟩
            case round =>
              clear H'
              try clear c1
              try clear c2
              try clear c2b0
              try clear c2b1
              try clear c2b2
              try clear p2
              try clear q2
              try clear hx2
              try clear c3
              try clear c3b0
              try clear c3b1
              try clear c4
              try clear c4b0
              try clear c5
              try clear c5b0
              try clear p6
              try clear c7
              try clear hx262_0
              try clear hx262_1
              try clear hx262_2
              try clear hx262_3
              try clear hx262_4
              try clear hx262_5
              try clear hx262_6
              try clear p2
              try clear p262
              try clear q262
              obtain ⟨x5_2, rfl, HA, HK2, HB⟩ := hrel
              cases gk with
              | zero => exact absurd HA.out (by simp [factotumref15_Check.l1])
              | succ k2 =>
                have H := HA.out
                clear HA
                simp only [factotumref15_Check.l1] at H
                by_cases c10 : x5_2 < (l0.length : Int)
                · rw [if_pos c10] at H
                  have c10b0 : decide (x5_2 < (l0.length : Int)) = true := decide_eq_true c10
                  clear c10
                  by_cases c11 : 0 ≤ x5_2
                  · rw [if_pos c11] at H
                    have c11b0 : decide (0 ≤ x5_2) = true := decide_eq_true c11
                    clear c11
                    replace H := Option.bind_eq_some_iff.mp H
                    obtain ⟨t265, A120, H⟩ := H
                    replace H : (factotumref15_Check.l2 k2 l0 x5_2 t265 0) = some (r1, r2) := H
                    have A12 := Aside0.mk A120
                    clear A120
                    have H' := Aside0.mk H
                    clear H
                    have p264 : 0 ≤ (x5_2 : Int) := of_decide_eq_true (by first | (with_reducible assumption) | assumption)
                    have q264 : x5_2 < (l0.length : Int) := of_decide_eq_true (by first | (with_reducible assumption) | assumption)
                    obtain ⟨ad264, e264, hx264_0, hx264_1, hx264_2, hx264_3, hx264_4, hx264_5, hx264_6⟩ := at_T32 HR0.out x5_2 p264 q264
                    cases e264
                    replace hx264_0 := (HB.out.cell (World.block_lt_of_cell? w _ hx264_0)).trans hx264_0
                    replace hx264_1 := (HB.out.cell (World.block_lt_of_cell? w _ hx264_1)).trans hx264_1
                    replace hx264_2 := (HB.out.cell (World.block_lt_of_cell? w _ hx264_2)).trans hx264_2
                    replace hx264_3 := (HB.out.cell (World.block_lt_of_cell? w _ hx264_3)).trans hx264_3
                    replace hx264_4 := (HB.out.cell (World.block_lt_of_cell? w _ hx264_4)).trans hx264_4
                    replace hx264_5 := (HB.out.cell (World.block_lt_of_cell? w _ hx264_5)).trans hx264_5
                    replace hx264_6 := (HB.out.cell (World.block_lt_of_cell? w _ hx264_6)).trans hx264_6
                    replace p264 := eq_true p264
                    replace q264 := eq_true q264
                    go_wp2_with (first | ((with_reducible refine gate_callee (f := 15) rfl ?_); refine goesL_ (some 40) rfl rfl Tryd.func15 (by kernel_rfl) rfl #[.agg #[.int .i64 ((rd_T32 l0 x5_2).f0), .int .i64 ((rd_T32 l0 x5_2).f1), .int .i64 ((rd_T32 l0 x5_2).f2), .int .i64 ((rd_T32 l0 x5_2).f3), .int .i64 ((rd_T32 l0 x5_2).f4.f0), .int .i64 ((rd_T32 l0 x5_2).f4.f1), .string ((rd_T32 l0 x5_2).f4.f2)]] rfl (by (try simp only [List.map_toArray, List.map_cons, List.map_nil]); first | done | rfl | (simp only [List.length_drop, List.length_take]; rfl) | (simp (disch := omega) only [u64_in]; rfl)) ?_; (with_reducible refine (factotumref15_Registers.calls k2 ((rd_T32 l0 x5_2).f0) ((rd_T32 l0 x5_2).f1) ((rd_T32 l0 x5_2).f2) ((rd_T32 l0 x5_2).f3) ((rd_T32 l0 x5_2).f4.f0) ((rd_T32 l0 x5_2).f4.f1) ((rd_T32 l0 x5_2).f4.f2) t265 _ A12.out).mono ?_); rintro e w13 ⟨v266, rfl, ho0, hb⟩; refine ⟨_, rfl, ?_⟩; have n0_ := Aside0.mk (Kd.R_lower ho0 (below_size (by repeat (first | (with_reducible first | exact HB.out | apply below_alloc | apply pw_below_drewN | apply below_drew1) | exact HB.out)))); have n1_ := Aside0.mk (below_step (by repeat (first | (with_reducible first | exact HB.out | apply below_alloc | apply pw_below_drewN | apply below_drew1) | exact HB.out)) hb); clear HB; have HO267 := n0_; have HB := n1_; clear n0_ n1_; (try clear hb); (try clear hb2); (try clear hk); (try clear hi); (try clear ho0)))
                    go_loopg [7] k2 (fun kq v7 w' => ∃ (x7_3 : Int), v7 = .int .i64 x7_3 ∧ Aside0 (factotumref15_Check.l2 kq l0 x5_2 t265 x7_3 = some (r1, r2)) ∧ Aside0 (kq ≤ k2) ∧ Aside0 (Kd.R (Kd.int .i64) 3 w' w.heap.size (fun _ => True) v266 t265) ∧ Aside0 (Below w.heap.size w w'))
                    case atStart => exact ⟨(0), (by first | (with_reducible rfl) | (simp; done) | (simp [*]; done) | rfl | (simp only [not_isEmpty_bne])), H', ⟨Nat.le_refl _⟩, ⟨by (with_reducible repeat (first | apply Kd.R_alloc | apply Kd.R_drewN | apply Kd.R_drew)); exact HO267.out⟩, ⟨by repeat (first | (with_reducible first | exact HB.out | apply below_alloc | apply pw_below_drewN | apply below_drew1) | exact HB.out)⟩⟩
                    case round =>
                      clear H'
                      try clear c1
                      try clear c2
                      try clear c2b0
                      try clear c2b1
                      try clear c2b2
                      try clear p2
                      try clear q2
                      try clear hx2
                      try clear c3
                      try clear c3b0
                      try clear c3b1
                      try clear c4
                      try clear c4b0
                      try clear c5
                      try clear c5b0
                      try clear p6
                      try clear c7
                      try clear c10
                      try clear c10b0
                      try clear c11
                      try clear c11b0
                      try clear hx262_0
                      try clear hx262_1
                      try clear hx262_2
                      try clear hx262_3
                      try clear hx262_4
                      try clear hx262_5
                      try clear hx262_6
                      try clear hx264_0
                      try clear hx264_1
                      try clear hx264_2
                      try clear hx264_3
                      try clear hx264_4
                      try clear hx264_5
                      try clear hx264_6
                      try clear p2
                      try clear p262
                      try clear p264
                      try clear p6
                      try clear q2
                      try clear q262
                      try clear q264
                      obtain ⟨x7_3, rfl, HA, HK3, HO_6, HB⟩ := hrel
                      cases gk with
                      | zero => exact absurd HA.out (by simp [factotumref15_Check.l2])
                      | succ k3 =>
                        have H := HA.out
                        clear HA
                        simp only [factotumref15_Check.l2] at H
                        by_cases c14 : x7_3 < (t265.length : Int)
                        · rw [if_pos c14] at H
                          have c14b0 : decide (x7_3 < (t265.length : Int)) = true := decide_eq_true c14
                          clear c14
                          by_cases c15 : 0 ≤ x7_3
                          · rw [if_pos c15] at H
                            have c15b0 : decide (0 ≤ x7_3) = true := decide_eq_true c15
                            clear c15
                            by_cases c16 : (rd t265 x7_3) ≥ 6
                            · rw [if_pos c16] at H
                              have c16b0 : decide (6 ≤ (rd t265 x7_3)) = true := decide_eq_true c16
                              clear c16
                              simp only [Option.some.injEq, Prod.mk.injEq] at H
                              obtain ⟨rfl, rfl⟩ := H
                              obtain ⟨Ao17, co17, eo17⟩ := Kd.R_slice HO_6.out
                              subst eo17
                              have p268 : 0 ≤ (x7_3 : Int) := of_decide_eq_true (by first | (with_reducible assumption) | assumption)
                              have q268 : x7_3 < (t265.length : Int) := of_decide_eq_true (by first | (with_reducible assumption) | assumption)
                              obtain ⟨ad268, e268, hx268_0⟩ := Kd.at_int (Kd.R_reads' HO_6.out).2.2 x7_3 p268 q268
                              cases e268
                              replace p268 := eq_true p268
                              replace q268 := eq_true q268
                              go_wp2
                              go_ret2
                              exact ⟨by first | (with_reducible rfl) | (simp only [isEmpty_bne, Bool.not_not] <;> with_reducible rfl) | (simp [errW_none, errW_some] <;> with_reducible rfl) | (simp only [isEmpty_bne, Bool.not_not] <;> rfl) | rfl | (simp [errW_none, errW_some] <;> rfl) | (simp [*, errW_none, errW_some] <;> rfl), by repeat (first | (with_reducible first | exact HB.out | apply below_alloc | apply pw_below_drewN | apply below_drew1) | exact HB.out)⟩
                            · rw [if_neg c16] at H
                              have c16b0 : decide (6 ≤ (rd t265 x7_3)) = false := decide_eq_false c16
                              clear c16
                              have H' := Aside0.mk H
                              clear H
                              obtain ⟨Ao18, co18, eo18⟩ := Kd.R_slice HO_6.out
                              subst eo18
                              have p268 : 0 ≤ (x7_3 : Int) := of_decide_eq_true (by first | (with_reducible assumption) | assumption)
                              have q268 : x7_3 < (t265.length : Int) := of_decide_eq_true (by first | (with_reducible assumption) | assumption)
                              obtain ⟨ad268, e268, hx268_0⟩ := Kd.at_int (Kd.R_reads' HO_6.out).2.2 x7_3 p268 q268
                              cases e268
                              replace p268 := eq_true p268
                              replace q268 := eq_true q268
                              go_wp2
                              go_roundg k3
                              case measure => have := HK1.out; have := HK2.out; have := HK3.out; omega
                              case rel => exact ⟨(wrap64 (x7_3 + 1)), (by first | (with_reducible rfl) | (simp; done) | (simp [*]; done) | rfl | (simp only [not_isEmpty_bne])), H', ⟨by have := HK1.out; have := HK2.out; have := HK3.out; omega⟩, ⟨by (with_reducible repeat (first | apply Kd.R_alloc | apply Kd.R_drewN | apply Kd.R_drew)); exact HO_6.out⟩, ⟨by repeat (first | (with_reducible first | exact HB.out | apply below_alloc | apply pw_below_drewN | apply below_drew1) | exact HB.out)⟩⟩
                          · rw [if_neg c15] at H
                            exact absurd H (by simp)
                        · rw [if_neg c14] at H
                          have c14b0 : decide (x7_3 < (t265.length : Int)) = false := decide_eq_false c14
                          clear c14
                          have H' := Aside0.mk H
                          clear H
                          obtain ⟨Ao19, co19, eo19⟩ := Kd.R_slice HO_6.out
                          subst eo19
                          go_wp2
                          go_roundg k3
                          case measure => have := HK1.out; have := HK2.out; have := HK3.out; omega
                          case rel => exact ⟨(wrap64 (x5_2 + 1)), (by first | (with_reducible rfl) | (simp; done) | (simp [*]; done) | rfl | (simp only [not_isEmpty_bne])), H', ⟨by have := HK1.out; have := HK2.out; have := HK3.out; omega⟩, ⟨by repeat (first | (with_reducible first | exact HB.out | apply below_alloc | apply pw_below_drewN | apply below_drew1) | exact HB.out)⟩⟩
                  · rw [if_neg c11] at H
                    exact absurd H (by simp)
                · rw [if_neg c10] at H
                  have c10b0 : decide (x5_2 < (l0.length : Int)) = false := decide_eq_false c10
                  clear c10
                  have H' := Aside0.mk H
                  clear H
                  go_wp2
                  go_loopg [8] k2 (fun kq v8 w' => ∃ (x8_3 : Int), v8 = .int .i64 x8_3 ∧ Aside0 (factotumref15_Check.l3 kq l0 x8_3 = some (r1, r2)) ∧ Aside0 (kq ≤ k2) ∧ Aside0 (Below w.heap.size w w'))
                  case atStart => exact ⟨(0), (by first | (with_reducible rfl) | (simp; done) | (simp [*]; done) | rfl | (simp only [not_isEmpty_bne])), H', ⟨Nat.le_refl _⟩, ⟨by repeat (first | (with_reducible first | exact HB.out | apply below_alloc | apply pw_below_drewN | apply below_drew1) | exact HB.out)⟩⟩
                  case round =>
                    clear H'
                    try clear c1
                    try clear c2
                    try clear c2b0
                    try clear c2b1
                    try clear c2b2
                    try clear p2
                    try clear q2
                    try clear hx2
                    try clear c3
                    try clear c3b0
                    try clear c3b1
                    try clear c4
                    try clear c4b0
                    try clear c5
                    try clear c5b0
                    try clear p6
                    try clear c7
                    try clear c10
                    try clear c10b0
                    try clear c11
                    try clear c11b0
                    try clear c14
                    try clear c14b0
                    try clear c15
                    try clear c15b0
                    try clear c16
                    try clear c16b0
                    try clear hx262_0
                    try clear hx262_1
                    try clear hx262_2
                    try clear hx262_3
                    try clear hx262_4
                    try clear hx262_5
                    try clear hx262_6
                    try clear hx264_0
                    try clear hx264_1
                    try clear hx264_2
                    try clear hx264_3
                    try clear hx264_4
                    try clear hx264_5
                    try clear hx264_6
                    try clear hx268_0
                    try clear p2
                    try clear p262
                    try clear p264
                    try clear p268
                    try clear p6
                    try clear q2
                    try clear q262
                    try clear q264
                    try clear q268
                    obtain ⟨x8_3, rfl, HA, HK3, HB⟩ := hrel
                    cases gk with
                    | zero => exact absurd HA.out (by simp [factotumref15_Check.l3])
                    | succ k3 =>
                      have H := HA.out
                      clear HA
                      simp only [factotumref15_Check.l3] at H
                      by_cases c20 : x8_3 < (l0.length : Int)
                      · rw [if_pos c20] at H
                        have c20b0 : decide (x8_3 < (l0.length : Int)) = true := decide_eq_true c20
                        clear c20
                        by_cases c21 : 0 ≤ x8_3
                        · rw [if_pos c21] at H
                          have c21b0 : decide (0 ≤ x8_3) = true := decide_eq_true c21
                          clear c21
                          replace H := Option.bind_eq_some_iff.mp H
                          obtain ⟨⟨t270, t271⟩, A220, H⟩ := H
                          replace H : (if t271 = true then (if t270 ≥ (l0.length : Int) then (some (7, x8_3)) else (factotumref15_Check.l3 k3 l0 (wrap64 (x8_3 + 1)))) else (factotumref15_Check.l3 k3 l0 (wrap64 (x8_3 + 1)))) = some (r1, r2) := H
                          have A22 := Aside0.mk A220
                          clear A220
                          by_cases c23 : t271 = true
                          · subst c23
                            have H1 : (if t270 ≥ (l0.length : Int) then (some (7, x8_3)) else (factotumref15_Check.l3 k3 l0 (wrap64 (x8_3 + 1)))) = some (r1, r2) := by rw [if_pos rfl] at H; exact H
                            clear H
                            have H := H1
                            clear H1
                            by_cases c24 : t270 ≥ (l0.length : Int)
                            · rw [if_pos c24] at H
                              have c24b0 : decide ((l0.length : Int) ≤ t270) = true := decide_eq_true c24
                              clear c24
                              simp only [Option.some.injEq, Prod.mk.injEq] at H
                              obtain ⟨rfl, rfl⟩ := H
                              have p269 : 0 ≤ (x8_3 : Int) := of_decide_eq_true (by first | (with_reducible assumption) | assumption)
                              have q269 : x8_3 < (l0.length : Int) := of_decide_eq_true (by first | (with_reducible assumption) | assumption)
                              obtain ⟨ad269, e269, hx269_0, hx269_1, hx269_2, hx269_3, hx269_4, hx269_5, hx269_6⟩ := at_T32 HR0.out x8_3 p269 q269
                              cases e269
                              replace hx269_0 := (HB.out.cell (World.block_lt_of_cell? w _ hx269_0)).trans hx269_0
                              replace hx269_1 := (HB.out.cell (World.block_lt_of_cell? w _ hx269_1)).trans hx269_1
                              replace hx269_2 := (HB.out.cell (World.block_lt_of_cell? w _ hx269_2)).trans hx269_2
                              replace hx269_3 := (HB.out.cell (World.block_lt_of_cell? w _ hx269_3)).trans hx269_3
                              replace hx269_4 := (HB.out.cell (World.block_lt_of_cell? w _ hx269_4)).trans hx269_4
                              replace hx269_5 := (HB.out.cell (World.block_lt_of_cell? w _ hx269_5)).trans hx269_5
                              replace hx269_6 := (HB.out.cell (World.block_lt_of_cell? w _ hx269_6)).trans hx269_6
                              replace p269 := eq_true p269
                              replace q269 := eq_true q269
                              go_wp2_with (first | ((with_reducible refine gate_callee (f := 12) rfl ?_); refine goesL_ (some 64) rfl rfl Tryd.func12 (by kernel_rfl) rfl #[.agg #[.int .i64 ((rd_T32 l0 x8_3).f0), .int .i64 ((rd_T32 l0 x8_3).f1), .int .i64 ((rd_T32 l0 x8_3).f2), .int .i64 ((rd_T32 l0 x8_3).f3), .int .i64 ((rd_T32 l0 x8_3).f4.f0), .int .i64 ((rd_T32 l0 x8_3).f4.f1), .string ((rd_T32 l0 x8_3).f4.f2)]] rfl (by (try simp only [List.map_toArray, List.map_cons, List.map_nil]); first | done | rfl | (simp only [List.length_drop, List.length_take]; rfl) | (simp (disch := omega) only [u64_in]; rfl)) ?_; (with_reducible refine (factotumref15_Target.calls ((rd_T32 l0 x8_3).f0) ((rd_T32 l0 x8_3).f1) ((rd_T32 l0 x8_3).f2) ((rd_T32 l0 x8_3).f3) ((rd_T32 l0 x8_3).f4.f0) ((rd_T32 l0 x8_3).f4.f1) ((rd_T32 l0 x8_3).f4.f2) t270 true _ A22.out).mono ?_); rintro e w25 ⟨rfl, hb⟩; refine ⟨_, rfl, ?_⟩; have n0_ := Aside0.mk (below_step (by repeat (first | (with_reducible first | exact HB.out | apply below_alloc | apply pw_below_drewN | apply below_drew1) | exact HB.out)) hb); clear HB; have HB := n0_; clear n0_; (try clear hb); (try clear hb2); (try clear hk); (try clear hi)))
                              go_ret2
                              exact ⟨by first | (with_reducible rfl) | (simp only [isEmpty_bne, Bool.not_not] <;> with_reducible rfl) | (simp [errW_none, errW_some] <;> with_reducible rfl) | (simp only [isEmpty_bne, Bool.not_not] <;> rfl) | rfl | (simp [errW_none, errW_some] <;> rfl) | (simp [*, errW_none, errW_some] <;> rfl), by repeat (first | (with_reducible first | exact HB.out | apply below_alloc | apply pw_below_drewN | apply below_drew1) | exact HB.out)⟩
                            · rw [if_neg c24] at H
                              have c24b0 : decide ((l0.length : Int) ≤ t270) = false := decide_eq_false c24
                              clear c24
                              have H' := Aside0.mk H
                              clear H
                              have p269 : 0 ≤ (x8_3 : Int) := of_decide_eq_true (by first | (with_reducible assumption) | assumption)
                              have q269 : x8_3 < (l0.length : Int) := of_decide_eq_true (by first | (with_reducible assumption) | assumption)
                              obtain ⟨ad269, e269, hx269_0, hx269_1, hx269_2, hx269_3, hx269_4, hx269_5, hx269_6⟩ := at_T32 HR0.out x8_3 p269 q269
                              cases e269
                              replace hx269_0 := (HB.out.cell (World.block_lt_of_cell? w _ hx269_0)).trans hx269_0
                              replace hx269_1 := (HB.out.cell (World.block_lt_of_cell? w _ hx269_1)).trans hx269_1
                              replace hx269_2 := (HB.out.cell (World.block_lt_of_cell? w _ hx269_2)).trans hx269_2
                              replace hx269_3 := (HB.out.cell (World.block_lt_of_cell? w _ hx269_3)).trans hx269_3
                              replace hx269_4 := (HB.out.cell (World.block_lt_of_cell? w _ hx269_4)).trans hx269_4
                              replace hx269_5 := (HB.out.cell (World.block_lt_of_cell? w _ hx269_5)).trans hx269_5
                              replace hx269_6 := (HB.out.cell (World.block_lt_of_cell? w _ hx269_6)).trans hx269_6
                              replace p269 := eq_true p269
                              replace q269 := eq_true q269
                              go_wp2_with (first | ((with_reducible refine gate_callee (f := 12) rfl ?_); refine goesL_ (some 64) rfl rfl Tryd.func12 (by kernel_rfl) rfl #[.agg #[.int .i64 ((rd_T32 l0 x8_3).f0), .int .i64 ((rd_T32 l0 x8_3).f1), .int .i64 ((rd_T32 l0 x8_3).f2), .int .i64 ((rd_T32 l0 x8_3).f3), .int .i64 ((rd_T32 l0 x8_3).f4.f0), .int .i64 ((rd_T32 l0 x8_3).f4.f1), .string ((rd_T32 l0 x8_3).f4.f2)]] rfl (by (try simp only [List.map_toArray, List.map_cons, List.map_nil]); first | done | rfl | (simp only [List.length_drop, List.length_take]; rfl) | (simp (disch := omega) only [u64_in]; rfl)) ?_; (with_reducible refine (factotumref15_Target.calls ((rd_T32 l0 x8_3).f0) ((rd_T32 l0 x8_3).f1) ((rd_T32 l0 x8_3).f2) ((rd_T32 l0 x8_3).f3) ((rd_T32 l0 x8_3).f4.f0) ((rd_T32 l0 x8_3).f4.f1) ((rd_T32 l0 x8_3).f4.f2) t270 true _ A22.out).mono ?_); rintro e w26 ⟨rfl, hb⟩; refine ⟨_, rfl, ?_⟩; have n0_ := Aside0.mk (below_step (by repeat (first | (with_reducible first | exact HB.out | apply below_alloc | apply pw_below_drewN | apply below_drew1) | exact HB.out)) hb); clear HB; have HB := n0_; clear n0_; (try clear hb); (try clear hb2); (try clear hk); (try clear hi)))
                              go_roundg k3
                              case measure => have := HK1.out; have := HK2.out; have := HK3.out; omega
                              case rel => exact ⟨(wrap64 (x8_3 + 1)), (by first | (with_reducible rfl) | (simp; done) | (simp [*]; done) | rfl | (simp only [not_isEmpty_bne])), H', ⟨by have := HK1.out; have := HK2.out; have := HK3.out; omega⟩, ⟨by repeat (first | (with_reducible first | exact HB.out | apply below_alloc | apply pw_below_drewN | apply below_drew1) | exact HB.out)⟩⟩
                          · replace c23 := Bool.eq_false_iff.mpr c23
                            subst c23
                            have H1 : (factotumref15_Check.l3 k3 l0 (wrap64 (x8_3 + 1))) = some (r1, r2) := by rw [if_neg (show ¬ (false = true) by decide)] at H; exact H
                            clear H
                            have H := H1
                            clear H1
                            have H' := Aside0.mk H
                            clear H
                            have p269 : 0 ≤ (x8_3 : Int) := of_decide_eq_true (by first | (with_reducible assumption) | assumption)
                            have q269 : x8_3 < (l0.length : Int) := of_decide_eq_true (by first | (with_reducible assumption) | assumption)
                            obtain ⟨ad269, e269, hx269_0, hx269_1, hx269_2, hx269_3, hx269_4, hx269_5, hx269_6⟩ := at_T32 HR0.out x8_3 p269 q269
                            cases e269
                            replace hx269_0 := (HB.out.cell (World.block_lt_of_cell? w _ hx269_0)).trans hx269_0
                            replace hx269_1 := (HB.out.cell (World.block_lt_of_cell? w _ hx269_1)).trans hx269_1
                            replace hx269_2 := (HB.out.cell (World.block_lt_of_cell? w _ hx269_2)).trans hx269_2
                            replace hx269_3 := (HB.out.cell (World.block_lt_of_cell? w _ hx269_3)).trans hx269_3
                            replace hx269_4 := (HB.out.cell (World.block_lt_of_cell? w _ hx269_4)).trans hx269_4
                            replace hx269_5 := (HB.out.cell (World.block_lt_of_cell? w _ hx269_5)).trans hx269_5
                            replace hx269_6 := (HB.out.cell (World.block_lt_of_cell? w _ hx269_6)).trans hx269_6
                            replace p269 := eq_true p269
                            replace q269 := eq_true q269
                            go_wp2_with (first | ((with_reducible refine gate_callee (f := 12) rfl ?_); refine goesL_ (some 64) rfl rfl Tryd.func12 (by kernel_rfl) rfl #[.agg #[.int .i64 ((rd_T32 l0 x8_3).f0), .int .i64 ((rd_T32 l0 x8_3).f1), .int .i64 ((rd_T32 l0 x8_3).f2), .int .i64 ((rd_T32 l0 x8_3).f3), .int .i64 ((rd_T32 l0 x8_3).f4.f0), .int .i64 ((rd_T32 l0 x8_3).f4.f1), .string ((rd_T32 l0 x8_3).f4.f2)]] rfl (by (try simp only [List.map_toArray, List.map_cons, List.map_nil]); first | done | rfl | (simp only [List.length_drop, List.length_take]; rfl) | (simp (disch := omega) only [u64_in]; rfl)) ?_; (with_reducible refine (factotumref15_Target.calls ((rd_T32 l0 x8_3).f0) ((rd_T32 l0 x8_3).f1) ((rd_T32 l0 x8_3).f2) ((rd_T32 l0 x8_3).f3) ((rd_T32 l0 x8_3).f4.f0) ((rd_T32 l0 x8_3).f4.f1) ((rd_T32 l0 x8_3).f4.f2) t270 false _ A22.out).mono ?_); rintro e w27 ⟨rfl, hb⟩; refine ⟨_, rfl, ?_⟩; have n0_ := Aside0.mk (below_step (by repeat (first | (with_reducible first | exact HB.out | apply below_alloc | apply pw_below_drewN | apply below_drew1) | exact HB.out)) hb); clear HB; have HB := n0_; clear n0_; (try clear hb); (try clear hb2); (try clear hk); (try clear hi)))
                            go_roundg k3
                            case measure => have := HK1.out; have := HK2.out; have := HK3.out; omega
                            case rel => exact ⟨(wrap64 (x8_3 + 1)), (by first | (with_reducible rfl) | (simp; done) | (simp [*]; done) | rfl | (simp only [not_isEmpty_bne])), H', ⟨by have := HK1.out; have := HK2.out; have := HK3.out; omega⟩, ⟨by repeat (first | (with_reducible first | exact HB.out | apply below_alloc | apply pw_below_drewN | apply below_drew1) | exact HB.out)⟩⟩
                        · rw [if_neg c21] at H
                          exact absurd H (by simp)
                      · rw [if_neg c20] at H
                        have c20b0 : decide (x8_3 < (l0.length : Int)) = false := decide_eq_false c20
                        clear c20
                        obtain ⟨ji28, hji28⟩ : ∃ j_ : Int, (wrap64 ((l0.length : Int) - 1)) = j_ := ⟨_, rfl⟩
                        replace H : (if 0 ≤ (ji28) then (if (ji28) < (l0.length : Int) then ((factotumref15_ends.f ((rd_T32 l0 (ji28)).f0) ((rd_T32 l0 (ji28)).f1) ((rd_T32 l0 (ji28)).f2) ((rd_T32 l0 (ji28)).f3) ((rd_T32 l0 (ji28)).f4.f0) ((rd_T32 l0 (ji28)).f4.f1) ((rd_T32 l0 (ji28)).f4.f2)).bind fun t273 => (if t273 = true then (some (0, 0)) else (some (13, ji28)))) else (none)) else (none)) = some (r1, r2) := by first | (rw [hji28] at H; exact H) | (simp only [hji28] at H ⊢; exact H)
                        have hji28w : (IntKind.i64.wrap ((l0.length : Int) - 1)) = ji28 := (i64_w _).trans hji28
                        by_cases c29 : 0 ≤ (ji28)
                        · rw [if_pos c29] at H
                          have c29b0 : decide (0 ≤ (ji28)) = true := decide_eq_true c29
                          clear c29
                          by_cases c30 : (ji28) < (l0.length : Int)
                          · rw [if_pos c30] at H
                            have c30b0 : decide ((ji28) < (l0.length : Int)) = true := decide_eq_true c30
                            clear c30
                            replace H := Option.bind_eq_some_iff.mp H
                            obtain ⟨t273, A310, H⟩ := H
                            replace H : (if t273 = true then (some (0, 0)) else (some (13, ji28))) = some (r1, r2) := H
                            have A31 := Aside0.mk A310
                            clear A310
                            by_cases c32 : t273 = true
                            · subst c32
                              have H1 : (some (0, 0)) = some (r1, r2) := by rw [if_pos rfl] at H; exact H
                              clear H
                              have H := H1
                              clear H1
                              simp only [Option.some.injEq, Prod.mk.injEq] at H
                              obtain ⟨rfl, rfl⟩ := H
                              have p272 : 0 ≤ ((ji28) : Int) := of_decide_eq_true (by first | (with_reducible assumption) | assumption)
                              have q272 : (ji28) < (l0.length : Int) := of_decide_eq_true (by first | (with_reducible assumption) | assumption)
                              obtain ⟨ad272, e272, hx272_0, hx272_1, hx272_2, hx272_3, hx272_4, hx272_5, hx272_6⟩ := at_T32 HR0.out (ji28) p272 q272
                              cases e272
                              replace hx272_0 := (HB.out.cell (World.block_lt_of_cell? w _ hx272_0)).trans hx272_0
                              replace hx272_1 := (HB.out.cell (World.block_lt_of_cell? w _ hx272_1)).trans hx272_1
                              replace hx272_2 := (HB.out.cell (World.block_lt_of_cell? w _ hx272_2)).trans hx272_2
                              replace hx272_3 := (HB.out.cell (World.block_lt_of_cell? w _ hx272_3)).trans hx272_3
                              replace hx272_4 := (HB.out.cell (World.block_lt_of_cell? w _ hx272_4)).trans hx272_4
                              replace hx272_5 := (HB.out.cell (World.block_lt_of_cell? w _ hx272_5)).trans hx272_5
                              replace hx272_6 := (HB.out.cell (World.block_lt_of_cell? w _ hx272_6)).trans hx272_6
                              replace p272 := eq_true p272
                              replace q272 := eq_true q272
                              go_wp2_with (first | ((with_reducible refine gate_callee (f := 26) rfl ?_); refine goesL_ (some 81) rfl rfl Tryd.func26 (by kernel_rfl) rfl #[.agg #[.int .i64 ((rd_T32 l0 (ji28)).f0), .int .i64 ((rd_T32 l0 (ji28)).f1), .int .i64 ((rd_T32 l0 (ji28)).f2), .int .i64 ((rd_T32 l0 (ji28)).f3), .int .i64 ((rd_T32 l0 (ji28)).f4.f0), .int .i64 ((rd_T32 l0 (ji28)).f4.f1), .string ((rd_T32 l0 (ji28)).f4.f2)]] rfl (by (try simp only [List.map_toArray, List.map_cons, List.map_nil]); first | done | (simp only [hji28]; rfl) | rfl | (simp only [List.length_drop, List.length_take]; rfl) | (simp (disch := omega) only [u64_in]; rfl)) ?_; (with_reducible refine (factotumref15_ends.calls ((rd_T32 l0 (ji28)).f0) ((rd_T32 l0 (ji28)).f1) ((rd_T32 l0 (ji28)).f2) ((rd_T32 l0 (ji28)).f3) ((rd_T32 l0 (ji28)).f4.f0) ((rd_T32 l0 (ji28)).f4.f1) ((rd_T32 l0 (ji28)).f4.f2) true _ A31.out).mono ?_); rintro e w33 ⟨rfl, hb⟩; refine ⟨_, rfl, ?_⟩; have n0_ := Aside0.mk (below_step (by repeat (first | (with_reducible first | exact HB.out | apply below_alloc | apply pw_below_drewN | apply below_drew1) | exact HB.out)) hb); clear HB; have HB := n0_; clear n0_; (try clear hb); (try clear hb2); (try clear hk); (try clear hi)))
                              go_ret2
                              exact ⟨by first | (with_reducible rfl) | (simp only [isEmpty_bne, Bool.not_not] <;> with_reducible rfl) | (simp [errW_none, errW_some] <;> with_reducible rfl) | (simp only [isEmpty_bne, Bool.not_not] <;> rfl) | rfl | (simp [errW_none, errW_some] <;> rfl) | (simp only [← hji28]; first | rfl | (simp [errW_none, errW_some] <;> rfl)) | (simp [*, errW_none, errW_some] <;> rfl), by repeat (first | (with_reducible first | exact HB.out | apply below_alloc | apply pw_below_drewN | apply below_drew1) | exact HB.out)⟩
                            · replace c32 := Bool.eq_false_iff.mpr c32
                              subst c32
                              have H1 : (some (13, ji28)) = some (r1, r2) := by rw [if_neg (show ¬ (false = true) by decide)] at H; exact H
                              clear H
                              have H := H1
                              clear H1
                              simp only [Option.some.injEq, Prod.mk.injEq] at H
                              obtain ⟨rfl, rfl⟩ := H
                              have p272 : 0 ≤ ((ji28) : Int) := of_decide_eq_true (by first | (with_reducible assumption) | assumption)
                              have q272 : (ji28) < (l0.length : Int) := of_decide_eq_true (by first | (with_reducible assumption) | assumption)
                              obtain ⟨ad272, e272, hx272_0, hx272_1, hx272_2, hx272_3, hx272_4, hx272_5, hx272_6⟩ := at_T32 HR0.out (ji28) p272 q272
                              cases e272
                              replace hx272_0 := (HB.out.cell (World.block_lt_of_cell? w _ hx272_0)).trans hx272_0
                              replace hx272_1 := (HB.out.cell (World.block_lt_of_cell? w _ hx272_1)).trans hx272_1
                              replace hx272_2 := (HB.out.cell (World.block_lt_of_cell? w _ hx272_2)).trans hx272_2
                              replace hx272_3 := (HB.out.cell (World.block_lt_of_cell? w _ hx272_3)).trans hx272_3
                              replace hx272_4 := (HB.out.cell (World.block_lt_of_cell? w _ hx272_4)).trans hx272_4
                              replace hx272_5 := (HB.out.cell (World.block_lt_of_cell? w _ hx272_5)).trans hx272_5
                              replace hx272_6 := (HB.out.cell (World.block_lt_of_cell? w _ hx272_6)).trans hx272_6
                              replace p272 := eq_true p272
                              replace q272 := eq_true q272
                              go_wp2_with (first | ((with_reducible refine gate_callee (f := 26) rfl ?_); refine goesL_ (some 81) rfl rfl Tryd.func26 (by kernel_rfl) rfl #[.agg #[.int .i64 ((rd_T32 l0 (ji28)).f0), .int .i64 ((rd_T32 l0 (ji28)).f1), .int .i64 ((rd_T32 l0 (ji28)).f2), .int .i64 ((rd_T32 l0 (ji28)).f3), .int .i64 ((rd_T32 l0 (ji28)).f4.f0), .int .i64 ((rd_T32 l0 (ji28)).f4.f1), .string ((rd_T32 l0 (ji28)).f4.f2)]] rfl (by (try simp only [List.map_toArray, List.map_cons, List.map_nil]); first | done | (simp only [hji28]; rfl) | rfl | (simp only [List.length_drop, List.length_take]; rfl) | (simp (disch := omega) only [u64_in]; rfl)) ?_; (with_reducible refine (factotumref15_ends.calls ((rd_T32 l0 (ji28)).f0) ((rd_T32 l0 (ji28)).f1) ((rd_T32 l0 (ji28)).f2) ((rd_T32 l0 (ji28)).f3) ((rd_T32 l0 (ji28)).f4.f0) ((rd_T32 l0 (ji28)).f4.f1) ((rd_T32 l0 (ji28)).f4.f2) false _ A31.out).mono ?_); rintro e w34 ⟨rfl, hb⟩; refine ⟨_, rfl, ?_⟩; have n0_ := Aside0.mk (below_step (by repeat (first | (with_reducible first | exact HB.out | apply below_alloc | apply pw_below_drewN | apply below_drew1) | exact HB.out)) hb); clear HB; have HB := n0_; clear n0_; (try clear hb); (try clear hb2); (try clear hk); (try clear hi)))
                              go_ret2
                              exact ⟨by first | (with_reducible rfl) | (simp only [isEmpty_bne, Bool.not_not] <;> with_reducible rfl) | (simp [errW_none, errW_some] <;> with_reducible rfl) | (simp only [isEmpty_bne, Bool.not_not] <;> rfl) | rfl | (simp [errW_none, errW_some] <;> rfl) | (simp only [← hji28]; first | rfl | (simp [errW_none, errW_some] <;> rfl)) | (simp [*, errW_none, errW_some] <;> rfl), by repeat (first | (with_reducible first | exact HB.out | apply below_alloc | apply pw_below_drewN | apply below_drew1) | exact HB.out)⟩
                          · rw [if_neg c30] at H
                            exact absurd H (by simp)
                        · rw [if_neg c29] at H
                          exact absurd H (by simp)

end Go.Proofs.YtbdmfpgiolaooaaDoor.PAll
