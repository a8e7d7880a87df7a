/- Printed walks of the functions that the laws reach: each function, what it computes, and that it does. No conditions. -/
import Derived.Test.YtekaeddagaejiaaDoorPAllx0
import Derived.Test.YtekaeddagaejiaaDoorPAllx3
import Derived.Test.YtekaeddagaejiaaDoorPAllx7
import Derived.Test.YtekaeddagaejiaaDoorPAllx10
import Derived.Test.YtekaeddagaejiaaDoorPAllx11
namespace Go.Proofs.YtekaeddagaejiaaDoor.PAll
open Go.RowKit Go.Proofs.YtekaeddagaejiaaDoor.XW Go.Proofs.YtekaeddagaejiaaDoor.XLib Go.Proofs.YtekaeddagaejiaaDoorW.PrintWords Go.Proofs.YtekaeddagaejiaaDoorW.PrintLast Go.Proofs.YtekaeddagaejiaaDoorW.PrintMore
attribute [local go_sem] max2_int min2_int max_two min_two max_three min_three max_four min_four   -- for this text's walks alone
set_option linter.unusedVariables false
set_option linter.unusedSimpArgs false

/-! ### factotumref02_text: function 63 -/
def factotumref02_text.l0 : Nat → ByteArray → List Int → Int → Option (ByteArray × Int × Int)
  | 0, _, _, _ => none
  | k + 1, x0, x5, x6 => if x6 < (x0.size : Int) then (if 0 ≤ x6 then (if (bt x0 x6) = 0 then (if (wrap64 (x6 + 1)) = (x0.size : Int) then (some ((⟨#[]⟩ : ByteArray), 0, 2)) else (if 0 ≤ (wrap64 (x6 + 1)) then (if (wrap64 (x6 + 1)) < (x0.size : Int) then (if (bt x0 (wrap64 (x6 + 1))) = 1 then (some (strOfNums x5, wrap64 ((wrap64 (x6 + 1)) + 1), 0)) else (if (bt x0 (wrap64 (x6 + 1))) = 255 then (if x5.length < 140737488355328 then (factotumref02_text.l0 k x0 (x5 ++ [0]) (wrap64 ((wrap64 (x6 + 1)) + 1))) else (none)) else (some ((⟨#[]⟩ : ByteArray), 0, 5)))) else (none)) else (none))) else (if x5.length < 140737488355328 then (factotumref02_text.l0 k x0 (x5 ++ [bt x0 x6]) (wrap64 (x6 + 1))) else (none))) else (none)) else (some ((⟨#[]⟩ : ByteArray), 0, 2))
def factotumref02_text.f (k : Nat) (a0 : ByteArray) : Option (ByteArray × Int × Int) := factotumref02_text.l0 k a0 ([] : List Int) 0
theorem factotumref02_text.mono_l : ∀ k, (∀ y0 y1 y2, LeO (factotumref02_text.l0 k y0 y1 y2) (factotumref02_text.l0 (k + 1) y0 y1 y2))
  | 0 => fun _ _ _ r h => by simp [factotumref02_text.l0] at h
  | k + 1 => by
    have ih0 := factotumref02_text.mono_l k
    · intro y0 y1 y2
      unfold factotumref02_text.l0
      repeat' first
      | (with_reducible exact ih0 _ _ _)
      | (with_reducible exact LeO.refl _)
      | (with_reducible exact LeO.none _)
      | (with_reducible refine LeO.ite ?_ ?_)
      | (with_reducible refine LeO.bind ?_ (fun _ => ?_))
      | exact ih0 _ _ _
      | exact LeO.none _
      | refine LeO.ite ?_ ?_
      | refine LeO.bind ?_ (fun _ => ?_)
theorem factotumref02_text.mono : ∀ a0 k, LeO (factotumref02_text.f k a0) (factotumref02_text.f (k + 1) a0) := by
  intro a0 k
  have ih0 := factotumref02_text.mono_l k
  unfold factotumref02_text.f
  repeat' first
      | (with_reducible exact ih0 _ _ _)
      | (with_reducible exact LeO.refl _)
      | (with_reducible exact LeO.none _)
      | (with_reducible refine LeO.ite ?_ ?_)
      | (with_reducible refine LeO.bind ?_ (fun _ => ?_))
      | exact ih0 _ _ _
      | exact LeO.none _
      | refine LeO.ite ?_ ?_
      | refine LeO.bind ?_ (fun _ => ?_)
set_option maxHeartbeats 8000000 in
set_option maxRecDepth 100000 in
theorem factotumref02_text.calls (k : Nat) (a0 : ByteArray) (r1 : ByteArray) (r2 : Int) (r3 : Int) (w : World) (h : factotumref02_text.f k a0 = some (r1, r2, r3)) :
    Calls Tryd.prog 63 #[.string a0] w fun e w' => e = .returned (.tuple #[.string r1, .int .i64 r2, .int .i64 r3]) ∧ Below w.heap.size w w' := by
  have HB := Aside0.mk (Below.refl w.heap.size w)
  have H : (factotumref02_text.l0 k a0 ([] : List Int) 0) = some (r1, r2, r3) := h
  clear h
  have H' := Aside0.mk H
  clear H
  go_enter Tryd.func63, Tryd.ntmps63
  go_wp2
  go_loopg [5, 6] k (fun kq v5 v6 w' => ∃ (x5_1 : List Int) (x6_1 : Int), v6 = .int .i64 x6_1 ∧ Aside0 (factotumref02_text.l0 kq a0 x5_1 x6_1 = some (r1, r2, r3)) ∧ Aside0 (kq ≤ k) ∧ Aside0 (Kd.R (Kd.int .u8) 5 w' w.heap.size (fun _ => True) v5 x5_1) ∧ Aside0 (Below w.heap.size w w'))
  case atStart => exact ⟨(([] : List Int)), (0), (by first | (with_reducible rfl) | (simp; done) | (simp [*]; done) | rfl), H', ⟨Nat.le_refl _⟩, ⟨by first | exact Kd.R_nil _ _ _ _ _ | exact Kd.N_nil _ _ _ _ _ | exact Kd.V_nil _ _ _ _ _ | exact Kd.Q_nil _ _ _ _ _ | exact Kd.S_nil _ _ _ _ _⟩, ⟨by repeat (first | (with_reducible first | exact HB.out | apply below_alloc | apply pw_below_drewN | apply below_drew1) | exact HB.out)⟩⟩
  case round =>
    clear H'
    obtain ⟨x5_1, x6_1, rfl, HA, HK1, HO_5, HB⟩ := hrel
    cases gk with
    | zero => exact absurd HA.out (by simp [factotumref02_text.l0])
    | succ k1 =>
      have H := HA.out
      clear HA
      simp only [factotumref02_text.l0] at H
      by_cases c2 : x6_1 < (a0.size : Int)
      · rw [if_pos c2] at H
        have c2b0 : decide (x6_1 < (a0.size : Int)) = true := decide_eq_true c2
        clear c2
        by_cases c3 : 0 ≤ x6_1
        · rw [if_pos c3] at H
          have c3b0 : decide (0 ≤ x6_1) = true := decide_eq_true c3
          clear c3
          by_cases c5 : (bt a0 x6_1) = 0
          · rw [if_pos c5] at H
            have c5b0 : ((bt a0 x6_1) == 0) = true := beq_iff_eq.mpr c5
            have c5b1 : ((bt a0 x6_1) != 0) = false := bne_eq_false_iff_eq.mpr c5
            clear c5
            by_cases c6 : (wrap64 (x6_1 + 1)) = (a0.size : Int)
            · rw [if_pos c6] at H
              have c6b0 : ((wrap64 (x6_1 + 1)) == (a0.size : Int)) = true := beq_iff_eq.mpr c6
              have c6b1 : ((wrap64 (x6_1 + 1)) != (a0.size : Int)) = false := bne_eq_false_iff_eq.mpr c6
              clear c6
              simp only [Option.some.injEq, Prod.mk.injEq] at H
              obtain ⟨rfl, rfl, rfl⟩ := H
              have p4 : 0 ≤ (x6_1 : Int) := of_decide_eq_true (by first | (with_reducible assumption) | assumption)
              have q4 : x6_1 < (a0.size : Int) := of_decide_eq_true (by first | (with_reducible assumption) | assumption)
              have hx4 := bt_at a0 x6_1
              replace p4 := eq_true p4
              replace q4 := eq_true q4
              go_wp2
              go_ret3
              exact ⟨by first | (with_reducible rfl) | (simp only [isEmpty_bne, Bool.not_not] <;> with_reducible rfl) | (simp [errW_none, errW_some] <;> with_reducible rfl) | (simp only [isEmpty_bne, Bool.not_not] <;> rfl) | rfl | (simp [errW_none, errW_some] <;> rfl) | (simp [*, errW_none, errW_some] <;> rfl), by repeat (first | (with_reducible first | exact HB.out | apply below_alloc | apply pw_below_drewN | apply below_drew1) | exact HB.out)⟩
            · rw [if_neg c6] at H
              have c6b0 : ((wrap64 (x6_1 + 1)) == (a0.size : Int)) = false := beq_eq_false_iff_ne.mpr c6
              have c6b1 : ((wrap64 (x6_1 + 1)) != (a0.size : Int)) = true := bne_iff_ne.mpr c6
              obtain ⟨ji7, hji7⟩ : ∃ j_ : Int, (wrap64 (x6_1 + 1)) = j_ := ⟨_, rfl⟩
              replace H : (if 0 ≤ (ji7) then (if (ji7) < (a0.size : Int) then (if (bt a0 (ji7)) = 1 then (some (strOfNums x5_1, wrap64 ((ji7) + 1), 0)) else (if (bt a0 (ji7)) = 255 then (if x5_1.length < 140737488355328 then (factotumref02_text.l0 k1 a0 (x5_1 ++ [0]) (wrap64 ((ji7) + 1))) else (none)) else (some ((⟨#[]⟩ : ByteArray), 0, 5)))) else (none)) else (none)) = some (r1, r2, r3) := by first | (rw [hji7] at H; exact H) | (simp only [hji7] at H ⊢; exact H)
              (try rw [hji7] at c6b0)
              (try rw [hji7] at c6b1)
              have hji7w : (IntKind.i64.wrap (x6_1 + 1)) = ji7 := (i64_w _).trans hji7
              by_cases c8 : 0 ≤ (ji7)
              · rw [if_pos c8] at H
                have c8b0 : decide (0 ≤ (ji7)) = true := decide_eq_true c8
                clear c8
                by_cases c9 : (ji7) < (a0.size : Int)
                · rw [if_pos c9] at H
                  have c9b0 : decide ((ji7) < (a0.size : Int)) = true := decide_eq_true c9
                  clear c9
                  by_cases c11 : (bt a0 (ji7)) = 1
                  · rw [if_pos c11] at H
                    have c11b0 : ((bt a0 (ji7)) == 1) = true := beq_iff_eq.mpr c11
                    have c11b1 : ((bt a0 (ji7)) != 1) = false := bne_eq_false_iff_eq.mpr c11
                    clear c11
                    simp only [Option.some.injEq, Prod.mk.injEq] at H
                    obtain ⟨rfl, rfl, rfl⟩ := H
                    have p4 : 0 ≤ (x6_1 : Int) := of_decide_eq_true (by first | (with_reducible assumption) | assumption)
                    have q4 : x6_1 < (a0.size : Int) := of_decide_eq_true (by first | (with_reducible assumption) | assumption)
                    have hx4 := bt_at a0 x6_1
                    replace p4 := eq_true p4
                    replace q4 := eq_true q4
                    have p10 : 0 ≤ ((ji7) : Int) := of_decide_eq_true (by first | (with_reducible assumption) | assumption)
                    have q10 : (ji7) < (a0.size : Int) := of_decide_eq_true (by first | (with_reducible assumption) | assumption)
                    have hx10 := bt_at a0 (ji7)
                    replace p10 := eq_true p10
                    replace q10 := eq_true q10
                    have hcv12 := own_string (P := Tryd.prog) Tryd.underlying58 Tryd.underlying5 Tryd.underlying9 (Kd.own_of_R HO_5.out)
                    go_wp2
                    go_ret3
                    exact ⟨by first | (with_reducible rfl) | (simp only [isEmpty_bne, Bool.not_not] <;> with_reducible rfl) | (simp [errW_none, errW_some] <;> with_reducible rfl) | (simp only [isEmpty_bne, Bool.not_not] <;> rfl) | rfl | (simp [errW_none, errW_some] <;> rfl) | (simp only [← hji7]; first | rfl | (simp [errW_none, errW_some] <;> rfl)) | (simp [*, errW_none, errW_some] <;> rfl), by repeat (first | (with_reducible first | exact HB.out | apply below_alloc | apply pw_below_drewN | apply below_drew1) | exact HB.out)⟩
                  · rw [if_neg c11] at H
                    have c11b0 : ((bt a0 (ji7)) == 1) = false := beq_eq_false_iff_ne.mpr c11
                    have c11b1 : ((bt a0 (ji7)) != 1) = true := bne_iff_ne.mpr c11
                    by_cases c14 : (bt a0 (ji7)) = 255
                    · rw [if_pos c14] at H
                      have c14b0 : ((bt a0 (ji7)) == 255) = true := beq_iff_eq.mpr c14
                      have c14b1 : ((bt a0 (ji7)) != 255) = false := bne_eq_false_iff_eq.mpr c14
                      clear c14
                      by_cases c15 : x5_1.length < 140737488355328
                      · rw [if_pos c15] at H
                        have LMc15 := Aside0.mk c15
                        clear c15
                        obtain ⟨y274, hy274⟩ : ∃ y_ : List Int, y_ = (x5_1 ++ [0]) := ⟨_, rfl⟩
                        replace H : (factotumref02_text.l0 k1 a0 y274 (wrap64 ((ji7) + 1))) = some (r1, r2, r3) := by first | (rw [hy274]; with_reducible exact H) | (have H2_ := (Option.bind_some _ _).symm.trans H; rw [hy274]; with_reducible exact H2_) | (have H2_ := (Option.bind_some _ _).symm.trans H; with_reducible exact H2_) | with_reducible exact H | (rw [hy274]; exact H) | exact H
                        have Ny274 := Aside0.mk hy274
                        clear hy274
                        have H' := Aside0.mk H
                        clear H
                        have p4 : 0 ≤ (x6_1 : Int) := of_decide_eq_true (by first | (with_reducible assumption) | assumption)
                        have q4 : x6_1 < (a0.size : Int) := of_decide_eq_true (by first | (with_reducible assumption) | assumption)
                        have hx4 := bt_at a0 x6_1
                        replace p4 := eq_true p4
                        replace q4 := eq_true q4
                        have p10 : 0 ≤ ((ji7) : Int) := of_decide_eq_true (by first | (with_reducible assumption) | assumption)
                        have q10 : (ji7) < (a0.size : Int) := of_decide_eq_true (by first | (with_reducible assumption) | assumption)
                        have hx10 := bt_at a0 (ji7)
                        replace p10 := eq_true p10
                        replace q10 := eq_true q10
                        have p13 : 0 ≤ ((ji7) : Int) := of_decide_eq_true (by first | (with_reducible assumption) | assumption)
                        have q13 : (ji7) < (a0.size : Int) := of_decide_eq_true (by first | (with_reducible assumption) | assumption)
                        have hx13 := bt_at a0 (ji7)
                        replace p13 := eq_true p13
                        replace q13 := eq_true q13
                        go_wp2_with (first | ((with_reducible refine gate_builtin (b := .append) (xs := #[.tmp 41, .tmp 42]) rfl ?_); at_builtin; refine Kd.R_append (Kd.int .u8) (w0 := w) w.heap.size rfl (.tmp 41) (.tmp 42) 58 5 (.int .u8 0) 1 rfl Tryd.underlying58 info5 rfl (by decide) (by omega) u5 x5_1 0 [.int .u8 0] (fun _ => True) (fun _ => False) rfl rfl ?aP (fun _ hk => hk.elim) ?aF ?aO ?aB ?aS ?aL ?_; (case aP => exact rfl); (case aB => exact (by repeat (first | (with_reducible first | exact HB.out | apply below_alloc | apply pw_below_drewN | apply below_drew1) | exact HB.out))); (case aF => exact (fun _ _ => trivial)); (case aO => exact (by (with_reducible repeat (first | apply Kd.R_alloc | apply Kd.R_drewN | apply Kd.R_drew)); exact HO_5.out)); (case aS => exact (below_size (by repeat (first | (with_reducible first | exact HB.out | apply below_alloc | apply pw_below_drewN | apply below_drew1) | exact HB.out)))); (case aL => have := LMc15.out; omega); intro v275 w16 ho hb hg hat; rw [← Ny274.out] at ho; have n0_ := Aside0.mk (hb); have n1_ := Aside0.mk (ho); clear HB; clear HO_5; have HB := n0_; have HO276 := n1_; clear n0_ n1_; clear ho hb hg hat))
                        go_roundg k1
                        case measure => have := HK1.out; omega
                        case rel => exact ⟨(y274), (wrap64 ((ji7) + 1)), (by first | rfl | (simp; done) | (simp only [← hji7] <;> (first | rfl | simp)) | (simp [*]; done)), H', ⟨by have := HK1.out; omega⟩, ⟨by (with_reducible repeat (first | apply Kd.R_alloc | apply Kd.R_drewN | apply Kd.R_drew)); exact HO276.out⟩, ⟨by repeat (first | (with_reducible first | exact HB.out | apply below_alloc | apply pw_below_drewN | apply below_drew1) | exact HB.out)⟩⟩
                      · rw [if_neg c15] at H
                        exact absurd H (by simp)
                    · rw [if_neg c14] at H
                      have c14b0 : ((bt a0 (ji7)) == 255) = false := beq_eq_false_iff_ne.mpr c14
                      have c14b1 : ((bt a0 (ji7)) != 255) = true := bne_iff_ne.mpr c14
                      simp only [Option.some.injEq, Prod.mk.injEq] at H
                      obtain ⟨rfl, rfl, rfl⟩ := H
                      have p4 : 0 ≤ (x6_1 : Int) := of_decide_eq_true (by first | (with_reducible assumption) | assumption)
                      have q4 : x6_1 < (a0.size : Int) := of_decide_eq_true (by first | (with_reducible assumption) | assumption)
                      have hx4 := bt_at a0 x6_1
                      replace p4 := eq_true p4
                      replace q4 := eq_true q4
                      have p10 : 0 ≤ ((ji7) : Int) := of_decide_eq_true (by first | (with_reducible assumption) | assumption)
                      have q10 : (ji7) < (a0.size : Int) := of_decide_eq_true (by first | (with_reducible assumption) | assumption)
                      have hx10 := bt_at a0 (ji7)
                      replace p10 := eq_true p10
                      replace q10 := eq_true q10
                      have p13 : 0 ≤ ((ji7) : Int) := of_decide_eq_true (by first | (with_reducible assumption) | assumption)
                      have q13 : (ji7) < (a0.size : Int) := of_decide_eq_true (by first | (with_reducible assumption) | assumption)
                      have hx13 := bt_at a0 (ji7)
                      replace p13 := eq_true p13
                      replace q13 := eq_true q13
                      go_wp2
                      go_ret3
                      exact ⟨by first | (with_reducible rfl) | (simp only [isEmpty_bne, Bool.not_not] <;> with_reducible rfl) | (simp [errW_none, errW_some] <;> with_reducible rfl) | (simp only [isEmpty_bne, Bool.not_not] <;> rfl) | rfl | (simp [errW_none, errW_some] <;> rfl) | (simp only [← hji7]; first | rfl | (simp [errW_none, errW_some] <;> rfl)) | (simp [*, errW_none, errW_some] <;> rfl), by repeat (first | (with_reducible first | exact HB.out | apply below_alloc | apply pw_below_drewN | apply below_drew1) | exact HB.out)⟩
                · rw [if_neg c9] at H
                  exact absurd H (by simp)
              · rw [if_neg c8] at H
                exact absurd H (by simp)
          · rw [if_neg c5] at H
            have c5b0 : ((bt a0 x6_1) == 0) = false := beq_eq_false_iff_ne.mpr c5
            have c5b1 : ((bt a0 x6_1) != 0) = true := bne_iff_ne.mpr c5
            by_cases c18 : x5_1.length < 140737488355328
            · rw [if_pos c18] at H
              have LMc18 := Aside0.mk c18
              clear c18
              obtain ⟨y271, hy271⟩ : ∃ y_ : List Int, y_ = (x5_1 ++ [bt a0 x6_1]) := ⟨_, rfl⟩
              replace H : (factotumref02_text.l0 k1 a0 y271 (wrap64 (x6_1 + 1))) = some (r1, r2, r3) := by first | (rw [hy271]; with_reducible exact H) | (have H2_ := (Option.bind_some _ _).symm.trans H; rw [hy271]; with_reducible exact H2_) | (have H2_ := (Option.bind_some _ _).symm.trans H; with_reducible exact H2_) | with_reducible exact H | (rw [hy271]; exact H) | exact H
              have Ny271 := Aside0.mk hy271
              clear hy271
              have H' := Aside0.mk H
              clear H
              have p4 : 0 ≤ (x6_1 : Int) := of_decide_eq_true (by first | (with_reducible assumption) | assumption)
              have q4 : x6_1 < (a0.size : Int) := of_decide_eq_true (by first | (with_reducible assumption) | assumption)
              have hx4 := bt_at a0 x6_1
              replace p4 := eq_true p4
              replace q4 := eq_true q4
              have p17 : 0 ≤ (x6_1 : Int) := of_decide_eq_true (by first | (with_reducible assumption) | assumption)
              have q17 : x6_1 < (a0.size : Int) := of_decide_eq_true (by first | (with_reducible assumption) | assumption)
              have hx17 := bt_at a0 x6_1
              replace p17 := eq_true p17
              replace q17 := eq_true q17
              go_wp2_with (first | ((with_reducible refine gate_builtin (b := .append) (xs := #[.tmp 17, .tmp 21]) rfl ?_); at_builtin; refine Kd.R_append (Kd.int .u8) (w0 := w) w.heap.size rfl (.tmp 17) (.tmp 21) 58 5 (.int .u8 0) 1 rfl Tryd.underlying58 info5 rfl (by decide) (by omega) u5 x5_1 (bt a0 x6_1) [.int .u8 (bt a0 x6_1)] (fun _ => True) (fun _ => False) rfl rfl ?aP (fun _ hk => hk.elim) ?aF ?aO ?aB ?aS ?aL ?_; (case aP => exact rfl); (case aB => exact (by repeat (first | (with_reducible first | exact HB.out | apply below_alloc | apply pw_below_drewN | apply below_drew1) | exact HB.out))); (case aF => exact (fun _ _ => trivial)); (case aO => exact (by (with_reducible repeat (first | apply Kd.R_alloc | apply Kd.R_drewN | apply Kd.R_drew)); exact HO_5.out)); (case aS => exact (below_size (by repeat (first | (with_reducible first | exact HB.out | apply below_alloc | apply pw_below_drewN | apply below_drew1) | exact HB.out)))); (case aL => have := LMc18.out; omega); intro v272 w19 ho hb hg hat; rw [← Ny271.out] at ho; have n0_ := Aside0.mk (hb); have n1_ := Aside0.mk (ho); clear HB; clear HO_5; have HB := n0_; have HO273 := n1_; clear n0_ n1_; clear ho hb hg hat))
              go_roundg k1
              case measure => have := HK1.out; omega
              case rel => exact ⟨(y271), (wrap64 (x6_1 + 1)), (by first | (with_reducible rfl) | (simp; done) | (simp [*]; done) | rfl), H', ⟨by have := HK1.out; omega⟩, ⟨by (with_reducible repeat (first | apply Kd.R_alloc | apply Kd.R_drewN | apply Kd.R_drew)); exact HO273.out⟩, ⟨by repeat (first | (with_reducible first | exact HB.out | apply below_alloc | apply pw_below_drewN | apply below_drew1) | exact HB.out)⟩⟩
            · rw [if_neg c18] at H
              exact absurd H (by simp)
        · rw [if_neg c3] at H
          exact absurd H (by simp)
      · rw [if_neg c2] at H
        have c2b0 : decide (x6_1 < (a0.size : Int)) = false := decide_eq_false c2
        clear c2
        simp only [Option.some.injEq, Prod.mk.injEq] at H
        obtain ⟨rfl, rfl, rfl⟩ := H
        go_wp2
        go_ret3
        exact ⟨by first | (with_reducible rfl) | (simp only [isEmpty_bne, Bool.not_not] <;> with_reducible rfl) | (simp [errW_none, errW_some] <;> with_reducible rfl) | (simp only [isEmpty_bne, Bool.not_not] <;> rfl) | rfl | (simp [errW_none, errW_some] <;> rfl) | (simp [*, errW_none, errW_some] <;> rfl), by repeat (first | (with_reducible first | exact HB.out | apply below_alloc | apply pw_below_drewN | apply below_drew1) | exact HB.out)⟩

/-! ### factotumref02_Read: function 46 -/
def outT (s : ByteArray) (T : List UInt8 × List UInt8 × Int) : Option (ByteArray × Int × Int) := some (⟨T.1.toArray⟩, (if T.2.2 = 0 then ((s.size - T.2.1.length : Nat) : Int) else 0), T.2.2)
theorem rtext_go (s : ByteArray) (hs : s.size ≤ 140737488355328) : ∀ (k i : Nat) (acc : List UInt8), i ≤ s.size → s.size - i < k → acc.length ≤ i →
    factotumref02_text.l0 k s (bi acc) (i : Int) = outT s (textS false (s.data.toList.drop i) acc) := by
  intro k
  induction k with
  | zero => intro i acc _ h; omega
  | succ k ih =>
    intro i acc hi hk ha
    simp only [factotumref02_text.l0]
    cases hd : s.data.toList.drop i with
    | nil =>
      have : s.size ≤ i := by
        have := List.length_drop (i := i) (l := s.data.toList)
        rw [hd, ← Lib.size_eq] at this; simp at this; omega
      rw [if_neg (by omega)]; rfl
    | cons c r =>
      obtain ⟨hi1, hc, hr⟩ := bt_nat s i c r hd
      rw [if_pos (by omega), if_pos (by omega), hc]
      have hw : wrap64 ((i : Int) + 1) = ((i + 1 : Nat) : Int) := (IntWalk.wrap64_in _ ⟨by omega, by omega⟩).trans (by omega)
      rw [hw]
      by_cases h0 : c = 0
      · subst h0
        rw [if_pos (show ((UInt8.toNat 0 : Nat) : Int) = 0 from rfl)]
        rw [show textS false (0 :: r) acc = textS true r acc from rfl]
        cases hr2 : r with
        | nil =>
          have : s.size ≤ i + 1 := by
            have := List.length_drop (i := i + 1) (l := s.data.toList)
            rw [hr, hr2, ← Lib.size_eq] at this; simp at this; omega
          rw [if_pos (by omega)]; rfl
        | cons c2 r3 =>
          subst hr2
          obtain ⟨hi2, hc2, hr3⟩ := bt_nat s (i + 1) c2 r3 hr
          rw [if_neg (by omega), if_pos (by omega), if_pos (by omega), hc2]
          have hw2 : wrap64 (((i + 1 : Nat) : Int) + 1) = ((i + 2 : Nat) : Int) := (IntWalk.wrap64_in _ ⟨by omega, by omega⟩).trans (by omega)
          rw [hw2]
          rw [show textS true (c2 :: r3) acc = (if c2 = 1 then (acc, r3, 0) else if c2 = 255 then textS false r3 (acc ++ [0]) else ([], [], 5)) from rfl]
          by_cases h1 : c2 = 1
          · subst h1
            rw [if_pos (show ((UInt8.toNat 1 : Nat) : Int) = 1 from rfl), if_pos rfl, strOf_bi]
            have : r3.length = s.size - (i + 2) := by rw [← hr3, List.length_drop, ← Lib.size_eq]
            rw [show ((i + 2 : Nat) : Int) = ((s.size - r3.length : Nat) : Int) by omega]; rfl
          · have h1' : ¬ ((c2.toNat : Int) = 1) := fun h => h1 ((u8_eq c2 1 (by omega)).1 h)
            rw [if_neg h1', if_neg h1]
            by_cases h2 : c2 = 255
            · subst h2
              rw [if_pos (show ((UInt8.toNat 255 : Nat) : Int) = 255 from rfl), if_pos rfl, if_pos (by rw [bi_len]; omega)]
              rw [show (bi acc ++ [0] : List Int) = bi (acc ++ [0]) from bi_snoc acc 0, ih (i + 2) (acc ++ [0]) (by omega) (by omega) (by simp; omega), hr3]
            · have h2' : ¬ ((c2.toNat : Int) = 255) := fun h => h2 ((u8_eq c2 255 (by omega)).1 h)
              rw [if_neg h2', if_neg h2]; rfl
      · have h0' : ¬ ((c.toNat : Int) = 0) := fun h => h0 ((u8_eq c 0 (by omega)).1 h)
        rw [if_neg h0', if_pos (by rw [bi_len]; omega), bi_snoc, ih (i + 1) (acc ++ [c]) (by omega) (by omega) (by simp; omega), hr]
        rw [show textS false (c :: r) acc = (if c = 0 then textS true r acc else textS false r (acc ++ [c])) from rfl, if_neg h0]
theorem rtext_f (s : ByteArray) (hs : s.size ≤ 140737488355328) : factotumref02_text.f (s.size + 1) s = some (⟨(textN s.data.toList).1.toArray⟩, ((textN s.data.toList).2.1 : Int), (textN s.data.toList).2.2) := by
  unfold factotumref02_text.f
  have := rtext_go s hs (s.size + 1) 0 [] (Nat.zero_le _) (by omega) (by simp)
  rw [show (([] : List Int)) = bi [] from rfl, show (0 : Int) = ((0 : Nat) : Int) from rfl, this]
  unfold textN outT
  rw [List.drop_zero]
  have hz : s.data.toList.length = s.size := (Lib.size_eq s).symm
  simp only [hz]
  split <;> rfl
theorem rnum_go (s s1 : ByteArray) (x1 x2 : Int) (hs : s.size ≤ 140737488355328) : ∀ (k i : Nat), i ≤ s.size → s.size - i < k →
    factotumref01_Reader_Num.l0 k s (beNum (s.data.toList.take i)) (i : Int) s1 x1 x2 = some (beNum s.data.toList, s1, x1, x2) := by
  intro k
  induction k with
  | zero => intro i _ h; omega
  | succ k ih =>
    intro i hi hk
    simp only [factotumref01_Reader_Num.l0]
    by_cases hlt : i < s.size
    · obtain ⟨c, r, hcr⟩ : ∃ c r, s.data.toList.drop i = c :: r := by
        have hi' : i < s.data.toList.length := by rw [← Lib.size_eq]; exact hlt
        exact ⟨_, _, List.drop_eq_getElem_cons hi'⟩
      obtain ⟨_, hc, hr⟩ := bt_nat s i c r hcr
      have hi' : i < s.data.toList.length := by rw [← Lib.size_eq]; exact hlt
      have hcc : s.data.toList[i] = c := by rw [List.drop_eq_getElem_cons hi'] at hcr; injection hcr
      rw [if_pos (by omega), if_pos (by omega), hc, IntWalk.wrap64_in _ ⟨by omega, by omega⟩]
      have hb := beNum_bd (s.data.toList.take i)
      have hn : IntKind.u64.wrap (IntKind.u64.wrap (256 * beNum (s.data.toList.take i)) + IntKind.u64.wrap (c.toNat : Int)) = beNum (s.data.toList.take (i + 1)) := by
        rw [List.take_succ_eq_append_getElem hi', beNum_snoc, hcc]
        have := c.toNat_lt
        unfold beStep
        simp only [IntKind.wrap, IntKind.bits, IntKind.signed]
        simp; omega
      rw [hn]
      exact ih (i + 1) (by omega) (by omega)
    · rw [if_neg (by omega), List.take_of_length_le (by rw [← Lib.size_eq]; omega)]
theorem rnum8 (s : ByteArray) (hs : s.size ≤ 140737488355328) : factotumref01_Reader_Num.f 9 s 0 0 8 = some (if 8 ≤ s.size then (beNum (s.data.toList.take 8), s, 8, 0) else (0, s, 0, 2)) := by
  unfold factotumref01_Reader_Num.f factotumref01_size.f factotumref01_Reader_Raw.f factotumref01_Reader_Left.f
  rw [Option.bind_some, if_pos rfl, Option.bind_some]
  have e8 : mx (mn (mx 8 1) 8) 0 = 8 := by unfold mx mn; simp
  simp only [e8]
  rw [IntWalk.wrap64_in ((s.size : Int) - 0) ⟨by omega, by omega⟩]
  by_cases h : 8 ≤ s.size
  · rw [if_neg (by omega), if_pos h]
    have e1 : wrap64 (0 + 8) = 8 := by simp [wrap64]
    have e2 : wrap64 (8 - 8) = 0 := by simp [wrap64]
    rw [e1, e2, if_pos (by omega), if_pos (by omega), if_pos (by omega), Option.bind_some]
    simp only
    have hz : (s.extract 0 8).size = 8 := by rw [ByteArray.size_extract]; omega
    have := rnum_go (s.extract 0 8) s 8 0 (by omega) 9 0 (by omega) (by omega)
    rw [show (0 : Int).toNat = 0 from rfl, show (8 : Int).toNat = 8 from rfl]
    rw [show (beNum (List.take 0 (s.extract 0 8).data.toList)) = 0 from rfl] at this
    refine this.trans ?_
    rw [show (s.extract 0 8).data.toList = s.data.toList.take 8 from by rw [Lib.extract_data]; rfl]
  · rw [if_pos (by omega), if_neg h, Option.bind_some]
    rfl
def factotumref02_Read.f (a0 : ByteArray) : Option (List S29 × Int) := if a0.size < 4398046511104 then some (readL a0) else none

set_option maxHeartbeats 8000000 in
set_option maxRecDepth 100000 in
theorem factotumref02_Read.calls (a0 : ByteArray) (r1 : List (S29)) (r2 : Int) (w : World) (h : factotumref02_Read.f a0 = some (r1, r2)) :
    Calls Tryd.prog 46 #[.string a0] w fun e w' => ∃ v0_ : Value, e = .returned (.tuple #[v0_, .int .i64 r2]) ∧ Kd.R k29 29 w' w.heap.size (fun _ => True) v0_ r1 ∧ Below w.heap.size w w' := by
  have huV := Tryd.underlying29
  unfold factotumref02_Read.f at h
  split at h
  case isFalse => cases h
  rename_i hs0
  have HR := Aside0.mk (Option.some.inj h)
  clear h
  have HB0 := Aside0.mk (Below.refl w.heap.size w)
  go_enter Tryd.func46, Tryd.ntmps46
  go_wp2
  go_loopw [4, 5] (fun b x wx => ∃ (i : Nat) (acc : List S29), i ≤ a0.size ∧ acc.length ≤ i ∧ x = .int .i64 (i : Int) ∧ Aside0 (Kd.R k29 29 wx w.heap.size (fun _ => True) b acc) ∧ Aside0 (Below w.heap.size w wx) ∧
    Aside0 (rdS a0.size (a0.data.toList.drop i) acc = (r1, r2))) (fun _ x _ => a0.size - (intOf x).toNat)
  case atStart => exact ⟨0, [], Nat.zero_le _, Nat.zero_le _, rfl, ⟨Kd.R_nil _ _ _ _ _⟩, HB0, HR⟩
  case round =>
    obtain ⟨i, acc, hi, ha, rfl, HO, HB, HS⟩ := hrel
    cases hd : a0.data.toList.drop i with
    | nil =>
      have hie : i = a0.size := by
        have := List.length_drop (i := i) (l := a0.data.toList)
        rw [hd, ← Lib.size_eq] at this; simp at this; omega
      have HF : Aside0 ((acc, (0 : Int)) = (r1, r2)) := ⟨by rw [← HS.out, hd]; cases a0.size <;> rfl⟩
      clear hd
      have hf : decide ((i : Int) < (a0.size : Int)) = false := decide_eq_false (by omega)
      go_wp2
      go_ret2
      have e := HF.out
      simp only [Prod.mk.injEq] at e
      obtain ⟨rfl, rfl⟩ := e
      exact ⟨_, rfl, HO.out, HB.out⟩
    | cons c r =>
      obtain ⟨hi1, hc, hr⟩ := bt_nat a0 i c r hd
      have hrl : r.length = a0.size - (i + 1) := by rw [← hr, List.length_drop, ← Lib.size_eq]
      have hw1 : wrap64 ((i : Int) + 1) = ((i + 1 : Nat) : Int) := (IntWalk.wrap64_in _ ⟨by omega, by omega⟩).trans (by omega)
      have hT : decide ((i : Int) < (a0.size : Int)) = true := decide_eq_true (by omega)
      obtain ⟨rs, hrs⟩ : ∃ rs, a0.extract (i + 1) a0.size = rs := ⟨_, rfl⟩
      have hrd : rs.data.toList = r := by rw [← hrs, Lib.extract_to_end, hr]
      have hrz : rs.size = r.length := by rw [Lib.size_eq, hrd]
      have HRS := Aside0.mk hrs
      have HRD := Aside0.mk hrd
      have HD := Aside0.mk hr
      have hx : ∀ h : i < a0.size, ((a0[i]'h).toNat : Int) = (c.toNat : Int) := by
        intro h; rw [← hc, ← bt_at a0 (i : Int) (by rw [Int.toNat_natCast]; exact h)]; simp only [Int.toNat_natCast]
      have HW1 := Aside0.mk hw1
      have q1 : ((i + 1 : Nat) : Int) ≤ (a0.size : Int) := by omega
      have hge : i + 1 ≤ a0.size := by omega
      have hlt9 : a0.size ≤ 140737488355328 := by omega
      by_cases h1 : c = 1
      · have hb1 : ((c.toNat : Int) == 1) = true := by subst h1; rfl
        have HN := Aside0.mk (rnum8 rs (by omega))
        rw [hrz, hrd] at HN
        have HS2 : Aside0 ((if r.length < 8 then ([], 2) else rdS (a0.size - 1) (r.drop 8) (acc ++ [⟨1, wrap64 (IntKind.u64.wrap (beNum (r.take 8) - 9223372036854775808)), ⟨#[]⟩⟩])) = (r1, r2)) := ⟨by
          rw [← HS.out, hd, show a0.size = a0.size - 1 + 1 by omega]; simp only [rdS]; rw [if_pos h1]; rfl⟩
        clear hrs hrd hd hr hc HS
        by_cases h8 : r.length < 8
        · rw [if_neg (by omega)] at HN
          rw [if_pos h8] at HS2
          go_wp2_with (first | (go_at_call 47; rw [HRS.out]; refine (factotumref01_Reader_Num.calls 9 _ _ _ _ _ _ _ _ _ w _ (IsS73.new w _ _ _ _ HB.out) (below_alloc HB.out _) HN.out).mono ?_; rintro e w2 ⟨rfl, hI2, hB2, hK2⟩; have hcc := cellS73_2 hI2.1; have HO2 := Aside0.mk (Kd.R_mono (Kd.R_keep (IsS73.apart (IsS73.new w wr rs 0 0 HB.out) (Kd.R_alloc HO.out _) (by decide)) hK2 (fun _ h => h.2)) (fun _ h => h.1)); have HB2 := Aside0.mk hB2))
          go_ret2
          have e := HS2.out
          simp only [Prod.mk.injEq] at e
          obtain ⟨rfl, rfl⟩ := e
          exact ⟨_, rfl, Kd.R_nil _ _ _ _ _, hB2⟩
        · rw [if_pos (by omega)] at HN
          rw [if_neg h8] at HS2
          have hacc : acc.length < 4398046511104 := by omega
          have hw9 : wrap64 ((i : Int) + 9) = ((i + 9 : Nat) : Int) := (IntWalk.wrap64_in _ ⟨by omega, by omega⟩).trans (by omega)
          go_wp2_with (first | (go_at_call 47; rw [HRS.out]; refine (factotumref01_Reader_Num.calls 9 _ _ _ _ _ _ _ _ _ w _ (IsS73.new w _ _ _ _ HB.out) (below_alloc HB.out _) HN.out).mono ?_; rintro e w2 ⟨rfl, hI2, hB2, hK2⟩; have hcc := cellS73_2 hI2.1; have HO2 := Aside0.mk (Kd.R_mono (Kd.R_keep (IsS73.apart (IsS73.new w wr rs 0 0 HB.out) (Kd.R_alloc HO.out _) (by decide)) hK2 (fun _ h => h.2)) (fun _ h => h.1)); have HB2 := Aside0.mk hB2) | ((with_reducible refine gate_builtin (b := .append) (xs := #[.tmp 33, .tmp 38]) rfl ?_); at_builtin; refine Kd.R_append k29 (w0 := w) w.heap.size rfl (.tmp 33) (.tmp 38) 25 29 (.agg #[(.int .i64 0), (.int .i64 0), (.string ⟨#[]⟩)]) 32 rfl Tryd.underlying25 info29 rfl (by decide) (by omega) u4 acc (⟨1, wrap64 (IntKind.u64.wrap (beNum (r.take 8) - 9223372036854775808)), ⟨#[]⟩⟩ : S29) [.int .i64 1, .int .i64 (wrap64 (IntKind.u64.wrap (beNum (r.take 8) - 9223372036854775808))), .string ⟨#[]⟩] (fun _ => True) (fun _ => False) rfl rfl (k29_mkM _ _ _ (⟨1, wrap64 (IntKind.u64.wrap (beNum (r.take 8) - 9223372036854775808)), ⟨#[]⟩⟩ : S29)) (fun _ hk => hk.elim) (fun _ _ => trivial) (by (with_reducible repeat (first | apply Kd.R_alloc | apply Kd.R_drewN | apply Kd.R_drew)); exact HO2.out) (by repeat (first | exact HB2.out | apply below_alloc | apply pw_below_drewN | apply below_drew1)) (below_size (by repeat (first | exact HB2.out | apply below_alloc | apply pw_below_drewN | apply below_drew1))) (by omega) ?_; intro v3 w3 ho3 hb3 _ _))
          go_roundw
          case rel => exact ⟨i + 9, acc ++ [⟨1, wrap64 (IntKind.u64.wrap (beNum (r.take 8) - 9223372036854775808)), ⟨#[]⟩⟩], by omega, by rw [List.length_append]; simp; omega, by rw [show ((i : Int) + 9) = ((i + 9 : Nat) : Int) by omega], ⟨ho3⟩, ⟨hb3⟩, ⟨by
            rw [← HS2.out, ← HD.out, List.drop_drop]; exact rdS_fuel _ _ _ _ (by rw [List.length_drop, ← Lib.size_eq]; omega) (by rw [List.length_drop, ← Lib.size_eq]; omega)⟩⟩
          case measure => simp only [intOf]; omega
      · have hb1 : ((c.toNat : Int) == 1) = false := beq_eq_false_iff_ne.2 (fun h => h1 ((u8_eq c 1 (by omega)).1 h))
        by_cases h2 : c = 2
        · have hb2 : ((c.toNat : Int) == 2) = true := by subst h2; rfl
          have HN := Aside0.mk (rtext_f rs (by omega))
          rw [hrd] at HN
          have HS2 : Aside0 ((if (textS false r []).2.2 = 0 then rdS (a0.size - 1) (textS false r []).2.1 (acc ++ [⟨2, 0, ⟨(textS false r []).1.toArray⟩⟩]) else ([], (textS false r []).2.2)) = (r1, r2)) := ⟨by
            rw [← HS.out, hd, show a0.size = a0.size - 1 + 1 by omega]; simp only [rdS]; rw [if_neg h1, if_pos h2]; rfl⟩
          obtain ⟨hle, hsuf⟩ := textS_rest r false []
          clear hrs hrd hd hr hc HS
          by_cases he : (textS false r []).2.2 = 0
          · rw [if_pos he] at HS2
            obtain ⟨hs1, hs2⟩ := hsuf he
            have hN2 : (textN r).2.1 = r.length - (textS false r []).2.1.length := if_pos he
            have hN3 : (textN r).2.2 = 0 := he
            rw [show (textN r).1 = (textS false r []).1 from rfl, hN2, hN3] at HN
            obtain ⟨n, hn⟩ : ∃ n, r.length - (textS false r []).2.1.length = n := ⟨_, rfl⟩
            rw [hn] at HN hs1
            have hacc : acc.length < 4398046511104 := by omega
            have HSF := Aside0.mk hs1
            clear hs1 he hN2 hN3
            go_wp2_with (first | (go_at_call 63; rw [HRS.out]; refine (factotumref02_text.calls (rs.size + 1) rs _ _ _ _ HN.out).mono ?_; rintro e w2 ⟨rfl, hb2⟩; have HO2 := Aside0.mk (Kd.R_below HO.out hb2); have HB2 := Aside0.mk (below_step HB.out hb2)) | ((with_reducible refine gate_builtin (b := .append) (xs := #[.tmp 56, .tmp 59]) rfl ?_); at_builtin; refine Kd.R_append k29 (w0 := w) w.heap.size rfl (.tmp 56) (.tmp 59) 25 29 (.agg #[(.int .i64 0), (.int .i64 0), (.string ⟨#[]⟩)]) 32 rfl Tryd.underlying25 info29 rfl (by decide) (by omega) u4 acc (⟨2, 0, ⟨(textS false r []).1.toArray⟩⟩ : S29) [.int .i64 2, .int .i64 0, .string ⟨(textS false r []).1.toArray⟩] (fun _ => True) (fun _ => False) rfl rfl (k29_mkM _ _ _ (⟨2, 0, ⟨(textS false r []).1.toArray⟩⟩ : S29)) (fun _ hk => hk.elim) (fun _ _ => trivial) (by (with_reducible repeat (first | apply Kd.R_alloc | apply Kd.R_drewN | apply Kd.R_drew)); exact HO2.out) (by repeat (first | exact HB2.out | apply below_alloc | apply pw_below_drewN | apply below_drew1)) (below_size (by repeat (first | exact HB2.out | apply below_alloc | apply pw_below_drewN | apply below_drew1))) (by omega) ?_; intro v3 w3 ho3 hb3 _ _))
            go_roundw
            case rel => exact ⟨i + (1 + n), acc ++ [⟨2, 0, ⟨(textS false r []).1.toArray⟩⟩], by omega, by rw [List.length_append]; simp; omega, by rw [show ((i : Int) + (1 + (n : Int))) = ((i + (1 + n) : Nat) : Int) by omega], ⟨ho3⟩, ⟨hb3⟩, ⟨by
              rw [← HS2.out]; rw [HSF.out, ← HD.out, List.drop_drop, show i + 1 + n = i + (1 + n) by omega]; exact rdS_fuel _ _ _ _ (by rw [List.length_drop, ← Lib.size_eq]; omega) (by rw [List.length_drop, ← Lib.size_eq]; omega)⟩⟩
            case measure => simp only [intOf]; omega
          · rw [if_neg he] at HS2
            have hN1 : (textN r).1 = (textS false r []).1 := rfl
            obtain ⟨ee, hee⟩ : ∃ ee, (textS false r []).2.2 = ee := ⟨_, rfl⟩
            rw [show (textN r).2.2 = (textS false r []).2.2 from rfl, hee] at HN
            rw [hee] at HS2 he
            have heb : (ee != 0) = true := bne_iff_ne.2 he
            have heb2 : (ee == 0) = false := beq_eq_false_iff_ne.2 he
            clear hsuf hee he hN1
            go_wp2_with (first | (go_at_call 63; rw [HRS.out]; refine (factotumref02_text.calls (rs.size + 1) rs _ _ _ _ HN.out).mono ?_; rintro e w2 ⟨rfl, hb2⟩; have HO2 := Aside0.mk (Kd.R_below HO.out hb2); have HB2 := Aside0.mk (below_step HB.out hb2)))
            go_ret2
            have e := HS2.out
            simp only [Prod.mk.injEq] at e
            obtain ⟨rfl, rfl⟩ := e
            exact ⟨_, rfl, Kd.R_nil _ _ _ _ _, HB2.out⟩
        · have hb2 : ((c.toNat : Int) == 2) = false := beq_eq_false_iff_ne.2 (fun h => h2 ((u8_eq c 2 (by omega)).1 h))
          have HS2 : Aside0 ((([] : List S29), (5 : Int)) = (r1, r2)) := ⟨by
            rw [← HS.out, hd, show a0.size = a0.size - 1 + 1 by omega]; simp only [rdS]; rw [if_neg h1, if_neg h2]⟩
          clear hrs hrd hd hr hc HS
          go_wp2
          go_ret2
          have e := HS2.out
          simp only [Prod.mk.injEq] at e
          obtain ⟨rfl, rfl⟩ := e
          exact ⟨_, rfl, Kd.R_nil _ _ _ _ _, HB.out⟩

end Go.Proofs.YtekaeddagaejiaaDoor.PAll
