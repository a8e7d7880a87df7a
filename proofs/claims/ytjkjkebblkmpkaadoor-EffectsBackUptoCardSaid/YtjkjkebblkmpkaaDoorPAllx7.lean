/- Printed walks of the functions that the laws reach: each function, what it computes, and that it does. No conditions. -/
import Derived.Test.YtjkjkebblkmpkaaDoorPAllx0
import Derived.Test.YtjkjkebblkmpkaaDoorPAllx1
import Derived.Test.YtjkjkebblkmpkaaDoorPAllx2
import Derived.Test.YtjkjkebblkmpkaaDoorPAllx3
namespace Go.Proofs.YtjkjkebblkmpkaaDoor.PAll
open Go.RowKit Go.Proofs.YtjkjkebblkmpkaaDoor.XW Go.Proofs.YtjkjkebblkmpkaaDoor.XLib Go.Proofs.YtjkjkebblkmpkaaDoorW.PrintWords Go.Proofs.YtjkjkebblkmpkaaDoorW.PrintLast Go.Proofs.YtjkjkebblkmpkaaDoorW.PrintMore
attribute [local go_sem] max2_int min2_int max_two min_two max_three min_three max_four min_four   -- for this text's walks alone
set_option linter.unusedVariables false
set_option linter.unusedSimpArgs false

attribute [local go_sem high] eqA24
/-! ### pack_Fits: function 48 -/
def pack_Fits.f (a0 : Int) (a1 : Int) : Option (Bool) := (pack_wide.f a1).bind fun t197 => (if 0 ≤ (wrap64 ((wrap64 (8 * t197)) - 1)) then (some (((shr .u64 a0 (wrap64 ((wrap64 (8 * t197)) - 1))) / 2) == 0)) else (none))
set_option maxHeartbeats 8000000 in
set_option maxRecDepth 100000 in
theorem pack_Fits.calls (a0 : Int) (a1 : Int) (r : Bool) (w : World) (h : pack_Fits.f a0 a1 = some r) :
    Calls Tryd.prog 48 #[.int .u64 a0, .int .i64 a1] w fun e w' => e = .returned (.bool r) ∧ Below w.heap.size w w' := by
  have HB := Aside0.mk (Below.refl w.heap.size w)
  have H : ((pack_wide.f a1).bind fun t197 => (if 0 ≤ (wrap64 ((wrap64 (8 * t197)) - 1)) then (some (((shr .u64 a0 (wrap64 ((wrap64 (8 * t197)) - 1))) / 2) == 0)) else (none))) = some r := h
  clear h
  replace H := Option.bind_eq_some_iff.mp H
  obtain ⟨t197, A30, H⟩ := H
  replace H : (if 0 ≤ (wrap64 ((wrap64 (8 * t197)) - 1)) then (some (((shr .u64 a0 (wrap64 ((wrap64 (8 * t197)) - 1))) / 2) == 0)) else (none)) = some r := H
  have A3 := Aside0.mk A30
  clear A30
  obtain ⟨ji4, hji4⟩ : ∃ j_ : Int, (wrap64 ((wrap64 (8 * t197)) - 1)) = j_ := ⟨_, rfl⟩
  replace H : (if 0 ≤ (ji4) then (some (((shr .u64 a0 (ji4)) / 2) == 0)) else (none)) = some r := by first | (rw [hji4] at H; exact H) | (simp only [hji4] at H ⊢; exact H)
  (try rw [hji4] at A3)
  have hji4w : (IntKind.i64.wrap ((wrap64 (8 * t197)) - 1)) = ji4 := (i64_w _).trans hji4
  by_cases c5 : 0 ≤ (ji4)
  · rw [if_pos c5] at H
    have c5b0 := eq_true c5
    have c5b1 : decide (0 ≤ (ji4)) = true := decide_eq_true c5
    clear c5
    obtain ⟨ji6, hji6⟩ : ∃ j_ : Int, (shr .u64 a0 (ji4)) = j_ := ⟨_, rfl⟩
    replace H : (some (((ji6) / 2) == 0)) = some r := by first | (rw [hji6] at H; exact H) | (simp only [hji6] at H ⊢; exact H)
    (try rw [hji6] at A3)
    have hji6_ : (a0 / 2 ^ min (ji4).toNat 64) = ji6 := hji6
    have hji6z : (ji4) ≤ 64 → (a0 / 2 ^ (ji4).toNat) = ji6 := shr_small hji6
    obtain rfl := Option.some.inj H
    go_enter Tryd.func48, Tryd.ntmps48
    go_wp2_with (first | ((with_reducible refine gate_callee (f := 49) rfl ?_); refine goesL_ (some 7) rfl rfl Tryd.func49 (by kernel_rfl) rfl #[.int .i64 a1] rfl (by (try simp only [List.map_toArray, List.map_cons, List.map_nil]); first | done | rfl | (simp only [List.length_drop, List.length_take]; rfl) | (simp (disch := omega) only [u64_in]; rfl)) ?_; (with_reducible refine (pack_wide.calls a1 t197 _ A3.out).mono ?_); rintro e w7 ⟨rfl, hb⟩; refine ⟨_, rfl, ?_⟩; have n0_ := Aside0.mk (below_step (by repeat (first | (with_reducible first | exact HB.out | apply below_alloc | apply pw_below_drewN | apply below_drew1) | exact HB.out)) hb); clear HB; have HB := n0_; clear n0_; (try clear hb); (try clear hb2); (try clear hk); (try clear hi)))
    go_ret
    exact ⟨by first | (with_reducible rfl) | (simp only [isEmpty_bne, Bool.not_not] <;> with_reducible rfl) | (simp [errW_none, errW_some] <;> with_reducible rfl) | (simp only [isEmpty_bne, Bool.not_not] <;> rfl) | rfl | (simp [errW_none, errW_some] <;> rfl) | (simp only [← hji4, ← hji6]; first | rfl | (simp [errW_none, errW_some] <;> rfl)) | (simp [*, errW_none, errW_some] <;> rfl), by repeat (first | (with_reducible first | exact HB.out | apply below_alloc | apply pw_below_drewN | apply below_drew1) | exact HB.out)⟩
  · rw [if_neg c5] at H
    exact absurd H (by simp)

/-! ### effects_right: function 34 -/
def effects_right.l0 : Nat → List Int → Int → Int → Int → Int → Int → ByteArray → Int → Int → Int → Int → Option (Bool)
  | 0, _, _, _, _, _, _, _, _, _, _, _ => none
  | k + 1, x12, x13, x14, x199000, x199001, x199002, x199003, x199004, x199005, x199006, x199007 => if x14 < x13 then (if 0 ≤ x14 then (if x14 < (x12.length : Int) then (if (rd x12 x14) < 0 then (some false) else ((pack_Fits.f (IntKind.u64.wrap (rd x12 x14)) 1).bind fun t203 => (if t203 = true then (effects_right.l0 k x12 x13 (wrap64 (x14 + 1)) x199000 x199001 x199002 x199003 x199004 x199005 x199006 x199007) else (some false)))) else (none)) else (none)) else (if x199000 ≥ 0 then (if x199000 ≤ 3 then (if x199004 ≥ 0 then (if x199004 ≤ 1000000 then (if (x199001 == 0 && (x199002 == 0 && (x199003.toList == ([] : List UInt8)))) = true then (some true) else ((effects_odd.f x199001 x199002 x199003).bind fun t204 => (some (!t204)))) else (some false)) else (some false)) else (some false)) else (some false))
def effects_right.f (k : Nat) (a0_0 : Int) (a0_1 : Int) (a0_2 : Int) (a0_3 : ByteArray) (a0_4 : Int) (a0_5 : Int) (a0_6 : Int) (a0_7 : Int) : Option (Bool) := (some (([a0_5, a0_6, a0_7] : List Int) : List Int)).bind fun y199 => (effects_right.l0 k y199 (y199.length : Int) 0 a0_0 a0_1 a0_2 a0_3 a0_4 a0_5 a0_6 a0_7)
theorem effects_right.mono_l : ∀ k, (∀ y0 y1 y2 y3 y4 y5 y6 y7 y8 y9 y10, LeO (effects_right.l0 k y0 y1 y2 y3 y4 y5 y6 y7 y8 y9 y10) (effects_right.l0 (k + 1) y0 y1 y2 y3 y4 y5 y6 y7 y8 y9 y10))
  | 0 => fun _ _ _ _ _ _ _ _ _ _ _ r h => by simp [effects_right.l0] at h
  | k + 1 => by
    have ih0 := effects_right.mono_l k
    · intro y0 y1 y2 y3 y4 y5 y6 y7 y8 y9 y10
      unfold effects_right.l0
      repeat' first
      | (with_reducible exact ih0 _ _ _ _ _ _ _ _ _ _ _)
      | (with_reducible exact LeO.refl _)
      | (with_reducible exact LeO.none _)
      | (with_reducible refine LeO.ite ?_ ?_)
      | (with_reducible refine LeO.bind ?_ (fun _ => ?_))
      | exact ih0 _ _ _ _ _ _ _ _ _ _ _
      | exact LeO.none _
      | refine LeO.ite ?_ ?_
      | refine LeO.bind ?_ (fun _ => ?_)
theorem effects_right.mono : ∀ a0 a1 a2 a3 a4 a5 a6 a7 k, LeO (effects_right.f k a0 a1 a2 a3 a4 a5 a6 a7) (effects_right.f (k + 1) a0 a1 a2 a3 a4 a5 a6 a7) := by
  intro a0 a1 a2 a3 a4 a5 a6 a7 k
  have ih0 := effects_right.mono_l k
  unfold effects_right.f
  repeat' first
      | (with_reducible exact ih0 _ _ _ _ _ _ _ _ _ _ _)
      | (with_reducible exact LeO.refl _)
      | (with_reducible exact LeO.none _)
      | (with_reducible refine LeO.ite ?_ ?_)
      | (with_reducible refine LeO.bind ?_ (fun _ => ?_))
      | exact ih0 _ _ _ _ _ _ _ _ _ _ _
      | exact LeO.none _
      | refine LeO.ite ?_ ?_
      | refine LeO.bind ?_ (fun _ => ?_)
set_option maxHeartbeats 8000000 in
set_option maxRecDepth 100000 in
theorem effects_right.calls (k : Nat) (a0_0 : Int) (a0_1 : Int) (a0_2 : Int) (a0_3 : ByteArray) (a0_4 : Int) (a0_5 : Int) (a0_6 : Int) (a0_7 : Int) (r : Bool) (w : World) (h : effects_right.f k a0_0 a0_1 a0_2 a0_3 a0_4 a0_5 a0_6 a0_7 = some r) :
    Calls Tryd.prog 34 #[.agg #[.int .i64 a0_0, .int .i64 a0_1, .int .i64 a0_2, .string a0_3, .int .i64 a0_4, .int .i64 a0_5, .int .i64 a0_6, .int .i64 a0_7]] w fun e w' => e = .returned (.bool r) ∧ Below w.heap.size w w' := by
  have hu42 := Tryd.underlying42
  have hu24 := Tryd.underlying24
  have HB := Aside0.mk (Below.refl w.heap.size w)
  have H : ((some (([a0_5, a0_6, a0_7] : List Int) : List Int)).bind fun y199 => (effects_right.l0 k y199 (y199.length : Int) 0 a0_0 a0_1 a0_2 a0_3 a0_4 a0_5 a0_6 a0_7)) = some r := h
  clear h
  obtain ⟨y199, hy199⟩ : ∃ y_ : List Int, y_ = (([a0_5, a0_6, a0_7] : List Int)) := ⟨_, rfl⟩
  replace H : (effects_right.l0 k y199 (y199.length : Int) 0 a0_0 a0_1 a0_2 a0_3 a0_4 a0_5 a0_6 a0_7) = some r := by first | (rw [hy199]; with_reducible exact H) | (have H2_ := (Option.bind_some _ _).symm.trans H; rw [hy199]; with_reducible exact H2_) | (have H2_ := (Option.bind_some _ _).symm.trans H; with_reducible exact H2_) | with_reducible exact H | (rw [hy199]; exact H) | exact H
  have Ny199 := Aside0.mk hy199
  clear hy199
  have H' := Aside0.mk H
  clear H
  go_enter Tryd.func34, Tryd.ntmps34
  go_wp2_with (first | ((with_reducible refine gate_dst (N := 1) rfl ?_); refine box_event ?hg (N := 1) ?hd (cs := #[.int .i64 a0_0, .int .i64 a0_1, .int .i64 a0_2, .string a0_3, .int .i64 a0_4, .int .i64 a0_5, .int .i64 a0_6, .int .i64 a0_7]) (t := 42) ?hr ?_; (case hd => rfl); (case hg => rfl); (case hr => first | (go_simp; done) | (go_simp; rfl)); intro gb198 hg w2 hbox hb; have n0_ := Aside0.mk (below_step (by repeat (first | (with_reducible first | exact HB.out | apply below_alloc | apply pw_below_drewN | apply below_drew1) | exact HB.out)) hb); have n1_ := Aside0.mk (hbox); have n2_ := Aside0.mk ((by rw [hg]; exact (below_size (by repeat (first | (with_reducible first | exact HB.out | apply below_alloc | apply pw_below_drewN | apply below_drew1) | exact HB.out))) : w.heap.size ≤ gb198)); have n3_ := Aside0.mk ((by rw [hg]; exact (below_size (by repeat (first | (with_reducible first | exact HB.out | apply below_alloc | apply pw_below_drewN | apply below_drew1) | exact HB.out))) : w.heap.size ≤ gb198)); clear HB; have HB := n0_; have BK198 := n1_; have GW198 := n2_; have GE198 := n3_; clear n0_ n1_ n2_ n3_; clear hb hbox hg; have hcz3_0 : w2.cell? ⟨gb198, 0, none⟩ = some (.int .i64 a0_0) := (blk_cell BK198.out 0).trans rfl; have hcz3_1 : w2.cell? ⟨gb198, 1, none⟩ = some (.int .i64 a0_1) := (blk_cell BK198.out 1).trans rfl; have hcz3_2 : w2.cell? ⟨gb198, 2, none⟩ = some (.int .i64 a0_2) := (blk_cell BK198.out 2).trans rfl; have hcz3_3 : w2.cell? ⟨gb198, 3, none⟩ = some (.string a0_3) := (blk_cell BK198.out 3).trans rfl; have hcz3_4 : w2.cell? ⟨gb198, 4, none⟩ = some (.int .i64 a0_4) := (blk_cell BK198.out 4).trans rfl; have hcz3_5 : w2.cell? ⟨gb198, 5, none⟩ = some (.int .i64 a0_5) := (blk_cell BK198.out 5).trans rfl; have hcz3_6 : w2.cell? ⟨gb198, 6, none⟩ = some (.int .i64 a0_6) := (blk_cell BK198.out 6).trans rfl; have hcz3_7 : w2.cell? ⟨gb198, 7, none⟩ = some (.int .i64 a0_7) := (blk_cell BK198.out 7).trans rfl; have hfz3_0 := blk_frozen BK198.out 0; have hfz3_1 := blk_frozen BK198.out 1; have hfz3_2 := blk_frozen BK198.out 2; have hfz3_3 := blk_frozen BK198.out 3; have hfz3_4 := blk_frozen BK198.out 4; have hfz3_5 := blk_frozen BK198.out 5; have hfz3_6 := blk_frozen BK198.out 6; have hfz3_7 := blk_frozen BK198.out 7) | ((with_reducible refine gate_dst (N := 12) rfl ?_); refine Kd.R_lit (Kd.int .i64) _ 3 ?hg (N := 12) ?hd (xs := ([a0_5, a0_6, a0_7] : List Int)) (inner := [.int .i64 a0_5, .int .i64 a0_6, .int .i64 a0_7]) (ok := fun _ => True) (okp := fun _ => True) ?hr ?hp (fun _ hk => hk) trivial (Below.refl _ _) (Nat.le_refl _) (by simp) ?_; (case hd => rfl); (case hg => rfl); (case hr => first | (go_simp; done) | (go_simp; rfl)); (case hp => exact (Reps.one (show Kd.M (Kd.int .i64) _ _ _ a0_5 [.int .i64 a0_5] from rfl) (Reps.one (show Kd.M (Kd.int .i64) _ _ _ a0_6 [.int .i64 a0_6] from rfl) (Reps.one (show Kd.M (Kd.int .i64) _ _ _ a0_7 [.int .i64 a0_7] from rfl) (Reps.none _ _))))); intro v200 w4 ho5 hb hg_ hnew_; clear hg_ hnew_; (first | rw [← Ny199.out] at ho5 | (simp only [Int.reduceToNat] at ho5; rw [← Ny199.out] at ho5)); have n0_ := Aside0.mk (Kd.R_lower ho5 (below_size (by repeat (first | (with_reducible first | exact HB.out | apply below_alloc | apply pw_below_drewN | apply below_drew1 | refine below_set ?_ GE198.out) | exact HB.out)))); have n1_ := Aside0.mk (blk_below (g := gb198) (o := .cells #[.int .i64 a0_0, .int .i64 a0_1, .int .i64 a0_2, .string a0_3, .int .i64 a0_4, .int .i64 a0_5, .int .i64 a0_6, .int .i64 a0_7] 42 (0, 0)) (by (with_reducible repeat (first | refine blk_drewN ?_ _ | refine blk_drew ?_ | refine blk_alloc ?_ _)); exact BK198.out) hb); have n2_ := Aside0.mk (below_step (by repeat (first | (with_reducible first | exact HB.out | apply below_alloc | apply pw_below_drewN | apply below_drew1 | refine below_set ?_ GE198.out) | exact HB.out)) hb); clear BK198; clear HB; have HO201 := n0_; have BK198 := n1_; have HB := n2_; clear n0_ n1_ n2_; clear hb ho5; obtain ⟨Ao6, co6, eo6⟩ := Kd.R_slice HO201.out; subst eo6))
  go_loopg [14] k (fun kq v14 w' => ∃ (x14_1 : Int), v14 = .int .i64 x14_1 ∧ Aside0 (effects_right.l0 kq y199 (y199.length : Int) x14_1 a0_0 a0_1 a0_2 a0_3 a0_4 a0_5 a0_6 a0_7 = some r) ∧ Aside0 (kq ≤ k) ∧ Aside0 (Kd.R (Kd.int .i64) 3 w' w.heap.size (fun _ => True) (.slice Ao6 y199.length co6) y199) ∧ Aside0 (w'.heap[gb198]? = some (.cells #[.int .i64 a0_0, .int .i64 a0_1, .int .i64 a0_2, .string a0_3, .int .i64 a0_4, .int .i64 a0_5, .int .i64 a0_6, .int .i64 a0_7] 42 (0, 0))) ∧ Aside0 (Below w.heap.size w w'))
  case atStart => exact ⟨(0), (by first | (with_reducible rfl) | (simp; done) | (simp [*]; done) | rfl), H', ⟨Nat.le_refl _⟩, ⟨by (with_reducible repeat (first | apply Kd.R_alloc | apply Kd.R_drewN | apply Kd.R_drew)); exact HO201.out⟩, ⟨by (with_reducible repeat (first | refine blk_drewN ?_ _ | refine blk_drew ?_ | refine blk_alloc ?_ _)); exact BK198.out⟩, ⟨by repeat (first | (with_reducible first | exact HB.out | apply below_alloc | apply pw_below_drewN | apply below_drew1 | refine below_set ?_ GE198.out) | exact HB.out)⟩⟩
  case round =>
    clear H'
    try clear p2
    try clear c3
    try clear hcz3_0
    try clear hcz3_1
    try clear hcz3_2
    try clear hcz3_3
    try clear hcz3_4
    try clear hcz3_5
    try clear hcz3_6
    try clear hcz3_7
    try clear hfz3_0
    try clear hfz3_1
    try clear hfz3_2
    try clear hfz3_3
    try clear hfz3_4
    try clear hfz3_5
    try clear hfz3_6
    try clear hfz3_7
    obtain ⟨x14_1, rfl, HA, HK1, HO_12, BK198, HB⟩ := hrel
    cases gk with
    | zero => exact absurd HA.out (by simp [effects_right.l0])
    | succ k1 =>
      have H := HA.out
      clear HA
      simp only [effects_right.l0] at H
      by_cases c7 : x14_1 < (y199.length : Int)
      · rw [if_pos c7] at H
        have c7b0 : decide (x14_1 < (y199.length : Int)) = true := decide_eq_true c7
        clear c7
        by_cases c8 : 0 ≤ x14_1
        · rw [if_pos c8] at H
          have c8b0 : decide (0 ≤ x14_1) = true := decide_eq_true c8
          clear c8
          by_cases c9 : x14_1 < (y199.length : Int)
          · rw [if_pos c9] at H
            have c9b0 : decide (x14_1 < (y199.length : Int)) = true := decide_eq_true c9
            clear c9
            by_cases c10 : (rd y199 x14_1) < 0
            · rw [if_pos c10] at H
              have c10b0 : decide ((rd y199 x14_1) < 0) = true := decide_eq_true c10
              clear c10
              obtain rfl := Option.some.inj H
              have p202 : 0 ≤ (x14_1 : Int) := of_decide_eq_true (by first | (with_reducible assumption) | assumption)
              have q202 : x14_1 < (y199.length : Int) := of_decide_eq_true (by first | (with_reducible assumption) | assumption)
              obtain ⟨ad202, e202, hx202_0⟩ := Kd.at_int (Kd.R_reads' HO_12.out).2.2 x14_1 p202 q202
              cases e202
              replace p202 := eq_true p202
              replace q202 := eq_true q202
              go_wp2
              go_ret
              exact ⟨by first | (with_reducible rfl) | (simp only [isEmpty_bne, Bool.not_not] <;> with_reducible rfl) | (simp [errW_none, errW_some] <;> with_reducible rfl) | (simp only [isEmpty_bne, Bool.not_not] <;> rfl) | rfl | (simp [errW_none, errW_some] <;> rfl) | (simp [*, errW_none, errW_some] <;> rfl), by repeat (first | (with_reducible first | exact HB.out | apply below_alloc | apply pw_below_drewN | apply below_drew1 | refine below_set ?_ GE198.out) | exact HB.out)⟩
            · rw [if_neg c10] at H
              have c10b0 : decide ((rd y199 x14_1) < 0) = false := decide_eq_false c10
              clear c10
              replace H := Option.bind_eq_some_iff.mp H
              obtain ⟨t203, A110, H⟩ := H
              replace H : (if t203 = true then (effects_right.l0 k1 y199 (y199.length : Int) (wrap64 (x14_1 + 1)) a0_0 a0_1 a0_2 a0_3 a0_4 a0_5 a0_6 a0_7) else (some false)) = some r := H
              have A11 := Aside0.mk A110
              clear A110
              by_cases c12 : t203 = true
              · subst c12
                have H1 : (effects_right.l0 k1 y199 (y199.length : Int) (wrap64 (x14_1 + 1)) a0_0 a0_1 a0_2 a0_3 a0_4 a0_5 a0_6 a0_7) = some r := by rw [if_pos rfl] at H; exact H
                clear H
                have H := H1
                clear H1
                have H' := Aside0.mk H
                clear H
                have p202 : 0 ≤ (x14_1 : Int) := of_decide_eq_true (by first | (with_reducible assumption) | assumption)
                have q202 : x14_1 < (y199.length : Int) := of_decide_eq_true (by first | (with_reducible assumption) | assumption)
                obtain ⟨ad202, e202, hx202_0⟩ := Kd.at_int (Kd.R_reads' HO_12.out).2.2 x14_1 p202 q202
                cases e202
                replace p202 := eq_true p202
                replace q202 := eq_true q202
                go_wp2_with (first | (go_at_call 48; (with_reducible refine (pack_Fits.calls (IntKind.u64.wrap (rd y199 x14_1)) 1 true _ A11.out).mono ?_); rintro e w13 ⟨rfl, hb⟩; have n0_ := Aside0.mk (Kd.R_below (by (with_reducible repeat (first | apply Kd.R_alloc | apply Kd.R_drewN | apply Kd.R_drew)); exact HO_12.out) hb); have n1_ := Aside0.mk (blk_below (g := gb198) (o := .cells #[.int .i64 a0_0, .int .i64 a0_1, .int .i64 a0_2, .string a0_3, .int .i64 a0_4, .int .i64 a0_5, .int .i64 a0_6, .int .i64 a0_7] 42 (0, 0)) (by (with_reducible repeat (first | refine blk_drewN ?_ _ | refine blk_drew ?_ | refine blk_alloc ?_ _)); exact BK198.out) hb); have n2_ := Aside0.mk (below_step (by repeat (first | (with_reducible first | exact HB.out | apply below_alloc | apply pw_below_drewN | apply below_drew1 | refine below_set ?_ GE198.out) | exact HB.out)) hb); clear HO_12; clear BK198; clear HB; have HO_12 := n0_; have BK198 := n1_; have HB := n2_; clear n0_ n1_ n2_; (try clear hb); (try clear hb2); (try clear hk); (try clear hi)))
                go_roundg k1
                case measure => have := HK1.out; omega
                case rel => exact ⟨(wrap64 (x14_1 + 1)), (by first | (with_reducible rfl) | (simp; done) | (simp [*]; done) | rfl), H', ⟨by have := HK1.out; omega⟩, ⟨by (with_reducible repeat (first | apply Kd.R_alloc | apply Kd.R_drewN | apply Kd.R_drew)); exact HO_12.out⟩, ⟨by (with_reducible repeat (first | refine blk_drewN ?_ _ | refine blk_drew ?_ | refine blk_alloc ?_ _)); exact BK198.out⟩, ⟨by repeat (first | (with_reducible first | exact HB.out | apply below_alloc | apply pw_below_drewN | apply below_drew1 | refine below_set ?_ GE198.out) | exact HB.out)⟩⟩
              · replace c12 := Bool.eq_false_iff.mpr c12
                subst c12
                have H1 : (some false) = some r := by rw [if_neg (show ¬ (false = true) by decide)] at H; exact H
                clear H
                have H := H1
                clear H1
                obtain rfl := Option.some.inj H
                have p202 : 0 ≤ (x14_1 : Int) := of_decide_eq_true (by first | (with_reducible assumption) | assumption)
                have q202 : x14_1 < (y199.length : Int) := of_decide_eq_true (by first | (with_reducible assumption) | assumption)
                obtain ⟨ad202, e202, hx202_0⟩ := Kd.at_int (Kd.R_reads' HO_12.out).2.2 x14_1 p202 q202
                cases e202
                replace p202 := eq_true p202
                replace q202 := eq_true q202
                go_wp2_with (first | (go_at_call 48; (with_reducible refine (pack_Fits.calls (IntKind.u64.wrap (rd y199 x14_1)) 1 false _ A11.out).mono ?_); rintro e w14 ⟨rfl, hb⟩; have n0_ := Aside0.mk (Kd.R_below (by (with_reducible repeat (first | apply Kd.R_alloc | apply Kd.R_drewN | apply Kd.R_drew)); exact HO_12.out) hb); have n1_ := Aside0.mk (blk_below (g := gb198) (o := .cells #[.int .i64 a0_0, .int .i64 a0_1, .int .i64 a0_2, .string a0_3, .int .i64 a0_4, .int .i64 a0_5, .int .i64 a0_6, .int .i64 a0_7] 42 (0, 0)) (by (with_reducible repeat (first | refine blk_drewN ?_ _ | refine blk_drew ?_ | refine blk_alloc ?_ _)); exact BK198.out) hb); have n2_ := Aside0.mk (below_step (by repeat (first | (with_reducible first | exact HB.out | apply below_alloc | apply pw_below_drewN | apply below_drew1 | refine below_set ?_ GE198.out) | exact HB.out)) hb); clear HO_12; clear BK198; clear HB; have HO_12 := n0_; have BK198 := n1_; have HB := n2_; clear n0_ n1_ n2_; (try clear hb); (try clear hb2); (try clear hk); (try clear hi)))
                go_ret
                exact ⟨by first | (with_reducible rfl) | (simp only [isEmpty_bne, Bool.not_not] <;> with_reducible rfl) | (simp [errW_none, errW_some] <;> with_reducible rfl) | (simp only [isEmpty_bne, Bool.not_not] <;> rfl) | rfl | (simp [errW_none, errW_some] <;> rfl) | (simp [*, errW_none, errW_some] <;> rfl), by repeat (first | (with_reducible first | exact HB.out | apply below_alloc | apply pw_below_drewN | apply below_drew1 | refine below_set ?_ GE198.out) | exact HB.out)⟩
          · rw [if_neg c9] at H
            exact absurd H (by simp)
        · rw [if_neg c8] at H
          exact absurd H (by simp)
      · rw [if_neg c7] at H
        have c7b0 : decide (x14_1 < (y199.length : Int)) = false := decide_eq_false c7
        clear c7
        by_cases c15 : a0_0 ≥ 0
        · rw [if_pos c15] at H
          have c15b0 : decide (0 ≤ a0_0) = true := decide_eq_true c15
          clear c15
          by_cases c16 : a0_0 ≤ 3
          · rw [if_pos c16] at H
            have c16b0 : decide (a0_0 ≤ 3) = true := decide_eq_true c16
            clear c16
            by_cases c17 : a0_4 ≥ 0
            · rw [if_pos c17] at H
              have c17b0 : decide (0 ≤ a0_4) = true := decide_eq_true c17
              clear c17
              by_cases c18 : a0_4 ≤ 1000000
              · rw [if_pos c18] at H
                have c18b0 : decide (a0_4 ≤ 1000000) = true := decide_eq_true c18
                clear c18
                by_cases c19 : (a0_1 == 0 && (a0_2 == 0 && (a0_3.toList == ([] : List UInt8)))) = true
                · rw [if_pos c19] at H
                  have c19b0 : (a0_1 == 0 && (a0_2 == 0 && (a0_3.toList == ([] : List UInt8)))) = true := c19
                  (try (have c19b7 : (a0_1 == 0 && (a0_2 == 0 && (a0_3.toList.isEmpty))) = true := by simp only [isEmpty_beq]; exact c19b0))
                  (try (have c19b1 : decide (a0_1 = 0 && (a0_2 == 0 && (a0_3.toList == ([] : List UInt8)))) = true := by simpa using c19))
                  (try (have c19b2 : (a0_1 == 0 && (a0_2 == 0 && (a0_3.toList == ([] : List UInt8)))) = true := by simpa using c19))
                  clear c19
                  obtain rfl := Option.some.inj H
                  have hcz20_0 : wr.cell? ⟨gb198, 0, none⟩ = some (.int .i64 a0_0) := (blk_cell BK198.out 0).trans rfl
                  have hcz20_1 : wr.cell? ⟨gb198, 1, none⟩ = some (.int .i64 a0_1) := (blk_cell BK198.out 1).trans rfl
                  have hcz20_2 : wr.cell? ⟨gb198, 2, none⟩ = some (.int .i64 a0_2) := (blk_cell BK198.out 2).trans rfl
                  have hcz20_3 : wr.cell? ⟨gb198, 3, none⟩ = some (.string a0_3) := (blk_cell BK198.out 3).trans rfl
                  have hcz20_4 : wr.cell? ⟨gb198, 4, none⟩ = some (.int .i64 a0_4) := (blk_cell BK198.out 4).trans rfl
                  have hcz20_5 : wr.cell? ⟨gb198, 5, none⟩ = some (.int .i64 a0_5) := (blk_cell BK198.out 5).trans rfl
                  have hcz20_6 : wr.cell? ⟨gb198, 6, none⟩ = some (.int .i64 a0_6) := (blk_cell BK198.out 6).trans rfl
                  have hcz20_7 : wr.cell? ⟨gb198, 7, none⟩ = some (.int .i64 a0_7) := (blk_cell BK198.out 7).trans rfl
                  have hfz20_0 := blk_frozen BK198.out 0
                  have hfz20_1 := blk_frozen BK198.out 1
                  have hfz20_2 := blk_frozen BK198.out 2
                  have hfz20_3 := blk_frozen BK198.out 3
                  have hfz20_4 := blk_frozen BK198.out 4
                  have hfz20_5 := blk_frozen BK198.out 5
                  have hfz20_6 := blk_frozen BK198.out 6
                  have hfz20_7 := blk_frozen BK198.out 7
                  go_wp2
                  go_ret
                  exact ⟨by first | (with_reducible rfl) | (simp only [isEmpty_bne, Bool.not_not] <;> with_reducible rfl) | (simp [errW_none, errW_some] <;> with_reducible rfl) | (simp only [isEmpty_bne, Bool.not_not] <;> rfl) | rfl | (simp [errW_none, errW_some] <;> rfl) | (simp [*, errW_none, errW_some] <;> rfl), by repeat (first | (with_reducible first | exact HB.out | apply below_alloc | apply pw_below_drewN | apply below_drew1 | refine below_set ?_ GE198.out) | exact HB.out)⟩
                · rw [if_neg c19] at H
                  have c19b0 : (a0_1 == 0 && (a0_2 == 0 && (a0_3.toList == ([] : List UInt8)))) = false := by simpa using c19
                  (try (have c19b7 : (a0_1 == 0 && (a0_2 == 0 && (a0_3.toList.isEmpty))) = false := by simp only [isEmpty_beq]; exact c19b0))
                  (try (have c19b1 : decide (a0_1 = 0 && (a0_2 == 0 && (a0_3.toList == ([] : List UInt8)))) = false := by simpa using c19))
                  (try (have c19b2 : (a0_1 == 0 && (a0_2 == 0 && (a0_3.toList == ([] : List UInt8)))) = false := by simpa using c19))
                  (try (have c19b3 : ¬ (a0_1 = 0 && (a0_2 == 0 && (a0_3.toList == ([] : List UInt8)))) := by simpa using c19))
                  clear c19
                  replace H := Option.bind_eq_some_iff.mp H
                  obtain ⟨t204, A210, H⟩ := H
                  replace H : (some (!t204)) = some r := H
                  have A21 := Aside0.mk A210
                  clear A210
                  obtain rfl := Option.some.inj H
                  have hcz22_0 : wr.cell? ⟨gb198, 0, none⟩ = some (.int .i64 a0_0) := (blk_cell BK198.out 0).trans rfl
                  have hcz22_1 : wr.cell? ⟨gb198, 1, none⟩ = some (.int .i64 a0_1) := (blk_cell BK198.out 1).trans rfl
                  have hcz22_2 : wr.cell? ⟨gb198, 2, none⟩ = some (.int .i64 a0_2) := (blk_cell BK198.out 2).trans rfl
                  have hcz22_3 : wr.cell? ⟨gb198, 3, none⟩ = some (.string a0_3) := (blk_cell BK198.out 3).trans rfl
                  have hcz22_4 : wr.cell? ⟨gb198, 4, none⟩ = some (.int .i64 a0_4) := (blk_cell BK198.out 4).trans rfl
                  have hcz22_5 : wr.cell? ⟨gb198, 5, none⟩ = some (.int .i64 a0_5) := (blk_cell BK198.out 5).trans rfl
                  have hcz22_6 : wr.cell? ⟨gb198, 6, none⟩ = some (.int .i64 a0_6) := (blk_cell BK198.out 6).trans rfl
                  have hcz22_7 : wr.cell? ⟨gb198, 7, none⟩ = some (.int .i64 a0_7) := (blk_cell BK198.out 7).trans rfl
                  have hfz22_0 := blk_frozen BK198.out 0
                  have hfz22_1 := blk_frozen BK198.out 1
                  have hfz22_2 := blk_frozen BK198.out 2
                  have hfz22_3 := blk_frozen BK198.out 3
                  have hfz22_4 := blk_frozen BK198.out 4
                  have hfz22_5 := blk_frozen BK198.out 5
                  have hfz22_6 := blk_frozen BK198.out 6
                  have hfz22_7 := blk_frozen BK198.out 7
                  go_wp2_with (first | (go_at_call 24; (with_reducible refine (effects_odd.calls a0_1 a0_2 a0_3 t204 _ A21.out).mono ?_); rintro e w23 ⟨rfl, hb⟩; have n0_ := Aside0.mk (Kd.R_below (by (with_reducible repeat (first | apply Kd.R_alloc | apply Kd.R_drewN | apply Kd.R_drew)); exact HO_12.out) hb); have n1_ := Aside0.mk (blk_below (g := gb198) (o := .cells #[.int .i64 a0_0, .int .i64 a0_1, .int .i64 a0_2, .string a0_3, .int .i64 a0_4, .int .i64 a0_5, .int .i64 a0_6, .int .i64 a0_7] 42 (0, 0)) (by (with_reducible repeat (first | refine blk_drewN ?_ _ | refine blk_drew ?_ | refine blk_alloc ?_ _)); exact BK198.out) hb); have n2_ := Aside0.mk (below_step (by repeat (first | (with_reducible first | exact HB.out | apply below_alloc | apply pw_below_drewN | apply below_drew1 | refine below_set ?_ GE198.out) | exact HB.out)) hb); clear HO_12; clear BK198; clear HB; have HO_12 := n0_; have BK198 := n1_; have HB := n2_; clear n0_ n1_ n2_; (try clear hb); (try clear hb2); (try clear hk); (try clear hi)))
                  go_ret
                  exact ⟨by first | (with_reducible rfl) | (simp only [isEmpty_bne, Bool.not_not] <;> with_reducible rfl) | (simp [errW_none, errW_some] <;> with_reducible rfl) | (simp only [isEmpty_bne, Bool.not_not] <;> rfl) | rfl | (simp [errW_none, errW_some] <;> rfl) | (simp [*, errW_none, errW_some] <;> rfl), by repeat (first | (with_reducible first | exact HB.out | apply below_alloc | apply pw_below_drewN | apply below_drew1 | refine below_set ?_ GE198.out) | exact HB.out)⟩
              · rw [if_neg c18] at H
                have c18b0 : decide (a0_4 ≤ 1000000) = false := decide_eq_false c18
                clear c18
                obtain rfl := Option.some.inj H
                have hcz24_0 : wr.cell? ⟨gb198, 0, none⟩ = some (.int .i64 a0_0) := (blk_cell BK198.out 0).trans rfl
                have hcz24_1 : wr.cell? ⟨gb198, 1, none⟩ = some (.int .i64 a0_1) := (blk_cell BK198.out 1).trans rfl
                have hcz24_2 : wr.cell? ⟨gb198, 2, none⟩ = some (.int .i64 a0_2) := (blk_cell BK198.out 2).trans rfl
                have hcz24_3 : wr.cell? ⟨gb198, 3, none⟩ = some (.string a0_3) := (blk_cell BK198.out 3).trans rfl
                have hcz24_4 : wr.cell? ⟨gb198, 4, none⟩ = some (.int .i64 a0_4) := (blk_cell BK198.out 4).trans rfl
                have hcz24_5 : wr.cell? ⟨gb198, 5, none⟩ = some (.int .i64 a0_5) := (blk_cell BK198.out 5).trans rfl
                have hcz24_6 : wr.cell? ⟨gb198, 6, none⟩ = some (.int .i64 a0_6) := (blk_cell BK198.out 6).trans rfl
                have hcz24_7 : wr.cell? ⟨gb198, 7, none⟩ = some (.int .i64 a0_7) := (blk_cell BK198.out 7).trans rfl
                have hfz24_0 := blk_frozen BK198.out 0
                have hfz24_1 := blk_frozen BK198.out 1
                have hfz24_2 := blk_frozen BK198.out 2
                have hfz24_3 := blk_frozen BK198.out 3
                have hfz24_4 := blk_frozen BK198.out 4
                have hfz24_5 := blk_frozen BK198.out 5
                have hfz24_6 := blk_frozen BK198.out 6
                have hfz24_7 := blk_frozen BK198.out 7
                go_wp2
                go_ret
                exact ⟨by first | (with_reducible rfl) | (simp only [isEmpty_bne, Bool.not_not] <;> with_reducible rfl) | (simp [errW_none, errW_some] <;> with_reducible rfl) | (simp only [isEmpty_bne, Bool.not_not] <;> rfl) | rfl | (simp [errW_none, errW_some] <;> rfl) | (simp [*, errW_none, errW_some] <;> rfl), by repeat (first | (with_reducible first | exact HB.out | apply below_alloc | apply pw_below_drewN | apply below_drew1 | refine below_set ?_ GE198.out) | exact HB.out)⟩
            · rw [if_neg c17] at H
              have c17b0 : decide (0 ≤ a0_4) = false := decide_eq_false c17
              clear c17
              obtain rfl := Option.some.inj H
              have hcz25_0 : wr.cell? ⟨gb198, 0, none⟩ = some (.int .i64 a0_0) := (blk_cell BK198.out 0).trans rfl
              have hcz25_1 : wr.cell? ⟨gb198, 1, none⟩ = some (.int .i64 a0_1) := (blk_cell BK198.out 1).trans rfl
              have hcz25_2 : wr.cell? ⟨gb198, 2, none⟩ = some (.int .i64 a0_2) := (blk_cell BK198.out 2).trans rfl
              have hcz25_3 : wr.cell? ⟨gb198, 3, none⟩ = some (.string a0_3) := (blk_cell BK198.out 3).trans rfl
              have hcz25_4 : wr.cell? ⟨gb198, 4, none⟩ = some (.int .i64 a0_4) := (blk_cell BK198.out 4).trans rfl
              have hcz25_5 : wr.cell? ⟨gb198, 5, none⟩ = some (.int .i64 a0_5) := (blk_cell BK198.out 5).trans rfl
              have hcz25_6 : wr.cell? ⟨gb198, 6, none⟩ = some (.int .i64 a0_6) := (blk_cell BK198.out 6).trans rfl
              have hcz25_7 : wr.cell? ⟨gb198, 7, none⟩ = some (.int .i64 a0_7) := (blk_cell BK198.out 7).trans rfl
              have hfz25_0 := blk_frozen BK198.out 0
              have hfz25_1 := blk_frozen BK198.out 1
              have hfz25_2 := blk_frozen BK198.out 2
              have hfz25_3 := blk_frozen BK198.out 3
              have hfz25_4 := blk_frozen BK198.out 4
              have hfz25_5 := blk_frozen BK198.out 5
              have hfz25_6 := blk_frozen BK198.out 6
              have hfz25_7 := blk_frozen BK198.out 7
              go_wp2
              go_ret
              exact ⟨by first | (with_reducible rfl) | (simp only [isEmpty_bne, Bool.not_not] <;> with_reducible rfl) | (simp [errW_none, errW_some] <;> with_reducible rfl) | (simp only [isEmpty_bne, Bool.not_not] <;> rfl) | rfl | (simp [errW_none, errW_some] <;> rfl) | (simp [*, errW_none, errW_some] <;> rfl), by repeat (first | (with_reducible first | exact HB.out | apply below_alloc | apply pw_below_drewN | apply below_drew1 | refine below_set ?_ GE198.out) | exact HB.out)⟩
          · rw [if_neg c16] at H
            have c16b0 : decide (a0_0 ≤ 3) = false := decide_eq_false c16
            clear c16
            obtain rfl := Option.some.inj H
            have hcz26_0 : wr.cell? ⟨gb198, 0, none⟩ = some (.int .i64 a0_0) := (blk_cell BK198.out 0).trans rfl
            have hcz26_1 : wr.cell? ⟨gb198, 1, none⟩ = some (.int .i64 a0_1) := (blk_cell BK198.out 1).trans rfl
            have hcz26_2 : wr.cell? ⟨gb198, 2, none⟩ = some (.int .i64 a0_2) := (blk_cell BK198.out 2).trans rfl
            have hcz26_3 : wr.cell? ⟨gb198, 3, none⟩ = some (.string a0_3) := (blk_cell BK198.out 3).trans rfl
            have hcz26_4 : wr.cell? ⟨gb198, 4, none⟩ = some (.int .i64 a0_4) := (blk_cell BK198.out 4).trans rfl
            have hcz26_5 : wr.cell? ⟨gb198, 5, none⟩ = some (.int .i64 a0_5) := (blk_cell BK198.out 5).trans rfl
            have hcz26_6 : wr.cell? ⟨gb198, 6, none⟩ = some (.int .i64 a0_6) := (blk_cell BK198.out 6).trans rfl
            have hcz26_7 : wr.cell? ⟨gb198, 7, none⟩ = some (.int .i64 a0_7) := (blk_cell BK198.out 7).trans rfl
            have hfz26_0 := blk_frozen BK198.out 0
            have hfz26_1 := blk_frozen BK198.out 1
            have hfz26_2 := blk_frozen BK198.out 2
            have hfz26_3 := blk_frozen BK198.out 3
            have hfz26_4 := blk_frozen BK198.out 4
            have hfz26_5 := blk_frozen BK198.out 5
            have hfz26_6 := blk_frozen BK198.out 6
            have hfz26_7 := blk_frozen BK198.out 7
            go_wp2
            go_ret
            exact ⟨by first | (with_reducible rfl) | (simp only [isEmpty_bne, Bool.not_not] <;> with_reducible rfl) | (simp [errW_none, errW_some] <;> with_reducible rfl) | (simp only [isEmpty_bne, Bool.not_not] <;> rfl) | rfl | (simp [errW_none, errW_some] <;> rfl) | (simp [*, errW_none, errW_some] <;> rfl), by repeat (first | (with_reducible first | exact HB.out | apply below_alloc | apply pw_below_drewN | apply below_drew1 | refine below_set ?_ GE198.out) | exact HB.out)⟩
        · rw [if_neg c15] at H
          have c15b0 : decide (0 ≤ a0_0) = false := decide_eq_false c15
          clear c15
          obtain rfl := Option.some.inj H
          have hcz27_0 : wr.cell? ⟨gb198, 0, none⟩ = some (.int .i64 a0_0) := (blk_cell BK198.out 0).trans rfl
          have hcz27_1 : wr.cell? ⟨gb198, 1, none⟩ = some (.int .i64 a0_1) := (blk_cell BK198.out 1).trans rfl
          have hcz27_2 : wr.cell? ⟨gb198, 2, none⟩ = some (.int .i64 a0_2) := (blk_cell BK198.out 2).trans rfl
          have hcz27_3 : wr.cell? ⟨gb198, 3, none⟩ = some (.string a0_3) := (blk_cell BK198.out 3).trans rfl
          have hcz27_4 : wr.cell? ⟨gb198, 4, none⟩ = some (.int .i64 a0_4) := (blk_cell BK198.out 4).trans rfl
          have hcz27_5 : wr.cell? ⟨gb198, 5, none⟩ = some (.int .i64 a0_5) := (blk_cell BK198.out 5).trans rfl
          have hcz27_6 : wr.cell? ⟨gb198, 6, none⟩ = some (.int .i64 a0_6) := (blk_cell BK198.out 6).trans rfl
          have hcz27_7 : wr.cell? ⟨gb198, 7, none⟩ = some (.int .i64 a0_7) := (blk_cell BK198.out 7).trans rfl
          have hfz27_0 := blk_frozen BK198.out 0
          have hfz27_1 := blk_frozen BK198.out 1
          have hfz27_2 := blk_frozen BK198.out 2
          have hfz27_3 := blk_frozen BK198.out 3
          have hfz27_4 := blk_frozen BK198.out 4
          have hfz27_5 := blk_frozen BK198.out 5
          have hfz27_6 := blk_frozen BK198.out 6
          have hfz27_7 := blk_frozen BK198.out 7
          go_wp2
          go_ret
          exact ⟨by first | (with_reducible rfl) | (simp only [isEmpty_bne, Bool.not_not] <;> with_reducible rfl) | (simp [errW_none, errW_some] <;> with_reducible rfl) | (simp only [isEmpty_bne, Bool.not_not] <;> rfl) | rfl | (simp [errW_none, errW_some] <;> rfl) | (simp [*, errW_none, errW_some] <;> rfl), by repeat (first | (with_reducible first | exact HB.out | apply below_alloc | apply pw_below_drewN | apply below_drew1 | refine below_set ?_ GE198.out) | exact HB.out)⟩

end Go.Proofs.YtjkjkebblkmpkaaDoor.PAll
