/- Printed walks of the functions that the laws reach: each function, what it computes, and that it does. No conditions. -/
import Derived.Test.YtjkjkebblkmpkaaDoorPAllx0
import Derived.Test.YtjkjkebblkmpkaaDoorPAllx1
import Derived.Test.YtjkjkebblkmpkaaDoorPAllx2
import Derived.Test.YtjkjkebblkmpkaaDoorPAllx3
namespace Go.Proofs.YtjkjkebblkmpkaaDoor.PAll
open Go.RowKit Go.Proofs.YtjkjkebblkmpkaaDoor.XW Go.Proofs.YtjkjkebblkmpkaaDoor.XLib Go.Proofs.YtjkjkebblkmpkaaDoorW.PrintWords Go.Proofs.YtjkjkebblkmpkaaDoorW.PrintLast Go.Proofs.YtjkjkebblkmpkaaDoorW.PrintMore
attribute [local go_sem] max2_int min2_int max_two min_two max_three min_three max_four min_four   -- for this text's walks alone
set_option linter.unusedVariables false
set_option linter.unusedSimpArgs false

attribute [local go_sem high] eqA24
/-! ### factotumlaw17_as: function 14 -/
def factotumlaw17_as.f (a0_0 : Int) (a0_1 : Int) (a0_2 : Int) (a0_3 : ByteArray) (a0_4 : Int) (a0_5 : Int) (a0_6 : Int) (a0_7 : Int) : Option (Int × Int × Int × ByteArray × Int × Int × Int × Int) := some (a0_0, a0_1, a0_2, a0_3, a0_4, a0_5, a0_6, a0_7)
set_option maxHeartbeats 8000000 in
set_option maxRecDepth 100000 in
theorem factotumlaw17_as.calls (a0_0 : Int) (a0_1 : Int) (a0_2 : Int) (a0_3 : ByteArray) (a0_4 : Int) (a0_5 : Int) (a0_6 : Int) (a0_7 : Int) (r1 : Int) (r2 : Int) (r3 : Int) (r4 : ByteArray) (r5 : Int) (r6 : Int) (r7 : Int) (r8 : Int) (w : World) (h : factotumlaw17_as.f a0_0 a0_1 a0_2 a0_3 a0_4 a0_5 a0_6 a0_7 = some (r1, r2, r3, r4, r5, r6, r7, r8)) :
    Calls Tryd.prog 14 #[.agg #[.int .i64 a0_0, .int .i64 a0_1, .int .i64 a0_2, .string a0_3, .int .i64 a0_4, .int .i64 a0_5, .int .i64 a0_6, .int .i64 a0_7]] w fun e w' => e = .returned (.agg #[.int .i64 r1, .int .i64 r2, .int .i64 r3, .string r4, .int .i64 r5, .int .i64 r6, .int .i64 r7, .int .i64 r8]) ∧ Below w.heap.size w w' := by
  have hu33 := Tryd.underlying33
  have hu42 := Tryd.underlying42
  have hu24 := Tryd.underlying24
  have HB := Aside0.mk (Below.refl w.heap.size w)
  have H : (some (a0_0, a0_1, a0_2, a0_3, a0_4, a0_5, a0_6, a0_7)) = some (r1, r2, r3, r4, r5, r6, r7, r8) := h
  clear h
  simp only [Option.some.injEq, Prod.mk.injEq] at H
  obtain ⟨rfl, rfl, rfl, rfl, rfl, rfl, rfl, rfl⟩ := H
  go_enter Tryd.func14, Tryd.ntmps14
  go_wp2_with (first | ((with_reducible refine gate_dst (N := 1) rfl ?_); refine box_event ?hg (N := 1) ?hd (cs := #[.int .i64 a0_0, .int .i64 a0_1, .int .i64 a0_2, .string a0_3, .int .i64 a0_4, .int .i64 a0_5, .int .i64 a0_6, .int .i64 a0_7]) (t := 33) ?hr ?_; (case hd => rfl); (case hg => rfl); (case hr => first | (go_simp; done) | (go_simp; rfl)); intro gb197 hg w2 hbox hb; have n0_ := Aside0.mk (below_step (by repeat (first | (with_reducible first | exact HB.out | apply below_alloc | apply pw_below_drewN | apply below_drew1) | exact HB.out)) hb); have n1_ := Aside0.mk (hbox); have n2_ := Aside0.mk ((by rw [hg]; exact (below_size (by repeat (first | (with_reducible first | exact HB.out | apply below_alloc | apply pw_below_drewN | apply below_drew1) | exact HB.out))) : w.heap.size ≤ gb197)); have n3_ := Aside0.mk ((by rw [hg]; exact (below_size (by repeat (first | (with_reducible first | exact HB.out | apply below_alloc | apply pw_below_drewN | apply below_drew1) | exact HB.out))) : w.heap.size ≤ gb197)); clear HB; have HB := n0_; have BK197 := n1_; have GW197 := n2_; have GE197 := n3_; clear n0_ n1_ n2_ n3_; clear hb hbox hg) | ((with_reducible refine gate_dst (N := 2) rfl ?_); refine box_event ?hg (N := 2) ?hd (cs := #[.int .i64 0, .int .i64 0, .int .i64 0, .string (⟨#[]⟩ : ByteArray), .int .i64 0, .int .i64 0, .int .i64 0, .int .i64 0]) (t := 42) ?hr ?_; (case hd => rfl); (case hg => rfl); (case hr => first | (go_simp; done) | (go_simp; rfl)); intro gb198 hg w3 hbox hb; have n0_ := Aside0.mk (blk_below (g := gb197) (o := .cells #[.int .i64 a0_0, .int .i64 a0_1, .int .i64 a0_2, .string a0_3, .int .i64 a0_4, .int .i64 a0_5, .int .i64 a0_6, .int .i64 a0_7] 33 (0, 0)) (by (with_reducible repeat (first | refine blk_drewN ?_ _ | refine blk_drew ?_ | refine blk_alloc ?_ _)); exact BK197.out) hb); have n1_ := Aside0.mk (below_step (by repeat (first | (with_reducible first | exact HB.out | apply below_alloc | apply pw_below_drewN | apply below_drew1 | refine below_set ?_ GE197.out) | exact HB.out)) hb); have n2_ := Aside0.mk (hbox); have n3_ := Aside0.mk ((by rw [hg]; exact (below_size (by repeat (first | (with_reducible first | exact HB.out | apply below_alloc | apply pw_below_drewN | apply below_drew1 | refine below_set ?_ GE197.out) | exact HB.out))) : w.heap.size ≤ gb198)); have n4_ := Aside0.mk ((by rw [hg]; exact (below_size (by repeat (first | (with_reducible first | exact HB.out | apply below_alloc | apply pw_below_drewN | apply below_drew1 | refine below_set ?_ GE197.out) | exact HB.out))) : w.heap.size ≤ gb198)); have n5_ := Aside0.mk ((by rw [hg]; exact Nat.ne_of_lt (blk_lt (g := gb197) (o := .cells #[.int .i64 a0_0, .int .i64 a0_1, .int .i64 a0_2, .string a0_3, .int .i64 a0_4, .int .i64 a0_5, .int .i64 a0_6, .int .i64 a0_7] 33 (0, 0)) (by (with_reducible repeat (first | refine blk_drewN ?_ _ | refine blk_drew ?_ | refine blk_alloc ?_ _)); exact BK197.out)) : gb197 ≠ gb198)); have n6_ := Aside0.mk ((by rw [hg]; exact Nat.ne_of_gt (blk_lt (g := gb197) (o := .cells #[.int .i64 a0_0, .int .i64 a0_1, .int .i64 a0_2, .string a0_3, .int .i64 a0_4, .int .i64 a0_5, .int .i64 a0_6, .int .i64 a0_7] 33 (0, 0)) (by (with_reducible repeat (first | refine blk_drewN ?_ _ | refine blk_drew ?_ | refine blk_alloc ?_ _)); exact BK197.out)) : gb198 ≠ gb197)); clear BK197; clear HB; have BK197 := n0_; have HB := n1_; have BK198 := n2_; have GW198 := n3_; have GE198 := n4_; have NB197_198 := n5_; have NB198_197 := n6_; clear n0_ n1_ n2_ n3_ n4_ n5_ n6_; clear hb hbox hg; have hnb4 := NB197_198.out; have hnc4 := NB198_197.out; have hcz5_0 : w3.cell? ⟨gb197, 0, none⟩ = some (.int .i64 a0_0) := (blk_cell BK197.out 0).trans rfl; have hcz5_1 : w3.cell? ⟨gb197, 1, none⟩ = some (.int .i64 a0_1) := (blk_cell BK197.out 1).trans rfl; have hcz5_2 : w3.cell? ⟨gb197, 2, none⟩ = some (.int .i64 a0_2) := (blk_cell BK197.out 2).trans rfl; have hcz5_3 : w3.cell? ⟨gb197, 3, none⟩ = some (.string a0_3) := (blk_cell BK197.out 3).trans rfl; have hcz5_4 : w3.cell? ⟨gb197, 4, none⟩ = some (.int .i64 a0_4) := (blk_cell BK197.out 4).trans rfl; have hcz5_5 : w3.cell? ⟨gb197, 5, none⟩ = some (.int .i64 a0_5) := (blk_cell BK197.out 5).trans rfl; have hcz5_6 : w3.cell? ⟨gb197, 6, none⟩ = some (.int .i64 a0_6) := (blk_cell BK197.out 6).trans rfl; have hcz5_7 : w3.cell? ⟨gb197, 7, none⟩ = some (.int .i64 a0_7) := (blk_cell BK197.out 7).trans rfl; have hfz5_0 := blk_frozen BK197.out 0; have hfz5_1 := blk_frozen BK197.out 1; have hfz5_2 := blk_frozen BK197.out 2; have hfz5_3 := blk_frozen BK197.out 3; have hfz5_4 := blk_frozen BK197.out 4; have hfz5_5 := blk_frozen BK197.out 5; have hfz5_6 := blk_frozen BK197.out 6; have hfz5_7 := blk_frozen BK197.out 7; have hcz6_0 : w3.cell? ⟨gb198, 0, none⟩ = some (.int .i64 0) := (blk_cell BK198.out 0).trans rfl; have hcz6_1 : w3.cell? ⟨gb198, 1, none⟩ = some (.int .i64 0) := (blk_cell BK198.out 1).trans rfl; have hcz6_2 : w3.cell? ⟨gb198, 2, none⟩ = some (.int .i64 0) := (blk_cell BK198.out 2).trans rfl; have hcz6_3 : w3.cell? ⟨gb198, 3, none⟩ = some (.string (⟨#[]⟩ : ByteArray)) := (blk_cell BK198.out 3).trans rfl; have hcz6_4 : w3.cell? ⟨gb198, 4, none⟩ = some (.int .i64 0) := (blk_cell BK198.out 4).trans rfl; have hcz6_5 : w3.cell? ⟨gb198, 5, none⟩ = some (.int .i64 0) := (blk_cell BK198.out 5).trans rfl; have hcz6_6 : w3.cell? ⟨gb198, 6, none⟩ = some (.int .i64 0) := (blk_cell BK198.out 6).trans rfl; have hcz6_7 : w3.cell? ⟨gb198, 7, none⟩ = some (.int .i64 0) := (blk_cell BK198.out 7).trans rfl; have hfz6_0 := blk_frozen BK198.out 0; have hfz6_1 := blk_frozen BK198.out 1; have hfz6_2 := blk_frozen BK198.out 2; have hfz6_3 := blk_frozen BK198.out 3; have hfz6_4 := blk_frozen BK198.out 4; have hfz6_5 := blk_frozen BK198.out 5; have hfz6_6 := blk_frozen BK198.out 6; have hfz6_7 := blk_frozen BK198.out 7))
  refine bodyPost_ret (results_cell_row rfl _ _ gb198 42 #[.int .i64 a0_0, .int .i64 a0_1, .int .i64 a0_2, .string a0_3, .int .i64 a0_4, .int .i64 a0_5, .int .i64 a0_6, .int .i64 a0_7] (0, 0) _ rfl (by (with_reducible repeat (first | refine blk_drewN ?_ _ | refine blk_drew ?_ | refine blk_alloc ?_ _)); refine blk_put (cs := #[.int .i64 a0_0, .int .i64 a0_1, .int .i64 a0_2, .string a0_3, .int .i64 a0_4, .int .i64 a0_5, .int .i64 a0_6, .int .i64 0]) ?_ 7 _ rfl; (with_reducible repeat (first | refine blk_drewN ?_ _ | refine blk_drew ?_ | refine blk_alloc ?_ _)); refine blk_put (cs := #[.int .i64 a0_0, .int .i64 a0_1, .int .i64 a0_2, .string a0_3, .int .i64 a0_4, .int .i64 a0_5, .int .i64 0, .int .i64 0]) ?_ 6 _ rfl; (with_reducible repeat (first | refine blk_drewN ?_ _ | refine blk_drew ?_ | refine blk_alloc ?_ _)); refine blk_put (cs := #[.int .i64 a0_0, .int .i64 a0_1, .int .i64 a0_2, .string a0_3, .int .i64 a0_4, .int .i64 0, .int .i64 0, .int .i64 0]) ?_ 5 _ rfl; (with_reducible repeat (first | refine blk_drewN ?_ _ | refine blk_drew ?_ | refine blk_alloc ?_ _)); refine blk_put (cs := #[.int .i64 a0_0, .int .i64 a0_1, .int .i64 a0_2, .string a0_3, .int .i64 0, .int .i64 0, .int .i64 0, .int .i64 0]) ?_ 4 _ rfl; (with_reducible repeat (first | refine blk_drewN ?_ _ | refine blk_drew ?_ | refine blk_alloc ?_ _)); refine blk_put (cs := #[.int .i64 a0_0, .int .i64 a0_1, .int .i64 a0_2, .string (⟨#[]⟩ : ByteArray), .int .i64 0, .int .i64 0, .int .i64 0, .int .i64 0]) ?_ 3 _ rfl; (with_reducible repeat (first | refine blk_drewN ?_ _ | refine blk_drew ?_ | refine blk_alloc ?_ _)); refine blk_put (cs := #[.int .i64 a0_0, .int .i64 a0_1, .int .i64 0, .string (⟨#[]⟩ : ByteArray), .int .i64 0, .int .i64 0, .int .i64 0, .int .i64 0]) ?_ 2 _ rfl; (with_reducible repeat (first | refine blk_drewN ?_ _ | refine blk_drew ?_ | refine blk_alloc ?_ _)); refine blk_put (cs := #[.int .i64 a0_0, .int .i64 0, .int .i64 0, .string (⟨#[]⟩ : ByteArray), .int .i64 0, .int .i64 0, .int .i64 0, .int .i64 0]) ?_ 1 _ rfl; (with_reducible repeat (first | refine blk_drewN ?_ _ | refine blk_drew ?_ | refine blk_alloc ?_ _)); refine blk_put (cs := #[.int .i64 0, .int .i64 0, .int .i64 0, .string (⟨#[]⟩ : ByteArray), .int .i64 0, .int .i64 0, .int .i64 0, .int .i64 0]) ?_ 0 _ rfl; (with_reducible repeat (first | refine blk_drewN ?_ _ | refine blk_drew ?_ | refine blk_alloc ?_ _)); exact BK198.out) Tryd.underlying42 rfl (by kernel_rfl)) rfl ?_
  exact ⟨by first | (with_reducible rfl) | (simp only [isEmpty_bne, Bool.not_not] <;> with_reducible rfl) | (simp [errW_none, errW_some] <;> with_reducible rfl) | (simp only [isEmpty_bne, Bool.not_not] <;> rfl) | rfl | (simp [errW_none, errW_some] <;> rfl) | (simp [*, errW_none, errW_some] <;> rfl), by repeat (first | (with_reducible first | exact HB.out | apply below_alloc | apply pw_below_drewN | apply below_drew1 | refine below_set ?_ GE197.out | refine below_set ?_ GE198.out) | exact HB.out)⟩

/-! ### pack_Fits: function 48 -/
def pack_Fits.f (a0 : Int) (a1 : Int) : Option (Bool) := (pack_wide.f a1).bind fun t199 => (if 0 ≤ (wrap64 ((wrap64 (8 * t199)) - 1)) then (some (((shr .u64 a0 (wrap64 ((wrap64 (8 * t199)) - 1))) / 2) == 0)) else (none))
set_option maxHeartbeats 8000000 in
set_option maxRecDepth 100000 in
theorem pack_Fits.calls (a0 : Int) (a1 : Int) (r : Bool) (w : World) (h : pack_Fits.f a0 a1 = some r) :
    Calls Tryd.prog 48 #[.int .u64 a0, .int .i64 a1] w fun e w' => e = .returned (.bool r) ∧ Below w.heap.size w w' := by
  have HB := Aside0.mk (Below.refl w.heap.size w)
  have H : ((pack_wide.f a1).bind fun t199 => (if 0 ≤ (wrap64 ((wrap64 (8 * t199)) - 1)) then (some (((shr .u64 a0 (wrap64 ((wrap64 (8 * t199)) - 1))) / 2) == 0)) else (none))) = some r := h
  clear h
  replace H := Option.bind_eq_some_iff.mp H
  obtain ⟨t199, A30, H⟩ := H
  replace H : (if 0 ≤ (wrap64 ((wrap64 (8 * t199)) - 1)) then (some (((shr .u64 a0 (wrap64 ((wrap64 (8 * t199)) - 1))) / 2) == 0)) else (none)) = some r := H
  have A3 := Aside0.mk A30
  clear A30
  obtain ⟨ji4, hji4⟩ : ∃ j_ : Int, (wrap64 ((wrap64 (8 * t199)) - 1)) = j_ := ⟨_, rfl⟩
  replace H : (if 0 ≤ (ji4) then (some (((shr .u64 a0 (ji4)) / 2) == 0)) else (none)) = some r := by first | (rw [hji4] at H; exact H) | (simp only [hji4] at H ⊢; exact H)
  (try rw [hji4] at A3)
  have hji4w : (IntKind.i64.wrap ((wrap64 (8 * t199)) - 1)) = ji4 := (i64_w _).trans hji4
  by_cases c5 : 0 ≤ (ji4)
  · rw [if_pos c5] at H
    have c5b0 := eq_true c5
    have c5b1 : decide (0 ≤ (ji4)) = true := decide_eq_true c5
    clear c5
    obtain ⟨ji6, hji6⟩ : ∃ j_ : Int, (shr .u64 a0 (ji4)) = j_ := ⟨_, rfl⟩
    replace H : (some (((ji6) / 2) == 0)) = some r := by first | (rw [hji6] at H; exact H) | (simp only [hji6] at H ⊢; exact H)
    (try rw [hji6] at A3)
    have hji6_ : (a0 / 2 ^ min (ji4).toNat 64) = ji6 := hji6
    have hji6z : (ji4) ≤ 64 → (a0 / 2 ^ (ji4).toNat) = ji6 := shr_small hji6
    obtain rfl := Option.some.inj H
    go_enter Tryd.func48, Tryd.ntmps48
    go_wp2_with (first | ((with_reducible refine gate_callee (f := 49) rfl ?_); refine goesL_ (some 7) rfl rfl Tryd.func49 (by kernel_rfl) rfl #[.int .i64 a1] rfl (by (try simp only [List.map_toArray, List.map_cons, List.map_nil]); first | done | rfl | (simp only [List.length_drop, List.length_take]; rfl) | (simp (disch := omega) only [u64_in]; rfl)) ?_; (with_reducible refine (pack_wide.calls a1 t199 _ A3.out).mono ?_); rintro e w7 ⟨rfl, hb⟩; refine ⟨_, rfl, ?_⟩; have n0_ := Aside0.mk (below_step (by repeat (first | (with_reducible first | exact HB.out | apply below_alloc | apply pw_below_drewN | apply below_drew1) | exact HB.out)) hb); clear HB; have HB := n0_; clear n0_; (try clear hb); (try clear hb2); (try clear hk); (try clear hi)))
    go_ret
    exact ⟨by first | (with_reducible rfl) | (simp only [isEmpty_bne, Bool.not_not] <;> with_reducible rfl) | (simp [errW_none, errW_some] <;> with_reducible rfl) | (simp only [isEmpty_bne, Bool.not_not] <;> rfl) | rfl | (simp [errW_none, errW_some] <;> rfl) | (simp only [← hji4, ← hji6]; first | rfl | (simp [errW_none, errW_some] <;> rfl)) | (simp [*, errW_none, errW_some] <;> rfl), by repeat (first | (with_reducible first | exact HB.out | apply below_alloc | apply pw_below_drewN | apply below_drew1) | exact HB.out)⟩
  · rw [if_neg c5] at H
    exact absurd H (by simp)

/-! ### effects_right: function 34 -/
def effects_right.l0 : Nat → List Int → Int → Int → Int → Int → Int → ByteArray → Int → Int → Int → Int → Option (Bool)
  | 0, _, _, _, _, _, _, _, _, _, _, _ => none
  | k + 1, x12, x13, x14, x201000, x201001, x201002, x201003, x201004, x201005, x201006, x201007 => if x14 < x13 then (if 0 ≤ x14 then (if x14 < (x12.length : Int) then (if (rd x12 x14) < 0 then (some false) else ((pack_Fits.f (IntKind.u64.wrap (rd x12 x14)) 1).bind fun t205 => (if t205 = true then (effects_right.l0 k x12 x13 (wrap64 (x14 + 1)) x201000 x201001 x201002 x201003 x201004 x201005 x201006 x201007) else (some false)))) else (none)) else (none)) else (if x201000 ≥ 0 then (if x201000 ≤ 3 then (if x201004 ≥ 0 then (if x201004 ≤ 1000000 then (if (x201001 == 0 && (x201002 == 0 && (x201003.toList == ([] : List UInt8)))) = true then (some true) else ((effects_odd.f x201001 x201002 x201003).bind fun t206 => (some (!t206)))) else (some false)) else (some false)) else (some false)) else (some false))
def effects_right.f (k : Nat) (a0_0 : Int) (a0_1 : Int) (a0_2 : Int) (a0_3 : ByteArray) (a0_4 : Int) (a0_5 : Int) (a0_6 : Int) (a0_7 : Int) : Option (Bool) := (some (([a0_5, a0_6, a0_7] : List Int) : List Int)).bind fun y201 => (effects_right.l0 k y201 (y201.length : Int) 0 a0_0 a0_1 a0_2 a0_3 a0_4 a0_5 a0_6 a0_7)
theorem effects_right.mono_l : ∀ k, (∀ y0 y1 y2 y3 y4 y5 y6 y7 y8 y9 y10, LeO (effects_right.l0 k y0 y1 y2 y3 y4 y5 y6 y7 y8 y9 y10) (effects_right.l0 (k + 1) y0 y1 y2 y3 y4 y5 y6 y7 y8 y9 y10))
  | 0 => fun _ _ _ _ _ _ _ _ _ _ _ r h => by simp [effects_right.l0] at h
  | k + 1 => by
    have ih0 := effects_right.mono_l k
    · intro y0 y1 y2 y3 y4 y5 y6 y7 y8 y9 y10
      unfold effects_right.l0
      repeat' first
      | (with_reducible exact ih0 _ _ _ _ _ _ _ _ _ _ _)
      | (with_reducible exact LeO.refl _)
      | (with_reducible exact LeO.none _)
      | (with_reducible refine LeO.ite ?_ ?_)
      | (with_reducible refine LeO.bind ?_ (fun _ => ?_))
      | exact ih0 _ _ _ _ _ _ _ _ _ _ _
      | exact LeO.none _
      | refine LeO.ite ?_ ?_
      | refine LeO.bind ?_ (fun _ => ?_)
theorem effects_right.mono : ∀ a0 a1 a2 a3 a4 a5 a6 a7 k, LeO (effects_right.f k a0 a1 a2 a3 a4 a5 a6 a7) (effects_right.f (k + 1) a0 a1 a2 a3 a4 a5 a6 a7) := by
  intro a0 a1 a2 a3 a4 a5 a6 a7 k
  have ih0 := effects_right.mono_l k
  unfold effects_right.f
  repeat' first
      | (with_reducible exact ih0 _ _ _ _ _ _ _ _ _ _ _)
      | (with_reducible exact LeO.refl _)
      | (with_reducible exact LeO.none _)
      | (with_reducible refine LeO.ite ?_ ?_)
      | (with_reducible refine LeO.bind ?_ (fun _ => ?_))
      | exact ih0 _ _ _ _ _ _ _ _ _ _ _
      | exact LeO.none _
      | refine LeO.ite ?_ ?_
      | refine LeO.bind ?_ (fun _ => ?_)
set_option maxHeartbeats 8000000 in
set_option maxRecDepth 100000 in
theorem effects_right.calls (k : Nat) (a0_0 : Int) (a0_1 : Int) (a0_2 : Int) (a0_3 : ByteArray) (a0_4 : Int) (a0_5 : Int) (a0_6 : Int) (a0_7 : Int) (r : Bool) (w : World) (h : effects_right.f k a0_0 a0_1 a0_2 a0_3 a0_4 a0_5 a0_6 a0_7 = some r) :
    Calls Tryd.prog 34 #[.agg #[.int .i64 a0_0, .int .i64 a0_1, .int .i64 a0_2, .string a0_3, .int .i64 a0_4, .int .i64 a0_5, .int .i64 a0_6, .int .i64 a0_7]] w fun e w' => e = .returned (.bool r) ∧ Below w.heap.size w w' := by
  have hu42 := Tryd.underlying42
  have hu24 := Tryd.underlying24
  have HB := Aside0.mk (Below.refl w.heap.size w)
  have H : ((some (([a0_5, a0_6, a0_7] : List Int) : List Int)).bind fun y201 => (effects_right.l0 k y201 (y201.length : Int) 0 a0_0 a0_1 a0_2 a0_3 a0_4 a0_5 a0_6 a0_7)) = some r := h
  clear h
  obtain ⟨y201, hy201⟩ : ∃ y_ : List Int, y_ = (([a0_5, a0_6, a0_7] : List Int)) := ⟨_, rfl⟩
  replace H : (effects_right.l0 k y201 (y201.length : Int) 0 a0_0 a0_1 a0_2 a0_3 a0_4 a0_5 a0_6 a0_7) = some r := by first | (rw [hy201]; with_reducible exact H) | (have H2_ := (Option.bind_some _ _).symm.trans H; rw [hy201]; with_reducible exact H2_) | (have H2_ := (Option.bind_some _ _).symm.trans H; with_reducible exact H2_) | with_reducible exact H | (rw [hy201]; exact H) | exact H
  have Ny201 := Aside0.mk hy201
  clear hy201
  have H' := Aside0.mk H
  clear H
  go_enter Tryd.func34, Tryd.ntmps34
  go_wp2_with (first | ((with_reducible refine gate_dst (N := 1) rfl ?_); refine box_event ?hg (N := 1) ?hd (cs := #[.int .i64 a0_0, .int .i64 a0_1, .int .i64 a0_2, .string a0_3, .int .i64 a0_4, .int .i64 a0_5, .int .i64 a0_6, .int .i64 a0_7]) (t := 42) ?hr ?_; (case hd => rfl); (case hg => rfl); (case hr => first | (go_simp; done) | (go_simp; rfl)); intro gb200 hg w2 hbox hb; have n0_ := Aside0.mk (below_step (by repeat (first | (with_reducible first | exact HB.out | apply below_alloc | apply pw_below_drewN | apply below_drew1) | exact HB.out)) hb); have n1_ := Aside0.mk (hbox); have n2_ := Aside0.mk ((by rw [hg]; exact (below_size (by repeat (first | (with_reducible first | exact HB.out | apply below_alloc | apply pw_below_drewN | apply below_drew1) | exact HB.out))) : w.heap.size ≤ gb200)); have n3_ := Aside0.mk ((by rw [hg]; exact (below_size (by repeat (first | (with_reducible first | exact HB.out | apply below_alloc | apply pw_below_drewN | apply below_drew1) | exact HB.out))) : w.heap.size ≤ gb200)); clear HB; have HB := n0_; have BK200 := n1_; have GW200 := n2_; have GE200 := n3_; clear n0_ n1_ n2_ n3_; clear hb hbox hg; have hcz3_0 : w2.cell? ⟨gb200, 0, none⟩ = some (.int .i64 a0_0) := (blk_cell BK200.out 0).trans rfl; have hcz3_1 : w2.cell? ⟨gb200, 1, none⟩ = some (.int .i64 a0_1) := (blk_cell BK200.out 1).trans rfl; have hcz3_2 : w2.cell? ⟨gb200, 2, none⟩ = some (.int .i64 a0_2) := (blk_cell BK200.out 2).trans rfl; have hcz3_3 : w2.cell? ⟨gb200, 3, none⟩ = some (.string a0_3) := (blk_cell BK200.out 3).trans rfl; have hcz3_4 : w2.cell? ⟨gb200, 4, none⟩ = some (.int .i64 a0_4) := (blk_cell BK200.out 4).trans rfl; have hcz3_5 : w2.cell? ⟨gb200, 5, none⟩ = some (.int .i64 a0_5) := (blk_cell BK200.out 5).trans rfl; have hcz3_6 : w2.cell? ⟨gb200, 6, none⟩ = some (.int .i64 a0_6) := (blk_cell BK200.out 6).trans rfl; have hcz3_7 : w2.cell? ⟨gb200, 7, none⟩ = some (.int .i64 a0_7) := (blk_cell BK200.out 7).trans rfl; have hfz3_0 := blk_frozen BK200.out 0; have hfz3_1 := blk_frozen BK200.out 1; have hfz3_2 := blk_frozen BK200.out 2; have hfz3_3 := blk_frozen BK200.out 3; have hfz3_4 := blk_frozen BK200.out 4; have hfz3_5 := blk_frozen BK200.out 5; have hfz3_6 := blk_frozen BK200.out 6; have hfz3_7 := blk_frozen BK200.out 7) | ((with_reducible refine gate_dst (N := 12) rfl ?_); refine Kd.R_lit (Kd.int .i64) _ 3 ?hg (N := 12) ?hd (xs := ([a0_5, a0_6, a0_7] : List Int)) (inner := [.int .i64 a0_5, .int .i64 a0_6, .int .i64 a0_7]) (ok := fun _ => True) (okp := fun _ => True) ?hr ?hp (fun _ hk => hk) trivial (Below.refl _ _) (Nat.le_refl _) (by simp) ?_; (case hd => rfl); (case hg => rfl); (case hr => first | (go_simp; done) | (go_simp; rfl)); (case hp => exact (Reps.one (show Kd.M (Kd.int .i64) _ _ _ a0_5 [.int .i64 a0_5] from rfl) (Reps.one (show Kd.M (Kd.int .i64) _ _ _ a0_6 [.int .i64 a0_6] from rfl) (Reps.one (show Kd.M (Kd.int .i64) _ _ _ a0_7 [.int .i64 a0_7] from rfl) (Reps.none _ _))))); intro v202 w4 ho5 hb hg_ hnew_; clear hg_ hnew_; (first | rw [← Ny201.out] at ho5 | (simp only [Int.reduceToNat] at ho5; rw [← Ny201.out] at ho5)); have n0_ := Aside0.mk (Kd.R_lower ho5 (below_size (by repeat (first | (with_reducible first | exact HB.out | apply below_alloc | apply pw_below_drewN | apply below_drew1 | refine below_set ?_ GE200.out) | exact HB.out)))); have n1_ := Aside0.mk (blk_below (g := gb200) (o := .cells #[.int .i64 a0_0, .int .i64 a0_1, .int .i64 a0_2, .string a0_3, .int .i64 a0_4, .int .i64 a0_5, .int .i64 a0_6, .int .i64 a0_7] 42 (0, 0)) (by (with_reducible repeat (first | refine blk_drewN ?_ _ | refine blk_drew ?_ | refine blk_alloc ?_ _)); exact BK200.out) hb); have n2_ := Aside0.mk (below_step (by repeat (first | (with_reducible first | exact HB.out | apply below_alloc | apply pw_below_drewN | apply below_drew1 | refine below_set ?_ GE200.out) | exact HB.out)) hb); clear BK200; clear HB; have HO203 := n0_; have BK200 := n1_; have HB := n2_; clear n0_ n1_ n2_; clear hb ho5; obtain ⟨Ao6, co6, eo6⟩ := Kd.R_slice HO203.out; subst eo6))
  go_loopg [14] k (fun kq v14 w' => ∃ (x14_1 : Int), v14 = .int .i64 x14_1 ∧ Aside0 (effects_right.l0 kq y201 (y201.length : Int) x14_1 a0_0 a0_1 a0_2 a0_3 a0_4 a0_5 a0_6 a0_7 = some r) ∧ Aside0 (kq ≤ k) ∧ Aside0 (Kd.R (Kd.int .i64) 3 w' w.heap.size (fun _ => True) (.slice Ao6 y201.length co6) y201) ∧ Aside0 (w'.heap[gb200]? = some (.cells #[.int .i64 a0_0, .int .i64 a0_1, .int .i64 a0_2, .string a0_3, .int .i64 a0_4, .int .i64 a0_5, .int .i64 a0_6, .int .i64 a0_7] 42 (0, 0))) ∧ Aside0 (Below w.heap.size w w'))
  case atStart => exact ⟨(0), (by first | (with_reducible rfl) | (simp; done) | (simp [*]; done) | rfl), H', ⟨Nat.le_refl _⟩, ⟨by (with_reducible repeat (first | apply Kd.R_alloc | apply Kd.R_drewN | apply Kd.R_drew)); exact HO203.out⟩, ⟨by (with_reducible repeat (first | refine blk_drewN ?_ _ | refine blk_drew ?_ | refine blk_alloc ?_ _)); exact BK200.out⟩, ⟨by repeat (first | (with_reducible first | exact HB.out | apply below_alloc | apply pw_below_drewN | apply below_drew1 | refine below_set ?_ GE200.out) | exact HB.out)⟩⟩
  case round =>
    clear H'
    try clear p2
    try clear c3
    try clear hcz3_0
    try clear hcz3_1
    try clear hcz3_2
    try clear hcz3_3
    try clear hcz3_4
    try clear hcz3_5
    try clear hcz3_6
    try clear hcz3_7
    try clear hfz3_0
    try clear hfz3_1
    try clear hfz3_2
    try clear hfz3_3
    try clear hfz3_4
    try clear hfz3_5
    try clear hfz3_6
    try clear hfz3_7
    obtain ⟨x14_1, rfl, HA, HK1, HO_12, BK200, HB⟩ := hrel
    cases gk with
    | zero => exact absurd HA.out (by simp [effects_right.l0])
    | succ k1 =>
      have H := HA.out
      clear HA
      simp only [effects_right.l0] at H
      by_cases c7 : x14_1 < (y201.length : Int)
      · rw [if_pos c7] at H
        have c7b0 : decide (x14_1 < (y201.length : Int)) = true := decide_eq_true c7
        clear c7
        by_cases c8 : 0 ≤ x14_1
        · rw [if_pos c8] at H
          have c8b0 : decide (0 ≤ x14_1) = true := decide_eq_true c8
          clear c8
          by_cases c9 : x14_1 < (y201.length : Int)
          · rw [if_pos c9] at H
            have c9b0 : decide (x14_1 < (y201.length : Int)) = true := decide_eq_true c9
            clear c9
            by_cases c10 : (rd y201 x14_1) < 0
            · rw [if_pos c10] at H
              have c10b0 : decide ((rd y201 x14_1) < 0) = true := decide_eq_true c10
              clear c10
              obtain rfl := Option.some.inj H
              have p204 : 0 ≤ (x14_1 : Int) := of_decide_eq_true (by first | (with_reducible assumption) | assumption)
              have q204 : x14_1 < (y201.length : Int) := of_decide_eq_true (by first | (with_reducible assumption) | assumption)
              obtain ⟨ad204, e204, hx204_0⟩ := Kd.at_int (Kd.R_reads' HO_12.out).2.2 x14_1 p204 q204
              cases e204
              replace p204 := eq_true p204
              replace q204 := eq_true q204
              go_wp2
              go_ret
              exact ⟨by first | (with_reducible rfl) | (simp only [isEmpty_bne, Bool.not_not] <;> with_reducible rfl) | (simp [errW_none, errW_some] <;> with_reducible rfl) | (simp only [isEmpty_bne, Bool.not_not] <;> rfl) | rfl | (simp [errW_none, errW_some] <;> rfl) | (simp [*, errW_none, errW_some] <;> rfl), by repeat (first | (with_reducible first | exact HB.out | apply below_alloc | apply pw_below_drewN | apply below_drew1 | refine below_set ?_ GE200.out) | exact HB.out)⟩
            · rw [if_neg c10] at H
              have c10b0 : decide ((rd y201 x14_1) < 0) = false := decide_eq_false c10
              clear c10
              replace H := Option.bind_eq_some_iff.mp H
              obtain ⟨t205, A110, H⟩ := H
              replace H : (if t205 = true then (effects_right.l0 k1 y201 (y201.length : Int) (wrap64 (x14_1 + 1)) a0_0 a0_1 a0_2 a0_3 a0_4 a0_5 a0_6 a0_7) else (some false)) = some r := H
              have A11 := Aside0.mk A110
              clear A110
              by_cases c12 : t205 = true
              · subst c12
                have H1 : (effects_right.l0 k1 y201 (y201.length : Int) (wrap64 (x14_1 + 1)) a0_0 a0_1 a0_2 a0_3 a0_4 a0_5 a0_6 a0_7) = some r := by rw [if_pos rfl] at H; exact H
                clear H
                have H := H1
                clear H1
                have H' := Aside0.mk H
                clear H
                have p204 : 0 ≤ (x14_1 : Int) := of_decide_eq_true (by first | (with_reducible assumption) | assumption)
                have q204 : x14_1 < (y201.length : Int) := of_decide_eq_true (by first | (with_reducible assumption) | assumption)
                obtain ⟨ad204, e204, hx204_0⟩ := Kd.at_int (Kd.R_reads' HO_12.out).2.2 x14_1 p204 q204
                cases e204
                replace p204 := eq_true p204
                replace q204 := eq_true q204
                go_wp2_with (first | (go_at_call 48; (with_reducible refine (pack_Fits.calls (IntKind.u64.wrap (rd y201 x14_1)) 1 true _ A11.out).mono ?_); rintro e w13 ⟨rfl, hb⟩; have n0_ := Aside0.mk (Kd.R_below (by (with_reducible repeat (first | apply Kd.R_alloc | apply Kd.R_drewN | apply Kd.R_drew)); exact HO_12.out) hb); have n1_ := Aside0.mk (blk_below (g := gb200) (o := .cells #[.int .i64 a0_0, .int .i64 a0_1, .int .i64 a0_2, .string a0_3, .int .i64 a0_4, .int .i64 a0_5, .int .i64 a0_6, .int .i64 a0_7] 42 (0, 0)) (by (with_reducible repeat (first | refine blk_drewN ?_ _ | refine blk_drew ?_ | refine blk_alloc ?_ _)); exact BK200.out) hb); have n2_ := Aside0.mk (below_step (by repeat (first | (with_reducible first | exact HB.out | apply below_alloc | apply pw_below_drewN | apply below_drew1 | refine below_set ?_ GE200.out) | exact HB.out)) hb); clear HO_12; clear BK200; clear HB; have HO_12 := n0_; have BK200 := n1_; have HB := n2_; clear n0_ n1_ n2_; (try clear hb); (try clear hb2); (try clear hk); (try clear hi)))
                go_roundg k1
                case measure => have := HK1.out; omega
                case rel => exact ⟨(wrap64 (x14_1 + 1)), (by first | (with_reducible rfl) | (simp; done) | (simp [*]; done) | rfl), H', ⟨by have := HK1.out; omega⟩, ⟨by (with_reducible repeat (first | apply Kd.R_alloc | apply Kd.R_drewN | apply Kd.R_drew)); exact HO_12.out⟩, ⟨by (with_reducible repeat (first | refine blk_drewN ?_ _ | refine blk_drew ?_ | refine blk_alloc ?_ _)); exact BK200.out⟩, ⟨by repeat (first | (with_reducible first | exact HB.out | apply below_alloc | apply pw_below_drewN | apply below_drew1 | refine below_set ?_ GE200.out) | exact HB.out)⟩⟩
              · replace c12 := Bool.eq_false_iff.mpr c12
                subst c12
                have H1 : (some false) = some r := by rw [if_neg (show ¬ (false = true) by decide)] at H; exact H
                clear H
                have H := H1
                clear H1
                obtain rfl := Option.some.inj H
                have p204 : 0 ≤ (x14_1 : Int) := of_decide_eq_true (by first | (with_reducible assumption) | assumption)
                have q204 : x14_1 < (y201.length : Int) := of_decide_eq_true (by first | (with_reducible assumption) | assumption)
                obtain ⟨ad204, e204, hx204_0⟩ := Kd.at_int (Kd.R_reads' HO_12.out).2.2 x14_1 p204 q204
                cases e204
                replace p204 := eq_true p204
                replace q204 := eq_true q204
                go_wp2_with (first | (go_at_call 48; (with_reducible refine (pack_Fits.calls (IntKind.u64.wrap (rd y201 x14_1)) 1 false _ A11.out).mono ?_); rintro e w14 ⟨rfl, hb⟩; have n0_ := Aside0.mk (Kd.R_below (by (with_reducible repeat (first | apply Kd.R_alloc | apply Kd.R_drewN | apply Kd.R_drew)); exact HO_12.out) hb); have n1_ := Aside0.mk (blk_below (g := gb200) (o := .cells #[.int .i64 a0_0, .int .i64 a0_1, .int .i64 a0_2, .string a0_3, .int .i64 a0_4, .int .i64 a0_5, .int .i64 a0_6, .int .i64 a0_7] 42 (0, 0)) (by (with_reducible repeat (first | refine blk_drewN ?_ _ | refine blk_drew ?_ | refine blk_alloc ?_ _)); exact BK200.out) hb); have n2_ := Aside0.mk (below_step (by repeat (first | (with_reducible first | exact HB.out | apply below_alloc | apply pw_below_drewN | apply below_drew1 | refine below_set ?_ GE200.out) | exact HB.out)) hb); clear HO_12; clear BK200; clear HB; have HO_12 := n0_; have BK200 := n1_; have HB := n2_; clear n0_ n1_ n2_; (try clear hb); (try clear hb2); (try clear hk); (try clear hi)))
                go_ret
                exact ⟨by first | (with_reducible rfl) | (simp only [isEmpty_bne, Bool.not_not] <;> with_reducible rfl) | (simp [errW_none, errW_some] <;> with_reducible rfl) | (simp only [isEmpty_bne, Bool.not_not] <;> rfl) | rfl | (simp [errW_none, errW_some] <;> rfl) | (simp [*, errW_none, errW_some] <;> rfl), by repeat (first | (with_reducible first | exact HB.out | apply below_alloc | apply pw_below_drewN | apply below_drew1 | refine below_set ?_ GE200.out) | exact HB.out)⟩
          · rw [if_neg c9] at H
            exact absurd H (by simp)
        · rw [if_neg c8] at H
          exact absurd H (by simp)
      · rw [if_neg c7] at H
        have c7b0 : decide (x14_1 < (y201.length : Int)) = false := decide_eq_false c7
        clear c7
        by_cases c15 : a0_0 ≥ 0
        · rw [if_pos c15] at H
          have c15b0 : decide (0 ≤ a0_0) = true := decide_eq_true c15
          clear c15
          by_cases c16 : a0_0 ≤ 3
          · rw [if_pos c16] at H
            have c16b0 : decide (a0_0 ≤ 3) = true := decide_eq_true c16
            clear c16
            by_cases c17 : a0_4 ≥ 0
            · rw [if_pos c17] at H
              have c17b0 : decide (0 ≤ a0_4) = true := decide_eq_true c17
              clear c17
              by_cases c18 : a0_4 ≤ 1000000
              · rw [if_pos c18] at H
                have c18b0 : decide (a0_4 ≤ 1000000) = true := decide_eq_true c18
                clear c18
                by_cases c19 : (a0_1 == 0 && (a0_2 == 0 && (a0_3.toList == ([] : List UInt8)))) = true
                · rw [if_pos c19] at H
                  have c19b0 : (a0_1 == 0 && (a0_2 == 0 && (a0_3.toList == ([] : List UInt8)))) = true := c19
                  (try (have c19b7 : (a0_1 == 0 && (a0_2 == 0 && (a0_3.toList.isEmpty))) = true := by simp only [isEmpty_beq]; exact c19b0))
                  (try (have c19b1 : decide (a0_1 = 0 && (a0_2 == 0 && (a0_3.toList == ([] : List UInt8)))) = true := by simpa using c19))
                  (try (have c19b2 : (a0_1 == 0 && (a0_2 == 0 && (a0_3.toList == ([] : List UInt8)))) = true := by simpa using c19))
                  clear c19
                  obtain rfl := Option.some.inj H
                  have hcz20_0 : wr.cell? ⟨gb200, 0, none⟩ = some (.int .i64 a0_0) := (blk_cell BK200.out 0).trans rfl
                  have hcz20_1 : wr.cell? ⟨gb200, 1, none⟩ = some (.int .i64 a0_1) := (blk_cell BK200.out 1).trans rfl
                  have hcz20_2 : wr.cell? ⟨gb200, 2, none⟩ = some (.int .i64 a0_2) := (blk_cell BK200.out 2).trans rfl
                  have hcz20_3 : wr.cell? ⟨gb200, 3, none⟩ = some (.string a0_3) := (blk_cell BK200.out 3).trans rfl
                  have hcz20_4 : wr.cell? ⟨gb200, 4, none⟩ = some (.int .i64 a0_4) := (blk_cell BK200.out 4).trans rfl
                  have hcz20_5 : wr.cell? ⟨gb200, 5, none⟩ = some (.int .i64 a0_5) := (blk_cell BK200.out 5).trans rfl
                  have hcz20_6 : wr.cell? ⟨gb200, 6, none⟩ = some (.int .i64 a0_6) := (blk_cell BK200.out 6).trans rfl
                  have hcz20_7 : wr.cell? ⟨gb200, 7, none⟩ = some (.int .i64 a0_7) := (blk_cell BK200.out 7).trans rfl
                  have hfz20_0 := blk_frozen BK200.out 0
                  have hfz20_1 := blk_frozen BK200.out 1
                  have hfz20_2 := blk_frozen BK200.out 2
                  have hfz20_3 := blk_frozen BK200.out 3
                  have hfz20_4 := blk_frozen BK200.out 4
                  have hfz20_5 := blk_frozen BK200.out 5
                  have hfz20_6 := blk_frozen BK200.out 6
                  have hfz20_7 := blk_frozen BK200.out 7
                  go_wp2
                  go_ret
                  exact ⟨by first | (with_reducible rfl) | (simp only [isEmpty_bne, Bool.not_not] <;> with_reducible rfl) | (simp [errW_none, errW_some] <;> with_reducible rfl) | (simp only [isEmpty_bne, Bool.not_not] <;> rfl) | rfl | (simp [errW_none, errW_some] <;> rfl) | (simp [*, errW_none, errW_some] <;> rfl), by repeat (first | (with_reducible first | exact HB.out | apply below_alloc | apply pw_below_drewN | apply below_drew1 | refine below_set ?_ GE200.out) | exact HB.out)⟩
                · rw [if_neg c19] at H
                  have c19b0 : (a0_1 == 0 && (a0_2 == 0 && (a0_3.toList == ([] : List UInt8)))) = false := by simpa using c19
                  (try (have c19b7 : (a0_1 == 0 && (a0_2 == 0 && (a0_3.toList.isEmpty))) = false := by simp only [isEmpty_beq]; exact c19b0))
                  (try (have c19b1 : decide (a0_1 = 0 && (a0_2 == 0 && (a0_3.toList == ([] : List UInt8)))) = false := by simpa using c19))
                  (try (have c19b2 : (a0_1 == 0 && (a0_2 == 0 && (a0_3.toList == ([] : List UInt8)))) = false := by simpa using c19))
                  (try (have c19b3 : ¬ (a0_1 = 0 && (a0_2 == 0 && (a0_3.toList == ([] : List UInt8)))) := by simpa using c19))
                  clear c19
                  replace H := Option.bind_eq_some_iff.mp H
                  obtain ⟨t206, A210, H⟩ := H
                  replace H : (some (!t206)) = some r := H
                  have A21 := Aside0.mk A210
                  clear A210
                  obtain rfl := Option.some.inj H
                  have hcz22_0 : wr.cell? ⟨gb200, 0, none⟩ = some (.int .i64 a0_0) := (blk_cell BK200.out 0).trans rfl
                  have hcz22_1 : wr.cell? ⟨gb200, 1, none⟩ = some (.int .i64 a0_1) := (blk_cell BK200.out 1).trans rfl
                  have hcz22_2 : wr.cell? ⟨gb200, 2, none⟩ = some (.int .i64 a0_2) := (blk_cell BK200.out 2).trans rfl
                  have hcz22_3 : wr.cell? ⟨gb200, 3, none⟩ = some (.string a0_3) := (blk_cell BK200.out 3).trans rfl
                  have hcz22_4 : wr.cell? ⟨gb200, 4, none⟩ = some (.int .i64 a0_4) := (blk_cell BK200.out 4).trans rfl
                  have hcz22_5 : wr.cell? ⟨gb200, 5, none⟩ = some (.int .i64 a0_5) := (blk_cell BK200.out 5).trans rfl
                  have hcz22_6 : wr.cell? ⟨gb200, 6, none⟩ = some (.int .i64 a0_6) := (blk_cell BK200.out 6).trans rfl
                  have hcz22_7 : wr.cell? ⟨gb200, 7, none⟩ = some (.int .i64 a0_7) := (blk_cell BK200.out 7).trans rfl
                  have hfz22_0 := blk_frozen BK200.out 0
                  have hfz22_1 := blk_frozen BK200.out 1
                  have hfz22_2 := blk_frozen BK200.out 2
                  have hfz22_3 := blk_frozen BK200.out 3
                  have hfz22_4 := blk_frozen BK200.out 4
                  have hfz22_5 := blk_frozen BK200.out 5
                  have hfz22_6 := blk_frozen BK200.out 6
                  have hfz22_7 := blk_frozen BK200.out 7
                  go_wp2_with (first | (go_at_call 24; (with_reducible refine (effects_odd.calls a0_1 a0_2 a0_3 t206 _ A21.out).mono ?_); rintro e w23 ⟨rfl, hb⟩; have n0_ := Aside0.mk (Kd.R_below (by (with_reducible repeat (first | apply Kd.R_alloc | apply Kd.R_drewN | apply Kd.R_drew)); exact HO_12.out) hb); have n1_ := Aside0.mk (blk_below (g := gb200) (o := .cells #[.int .i64 a0_0, .int .i64 a0_1, .int .i64 a0_2, .string a0_3, .int .i64 a0_4, .int .i64 a0_5, .int .i64 a0_6, .int .i64 a0_7] 42 (0, 0)) (by (with_reducible repeat (first | refine blk_drewN ?_ _ | refine blk_drew ?_ | refine blk_alloc ?_ _)); exact BK200.out) hb); have n2_ := Aside0.mk (below_step (by repeat (first | (with_reducible first | exact HB.out | apply below_alloc | apply pw_below_drewN | apply below_drew1 | refine below_set ?_ GE200.out) | exact HB.out)) hb); clear HO_12; clear BK200; clear HB; have HO_12 := n0_; have BK200 := n1_; have HB := n2_; clear n0_ n1_ n2_; (try clear hb); (try clear hb2); (try clear hk); (try clear hi)))
                  go_ret
                  exact ⟨by first | (with_reducible rfl) | (simp only [isEmpty_bne, Bool.not_not] <;> with_reducible rfl) | (simp [errW_none, errW_some] <;> with_reducible rfl) | (simp only [isEmpty_bne, Bool.not_not] <;> rfl) | rfl | (simp [errW_none, errW_some] <;> rfl) | (simp [*, errW_none, errW_some] <;> rfl), by repeat (first | (with_reducible first | exact HB.out | apply below_alloc | apply pw_below_drewN | apply below_drew1 | refine below_set ?_ GE200.out) | exact HB.out)⟩
              · rw [if_neg c18] at H
                have c18b0 : decide (a0_4 ≤ 1000000) = false := decide_eq_false c18
                clear c18
                obtain rfl := Option.some.inj H
                have hcz24_0 : wr.cell? ⟨gb200, 0, none⟩ = some (.int .i64 a0_0) := (blk_cell BK200.out 0).trans rfl
                have hcz24_1 : wr.cell? ⟨gb200, 1, none⟩ = some (.int .i64 a0_1) := (blk_cell BK200.out 1).trans rfl
                have hcz24_2 : wr.cell? ⟨gb200, 2, none⟩ = some (.int .i64 a0_2) := (blk_cell BK200.out 2).trans rfl
                have hcz24_3 : wr.cell? ⟨gb200, 3, none⟩ = some (.string a0_3) := (blk_cell BK200.out 3).trans rfl
                have hcz24_4 : wr.cell? ⟨gb200, 4, none⟩ = some (.int .i64 a0_4) := (blk_cell BK200.out 4).trans rfl
                have hcz24_5 : wr.cell? ⟨gb200, 5, none⟩ = some (.int .i64 a0_5) := (blk_cell BK200.out 5).trans rfl
                have hcz24_6 : wr.cell? ⟨gb200, 6, none⟩ = some (.int .i64 a0_6) := (blk_cell BK200.out 6).trans rfl
                have hcz24_7 : wr.cell? ⟨gb200, 7, none⟩ = some (.int .i64 a0_7) := (blk_cell BK200.out 7).trans rfl
                have hfz24_0 := blk_frozen BK200.out 0
                have hfz24_1 := blk_frozen BK200.out 1
                have hfz24_2 := blk_frozen BK200.out 2
                have hfz24_3 := blk_frozen BK200.out 3
                have hfz24_4 := blk_frozen BK200.out 4
                have hfz24_5 := blk_frozen BK200.out 5
                have hfz24_6 := blk_frozen BK200.out 6
                have hfz24_7 := blk_frozen BK200.out 7
                go_wp2
                go_ret
                exact ⟨by first | (with_reducible rfl) | (simp only [isEmpty_bne, Bool.not_not] <;> with_reducible rfl) | (simp [errW_none, errW_some] <;> with_reducible rfl) | (simp only [isEmpty_bne, Bool.not_not] <;> rfl) | rfl | (simp [errW_none, errW_some] <;> rfl) | (simp [*, errW_none, errW_some] <;> rfl), by repeat (first | (with_reducible first | exact HB.out | apply below_alloc | apply pw_below_drewN | apply below_drew1 | refine below_set ?_ GE200.out) | exact HB.out)⟩
            · rw [if_neg c17] at H
              have c17b0 : decide (0 ≤ a0_4) = false := decide_eq_false c17
              clear c17
              obtain rfl := Option.some.inj H
              have hcz25_0 : wr.cell? ⟨gb200, 0, none⟩ = some (.int .i64 a0_0) := (blk_cell BK200.out 0).trans rfl
              have hcz25_1 : wr.cell? ⟨gb200, 1, none⟩ = some (.int .i64 a0_1) := (blk_cell BK200.out 1).trans rfl
              have hcz25_2 : wr.cell? ⟨gb200, 2, none⟩ = some (.int .i64 a0_2) := (blk_cell BK200.out 2).trans rfl
              have hcz25_3 : wr.cell? ⟨gb200, 3, none⟩ = some (.string a0_3) := (blk_cell BK200.out 3).trans rfl
              have hcz25_4 : wr.cell? ⟨gb200, 4, none⟩ = some (.int .i64 a0_4) := (blk_cell BK200.out 4).trans rfl
              have hcz25_5 : wr.cell? ⟨gb200, 5, none⟩ = some (.int .i64 a0_5) := (blk_cell BK200.out 5).trans rfl
              have hcz25_6 : wr.cell? ⟨gb200, 6, none⟩ = some (.int .i64 a0_6) := (blk_cell BK200.out 6).trans rfl
              have hcz25_7 : wr.cell? ⟨gb200, 7, none⟩ = some (.int .i64 a0_7) := (blk_cell BK200.out 7).trans rfl
              have hfz25_0 := blk_frozen BK200.out 0
              have hfz25_1 := blk_frozen BK200.out 1
              have hfz25_2 := blk_frozen BK200.out 2
              have hfz25_3 := blk_frozen BK200.out 3
              have hfz25_4 := blk_frozen BK200.out 4
              have hfz25_5 := blk_frozen BK200.out 5
              have hfz25_6 := blk_frozen BK200.out 6
              have hfz25_7 := blk_frozen BK200.out 7
              go_wp2
              go_ret
              exact ⟨by first | (with_reducible rfl) | (simp only [isEmpty_bne, Bool.not_not] <;> with_reducible rfl) | (simp [errW_none, errW_some] <;> with_reducible rfl) | (simp only [isEmpty_bne, Bool.not_not] <;> rfl) | rfl | (simp [errW_none, errW_some] <;> rfl) | (simp [*, errW_none, errW_some] <;> rfl), by repeat (first | (with_reducible first | exact HB.out | apply below_alloc | apply pw_below_drewN | apply below_drew1 | refine below_set ?_ GE200.out) | exact HB.out)⟩
          · rw [if_neg c16] at H
            have c16b0 : decide (a0_0 ≤ 3) = false := decide_eq_false c16
            clear c16
            obtain rfl := Option.some.inj H
            have hcz26_0 : wr.cell? ⟨gb200, 0, none⟩ = some (.int .i64 a0_0) := (blk_cell BK200.out 0).trans rfl
            have hcz26_1 : wr.cell? ⟨gb200, 1, none⟩ = some (.int .i64 a0_1) := (blk_cell BK200.out 1).trans rfl
            have hcz26_2 : wr.cell? ⟨gb200, 2, none⟩ = some (.int .i64 a0_2) := (blk_cell BK200.out 2).trans rfl
            have hcz26_3 : wr.cell? ⟨gb200, 3, none⟩ = some (.string a0_3) := (blk_cell BK200.out 3).trans rfl
            have hcz26_4 : wr.cell? ⟨gb200, 4, none⟩ = some (.int .i64 a0_4) := (blk_cell BK200.out 4).trans rfl
            have hcz26_5 : wr.cell? ⟨gb200, 5, none⟩ = some (.int .i64 a0_5) := (blk_cell BK200.out 5).trans rfl
            have hcz26_6 : wr.cell? ⟨gb200, 6, none⟩ = some (.int .i64 a0_6) := (blk_cell BK200.out 6).trans rfl
            have hcz26_7 : wr.cell? ⟨gb200, 7, none⟩ = some (.int .i64 a0_7) := (blk_cell BK200.out 7).trans rfl
            have hfz26_0 := blk_frozen BK200.out 0
            have hfz26_1 := blk_frozen BK200.out 1
            have hfz26_2 := blk_frozen BK200.out 2
            have hfz26_3 := blk_frozen BK200.out 3
            have hfz26_4 := blk_frozen BK200.out 4
            have hfz26_5 := blk_frozen BK200.out 5
            have hfz26_6 := blk_frozen BK200.out 6
            have hfz26_7 := blk_frozen BK200.out 7
            go_wp2
            go_ret
            exact ⟨by first | (with_reducible rfl) | (simp only [isEmpty_bne, Bool.not_not] <;> with_reducible rfl) | (simp [errW_none, errW_some] <;> with_reducible rfl) | (simp only [isEmpty_bne, Bool.not_not] <;> rfl) | rfl | (simp [errW_none, errW_some] <;> rfl) | (simp [*, errW_none, errW_some] <;> rfl), by repeat (first | (with_reducible first | exact HB.out | apply below_alloc | apply pw_below_drewN | apply below_drew1 | refine below_set ?_ GE200.out) | exact HB.out)⟩
        · rw [if_neg c15] at H
          have c15b0 : decide (0 ≤ a0_0) = false := decide_eq_false c15
          clear c15
          obtain rfl := Option.some.inj H
          have hcz27_0 : wr.cell? ⟨gb200, 0, none⟩ = some (.int .i64 a0_0) := (blk_cell BK200.out 0).trans rfl
          have hcz27_1 : wr.cell? ⟨gb200, 1, none⟩ = some (.int .i64 a0_1) := (blk_cell BK200.out 1).trans rfl
          have hcz27_2 : wr.cell? ⟨gb200, 2, none⟩ = some (.int .i64 a0_2) := (blk_cell BK200.out 2).trans rfl
          have hcz27_3 : wr.cell? ⟨gb200, 3, none⟩ = some (.string a0_3) := (blk_cell BK200.out 3).trans rfl
          have hcz27_4 : wr.cell? ⟨gb200, 4, none⟩ = some (.int .i64 a0_4) := (blk_cell BK200.out 4).trans rfl
          have hcz27_5 : wr.cell? ⟨gb200, 5, none⟩ = some (.int .i64 a0_5) := (blk_cell BK200.out 5).trans rfl
          have hcz27_6 : wr.cell? ⟨gb200, 6, none⟩ = some (.int .i64 a0_6) := (blk_cell BK200.out 6).trans rfl
          have hcz27_7 : wr.cell? ⟨gb200, 7, none⟩ = some (.int .i64 a0_7) := (blk_cell BK200.out 7).trans rfl
          have hfz27_0 := blk_frozen BK200.out 0
          have hfz27_1 := blk_frozen BK200.out 1
          have hfz27_2 := blk_frozen BK200.out 2
          have hfz27_3 := blk_frozen BK200.out 3
          have hfz27_4 := blk_frozen BK200.out 4
          have hfz27_5 := blk_frozen BK200.out 5
          have hfz27_6 := blk_frozen BK200.out 6
          have hfz27_7 := blk_frozen BK200.out 7
          go_wp2
          go_ret
          exact ⟨by first | (with_reducible rfl) | (simp only [isEmpty_bne, Bool.not_not] <;> with_reducible rfl) | (simp [errW_none, errW_some] <;> with_reducible rfl) | (simp only [isEmpty_bne, Bool.not_not] <;> rfl) | rfl | (simp [errW_none, errW_some] <;> rfl) | (simp [*, errW_none, errW_some] <;> rfl), by repeat (first | (with_reducible first | exact HB.out | apply below_alloc | apply pw_below_drewN | apply below_drew1 | refine below_set ?_ GE200.out) | exact HB.out)⟩

/-! ### effects_Write: function 13 -/
def effects_Write.f (k : Nat) (a0_0 : Int) (a0_1 : Int) (a0_2 : Int) (a0_3 : ByteArray) (a0_4 : Int) (a0_5 : Int) (a0_6 : Int) (a0_7 : Int) : Option (ByteArray × Int) := (effects_right.f k a0_0 a0_1 a0_2 a0_3 a0_4 a0_5 a0_6 a0_7).bind fun t208 => (if t208 = true then ((some (([(a0_0) % 256, 0] : List Int) : List Int)).bind fun y209 => (if a0_1 = 0 then ((pack_Num.f k y209 (IntKind.u64.wrap (a0_4)) 4).bind fun t212 => ((some (([(a0_5) % 256, (a0_6) % 256, (a0_7) % 256] : List Int) : List Int)).bind fun y215 => (if t212.length + y215.length < 140737488355328 then (some (strOfNums (t212 ++ y215), 0)) else (none)))) else (if 1 < (y209.length : Int) then ((effects_put.f k (y209.set (1 : Int).toNat 1) a0_1 a0_2 a0_3).bind fun t222 => ((pack_Num.f k t222 (IntKind.u64.wrap (a0_4)) 4).bind fun t225 => ((some (([(a0_5) % 256, (a0_6) % 256, (a0_7) % 256] : List Int) : List Int)).bind fun y228 => (if t225.length + y228.length < 140737488355328 then (some (strOfNums (t225 ++ y228), 0)) else (none))))) else (none)))) else (some ((⟨#[]⟩ : ByteArray), 4)))
theorem effects_Write.mono : ∀ a0 a1 a2 a3 a4 a5 a6 a7 k, LeO (effects_Write.f k a0 a1 a2 a3 a4 a5 a6 a7) (effects_Write.f (k + 1) a0 a1 a2 a3 a4 a5 a6 a7) := by
  intro a0 a1 a2 a3 a4 a5 a6 a7 k
  unfold effects_Write.f
  repeat' first
      | (with_reducible exact effects_put.mono _ _ _ _ _)
      | (with_reducible exact effects_right.mono _ _ _ _ _ _ _ _ _)
      | (with_reducible exact pack_Num.mono _ _ _ _)
      | (with_reducible exact LeO.refl _)
      | (with_reducible exact LeO.none _)
      | (with_reducible refine LeO.ite ?_ ?_)
      | (with_reducible refine LeO.bind ?_ (fun _ => ?_))
      | exact effects_put.mono _ _ _ _ _
      | exact effects_right.mono _ _ _ _ _ _ _ _ _
      | exact pack_Num.mono _ _ _ _
      | exact LeO.none _
      | refine LeO.ite ?_ ?_
      | refine LeO.bind ?_ (fun _ => ?_)
set_option maxHeartbeats 8000000 in
set_option maxRecDepth 100000 in
theorem effects_Write.calls (k : Nat) (a0_0 : Int) (a0_1 : Int) (a0_2 : Int) (a0_3 : ByteArray) (a0_4 : Int) (a0_5 : Int) (a0_6 : Int) (a0_7 : Int) (r1 : ByteArray) (r2 : Int) (w : World) (h : effects_Write.f k a0_0 a0_1 a0_2 a0_3 a0_4 a0_5 a0_6 a0_7 = some (r1, r2)) :
    Calls Tryd.prog 13 #[.agg #[.int .i64 a0_0, .int .i64 a0_1, .int .i64 a0_2, .string a0_3, .int .i64 a0_4, .int .i64 a0_5, .int .i64 a0_6, .int .i64 a0_7]] w fun e w' => e = .returned (.tuple #[.string r1, .int .i64 r2]) ∧ Below w.heap.size w w' := by
  have hu42 := Tryd.underlying42
  have hu24 := Tryd.underlying24
  have HB := Aside0.mk (Below.refl w.heap.size w)
  have H : ((effects_right.f k a0_0 a0_1 a0_2 a0_3 a0_4 a0_5 a0_6 a0_7).bind fun t208 => (if t208 = true then ((some (([(a0_0) % 256, 0] : List Int) : List Int)).bind fun y209 => (if a0_1 = 0 then ((pack_Num.f k y209 (IntKind.u64.wrap (a0_4)) 4).bind fun t212 => ((some (([(a0_5) % 256, (a0_6) % 256, (a0_7) % 256] : List Int) : List Int)).bind fun y215 => (if t212.length + y215.length < 140737488355328 then (some (strOfNums (t212 ++ y215), 0)) else (none)))) else (if 1 < (y209.length : Int) then ((effects_put.f k (y209.set (1 : Int).toNat 1) a0_1 a0_2 a0_3).bind fun t222 => ((pack_Num.f k t222 (IntKind.u64.wrap (a0_4)) 4).bind fun t225 => ((some (([(a0_5) % 256, (a0_6) % 256, (a0_7) % 256] : List Int) : List Int)).bind fun y228 => (if t225.length + y228.length < 140737488355328 then (some (strOfNums (t225 ++ y228), 0)) else (none))))) else (none)))) else (some ((⟨#[]⟩ : ByteArray), 4)))) = some (r1, r2) := h
  clear h
  replace H := Option.bind_eq_some_iff.mp H
  obtain ⟨t208, A20, H⟩ := H
  replace H : (if t208 = true then ((some (([(a0_0) % 256, 0] : List Int) : List Int)).bind fun y209 => (if a0_1 = 0 then ((pack_Num.f k y209 (IntKind.u64.wrap (a0_4)) 4).bind fun t212 => ((some (([(a0_5) % 256, (a0_6) % 256, (a0_7) % 256] : List Int) : List Int)).bind fun y215 => (if t212.length + y215.length < 140737488355328 then (some (strOfNums (t212 ++ y215), 0)) else (none)))) else (if 1 < (y209.length : Int) then ((effects_put.f k (y209.set (1 : Int).toNat 1) a0_1 a0_2 a0_3).bind fun t222 => ((pack_Num.f k t222 (IntKind.u64.wrap (a0_4)) 4).bind fun t225 => ((some (([(a0_5) % 256, (a0_6) % 256, (a0_7) % 256] : List Int) : List Int)).bind fun y228 => (if t225.length + y228.length < 140737488355328 then (some (strOfNums (t225 ++ y228), 0)) else (none))))) else (none)))) else (some ((⟨#[]⟩ : ByteArray), 4))) = some (r1, r2) := H
  have A2 := Aside0.mk A20
  clear A20
  by_cases c3 : t208 = true
  · subst c3
    have H1 : ((some (([(a0_0) % 256, 0] : List Int) : List Int)).bind fun y209 => (if a0_1 = 0 then ((pack_Num.f k y209 (IntKind.u64.wrap (a0_4)) 4).bind fun t212 => ((some (([(a0_5) % 256, (a0_6) % 256, (a0_7) % 256] : List Int) : List Int)).bind fun y215 => (if t212.length + y215.length < 140737488355328 then (some (strOfNums (t212 ++ y215), 0)) else (none)))) else (if 1 < (y209.length : Int) then ((effects_put.f k (y209.set (1 : Int).toNat 1) a0_1 a0_2 a0_3).bind fun t222 => ((pack_Num.f k t222 (IntKind.u64.wrap (a0_4)) 4).bind fun t225 => ((some (([(a0_5) % 256, (a0_6) % 256, (a0_7) % 256] : List Int) : List Int)).bind fun y228 => (if t225.length + y228.length < 140737488355328 then (some (strOfNums (t225 ++ y228), 0)) else (none))))) else (none)))) = some (r1, r2) := by rw [if_pos rfl] at H; exact H
    clear H
    have H := H1
    clear H1
    obtain ⟨y209, hy209⟩ : ∃ y_ : List Int, y_ = (([(a0_0) % 256, 0] : List Int)) := ⟨_, rfl⟩
    replace H : (if a0_1 = 0 then ((pack_Num.f k y209 (IntKind.u64.wrap (a0_4)) 4).bind fun t212 => ((some (([(a0_5) % 256, (a0_6) % 256, (a0_7) % 256] : List Int) : List Int)).bind fun y215 => (if t212.length + y215.length < 140737488355328 then (some (strOfNums (t212 ++ y215), 0)) else (none)))) else (if 1 < (y209.length : Int) then ((effects_put.f k (y209.set (1 : Int).toNat 1) a0_1 a0_2 a0_3).bind fun t222 => ((pack_Num.f k t222 (IntKind.u64.wrap (a0_4)) 4).bind fun t225 => ((some (([(a0_5) % 256, (a0_6) % 256, (a0_7) % 256] : List Int) : List Int)).bind fun y228 => (if t225.length + y228.length < 140737488355328 then (some (strOfNums (t225 ++ y228), 0)) else (none))))) else (none))) = some (r1, r2) := by first | (rw [hy209]; with_reducible exact H) | (have H2_ := (Option.bind_some _ _).symm.trans H; rw [hy209]; with_reducible exact H2_) | (have H2_ := (Option.bind_some _ _).symm.trans H; with_reducible exact H2_) | with_reducible exact H | (rw [hy209]; exact H) | exact H
    have Ny209 := Aside0.mk hy209
    clear hy209
    by_cases c4 : a0_1 = 0
    · rw [if_pos c4] at H
      have c4b0 : (a0_1 == 0) = true := beq_iff_eq.mpr c4
      have c4b1 : (a0_1 != 0) = false := bne_eq_false_iff_eq.mpr c4
      clear c4
      replace H := Option.bind_eq_some_iff.mp H
      obtain ⟨t212, A50, H⟩ := H
      replace H : ((some (([(a0_5) % 256, (a0_6) % 256, (a0_7) % 256] : List Int) : List Int)).bind fun y215 => (if t212.length + y215.length < 140737488355328 then (some (strOfNums (t212 ++ y215), 0)) else (none))) = some (r1, r2) := H
      have A5 := Aside0.mk A50
      clear A50
      obtain ⟨y215, hy215⟩ : ∃ y_ : List Int, y_ = (([(a0_5) % 256, (a0_6) % 256, (a0_7) % 256] : List Int)) := ⟨_, rfl⟩
      replace H : (if t212.length + y215.length < 140737488355328 then (some (strOfNums (t212 ++ y215), 0)) else (none)) = some (r1, r2) := by first | (rw [hy215]; with_reducible exact H) | (have H2_ := (Option.bind_some _ _).symm.trans H; rw [hy215]; with_reducible exact H2_) | (have H2_ := (Option.bind_some _ _).symm.trans H; with_reducible exact H2_) | with_reducible exact H | (rw [hy215]; exact H) | exact H
      have Ny215 := Aside0.mk hy215
      clear hy215
      by_cases c6 : t212.length + y215.length < 140737488355328
      · rw [if_pos c6] at H
        have LMc6 := Aside0.mk c6
        clear c6
        obtain ⟨y218, hy218⟩ : ∃ y_ : List Int, y_ = (t212 ++ y215) := ⟨_, rfl⟩
        replace H : (some (strOfNums y218, 0)) = some (r1, r2) := by first | (rw [hy218]; with_reducible exact H) | (have H2_ := (Option.bind_some _ _).symm.trans H; rw [hy218]; with_reducible exact H2_) | (have H2_ := (Option.bind_some _ _).symm.trans H; with_reducible exact H2_) | with_reducible exact H | (rw [hy218]; exact H) | exact H
        have Ny218 := Aside0.mk hy218
        clear hy218
        simp only [Option.some.injEq, Prod.mk.injEq] at H
        obtain ⟨rfl, rfl⟩ := H
        go_enter Tryd.func13, Tryd.ntmps13
        go_wp2_with (first | ((with_reducible refine gate_dst (N := 1) rfl ?_); refine box_event ?hg (N := 1) ?hd (cs := #[.int .i64 a0_0, .int .i64 a0_1, .int .i64 a0_2, .string a0_3, .int .i64 a0_4, .int .i64 a0_5, .int .i64 a0_6, .int .i64 a0_7]) (t := 42) ?hr ?_; (case hd => rfl); (case hg => rfl); (case hr => first | (go_simp; done) | (go_simp; rfl)); intro gb207 hg w7 hbox hb; have n0_ := Aside0.mk (below_step (by repeat (first | (with_reducible first | exact HB.out | apply below_alloc | apply pw_below_drewN | apply below_drew1) | exact HB.out)) hb); have n1_ := Aside0.mk (hbox); have n2_ := Aside0.mk ((by rw [hg]; exact (below_size (by repeat (first | (with_reducible first | exact HB.out | apply below_alloc | apply pw_below_drewN | apply below_drew1) | exact HB.out))) : w.heap.size ≤ gb207)); have n3_ := Aside0.mk ((by rw [hg]; exact (below_size (by repeat (first | (with_reducible first | exact HB.out | apply below_alloc | apply pw_below_drewN | apply below_drew1) | exact HB.out))) : w.heap.size ≤ gb207)); clear HB; have HB := n0_; have BK207 := n1_; have GW207 := n2_; have GE207 := n3_; clear n0_ n1_ n2_ n3_; clear hb hbox hg; have hcz8_0 : w7.cell? ⟨gb207, 0, none⟩ = some (.int .i64 a0_0) := (blk_cell BK207.out 0).trans rfl; have hcz8_1 : w7.cell? ⟨gb207, 1, none⟩ = some (.int .i64 a0_1) := (blk_cell BK207.out 1).trans rfl; have hcz8_2 : w7.cell? ⟨gb207, 2, none⟩ = some (.int .i64 a0_2) := (blk_cell BK207.out 2).trans rfl; have hcz8_3 : w7.cell? ⟨gb207, 3, none⟩ = some (.string a0_3) := (blk_cell BK207.out 3).trans rfl; have hcz8_4 : w7.cell? ⟨gb207, 4, none⟩ = some (.int .i64 a0_4) := (blk_cell BK207.out 4).trans rfl; have hcz8_5 : w7.cell? ⟨gb207, 5, none⟩ = some (.int .i64 a0_5) := (blk_cell BK207.out 5).trans rfl; have hcz8_6 : w7.cell? ⟨gb207, 6, none⟩ = some (.int .i64 a0_6) := (blk_cell BK207.out 6).trans rfl; have hcz8_7 : w7.cell? ⟨gb207, 7, none⟩ = some (.int .i64 a0_7) := (blk_cell BK207.out 7).trans rfl; have hfz8_0 := blk_frozen BK207.out 0; have hfz8_1 := blk_frozen BK207.out 1; have hfz8_2 := blk_frozen BK207.out 2; have hfz8_3 := blk_frozen BK207.out 3; have hfz8_4 := blk_frozen BK207.out 4; have hfz8_5 := blk_frozen BK207.out 5; have hfz8_6 := blk_frozen BK207.out 6; have hfz8_7 := blk_frozen BK207.out 7) | ((with_reducible refine gate_callee (f := 34) rfl ?_); refine goesL_ (some 6) rfl rfl Tryd.func34 (by kernel_rfl) rfl #[.agg #[.int .i64 a0_0, .int .i64 a0_1, .int .i64 a0_2, .string a0_3, .int .i64 a0_4, .int .i64 a0_5, .int .i64 a0_6, .int .i64 a0_7]] rfl (by (try simp only [List.map_toArray, List.map_cons, List.map_nil]); first | done | rfl | (simp only [List.length_drop, List.length_take]; rfl) | (simp (disch := omega) only [u64_in]; rfl)) ?_; (with_reducible refine (effects_right.calls k a0_0 a0_1 a0_2 a0_3 a0_4 a0_5 a0_6 a0_7 true _ A2.out).mono ?_); rintro e w9 ⟨rfl, hb⟩; refine ⟨_, rfl, ?_⟩; have n0_ := Aside0.mk (blk_below (g := gb207) (o := .cells #[.int .i64 a0_0, .int .i64 a0_1, .int .i64 a0_2, .string a0_3, .int .i64 a0_4, .int .i64 a0_5, .int .i64 a0_6, .int .i64 a0_7] 42 (0, 0)) (by (with_reducible repeat (first | refine blk_drewN ?_ _ | refine blk_drew ?_ | refine blk_alloc ?_ _)); exact BK207.out) hb); have n1_ := Aside0.mk (below_step (by repeat (first | (with_reducible first | exact HB.out | apply below_alloc | apply pw_below_drewN | apply below_drew1 | refine below_set ?_ GE207.out) | exact HB.out)) hb); clear BK207; clear HB; have BK207 := n0_; have HB := n1_; clear n0_ n1_; (try clear hb); (try clear hb2); (try clear hk); (try clear hi); have hcz10_0 : w9.cell? ⟨gb207, 0, none⟩ = some (.int .i64 a0_0) := (blk_cell BK207.out 0).trans rfl; have hcz10_1 : w9.cell? ⟨gb207, 1, none⟩ = some (.int .i64 a0_1) := (blk_cell BK207.out 1).trans rfl; have hcz10_2 : w9.cell? ⟨gb207, 2, none⟩ = some (.int .i64 a0_2) := (blk_cell BK207.out 2).trans rfl; have hcz10_3 : w9.cell? ⟨gb207, 3, none⟩ = some (.string a0_3) := (blk_cell BK207.out 3).trans rfl; have hcz10_4 : w9.cell? ⟨gb207, 4, none⟩ = some (.int .i64 a0_4) := (blk_cell BK207.out 4).trans rfl; have hcz10_5 : w9.cell? ⟨gb207, 5, none⟩ = some (.int .i64 a0_5) := (blk_cell BK207.out 5).trans rfl; have hcz10_6 : w9.cell? ⟨gb207, 6, none⟩ = some (.int .i64 a0_6) := (blk_cell BK207.out 6).trans rfl; have hcz10_7 : w9.cell? ⟨gb207, 7, none⟩ = some (.int .i64 a0_7) := (blk_cell BK207.out 7).trans rfl; have hfz10_0 := blk_frozen BK207.out 0; have hfz10_1 := blk_frozen BK207.out 1; have hfz10_2 := blk_frozen BK207.out 2; have hfz10_3 := blk_frozen BK207.out 3; have hfz10_4 := blk_frozen BK207.out 4; have hfz10_5 := blk_frozen BK207.out 5; have hfz10_6 := blk_frozen BK207.out 6; have hfz10_7 := blk_frozen BK207.out 7) | ((with_reducible refine gate_dst (N := 11) rfl ?_); refine Kd.R_lit (Kd.int .u8) _ 5 ?hg (N := 11) ?hd (xs := ([(a0_0) % 256, 0] : List Int)) (inner := [.int .u8 ((a0_0) % 256), .int .u8 0]) (ok := fun _ => True) (okp := fun _ => True) ?hr ?hp (fun _ hk => hk) trivial (Below.refl _ _) (Nat.le_refl _) (by simp) ?_; (case hd => rfl); (case hg => rfl); (case hr => first | (go_simp; done) | (go_simp; rfl)); (case hp => exact (Reps.one (show Kd.M (Kd.int .u8) _ _ _ ((a0_0) % 256) [.int .u8 ((a0_0) % 256)] from rfl) (Reps.one (show Kd.M (Kd.int .u8) _ _ _ 0 [.int .u8 0] from rfl) (Reps.none _ _)))); intro v210 w11 ho12 hb hg_ hnew_; clear hg_ hnew_; (first | rw [← Ny209.out] at ho12 | (simp only [Int.reduceToNat] at ho12; rw [← Ny209.out] at ho12)); have n0_ := Aside0.mk (Kd.R_lower ho12 (below_size (by repeat (first | (with_reducible first | exact HB.out | apply below_alloc | apply pw_below_drewN | apply below_drew1 | refine below_set ?_ GE207.out) | exact HB.out)))); have n1_ := Aside0.mk (blk_below (g := gb207) (o := .cells #[.int .i64 a0_0, .int .i64 a0_1, .int .i64 a0_2, .string a0_3, .int .i64 a0_4, .int .i64 a0_5, .int .i64 a0_6, .int .i64 a0_7] 42 (0, 0)) (by (with_reducible repeat (first | refine blk_drewN ?_ _ | refine blk_drew ?_ | refine blk_alloc ?_ _)); exact BK207.out) hb); have n2_ := Aside0.mk (below_step (by repeat (first | (with_reducible first | exact HB.out | apply below_alloc | apply pw_below_drewN | apply below_drew1 | refine below_set ?_ GE207.out) | exact HB.out)) hb); clear BK207; clear HB; have HO211 := n0_; have BK207 := n1_; have HB := n2_; clear n0_ n1_ n2_; clear hb ho12; have hcz13_0 : w11.cell? ⟨gb207, 0, none⟩ = some (.int .i64 a0_0) := (blk_cell BK207.out 0).trans rfl; have hcz13_1 : w11.cell? ⟨gb207, 1, none⟩ = some (.int .i64 a0_1) := (blk_cell BK207.out 1).trans rfl; have hcz13_2 : w11.cell? ⟨gb207, 2, none⟩ = some (.int .i64 a0_2) := (blk_cell BK207.out 2).trans rfl; have hcz13_3 : w11.cell? ⟨gb207, 3, none⟩ = some (.string a0_3) := (blk_cell BK207.out 3).trans rfl; have hcz13_4 : w11.cell? ⟨gb207, 4, none⟩ = some (.int .i64 a0_4) := (blk_cell BK207.out 4).trans rfl; have hcz13_5 : w11.cell? ⟨gb207, 5, none⟩ = some (.int .i64 a0_5) := (blk_cell BK207.out 5).trans rfl; have hcz13_6 : w11.cell? ⟨gb207, 6, none⟩ = some (.int .i64 a0_6) := (blk_cell BK207.out 6).trans rfl; have hcz13_7 : w11.cell? ⟨gb207, 7, none⟩ = some (.int .i64 a0_7) := (blk_cell BK207.out 7).trans rfl; have hfz13_0 := blk_frozen BK207.out 0; have hfz13_1 := blk_frozen BK207.out 1; have hfz13_2 := blk_frozen BK207.out 2; have hfz13_3 := blk_frozen BK207.out 3; have hfz13_4 := blk_frozen BK207.out 4; have hfz13_5 := blk_frozen BK207.out 5; have hfz13_6 := blk_frozen BK207.out 6; have hfz13_7 := blk_frozen BK207.out 7; obtain ⟨Ao14, co14, eo14⟩ := Kd.R_slice HO211.out; subst eo14) | ((with_reducible refine gate_callee (f := 35) rfl ?_); refine goesL_ (some 26) rfl rfl Tryd.func35 (by kernel_rfl) rfl #[.slice Ao14 y209.length co14, .int .u64 (IntKind.u64.wrap (a0_4)), .int .i64 4] rfl (by (try simp only [List.map_toArray, List.map_cons, List.map_nil]); first | done | rfl | (simp only [List.length_drop, List.length_take]; rfl) | (simp (disch := omega) only [u64_in]; rfl)) ?_; (with_reducible refine (pack_Num.calls k (fun k_ => some k_ = (.slice Ao14 y209.length co14 : Value).ownBlock) (.slice Ao14 y209.length co14) y209 (IntKind.u64.wrap (a0_4)) 4 t212 w _ ?side1 ?side2 A5.out).mono ?_); (case side1 => repeat (first | (with_reducible first | exact HB.out | apply below_alloc | apply pw_below_drewN | apply below_drew1 | refine below_set ?_ GE207.out) | exact HB.out)); (case side2 => exact Kd.R_tight rfl HO211.out); rintro e w15 ⟨v213, rfl, ho0, hb, hkp⟩; refine ⟨_, rfl, ?_⟩; have n0_ := Aside0.mk (blk_kept (by (with_reducible repeat (first | refine blk_drewN ?_ _ | refine blk_drew ?_ | refine blk_alloc ?_ _)); exact BK207.out) hkp (fun hs_ => (fun e_ => (Kd.R_ne HO211.out BK207.out (by decide)) e_) hs_)); have n1_ := Aside0.mk (Kd.R_mono (ok' := fun k_ => True) ho0 (fun k_ hk_ => trivial)); have n2_ := Aside0.mk (hb); clear BK207; clear HB; clear HO211; have BK207 := n0_; have HO214 := n1_; have HB := n2_; clear n0_ n1_ n2_; (try clear hb); (try clear hkp); (try clear ho0); have hcz16_0 : w15.cell? ⟨gb207, 0, none⟩ = some (.int .i64 a0_0) := (blk_cell BK207.out 0).trans rfl; have hcz16_1 : w15.cell? ⟨gb207, 1, none⟩ = some (.int .i64 a0_1) := (blk_cell BK207.out 1).trans rfl; have hcz16_2 : w15.cell? ⟨gb207, 2, none⟩ = some (.int .i64 a0_2) := (blk_cell BK207.out 2).trans rfl; have hcz16_3 : w15.cell? ⟨gb207, 3, none⟩ = some (.string a0_3) := (blk_cell BK207.out 3).trans rfl; have hcz16_4 : w15.cell? ⟨gb207, 4, none⟩ = some (.int .i64 a0_4) := (blk_cell BK207.out 4).trans rfl; have hcz16_5 : w15.cell? ⟨gb207, 5, none⟩ = some (.int .i64 a0_5) := (blk_cell BK207.out 5).trans rfl; have hcz16_6 : w15.cell? ⟨gb207, 6, none⟩ = some (.int .i64 a0_6) := (blk_cell BK207.out 6).trans rfl; have hcz16_7 : w15.cell? ⟨gb207, 7, none⟩ = some (.int .i64 a0_7) := (blk_cell BK207.out 7).trans rfl; have hfz16_0 := blk_frozen BK207.out 0; have hfz16_1 := blk_frozen BK207.out 1; have hfz16_2 := blk_frozen BK207.out 2; have hfz16_3 := blk_frozen BK207.out 3; have hfz16_4 := blk_frozen BK207.out 4; have hfz16_5 := blk_frozen BK207.out 5; have hfz16_6 := blk_frozen BK207.out 6; have hfz16_7 := blk_frozen BK207.out 7) | ((with_reducible refine gate_dst (N := 37) rfl ?_); refine Kd.R_lit (Kd.int .u8) _ 5 ?hg (N := 37) ?hd (xs := ([(a0_5) % 256, (a0_6) % 256, (a0_7) % 256] : List Int)) (inner := [.int .u8 ((a0_5) % 256), .int .u8 ((a0_6) % 256), .int .u8 ((a0_7) % 256)]) (ok := fun _ => True) (okp := fun _ => True) ?hr ?hp (fun _ hk => hk) trivial (Below.refl _ _) (Nat.le_refl _) (by simp) ?_; (case hd => rfl); (case hg => rfl); (case hr => first | (go_simp; done) | (go_simp; rfl)); (case hp => exact (Reps.one (show Kd.M (Kd.int .u8) _ _ _ ((a0_5) % 256) [.int .u8 ((a0_5) % 256)] from rfl) (Reps.one (show Kd.M (Kd.int .u8) _ _ _ ((a0_6) % 256) [.int .u8 ((a0_6) % 256)] from rfl) (Reps.one (show Kd.M (Kd.int .u8) _ _ _ ((a0_7) % 256) [.int .u8 ((a0_7) % 256)] from rfl) (Reps.none _ _))))); intro v216 w17 ho18 hb hg_ hnew_; clear hg_ hnew_; (first | rw [← Ny215.out] at ho18 | (simp only [Int.reduceToNat] at ho18; rw [← Ny215.out] at ho18)); have n0_ := Aside0.mk (Kd.R_elder' (by (with_reducible repeat (first | apply Kd.R_alloc | apply Kd.R_drewN | apply Kd.R_drew)); exact HO214.out) (Kd.R_base ho18) hb); have n1_ := Aside0.mk (Kd.R_lower (Kd.R_new' ho18 (Kd.R_lt (by (with_reducible repeat (first | apply Kd.R_alloc | apply Kd.R_drewN | apply Kd.R_drew)); exact HO214.out))) (below_size (by repeat (first | (with_reducible first | exact HB.out | apply below_alloc | apply pw_below_drewN | apply below_drew1 | refine below_set ?_ GE207.out) | exact HB.out)))); have n2_ := Aside0.mk (blk_below (g := gb207) (o := .cells #[.int .i64 a0_0, .int .i64 a0_1, .int .i64 a0_2, .string a0_3, .int .i64 a0_4, .int .i64 a0_5, .int .i64 a0_6, .int .i64 a0_7] 42 (0, 0)) (by (with_reducible repeat (first | refine blk_drewN ?_ _ | refine blk_drew ?_ | refine blk_alloc ?_ _)); exact BK207.out) hb); have n3_ := Aside0.mk (below_step (by repeat (first | (with_reducible first | exact HB.out | apply below_alloc | apply pw_below_drewN | apply below_drew1 | refine below_set ?_ GE207.out) | exact HB.out)) hb); clear HO214; clear BK207; clear HB; have HO214 := n0_; have HO217 := n1_; have BK207 := n2_; have HB := n3_; clear n0_ n1_ n2_ n3_; clear hb ho18; obtain ⟨Ao20, co20, eo20⟩ := Kd.R_slice HO217.out; subst eo20) | ((with_reducible refine gate_builtin (b := .append) (xs := #[.tmp 27, .tmp 37]) rfl ?_); at_builtin; refine Kd.R_append_rows (Kd.int .u8) (w0 := w) w.heap.size rfl (.tmp 27) (.tmp 37) 60 5 (.int .u8 0) 1 rfl Tryd.underlying60 info5 rfl (by decide) (by omega) v213 t212 y215 _ _ _ (fun k_ => some k_ ≠ (.slice Ao20 y215.length co20 : Value).ownBlock) (fun _ => False) rfl rfl ?aO ?aR (fun _ _ h => h) (fun _ h => h.elim) ?aF ?aB ?aS ?aL ?_; (case aR => repeat (first | exact (Kd.R_reads' HO217.out).2.2 | (with_reducible refine Kd.C_alloc ?_ _) | (with_reducible refine Kd.C_drewN ?_ _) | (with_reducible refine Kd.C_drew ?_))); (case aB => exact (by repeat (first | (with_reducible first | exact HB.out | apply below_alloc | apply pw_below_drewN | apply below_drew1 | refine below_set ?_ GE207.out) | exact HB.out))); (case aF => exact (fun k_ hk => Kd.fresh' (Kd.R_lt (by (with_reducible repeat (first | apply Kd.R_alloc | apply Kd.R_drewN | apply Kd.R_drew)); exact HO217.out)) k_ hk)); (case aO => exact (by (with_reducible repeat (first | apply Kd.R_alloc | apply Kd.R_drewN | apply Kd.R_drew)); exact Kd.R_mono HO214.out (fun _ hk => hk.2))); (case aS => exact (below_size (by repeat (first | (with_reducible first | exact HB.out | apply below_alloc | apply pw_below_drewN | apply below_drew1 | refine below_set ?_ GE207.out) | exact HB.out)))); (case aL => have := LMc6.out; omega); intro v219 w19 ho hb hg hat; rw [← Ny218.out] at ho; have n0_ := Aside0.mk (blk_grown (g := gb207) (o := .cells #[.int .i64 a0_0, .int .i64 a0_1, .int .i64 a0_2, .string a0_3, .int .i64 a0_4, .int .i64 a0_5, .int .i64 a0_6, .int .i64 a0_7] 42 (0, 0)) (by (with_reducible repeat (first | refine blk_drewN ?_ _ | refine blk_drew ?_ | refine blk_alloc ?_ _)); exact BK207.out) hg (Kd.R_ne HO214.out BK207.out (by decide))); have n1_ := Aside0.mk (Kd.R_after (ok := (fun _ => True)) (by (with_reducible repeat (first | apply Kd.R_alloc | apply Kd.R_drewN | apply Kd.R_drew)); exact HO217.out) hg hat); have n2_ := Aside0.mk (hb); have n3_ := Aside0.mk (ho); clear BK207; clear HO217; clear HB; clear HO214; have BK207 := n0_; have HO217 := n1_; have HB := n2_; have HO220 := n3_; clear n0_ n1_ n2_ n3_; clear ho hb hg hat; have hcv21 := own_string (P := Tryd.prog) Tryd.underlying60 Tryd.underlying5 Tryd.underlying9 (Kd.own_of_R HO220.out)))
        go_ret2
        exact ⟨by first | (with_reducible rfl) | (simp only [isEmpty_bne, Bool.not_not] <;> with_reducible rfl) | (simp [errW_none, errW_some] <;> with_reducible rfl) | (simp only [isEmpty_bne, Bool.not_not] <;> rfl) | rfl | (simp [errW_none, errW_some] <;> rfl) | (simp [*, errW_none, errW_some] <;> rfl), by repeat (first | (with_reducible first | exact HB.out | apply below_alloc | apply pw_below_drewN | apply below_drew1 | refine below_set ?_ GE207.out) | exact HB.out)⟩
      · rw [if_neg c6] at H
        exact absurd H (by simp)
    · rw [if_neg c4] at H
      have c4b0 : (a0_1 == 0) = false := beq_eq_false_iff_ne.mpr c4
      have c4b1 : (a0_1 != 0) = true := bne_iff_ne.mpr c4
      by_cases c22 : 1 < (y209.length : Int)
      · rw [if_pos c22] at H
        have c22b0 : decide (1 < (y209.length : Int)) = true := decide_eq_true c22
        have c22b1 : decide (1 < y209.length) = true := decide_eq_true (by omega)
        clear c22
        obtain ⟨y221, hy221⟩ : ∃ y_ : List Int, y_ = (y209.set (1 : Int).toNat 1) := ⟨_, rfl⟩
        replace H : ((effects_put.f k y221 a0_1 a0_2 a0_3).bind fun t222 => ((pack_Num.f k t222 (IntKind.u64.wrap (a0_4)) 4).bind fun t225 => ((some (([(a0_5) % 256, (a0_6) % 256, (a0_7) % 256] : List Int) : List Int)).bind fun y228 => (if t225.length + y228.length < 140737488355328 then (some (strOfNums (t225 ++ y228), 0)) else (none))))) = some (r1, r2) := by first | (rw [hy221]; with_reducible exact H) | (have H2_ := (Option.bind_some _ _).symm.trans H; rw [hy221]; with_reducible exact H2_) | (have H2_ := (Option.bind_some _ _).symm.trans H; with_reducible exact H2_) | with_reducible exact H | (rw [hy221]; exact H) | exact H
        have Ny221 := Aside0.mk hy221
        clear hy221
        replace H := Option.bind_eq_some_iff.mp H
        obtain ⟨t222, A240, H⟩ := H
        replace H : ((pack_Num.f k t222 (IntKind.u64.wrap (a0_4)) 4).bind fun t225 => ((some (([(a0_5) % 256, (a0_6) % 256, (a0_7) % 256] : List Int) : List Int)).bind fun y228 => (if t225.length + y228.length < 140737488355328 then (some (strOfNums (t225 ++ y228), 0)) else (none)))) = some (r1, r2) := H
        have A24 := Aside0.mk A240
        clear A240
        replace H := Option.bind_eq_some_iff.mp H
        obtain ⟨t225, A250, H⟩ := H
        replace H : ((some (([(a0_5) % 256, (a0_6) % 256, (a0_7) % 256] : List Int) : List Int)).bind fun y228 => (if t225.length + y228.length < 140737488355328 then (some (strOfNums (t225 ++ y228), 0)) else (none))) = some (r1, r2) := H
        have A25 := Aside0.mk A250
        clear A250
        obtain ⟨y228, hy228⟩ : ∃ y_ : List Int, y_ = (([(a0_5) % 256, (a0_6) % 256, (a0_7) % 256] : List Int)) := ⟨_, rfl⟩
        replace H : (if t225.length + y228.length < 140737488355328 then (some (strOfNums (t225 ++ y228), 0)) else (none)) = some (r1, r2) := by first | (rw [hy228]; with_reducible exact H) | (have H2_ := (Option.bind_some _ _).symm.trans H; rw [hy228]; with_reducible exact H2_) | (have H2_ := (Option.bind_some _ _).symm.trans H; with_reducible exact H2_) | with_reducible exact H | (rw [hy228]; exact H) | exact H
        have Ny228 := Aside0.mk hy228
        clear hy228
        by_cases c26 : t225.length + y228.length < 140737488355328
        · rw [if_pos c26] at H
          have LMc26 := Aside0.mk c26
          clear c26
          obtain ⟨y231, hy231⟩ : ∃ y_ : List Int, y_ = (t225 ++ y228) := ⟨_, rfl⟩
          replace H : (some (strOfNums y231, 0)) = some (r1, r2) := by first | (rw [hy231]; with_reducible exact H) | (have H2_ := (Option.bind_some _ _).symm.trans H; rw [hy231]; with_reducible exact H2_) | (have H2_ := (Option.bind_some _ _).symm.trans H; with_reducible exact H2_) | with_reducible exact H | (rw [hy231]; exact H) | exact H
          have Ny231 := Aside0.mk hy231
          clear hy231
          simp only [Option.some.injEq, Prod.mk.injEq] at H
          obtain ⟨rfl, rfl⟩ := H
          go_enter Tryd.func13, Tryd.ntmps13
          go_wp2_with (first | ((with_reducible refine gate_dst (N := 1) rfl ?_); refine box_event ?hg (N := 1) ?hd (cs := #[.int .i64 a0_0, .int .i64 a0_1, .int .i64 a0_2, .string a0_3, .int .i64 a0_4, .int .i64 a0_5, .int .i64 a0_6, .int .i64 a0_7]) (t := 42) ?hr ?_; (case hd => rfl); (case hg => rfl); (case hr => first | (go_simp; done) | (go_simp; rfl)); intro gb207 hg w27 hbox hb; have n0_ := Aside0.mk (below_step (by repeat (first | (with_reducible first | exact HB.out | apply below_alloc | apply pw_below_drewN | apply below_drew1) | exact HB.out)) hb); have n1_ := Aside0.mk (hbox); have n2_ := Aside0.mk ((by rw [hg]; exact (below_size (by repeat (first | (with_reducible first | exact HB.out | apply below_alloc | apply pw_below_drewN | apply below_drew1) | exact HB.out))) : w.heap.size ≤ gb207)); have n3_ := Aside0.mk ((by rw [hg]; exact (below_size (by repeat (first | (with_reducible first | exact HB.out | apply below_alloc | apply pw_below_drewN | apply below_drew1) | exact HB.out))) : w.heap.size ≤ gb207)); clear HB; have HB := n0_; have BK207 := n1_; have GW207 := n2_; have GE207 := n3_; clear n0_ n1_ n2_ n3_; clear hb hbox hg; have hcz28_0 : w27.cell? ⟨gb207, 0, none⟩ = some (.int .i64 a0_0) := (blk_cell BK207.out 0).trans rfl; have hcz28_1 : w27.cell? ⟨gb207, 1, none⟩ = some (.int .i64 a0_1) := (blk_cell BK207.out 1).trans rfl; have hcz28_2 : w27.cell? ⟨gb207, 2, none⟩ = some (.int .i64 a0_2) := (blk_cell BK207.out 2).trans rfl; have hcz28_3 : w27.cell? ⟨gb207, 3, none⟩ = some (.string a0_3) := (blk_cell BK207.out 3).trans rfl; have hcz28_4 : w27.cell? ⟨gb207, 4, none⟩ = some (.int .i64 a0_4) := (blk_cell BK207.out 4).trans rfl; have hcz28_5 : w27.cell? ⟨gb207, 5, none⟩ = some (.int .i64 a0_5) := (blk_cell BK207.out 5).trans rfl; have hcz28_6 : w27.cell? ⟨gb207, 6, none⟩ = some (.int .i64 a0_6) := (blk_cell BK207.out 6).trans rfl; have hcz28_7 : w27.cell? ⟨gb207, 7, none⟩ = some (.int .i64 a0_7) := (blk_cell BK207.out 7).trans rfl; have hfz28_0 := blk_frozen BK207.out 0; have hfz28_1 := blk_frozen BK207.out 1; have hfz28_2 := blk_frozen BK207.out 2; have hfz28_3 := blk_frozen BK207.out 3; have hfz28_4 := blk_frozen BK207.out 4; have hfz28_5 := blk_frozen BK207.out 5; have hfz28_6 := blk_frozen BK207.out 6; have hfz28_7 := blk_frozen BK207.out 7) | ((with_reducible refine gate_callee (f := 34) rfl ?_); refine goesL_ (some 6) rfl rfl Tryd.func34 (by kernel_rfl) rfl #[.agg #[.int .i64 a0_0, .int .i64 a0_1, .int .i64 a0_2, .string a0_3, .int .i64 a0_4, .int .i64 a0_5, .int .i64 a0_6, .int .i64 a0_7]] rfl (by (try simp only [List.map_toArray, List.map_cons, List.map_nil]); first | done | rfl | (simp only [List.length_drop, List.length_take]; rfl) | (simp (disch := omega) only [u64_in]; rfl)) ?_; (with_reducible refine (effects_right.calls k a0_0 a0_1 a0_2 a0_3 a0_4 a0_5 a0_6 a0_7 true _ A2.out).mono ?_); rintro e w29 ⟨rfl, hb⟩; refine ⟨_, rfl, ?_⟩; have n0_ := Aside0.mk (blk_below (g := gb207) (o := .cells #[.int .i64 a0_0, .int .i64 a0_1, .int .i64 a0_2, .string a0_3, .int .i64 a0_4, .int .i64 a0_5, .int .i64 a0_6, .int .i64 a0_7] 42 (0, 0)) (by (with_reducible repeat (first | refine blk_drewN ?_ _ | refine blk_drew ?_ | refine blk_alloc ?_ _)); exact BK207.out) hb); have n1_ := Aside0.mk (below_step (by repeat (first | (with_reducible first | exact HB.out | apply below_alloc | apply pw_below_drewN | apply below_drew1 | refine below_set ?_ GE207.out) | exact HB.out)) hb); clear BK207; clear HB; have BK207 := n0_; have HB := n1_; clear n0_ n1_; (try clear hb); (try clear hb2); (try clear hk); (try clear hi); have hcz30_0 : w29.cell? ⟨gb207, 0, none⟩ = some (.int .i64 a0_0) := (blk_cell BK207.out 0).trans rfl; have hcz30_1 : w29.cell? ⟨gb207, 1, none⟩ = some (.int .i64 a0_1) := (blk_cell BK207.out 1).trans rfl; have hcz30_2 : w29.cell? ⟨gb207, 2, none⟩ = some (.int .i64 a0_2) := (blk_cell BK207.out 2).trans rfl; have hcz30_3 : w29.cell? ⟨gb207, 3, none⟩ = some (.string a0_3) := (blk_cell BK207.out 3).trans rfl; have hcz30_4 : w29.cell? ⟨gb207, 4, none⟩ = some (.int .i64 a0_4) := (blk_cell BK207.out 4).trans rfl; have hcz30_5 : w29.cell? ⟨gb207, 5, none⟩ = some (.int .i64 a0_5) := (blk_cell BK207.out 5).trans rfl; have hcz30_6 : w29.cell? ⟨gb207, 6, none⟩ = some (.int .i64 a0_6) := (blk_cell BK207.out 6).trans rfl; have hcz30_7 : w29.cell? ⟨gb207, 7, none⟩ = some (.int .i64 a0_7) := (blk_cell BK207.out 7).trans rfl; have hfz30_0 := blk_frozen BK207.out 0; have hfz30_1 := blk_frozen BK207.out 1; have hfz30_2 := blk_frozen BK207.out 2; have hfz30_3 := blk_frozen BK207.out 3; have hfz30_4 := blk_frozen BK207.out 4; have hfz30_5 := blk_frozen BK207.out 5; have hfz30_6 := blk_frozen BK207.out 6; have hfz30_7 := blk_frozen BK207.out 7) | ((with_reducible refine gate_dst (N := 11) rfl ?_); refine Kd.R_lit (Kd.int .u8) _ 5 ?hg (N := 11) ?hd (xs := ([(a0_0) % 256, 0] : List Int)) (inner := [.int .u8 ((a0_0) % 256), .int .u8 0]) (ok := fun _ => True) (okp := fun _ => True) ?hr ?hp (fun _ hk => hk) trivial (Below.refl _ _) (Nat.le_refl _) (by simp) ?_; (case hd => rfl); (case hg => rfl); (case hr => first | (go_simp; done) | (go_simp; rfl)); (case hp => exact (Reps.one (show Kd.M (Kd.int .u8) _ _ _ ((a0_0) % 256) [.int .u8 ((a0_0) % 256)] from rfl) (Reps.one (show Kd.M (Kd.int .u8) _ _ _ 0 [.int .u8 0] from rfl) (Reps.none _ _)))); intro v210 w31 ho32 hb hg_ hnew_; clear hg_ hnew_; (first | rw [← Ny209.out] at ho32 | (simp only [Int.reduceToNat] at ho32; rw [← Ny209.out] at ho32)); have n0_ := Aside0.mk (Kd.R_lower ho32 (below_size (by repeat (first | (with_reducible first | exact HB.out | apply below_alloc | apply pw_below_drewN | apply below_drew1 | refine below_set ?_ GE207.out) | exact HB.out)))); have n1_ := Aside0.mk (blk_below (g := gb207) (o := .cells #[.int .i64 a0_0, .int .i64 a0_1, .int .i64 a0_2, .string a0_3, .int .i64 a0_4, .int .i64 a0_5, .int .i64 a0_6, .int .i64 a0_7] 42 (0, 0)) (by (with_reducible repeat (first | refine blk_drewN ?_ _ | refine blk_drew ?_ | refine blk_alloc ?_ _)); exact BK207.out) hb); have n2_ := Aside0.mk (below_step (by repeat (first | (with_reducible first | exact HB.out | apply below_alloc | apply pw_below_drewN | apply below_drew1 | refine below_set ?_ GE207.out) | exact HB.out)) hb); clear BK207; clear HB; have HO211 := n0_; have BK207 := n1_; have HB := n2_; clear n0_ n1_ n2_; clear hb ho32; have hcz33_0 : w31.cell? ⟨gb207, 0, none⟩ = some (.int .i64 a0_0) := (blk_cell BK207.out 0).trans rfl; have hcz33_1 : w31.cell? ⟨gb207, 1, none⟩ = some (.int .i64 a0_1) := (blk_cell BK207.out 1).trans rfl; have hcz33_2 : w31.cell? ⟨gb207, 2, none⟩ = some (.int .i64 a0_2) := (blk_cell BK207.out 2).trans rfl; have hcz33_3 : w31.cell? ⟨gb207, 3, none⟩ = some (.string a0_3) := (blk_cell BK207.out 3).trans rfl; have hcz33_4 : w31.cell? ⟨gb207, 4, none⟩ = some (.int .i64 a0_4) := (blk_cell BK207.out 4).trans rfl; have hcz33_5 : w31.cell? ⟨gb207, 5, none⟩ = some (.int .i64 a0_5) := (blk_cell BK207.out 5).trans rfl; have hcz33_6 : w31.cell? ⟨gb207, 6, none⟩ = some (.int .i64 a0_6) := (blk_cell BK207.out 6).trans rfl; have hcz33_7 : w31.cell? ⟨gb207, 7, none⟩ = some (.int .i64 a0_7) := (blk_cell BK207.out 7).trans rfl; have hfz33_0 := blk_frozen BK207.out 0; have hfz33_1 := blk_frozen BK207.out 1; have hfz33_2 := blk_frozen BK207.out 2; have hfz33_3 := blk_frozen BK207.out 3; have hfz33_4 := blk_frozen BK207.out 4; have hfz33_5 := blk_frozen BK207.out 5; have hfz33_6 := blk_frozen BK207.out 6; have hfz33_7 := blk_frozen BK207.out 7; have p23 : 0 ≤ (1 : Int) := (by omega); have q23 : (1 : Int) < ((y209.length : Int) : Int) := of_decide_eq_true (by first | (with_reducible assumption) | assumption); have qi23 : (1 < y209.length) = True := eq_true (by omega); obtain ⟨go23, co23, eo23, gb23, gl23, cl23, HG23⟩ := Kd.R_form HO211.out (by omega); (first | cases eo23 | (injection eo23 with ea_ en_ ec_; (first | subst ea_ | (injection ea_ with ea_; subst ea_)); subst ec_; clear en_)); have GB23 := Aside0.mk gb23; have GG23 := Aside0.mk HG23; clear gb23 gl23 HG23; obtain ⟨hx23_0, hf23_0⟩ := Kd.R_celln 0 HO211.out (1 : Int) p23 q23; (try rw [show ((1 : Int)).toNat = 1 from rfl] at hx23_0); (try simp only [Nat.reduceMul, Nat.zero_mul, Nat.zero_add, Nat.reduceAdd] at hx23_0); (try rw [show ((1 : Int)).toNat = 1 from rfl] at hf23_0); (try simp only [Nat.reduceMul, Nat.zero_mul, Nat.zero_add, Nat.reduceAdd] at hf23_0); replace p23 := eq_true p23; replace q23 := eq_true q23; obtain ⟨hy34_, hz34_⟩ := Kd.R_celln 0 HO211.out (1 : Int) (by omega) (of_decide_eq_true (by first | (with_reducible assumption) | assumption)); (try simp only [Int.reduceToNat, Int.toNat_zero, Int.toNat_ofNat, Nat.reduceMul, Nat.zero_mul, Nat.zero_add] at hy34_ hz34_); (try rw [show ((1 : Int)).toNat = 1 from rfl] at hy34_); (try rw [show ((1 : Int)).toNat = 1 from rfl] at hz34_); have HP34 := Kd.R_putg HO211.out (1 : Int) 1) | ((with_reducible refine gate_store (t := 5) (p := 17) rfl ?_); refine store_event (t := 5) (p := 17) (v := ?vo_w35) (w1 := (w31.setCell ⟨go23, (1 : Int).toNat, none⟩ (.int .u8 1))) ?hg ?ho ?hn ?hr ?_; (case ho => rfl); (case hg => rfl); (case hn => rfl); (case hr => first | (go_simp; done) | (go_simp; rfl)); intro w35 hw; have hg : w31.grownBy w35 (some go23) := (by rw [hw]; exact HP34.2); have hp_ : Kd.R (Kd.int .u8) 5 w35 w.heap.size (fun _ => True) (.slice (some ⟨go23, 0, none⟩) y209.length co23) y221 := (by rw [hw, Ny221.out]; exact HP34.1); clear HP34; have n0_ := Aside0.mk (blk_grown (g := gb207) (o := .cells #[.int .i64 a0_0, .int .i64 a0_1, .int .i64 a0_2, .string a0_3, .int .i64 a0_4, .int .i64 a0_5, .int .i64 a0_6, .int .i64 a0_7] 42 (0, 0)) (by (with_reducible repeat (first | refine blk_drewN ?_ _ | refine blk_drew ?_ | refine blk_alloc ?_ _)); exact BK207.out) hg (Kd.R_ne HO211.out BK207.out (by decide))); have n1_ := Aside0.mk (hp_); have n2_ := Aside0.mk ((by rw [hw]; exact below_set (HB.out) GB23.out : Below w.heap.size w w35)); clear BK207; clear HO211; clear HB; have BK207 := n0_; have HO211 := n1_; have HB := n2_; clear n0_ n1_ n2_; clear hg hw hp_; have hcz36_0 : w35.cell? ⟨gb207, 0, none⟩ = some (.int .i64 a0_0) := (blk_cell BK207.out 0).trans rfl; have hcz36_1 : w35.cell? ⟨gb207, 1, none⟩ = some (.int .i64 a0_1) := (blk_cell BK207.out 1).trans rfl; have hcz36_2 : w35.cell? ⟨gb207, 2, none⟩ = some (.int .i64 a0_2) := (blk_cell BK207.out 2).trans rfl; have hcz36_3 : w35.cell? ⟨gb207, 3, none⟩ = some (.string a0_3) := (blk_cell BK207.out 3).trans rfl; have hcz36_4 : w35.cell? ⟨gb207, 4, none⟩ = some (.int .i64 a0_4) := (blk_cell BK207.out 4).trans rfl; have hcz36_5 : w35.cell? ⟨gb207, 5, none⟩ = some (.int .i64 a0_5) := (blk_cell BK207.out 5).trans rfl; have hcz36_6 : w35.cell? ⟨gb207, 6, none⟩ = some (.int .i64 a0_6) := (blk_cell BK207.out 6).trans rfl; have hcz36_7 : w35.cell? ⟨gb207, 7, none⟩ = some (.int .i64 a0_7) := (blk_cell BK207.out 7).trans rfl; have hfz36_0 := blk_frozen BK207.out 0; have hfz36_1 := blk_frozen BK207.out 1; have hfz36_2 := blk_frozen BK207.out 2; have hfz36_3 := blk_frozen BK207.out 3; have hfz36_4 := blk_frozen BK207.out 4; have hfz36_5 := blk_frozen BK207.out 5; have hfz36_6 := blk_frozen BK207.out 6; have hfz36_7 := blk_frozen BK207.out 7) | ((with_reducible refine gate_callee (f := 25) rfl ?_); refine goesL_ (some 21) rfl rfl Tryd.func25 (by kernel_rfl) rfl #[.slice (some ⟨go23, 0, none⟩) y209.length co23, .agg #[.int .i64 a0_1, .int .i64 a0_2, .string a0_3]] rfl (by (try simp only [List.map_toArray, List.map_cons, List.map_nil]); first | done | rfl | (simp only [List.length_drop, List.length_take]; rfl) | (simp (disch := omega) only [u64_in]; rfl)) ?_; (with_reducible refine (effects_put.calls k (fun k_ => some k_ = (.slice (some ⟨go23, 0, none⟩) y209.length co23 : Value).ownBlock) (.slice (some ⟨go23, 0, none⟩) y209.length co23) y221 a0_1 a0_2 a0_3 t222 w _ ?side1 ?side2 A24.out).mono ?_); (case side1 => repeat (first | (with_reducible first | exact HB.out | apply below_alloc | apply pw_below_drewN | apply below_drew1 | refine below_set ?_ GE207.out) | exact HB.out)); (case side2 => exact Kd.R_tight rfl HO211.out); rintro e w37 ⟨v223, rfl, ho0, hb, hkp⟩; refine ⟨_, rfl, ?_⟩; have n0_ := Aside0.mk (blk_kept (by (with_reducible repeat (first | refine blk_drewN ?_ _ | refine blk_drew ?_ | refine blk_alloc ?_ _)); exact BK207.out) hkp (fun hs_ => (fun e_ => (Kd.R_ne HO211.out BK207.out (by decide)) e_) hs_)); have n1_ := Aside0.mk (Kd.R_mono (ok' := fun k_ => True) ho0 (fun k_ hk_ => trivial)); have n2_ := Aside0.mk (hb); clear BK207; clear HB; clear HO211; have BK207 := n0_; have HO224 := n1_; have HB := n2_; clear n0_ n1_ n2_; (try clear hb); (try clear hkp); (try clear ho0); have hcz38_0 : w37.cell? ⟨gb207, 0, none⟩ = some (.int .i64 a0_0) := (blk_cell BK207.out 0).trans rfl; have hcz38_1 : w37.cell? ⟨gb207, 1, none⟩ = some (.int .i64 a0_1) := (blk_cell BK207.out 1).trans rfl; have hcz38_2 : w37.cell? ⟨gb207, 2, none⟩ = some (.int .i64 a0_2) := (blk_cell BK207.out 2).trans rfl; have hcz38_3 : w37.cell? ⟨gb207, 3, none⟩ = some (.string a0_3) := (blk_cell BK207.out 3).trans rfl; have hcz38_4 : w37.cell? ⟨gb207, 4, none⟩ = some (.int .i64 a0_4) := (blk_cell BK207.out 4).trans rfl; have hcz38_5 : w37.cell? ⟨gb207, 5, none⟩ = some (.int .i64 a0_5) := (blk_cell BK207.out 5).trans rfl; have hcz38_6 : w37.cell? ⟨gb207, 6, none⟩ = some (.int .i64 a0_6) := (blk_cell BK207.out 6).trans rfl; have hcz38_7 : w37.cell? ⟨gb207, 7, none⟩ = some (.int .i64 a0_7) := (blk_cell BK207.out 7).trans rfl; have hfz38_0 := blk_frozen BK207.out 0; have hfz38_1 := blk_frozen BK207.out 1; have hfz38_2 := blk_frozen BK207.out 2; have hfz38_3 := blk_frozen BK207.out 3; have hfz38_4 := blk_frozen BK207.out 4; have hfz38_5 := blk_frozen BK207.out 5; have hfz38_6 := blk_frozen BK207.out 6; have hfz38_7 := blk_frozen BK207.out 7; obtain ⟨Ao39, co39, eo39⟩ := Kd.R_slice HO224.out; subst eo39) | ((with_reducible refine gate_callee (f := 35) rfl ?_); refine goesL_ (some 26) rfl rfl Tryd.func35 (by kernel_rfl) rfl #[.slice Ao39 t222.length co39, .int .u64 (IntKind.u64.wrap (a0_4)), .int .i64 4] rfl (by (try simp only [List.map_toArray, List.map_cons, List.map_nil]); first | done | rfl | (simp only [List.length_drop, List.length_take]; rfl) | (simp (disch := omega) only [u64_in]; rfl)) ?_; (with_reducible refine (pack_Num.calls k (fun k_ => some k_ = (.slice Ao39 t222.length co39 : Value).ownBlock) (.slice Ao39 t222.length co39) t222 (IntKind.u64.wrap (a0_4)) 4 t225 w _ ?side1 ?side2 A25.out).mono ?_); (case side1 => repeat (first | (with_reducible first | exact HB.out | apply below_alloc | apply pw_below_drewN | apply below_drew1 | refine below_set ?_ GE207.out) | exact HB.out)); (case side2 => exact Kd.R_tight rfl HO224.out); rintro e w40 ⟨v226, rfl, ho0, hb, hkp⟩; refine ⟨_, rfl, ?_⟩; have n0_ := Aside0.mk (blk_kept (by (with_reducible repeat (first | refine blk_drewN ?_ _ | refine blk_drew ?_ | refine blk_alloc ?_ _)); exact BK207.out) hkp (fun hs_ => (fun e_ => (Kd.R_ne HO224.out BK207.out (by decide)) e_) hs_)); have n1_ := Aside0.mk (Kd.R_mono (ok' := fun k_ => True) ho0 (fun k_ hk_ => trivial)); have n2_ := Aside0.mk (hb); clear BK207; clear HB; clear HO224; have BK207 := n0_; have HO227 := n1_; have HB := n2_; clear n0_ n1_ n2_; (try clear hb); (try clear hkp); (try clear ho0); have hcz41_0 : w40.cell? ⟨gb207, 0, none⟩ = some (.int .i64 a0_0) := (blk_cell BK207.out 0).trans rfl; have hcz41_1 : w40.cell? ⟨gb207, 1, none⟩ = some (.int .i64 a0_1) := (blk_cell BK207.out 1).trans rfl; have hcz41_2 : w40.cell? ⟨gb207, 2, none⟩ = some (.int .i64 a0_2) := (blk_cell BK207.out 2).trans rfl; have hcz41_3 : w40.cell? ⟨gb207, 3, none⟩ = some (.string a0_3) := (blk_cell BK207.out 3).trans rfl; have hcz41_4 : w40.cell? ⟨gb207, 4, none⟩ = some (.int .i64 a0_4) := (blk_cell BK207.out 4).trans rfl; have hcz41_5 : w40.cell? ⟨gb207, 5, none⟩ = some (.int .i64 a0_5) := (blk_cell BK207.out 5).trans rfl; have hcz41_6 : w40.cell? ⟨gb207, 6, none⟩ = some (.int .i64 a0_6) := (blk_cell BK207.out 6).trans rfl; have hcz41_7 : w40.cell? ⟨gb207, 7, none⟩ = some (.int .i64 a0_7) := (blk_cell BK207.out 7).trans rfl; have hfz41_0 := blk_frozen BK207.out 0; have hfz41_1 := blk_frozen BK207.out 1; have hfz41_2 := blk_frozen BK207.out 2; have hfz41_3 := blk_frozen BK207.out 3; have hfz41_4 := blk_frozen BK207.out 4; have hfz41_5 := blk_frozen BK207.out 5; have hfz41_6 := blk_frozen BK207.out 6; have hfz41_7 := blk_frozen BK207.out 7) | ((with_reducible refine gate_dst (N := 37) rfl ?_); refine Kd.R_lit (Kd.int .u8) _ 5 ?hg (N := 37) ?hd (xs := ([(a0_5) % 256, (a0_6) % 256, (a0_7) % 256] : List Int)) (inner := [.int .u8 ((a0_5) % 256), .int .u8 ((a0_6) % 256), .int .u8 ((a0_7) % 256)]) (ok := fun _ => True) (okp := fun _ => True) ?hr ?hp (fun _ hk => hk) trivial (Below.refl _ _) (Nat.le_refl _) (by simp) ?_; (case hd => rfl); (case hg => rfl); (case hr => first | (go_simp; done) | (go_simp; rfl)); (case hp => exact (Reps.one (show Kd.M (Kd.int .u8) _ _ _ ((a0_5) % 256) [.int .u8 ((a0_5) % 256)] from rfl) (Reps.one (show Kd.M (Kd.int .u8) _ _ _ ((a0_6) % 256) [.int .u8 ((a0_6) % 256)] from rfl) (Reps.one (show Kd.M (Kd.int .u8) _ _ _ ((a0_7) % 256) [.int .u8 ((a0_7) % 256)] from rfl) (Reps.none _ _))))); intro v229 w42 ho43 hb hg_ hnew_; clear hg_ hnew_; (first | rw [← Ny228.out] at ho43 | (simp only [Int.reduceToNat] at ho43; rw [← Ny228.out] at ho43)); have n0_ := Aside0.mk (Kd.R_elder' (by (with_reducible repeat (first | apply Kd.R_alloc | apply Kd.R_drewN | apply Kd.R_drew)); exact HO227.out) (Kd.R_base ho43) hb); have n1_ := Aside0.mk (Kd.R_lower (Kd.R_new' ho43 (Kd.R_lt (by (with_reducible repeat (first | apply Kd.R_alloc | apply Kd.R_drewN | apply Kd.R_drew)); exact HO227.out))) (below_size (by repeat (first | (with_reducible first | exact HB.out | apply below_alloc | apply pw_below_drewN | apply below_drew1 | refine below_set ?_ GE207.out) | exact HB.out)))); have n2_ := Aside0.mk (blk_below (g := gb207) (o := .cells #[.int .i64 a0_0, .int .i64 a0_1, .int .i64 a0_2, .string a0_3, .int .i64 a0_4, .int .i64 a0_5, .int .i64 a0_6, .int .i64 a0_7] 42 (0, 0)) (by (with_reducible repeat (first | refine blk_drewN ?_ _ | refine blk_drew ?_ | refine blk_alloc ?_ _)); exact BK207.out) hb); have n3_ := Aside0.mk (below_step (by repeat (first | (with_reducible first | exact HB.out | apply below_alloc | apply pw_below_drewN | apply below_drew1 | refine below_set ?_ GE207.out) | exact HB.out)) hb); clear HO227; clear BK207; clear HB; have HO227 := n0_; have HO230 := n1_; have BK207 := n2_; have HB := n3_; clear n0_ n1_ n2_ n3_; clear hb ho43; obtain ⟨Ao45, co45, eo45⟩ := Kd.R_slice HO230.out; subst eo45) | ((with_reducible refine gate_builtin (b := .append) (xs := #[.tmp 27, .tmp 37]) rfl ?_); at_builtin; refine Kd.R_append_rows (Kd.int .u8) (w0 := w) w.heap.size rfl (.tmp 27) (.tmp 37) 60 5 (.int .u8 0) 1 rfl Tryd.underlying60 info5 rfl (by decide) (by omega) v226 t225 y228 _ _ _ (fun k_ => some k_ ≠ (.slice Ao45 y228.length co45 : Value).ownBlock) (fun _ => False) rfl rfl ?aO ?aR (fun _ _ h => h) (fun _ h => h.elim) ?aF ?aB ?aS ?aL ?_; (case aR => repeat (first | exact (Kd.R_reads' HO230.out).2.2 | (with_reducible refine Kd.C_alloc ?_ _) | (with_reducible refine Kd.C_drewN ?_ _) | (with_reducible refine Kd.C_drew ?_))); (case aB => exact (by repeat (first | (with_reducible first | exact HB.out | apply below_alloc | apply pw_below_drewN | apply below_drew1 | refine below_set ?_ GE207.out) | exact HB.out))); (case aF => exact (fun k_ hk => Kd.fresh' (Kd.R_lt (by (with_reducible repeat (first | apply Kd.R_alloc | apply Kd.R_drewN | apply Kd.R_drew)); exact HO230.out)) k_ hk)); (case aO => exact (by (with_reducible repeat (first | apply Kd.R_alloc | apply Kd.R_drewN | apply Kd.R_drew)); exact Kd.R_mono HO227.out (fun _ hk => hk.2))); (case aS => exact (below_size (by repeat (first | (with_reducible first | exact HB.out | apply below_alloc | apply pw_below_drewN | apply below_drew1 | refine below_set ?_ GE207.out) | exact HB.out)))); (case aL => have := LMc26.out; omega); intro v232 w44 ho hb hg hat; rw [← Ny231.out] at ho; have n0_ := Aside0.mk (blk_grown (g := gb207) (o := .cells #[.int .i64 a0_0, .int .i64 a0_1, .int .i64 a0_2, .string a0_3, .int .i64 a0_4, .int .i64 a0_5, .int .i64 a0_6, .int .i64 a0_7] 42 (0, 0)) (by (with_reducible repeat (first | refine blk_drewN ?_ _ | refine blk_drew ?_ | refine blk_alloc ?_ _)); exact BK207.out) hg (Kd.R_ne HO227.out BK207.out (by decide))); have n1_ := Aside0.mk (Kd.R_after (ok := (fun _ => True)) (by (with_reducible repeat (first | apply Kd.R_alloc | apply Kd.R_drewN | apply Kd.R_drew)); exact HO230.out) hg hat); have n2_ := Aside0.mk (hb); have n3_ := Aside0.mk (ho); clear BK207; clear HO230; clear HB; clear HO227; have BK207 := n0_; have HO230 := n1_; have HB := n2_; have HO233 := n3_; clear n0_ n1_ n2_ n3_; clear ho hb hg hat; have hcv46 := own_string (P := Tryd.prog) Tryd.underlying60 Tryd.underlying5 Tryd.underlying9 (Kd.own_of_R HO233.out)))
          go_ret2
          exact ⟨by first | (with_reducible rfl) | (simp only [isEmpty_bne, Bool.not_not] <;> with_reducible rfl) | (simp [errW_none, errW_some] <;> with_reducible rfl) | (simp only [isEmpty_bne, Bool.not_not] <;> rfl) | rfl | (simp [errW_none, errW_some] <;> rfl) | (simp [*, errW_none, errW_some] <;> rfl), by repeat (first | (with_reducible first | exact HB.out | apply below_alloc | apply pw_below_drewN | apply below_drew1 | refine below_set ?_ GE207.out) | exact HB.out)⟩
        · rw [if_neg c26] at H
          exact absurd H (by simp)
      · rw [if_neg c22] at H
        exact absurd H (by simp)
  · replace c3 := Bool.eq_false_iff.mpr c3
    subst c3
    have H1 : (some ((⟨#[]⟩ : ByteArray), 4)) = some (r1, r2) := by rw [if_neg (show ¬ (false = true) by decide)] at H; exact H
    clear H
    have H := H1
    clear H1
    simp only [Option.some.injEq, Prod.mk.injEq] at H
    obtain ⟨rfl, rfl⟩ := H
    go_enter Tryd.func13, Tryd.ntmps13
    go_wp2_with (first | ((with_reducible refine gate_dst (N := 1) rfl ?_); refine box_event ?hg (N := 1) ?hd (cs := #[.int .i64 a0_0, .int .i64 a0_1, .int .i64 a0_2, .string a0_3, .int .i64 a0_4, .int .i64 a0_5, .int .i64 a0_6, .int .i64 a0_7]) (t := 42) ?hr ?_; (case hd => rfl); (case hg => rfl); (case hr => first | (go_simp; done) | (go_simp; rfl)); intro gb207 hg w47 hbox hb; have n0_ := Aside0.mk (below_step (by repeat (first | (with_reducible first | exact HB.out | apply below_alloc | apply pw_below_drewN | apply below_drew1) | exact HB.out)) hb); have n1_ := Aside0.mk (hbox); have n2_ := Aside0.mk ((by rw [hg]; exact (below_size (by repeat (first | (with_reducible first | exact HB.out | apply below_alloc | apply pw_below_drewN | apply below_drew1) | exact HB.out))) : w.heap.size ≤ gb207)); have n3_ := Aside0.mk ((by rw [hg]; exact (below_size (by repeat (first | (with_reducible first | exact HB.out | apply below_alloc | apply pw_below_drewN | apply below_drew1) | exact HB.out))) : w.heap.size ≤ gb207)); clear HB; have HB := n0_; have BK207 := n1_; have GW207 := n2_; have GE207 := n3_; clear n0_ n1_ n2_ n3_; clear hb hbox hg; have hcz48_0 : w47.cell? ⟨gb207, 0, none⟩ = some (.int .i64 a0_0) := (blk_cell BK207.out 0).trans rfl; have hcz48_1 : w47.cell? ⟨gb207, 1, none⟩ = some (.int .i64 a0_1) := (blk_cell BK207.out 1).trans rfl; have hcz48_2 : w47.cell? ⟨gb207, 2, none⟩ = some (.int .i64 a0_2) := (blk_cell BK207.out 2).trans rfl; have hcz48_3 : w47.cell? ⟨gb207, 3, none⟩ = some (.string a0_3) := (blk_cell BK207.out 3).trans rfl; have hcz48_4 : w47.cell? ⟨gb207, 4, none⟩ = some (.int .i64 a0_4) := (blk_cell BK207.out 4).trans rfl; have hcz48_5 : w47.cell? ⟨gb207, 5, none⟩ = some (.int .i64 a0_5) := (blk_cell BK207.out 5).trans rfl; have hcz48_6 : w47.cell? ⟨gb207, 6, none⟩ = some (.int .i64 a0_6) := (blk_cell BK207.out 6).trans rfl; have hcz48_7 : w47.cell? ⟨gb207, 7, none⟩ = some (.int .i64 a0_7) := (blk_cell BK207.out 7).trans rfl; have hfz48_0 := blk_frozen BK207.out 0; have hfz48_1 := blk_frozen BK207.out 1; have hfz48_2 := blk_frozen BK207.out 2; have hfz48_3 := blk_frozen BK207.out 3; have hfz48_4 := blk_frozen BK207.out 4; have hfz48_5 := blk_frozen BK207.out 5; have hfz48_6 := blk_frozen BK207.out 6; have hfz48_7 := blk_frozen BK207.out 7) | ((with_reducible refine gate_callee (f := 34) rfl ?_); refine goesL_ (some 6) rfl rfl Tryd.func34 (by kernel_rfl) rfl #[.agg #[.int .i64 a0_0, .int .i64 a0_1, .int .i64 a0_2, .string a0_3, .int .i64 a0_4, .int .i64 a0_5, .int .i64 a0_6, .int .i64 a0_7]] rfl (by (try simp only [List.map_toArray, List.map_cons, List.map_nil]); first | done | rfl | (simp only [List.length_drop, List.length_take]; rfl) | (simp (disch := omega) only [u64_in]; rfl)) ?_; (with_reducible refine (effects_right.calls k a0_0 a0_1 a0_2 a0_3 a0_4 a0_5 a0_6 a0_7 false _ A2.out).mono ?_); rintro e w49 ⟨rfl, hb⟩; refine ⟨_, rfl, ?_⟩; have n0_ := Aside0.mk (blk_below (g := gb207) (o := .cells #[.int .i64 a0_0, .int .i64 a0_1, .int .i64 a0_2, .string a0_3, .int .i64 a0_4, .int .i64 a0_5, .int .i64 a0_6, .int .i64 a0_7] 42 (0, 0)) (by (with_reducible repeat (first | refine blk_drewN ?_ _ | refine blk_drew ?_ | refine blk_alloc ?_ _)); exact BK207.out) hb); have n1_ := Aside0.mk (below_step (by repeat (first | (with_reducible first | exact HB.out | apply below_alloc | apply pw_below_drewN | apply below_drew1 | refine below_set ?_ GE207.out) | exact HB.out)) hb); clear BK207; clear HB; have BK207 := n0_; have HB := n1_; clear n0_ n1_; (try clear hb); (try clear hb2); (try clear hk); (try clear hi)))
    go_ret2
    exact ⟨by first | (with_reducible rfl) | (simp only [isEmpty_bne, Bool.not_not] <;> with_reducible rfl) | (simp [errW_none, errW_some] <;> with_reducible rfl) | (simp only [isEmpty_bne, Bool.not_not] <;> rfl) | rfl | (simp [errW_none, errW_some] <;> rfl) | (simp [*, errW_none, errW_some] <;> rfl), by repeat (first | (with_reducible first | exact HB.out | apply below_alloc | apply pw_below_drewN | apply below_drew1 | refine below_set ?_ GE207.out) | exact HB.out)⟩

end Go.Proofs.YtjkjkebblkmpkaaDoor.PAll
