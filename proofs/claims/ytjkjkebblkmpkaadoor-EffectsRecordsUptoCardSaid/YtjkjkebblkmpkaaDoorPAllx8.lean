/- Printed walks of the functions that the laws reach: each function, what it computes, and that it does. No conditions. -/
import Derived.Test.YtjkjkebblkmpkaaDoorPAllx0
import Derived.Test.YtjkjkebblkmpkaaDoorPAllx1
namespace Go.Proofs.YtjkjkebblkmpkaaDoor.PAll
open Go.RowKit Go.Proofs.YtjkjkebblkmpkaaDoor.XW Go.Proofs.YtjkjkebblkmpkaaDoor.XLib Go.Proofs.YtjkjkebblkmpkaaDoorW.PrintWords Go.Proofs.YtjkjkebblkmpkaaDoorW.PrintLast Go.Proofs.YtjkjkebblkmpkaaDoorW.PrintMore
attribute [local go_sem] max2_int min2_int max_two min_two max_three min_three max_four min_four   -- for this text's walks alone
set_option linter.unusedVariables false
set_option linter.unusedSimpArgs false

attribute [local go_sem high] eqA24
/-! ### factotumref02_Right: function 42 -/
def factotumref02_Right.f (a0_0 : Int) (a0_1 : Int) (a0_2 : ByteArray) : Option (Bool) := if a0_0 = 1 then (if a0_2.toList = ([] : List UInt8) then (some true) else (if a0_0 = 2 then (some (a0_1 == 0)) else (some false))) else (if a0_0 = 2 then (some (a0_1 == 0)) else (some false))
set_option maxHeartbeats 8000000 in
set_option maxRecDepth 100000 in
theorem factotumref02_Right.calls (a0_0 : Int) (a0_1 : Int) (a0_2 : ByteArray) (r : Bool) (w : World) (h : factotumref02_Right.f a0_0 a0_1 a0_2 = some r) :
    Calls Tryd.prog 42 #[.agg #[.int .i64 a0_0, .int .i64 a0_1, .string a0_2]] w fun e w' => e = .returned (.bool r) ∧ Below w.heap.size w w' := by
  have hu24 := Tryd.underlying24
  have HB := Aside0.mk (Below.refl w.heap.size w)
  have H : (if a0_0 = 1 then (if a0_2.toList = ([] : List UInt8) then (some true) else (if a0_0 = 2 then (some (a0_1 == 0)) else (some false))) else (if a0_0 = 2 then (some (a0_1 == 0)) else (some false))) = some r := h
  clear h
  by_cases c2 : a0_0 = 1
  · rw [if_pos c2] at H
    have c2b0 : (a0_0 == 1) = true := beq_iff_eq.mpr c2
    have c2b1 : (a0_0 != 1) = false := bne_eq_false_iff_eq.mpr c2
    clear c2
    by_cases c3 : a0_2.toList = ([] : List UInt8)
    · rw [if_pos c3] at H
      have c3b0 : (a0_2.toList == ([] : List UInt8)) = true := beq_iff_eq.mpr c3
      (try (have c3b7 : (a0_2.toList.isEmpty) = true := by simp only [isEmpty_beq]; exact c3b0))
      have c3b1 : (a0_2.toList != ([] : List UInt8)) = false := bne_eq_false_iff_eq.mpr c3
      clear c3
      obtain rfl := Option.some.inj H
      go_enter Tryd.func42, Tryd.ntmps42
      go_wp2_with (first | ((with_reducible refine gate_dst (N := 1) rfl ?_); refine box_event ?hg (N := 1) ?hd (cs := #[.int .i64 a0_0, .int .i64 a0_1, .string a0_2]) (t := 24) ?hr ?_; (case hd => rfl); (case hg => rfl); (case hr => first | (go_simp; done) | (go_simp; rfl)); intro gb234 hg w4 hbox hb; have n0_ := Aside0.mk (below_step (by repeat (first | (with_reducible first | exact HB.out | apply below_alloc | apply pw_below_drewN | apply below_drew1) | exact HB.out)) hb); have n1_ := Aside0.mk (hbox); have n2_ := Aside0.mk ((by rw [hg]; exact (below_size (by repeat (first | (with_reducible first | exact HB.out | apply below_alloc | apply pw_below_drewN | apply below_drew1) | exact HB.out))) : w.heap.size ≤ gb234)); have n3_ := Aside0.mk ((by rw [hg]; exact (below_size (by repeat (first | (with_reducible first | exact HB.out | apply below_alloc | apply pw_below_drewN | apply below_drew1) | exact HB.out))) : w.heap.size ≤ gb234)); clear HB; have HB := n0_; have BK234 := n1_; have GW234 := n2_; have GE234 := n3_; clear n0_ n1_ n2_ n3_; clear hb hbox hg; have hcz5_0 : w4.cell? ⟨gb234, 0, none⟩ = some (.int .i64 a0_0) := (blk_cell BK234.out 0).trans rfl; have hcz5_1 : w4.cell? ⟨gb234, 1, none⟩ = some (.int .i64 a0_1) := (blk_cell BK234.out 1).trans rfl; have hcz5_2 : w4.cell? ⟨gb234, 2, none⟩ = some (.string a0_2) := (blk_cell BK234.out 2).trans rfl; have hfz5_0 := blk_frozen BK234.out 0; have hfz5_1 := blk_frozen BK234.out 1; have hfz5_2 := blk_frozen BK234.out 2))
      go_ret
      exact ⟨by first | (with_reducible rfl) | (simp only [isEmpty_bne, Bool.not_not] <;> with_reducible rfl) | (simp [errW_none, errW_some] <;> with_reducible rfl) | (simp only [isEmpty_bne, Bool.not_not] <;> rfl) | rfl | (simp [errW_none, errW_some] <;> rfl) | (simp [*, errW_none, errW_some] <;> rfl), by repeat (first | (with_reducible first | exact HB.out | apply below_alloc | apply pw_below_drewN | apply below_drew1 | refine below_set ?_ GE234.out) | exact HB.out)⟩
    · rw [if_neg c3] at H
      have c3b0 : (a0_2.toList == ([] : List UInt8)) = false := beq_eq_false_iff_ne.mpr c3
      (try (have c3b7 : (a0_2.toList.isEmpty) = false := by simp only [isEmpty_beq]; exact c3b0))
      have c3b1 : (a0_2.toList != ([] : List UInt8)) = true := bne_iff_ne.mpr c3
      by_cases c6 : a0_0 = 2
      · rw [if_pos c6] at H
        have c6b0 : (a0_0 == 2) = true := beq_iff_eq.mpr c6
        have c6b1 : (a0_0 != 2) = false := bne_eq_false_iff_eq.mpr c6
        clear c6
        obtain rfl := Option.some.inj H
        go_enter Tryd.func42, Tryd.ntmps42
        go_wp2_with (first | ((with_reducible refine gate_dst (N := 1) rfl ?_); refine box_event ?hg (N := 1) ?hd (cs := #[.int .i64 a0_0, .int .i64 a0_1, .string a0_2]) (t := 24) ?hr ?_; (case hd => rfl); (case hg => rfl); (case hr => first | (go_simp; done) | (go_simp; rfl)); intro gb234 hg w7 hbox hb; have n0_ := Aside0.mk (below_step (by repeat (first | (with_reducible first | exact HB.out | apply below_alloc | apply pw_below_drewN | apply below_drew1) | exact HB.out)) hb); have n1_ := Aside0.mk (hbox); have n2_ := Aside0.mk ((by rw [hg]; exact (below_size (by repeat (first | (with_reducible first | exact HB.out | apply below_alloc | apply pw_below_drewN | apply below_drew1) | exact HB.out))) : w.heap.size ≤ gb234)); have n3_ := Aside0.mk ((by rw [hg]; exact (below_size (by repeat (first | (with_reducible first | exact HB.out | apply below_alloc | apply pw_below_drewN | apply below_drew1) | exact HB.out))) : w.heap.size ≤ gb234)); clear HB; have HB := n0_; have BK234 := n1_; have GW234 := n2_; have GE234 := n3_; clear n0_ n1_ n2_ n3_; clear hb hbox hg; have hcz8_0 : w7.cell? ⟨gb234, 0, none⟩ = some (.int .i64 a0_0) := (blk_cell BK234.out 0).trans rfl; have hcz8_1 : w7.cell? ⟨gb234, 1, none⟩ = some (.int .i64 a0_1) := (blk_cell BK234.out 1).trans rfl; have hcz8_2 : w7.cell? ⟨gb234, 2, none⟩ = some (.string a0_2) := (blk_cell BK234.out 2).trans rfl; have hfz8_0 := blk_frozen BK234.out 0; have hfz8_1 := blk_frozen BK234.out 1; have hfz8_2 := blk_frozen BK234.out 2))
        go_ret
        exact ⟨by first | (with_reducible rfl) | (simp only [isEmpty_bne, Bool.not_not] <;> with_reducible rfl) | (simp [errW_none, errW_some] <;> with_reducible rfl) | (simp only [isEmpty_bne, Bool.not_not] <;> rfl) | rfl | (simp [errW_none, errW_some] <;> rfl) | (simp [*, errW_none, errW_some] <;> rfl), by repeat (first | (with_reducible first | exact HB.out | apply below_alloc | apply pw_below_drewN | apply below_drew1 | refine below_set ?_ GE234.out) | exact HB.out)⟩
      · rw [if_neg c6] at H
        have c6b0 : (a0_0 == 2) = false := beq_eq_false_iff_ne.mpr c6
        have c6b1 : (a0_0 != 2) = true := bne_iff_ne.mpr c6
        obtain rfl := Option.some.inj H
        go_enter Tryd.func42, Tryd.ntmps42
        go_wp2_with (first | ((with_reducible refine gate_dst (N := 1) rfl ?_); refine box_event ?hg (N := 1) ?hd (cs := #[.int .i64 a0_0, .int .i64 a0_1, .string a0_2]) (t := 24) ?hr ?_; (case hd => rfl); (case hg => rfl); (case hr => first | (go_simp; done) | (go_simp; rfl)); intro gb234 hg w9 hbox hb; have n0_ := Aside0.mk (below_step (by repeat (first | (with_reducible first | exact HB.out | apply below_alloc | apply pw_below_drewN | apply below_drew1) | exact HB.out)) hb); have n1_ := Aside0.mk (hbox); have n2_ := Aside0.mk ((by rw [hg]; exact (below_size (by repeat (first | (with_reducible first | exact HB.out | apply below_alloc | apply pw_below_drewN | apply below_drew1) | exact HB.out))) : w.heap.size ≤ gb234)); have n3_ := Aside0.mk ((by rw [hg]; exact (below_size (by repeat (first | (with_reducible first | exact HB.out | apply below_alloc | apply pw_below_drewN | apply below_drew1) | exact HB.out))) : w.heap.size ≤ gb234)); clear HB; have HB := n0_; have BK234 := n1_; have GW234 := n2_; have GE234 := n3_; clear n0_ n1_ n2_ n3_; clear hb hbox hg; have hcz10_0 : w9.cell? ⟨gb234, 0, none⟩ = some (.int .i64 a0_0) := (blk_cell BK234.out 0).trans rfl; have hcz10_1 : w9.cell? ⟨gb234, 1, none⟩ = some (.int .i64 a0_1) := (blk_cell BK234.out 1).trans rfl; have hcz10_2 : w9.cell? ⟨gb234, 2, none⟩ = some (.string a0_2) := (blk_cell BK234.out 2).trans rfl; have hfz10_0 := blk_frozen BK234.out 0; have hfz10_1 := blk_frozen BK234.out 1; have hfz10_2 := blk_frozen BK234.out 2))
        go_ret
        exact ⟨by first | (with_reducible rfl) | (simp only [isEmpty_bne, Bool.not_not] <;> with_reducible rfl) | (simp [errW_none, errW_some] <;> with_reducible rfl) | (simp only [isEmpty_bne, Bool.not_not] <;> rfl) | rfl | (simp [errW_none, errW_some] <;> rfl) | (simp [*, errW_none, errW_some] <;> rfl), by repeat (first | (with_reducible first | exact HB.out | apply below_alloc | apply pw_below_drewN | apply below_drew1 | refine below_set ?_ GE234.out) | exact HB.out)⟩
  · rw [if_neg c2] at H
    have c2b0 : (a0_0 == 1) = false := beq_eq_false_iff_ne.mpr c2
    have c2b1 : (a0_0 != 1) = true := bne_iff_ne.mpr c2
    by_cases c11 : a0_0 = 2
    · rw [if_pos c11] at H
      have c11b0 : (a0_0 == 2) = true := beq_iff_eq.mpr c11
      have c11b1 : (a0_0 != 2) = false := bne_eq_false_iff_eq.mpr c11
      clear c11
      obtain rfl := Option.some.inj H
      go_enter Tryd.func42, Tryd.ntmps42
      go_wp2_with (first | ((with_reducible refine gate_dst (N := 1) rfl ?_); refine box_event ?hg (N := 1) ?hd (cs := #[.int .i64 a0_0, .int .i64 a0_1, .string a0_2]) (t := 24) ?hr ?_; (case hd => rfl); (case hg => rfl); (case hr => first | (go_simp; done) | (go_simp; rfl)); intro gb234 hg w12 hbox hb; have n0_ := Aside0.mk (below_step (by repeat (first | (with_reducible first | exact HB.out | apply below_alloc | apply pw_below_drewN | apply below_drew1) | exact HB.out)) hb); have n1_ := Aside0.mk (hbox); have n2_ := Aside0.mk ((by rw [hg]; exact (below_size (by repeat (first | (with_reducible first | exact HB.out | apply below_alloc | apply pw_below_drewN | apply below_drew1) | exact HB.out))) : w.heap.size ≤ gb234)); have n3_ := Aside0.mk ((by rw [hg]; exact (below_size (by repeat (first | (with_reducible first | exact HB.out | apply below_alloc | apply pw_below_drewN | apply below_drew1) | exact HB.out))) : w.heap.size ≤ gb234)); clear HB; have HB := n0_; have BK234 := n1_; have GW234 := n2_; have GE234 := n3_; clear n0_ n1_ n2_ n3_; clear hb hbox hg; have hcz13_0 : w12.cell? ⟨gb234, 0, none⟩ = some (.int .i64 a0_0) := (blk_cell BK234.out 0).trans rfl; have hcz13_1 : w12.cell? ⟨gb234, 1, none⟩ = some (.int .i64 a0_1) := (blk_cell BK234.out 1).trans rfl; have hcz13_2 : w12.cell? ⟨gb234, 2, none⟩ = some (.string a0_2) := (blk_cell BK234.out 2).trans rfl; have hfz13_0 := blk_frozen BK234.out 0; have hfz13_1 := blk_frozen BK234.out 1; have hfz13_2 := blk_frozen BK234.out 2))
      go_ret
      exact ⟨by first | (with_reducible rfl) | (simp only [isEmpty_bne, Bool.not_not] <;> with_reducible rfl) | (simp [errW_none, errW_some] <;> with_reducible rfl) | (simp only [isEmpty_bne, Bool.not_not] <;> rfl) | rfl | (simp [errW_none, errW_some] <;> rfl) | (simp [*, errW_none, errW_some] <;> rfl), by repeat (first | (with_reducible first | exact HB.out | apply below_alloc | apply pw_below_drewN | apply below_drew1 | refine below_set ?_ GE234.out) | exact HB.out)⟩
    · rw [if_neg c11] at H
      have c11b0 : (a0_0 == 2) = false := beq_eq_false_iff_ne.mpr c11
      have c11b1 : (a0_0 != 2) = true := bne_iff_ne.mpr c11
      obtain rfl := Option.some.inj H
      go_enter Tryd.func42, Tryd.ntmps42
      go_wp2_with (first | ((with_reducible refine gate_dst (N := 1) rfl ?_); refine box_event ?hg (N := 1) ?hd (cs := #[.int .i64 a0_0, .int .i64 a0_1, .string a0_2]) (t := 24) ?hr ?_; (case hd => rfl); (case hg => rfl); (case hr => first | (go_simp; done) | (go_simp; rfl)); intro gb234 hg w14 hbox hb; have n0_ := Aside0.mk (below_step (by repeat (first | (with_reducible first | exact HB.out | apply below_alloc | apply pw_below_drewN | apply below_drew1) | exact HB.out)) hb); have n1_ := Aside0.mk (hbox); have n2_ := Aside0.mk ((by rw [hg]; exact (below_size (by repeat (first | (with_reducible first | exact HB.out | apply below_alloc | apply pw_below_drewN | apply below_drew1) | exact HB.out))) : w.heap.size ≤ gb234)); have n3_ := Aside0.mk ((by rw [hg]; exact (below_size (by repeat (first | (with_reducible first | exact HB.out | apply below_alloc | apply pw_below_drewN | apply below_drew1) | exact HB.out))) : w.heap.size ≤ gb234)); clear HB; have HB := n0_; have BK234 := n1_; have GW234 := n2_; have GE234 := n3_; clear n0_ n1_ n2_ n3_; clear hb hbox hg; have hcz15_0 : w14.cell? ⟨gb234, 0, none⟩ = some (.int .i64 a0_0) := (blk_cell BK234.out 0).trans rfl; have hcz15_1 : w14.cell? ⟨gb234, 1, none⟩ = some (.int .i64 a0_1) := (blk_cell BK234.out 1).trans rfl; have hcz15_2 : w14.cell? ⟨gb234, 2, none⟩ = some (.string a0_2) := (blk_cell BK234.out 2).trans rfl; have hfz15_0 := blk_frozen BK234.out 0; have hfz15_1 := blk_frozen BK234.out 1; have hfz15_2 := blk_frozen BK234.out 2))
      go_ret
      exact ⟨by first | (with_reducible rfl) | (simp only [isEmpty_bne, Bool.not_not] <;> with_reducible rfl) | (simp [errW_none, errW_some] <;> with_reducible rfl) | (simp only [isEmpty_bne, Bool.not_not] <;> rfl) | rfl | (simp [errW_none, errW_some] <;> rfl) | (simp [*, errW_none, errW_some] <;> rfl), by repeat (first | (with_reducible first | exact HB.out | apply below_alloc | apply pw_below_drewN | apply below_drew1 | refine below_set ?_ GE234.out) | exact HB.out)⟩

/-! ### factotumref16_Is: function 26 -/
def factotumref16_Is.f (a0_0 : Int) (a0_1 : Int) (a0_2 : ByteArray) : Option (Bool) := (factotumref02_Right.f a0_0 a0_1 a0_2).bind fun t236 => (if t236 = true then (some (decide ((a0_2.size : Int) ≤ 10))) else (some false))
set_option maxHeartbeats 8000000 in
set_option maxRecDepth 100000 in
theorem factotumref16_Is.calls (a0_0 : Int) (a0_1 : Int) (a0_2 : ByteArray) (r : Bool) (w : World) (h : factotumref16_Is.f a0_0 a0_1 a0_2 = some r) :
    Calls Tryd.prog 26 #[.agg #[.int .i64 a0_0, .int .i64 a0_1, .string a0_2]] w fun e w' => e = .returned (.bool r) ∧ Below w.heap.size w w' := by
  have hu24 := Tryd.underlying24
  have HB := Aside0.mk (Below.refl w.heap.size w)
  have H : ((factotumref02_Right.f a0_0 a0_1 a0_2).bind fun t236 => (if t236 = true then (some (decide ((a0_2.size : Int) ≤ 10))) else (some false))) = some r := h
  clear h
  replace H := Option.bind_eq_some_iff.mp H
  obtain ⟨t236, A20, H⟩ := H
  replace H : (if t236 = true then (some (decide ((a0_2.size : Int) ≤ 10))) else (some false)) = some r := H
  have A2 := Aside0.mk A20
  clear A20
  by_cases c3 : t236 = true
  · subst c3
    have H1 : (some (decide ((a0_2.size : Int) ≤ 10))) = some r := by rw [if_pos rfl] at H; exact H
    clear H
    have H := H1
    clear H1
    obtain rfl := Option.some.inj H
    go_enter Tryd.func26, Tryd.ntmps26
    go_wp2_with (first | ((with_reducible refine gate_dst (N := 1) rfl ?_); (try (refine gate_guard (by rfl) ?_; dsimp only)); refine box_event ?hg (N := 1) ?hd (cs := #[.int .i64 a0_0, .int .i64 a0_1, .string a0_2]) (t := 24) ?hr ?_; (case hd => rfl); (case hg => rfl); (case hr => first | (go_simp; done) | (go_simp; rfl)); intro gb235 hg w4 hbox hb; have n0_ := Aside0.mk (below_step (by repeat (first | (with_reducible first | exact HB.out | apply below_alloc | apply pw_below_drewN | apply below_drew1) | exact HB.out)) hb); have n1_ := Aside0.mk (hbox); have n2_ := Aside0.mk ((by rw [hg]; exact (below_size (by repeat (first | (with_reducible first | exact HB.out | apply below_alloc | apply pw_below_drewN | apply below_drew1) | exact HB.out))) : w.heap.size ≤ gb235)); have n3_ := Aside0.mk ((by rw [hg]; exact (below_size (by repeat (first | (with_reducible first | exact HB.out | apply below_alloc | apply pw_below_drewN | apply below_drew1) | exact HB.out))) : w.heap.size ≤ gb235)); clear HB; have HB := n0_; have BK235 := n1_; have GW235 := n2_; have GE235 := n3_; clear n0_ n1_ n2_ n3_; clear hb hbox hg; have hcz5_0 : w4.cell? ⟨gb235, 0, none⟩ = some (.int .i64 a0_0) := (blk_cell BK235.out 0).trans rfl; have hcz5_1 : w4.cell? ⟨gb235, 1, none⟩ = some (.int .i64 a0_1) := (blk_cell BK235.out 1).trans rfl; have hcz5_2 : w4.cell? ⟨gb235, 2, none⟩ = some (.string a0_2) := (blk_cell BK235.out 2).trans rfl; have hfz5_0 := blk_frozen BK235.out 0; have hfz5_1 := blk_frozen BK235.out 1; have hfz5_2 := blk_frozen BK235.out 2) | ((with_reducible refine gate_callee (f := 42) rfl ?_); refine goesL_ (some 4) rfl rfl Tryd.func42 (by kernel_rfl) rfl #[.agg #[.int .i64 a0_0, .int .i64 a0_1, .string a0_2]] rfl (by (try simp only [List.map_toArray, List.map_cons, List.map_nil]); first | done | rfl | (simp only [List.length_drop, List.length_take]; rfl) | (simp (disch := omega) only [u64_in]; rfl)) ?_; (with_reducible refine (factotumref02_Right.calls a0_0 a0_1 a0_2 true _ A2.out).mono ?_); rintro e w6 ⟨rfl, hb⟩; refine ⟨_, rfl, ?_⟩; have n0_ := Aside0.mk (blk_below (g := gb235) (o := .cells #[.int .i64 a0_0, .int .i64 a0_1, .string a0_2] 24 (0, 0)) (by (with_reducible repeat (first | refine blk_drewN ?_ _ | refine blk_drew ?_ | refine blk_alloc ?_ _)); exact BK235.out) hb); have n1_ := Aside0.mk (below_step (by repeat (first | (with_reducible first | exact HB.out | apply below_alloc | apply pw_below_drewN | apply below_drew1 | refine below_set ?_ GE235.out) | exact HB.out)) hb); clear BK235; clear HB; have BK235 := n0_; have HB := n1_; clear n0_ n1_; (try clear hb); (try clear hb2); (try clear hk); (try clear hi); have hcz7_0 : w6.cell? ⟨gb235, 0, none⟩ = some (.int .i64 a0_0) := (blk_cell BK235.out 0).trans rfl; have hcz7_1 : w6.cell? ⟨gb235, 1, none⟩ = some (.int .i64 a0_1) := (blk_cell BK235.out 1).trans rfl; have hcz7_2 : w6.cell? ⟨gb235, 2, none⟩ = some (.string a0_2) := (blk_cell BK235.out 2).trans rfl; have hfz7_0 := blk_frozen BK235.out 0; have hfz7_1 := blk_frozen BK235.out 1; have hfz7_2 := blk_frozen BK235.out 2))
    go_ret
    exact ⟨by first | (with_reducible rfl) | (simp only [isEmpty_bne, Bool.not_not] <;> with_reducible rfl) | (simp [errW_none, errW_some] <;> with_reducible rfl) | (simp only [isEmpty_bne, Bool.not_not] <;> rfl) | rfl | (simp [errW_none, errW_some] <;> rfl) | (simp [*, errW_none, errW_some] <;> rfl), by repeat (first | (with_reducible first | exact HB.out | apply below_alloc | apply pw_below_drewN | apply below_drew1 | refine below_set ?_ GE235.out) | exact HB.out)⟩
  · replace c3 := Bool.eq_false_iff.mpr c3
    subst c3
    have H1 : (some false) = some r := by rw [if_neg (show ¬ (false = true) by decide)] at H; exact H
    clear H
    have H := H1
    clear H1
    obtain rfl := Option.some.inj H
    go_enter Tryd.func26, Tryd.ntmps26
    go_wp2_with (first | ((with_reducible refine gate_dst (N := 1) rfl ?_); (try (refine gate_guard (by rfl) ?_; dsimp only)); refine box_event ?hg (N := 1) ?hd (cs := #[.int .i64 a0_0, .int .i64 a0_1, .string a0_2]) (t := 24) ?hr ?_; (case hd => rfl); (case hg => rfl); (case hr => first | (go_simp; done) | (go_simp; rfl)); intro gb235 hg w8 hbox hb; have n0_ := Aside0.mk (below_step (by repeat (first | (with_reducible first | exact HB.out | apply below_alloc | apply pw_below_drewN | apply below_drew1) | exact HB.out)) hb); have n1_ := Aside0.mk (hbox); have n2_ := Aside0.mk ((by rw [hg]; exact (below_size (by repeat (first | (with_reducible first | exact HB.out | apply below_alloc | apply pw_below_drewN | apply below_drew1) | exact HB.out))) : w.heap.size ≤ gb235)); have n3_ := Aside0.mk ((by rw [hg]; exact (below_size (by repeat (first | (with_reducible first | exact HB.out | apply below_alloc | apply pw_below_drewN | apply below_drew1) | exact HB.out))) : w.heap.size ≤ gb235)); clear HB; have HB := n0_; have BK235 := n1_; have GW235 := n2_; have GE235 := n3_; clear n0_ n1_ n2_ n3_; clear hb hbox hg; have hcz9_0 : w8.cell? ⟨gb235, 0, none⟩ = some (.int .i64 a0_0) := (blk_cell BK235.out 0).trans rfl; have hcz9_1 : w8.cell? ⟨gb235, 1, none⟩ = some (.int .i64 a0_1) := (blk_cell BK235.out 1).trans rfl; have hcz9_2 : w8.cell? ⟨gb235, 2, none⟩ = some (.string a0_2) := (blk_cell BK235.out 2).trans rfl; have hfz9_0 := blk_frozen BK235.out 0; have hfz9_1 := blk_frozen BK235.out 1; have hfz9_2 := blk_frozen BK235.out 2) | ((with_reducible refine gate_callee (f := 42) rfl ?_); refine goesL_ (some 4) rfl rfl Tryd.func42 (by kernel_rfl) rfl #[.agg #[.int .i64 a0_0, .int .i64 a0_1, .string a0_2]] rfl (by (try simp only [List.map_toArray, List.map_cons, List.map_nil]); first | done | rfl | (simp only [List.length_drop, List.length_take]; rfl) | (simp (disch := omega) only [u64_in]; rfl)) ?_; (with_reducible refine (factotumref02_Right.calls a0_0 a0_1 a0_2 false _ A2.out).mono ?_); rintro e w10 ⟨rfl, hb⟩; refine ⟨_, rfl, ?_⟩; have n0_ := Aside0.mk (blk_below (g := gb235) (o := .cells #[.int .i64 a0_0, .int .i64 a0_1, .string a0_2] 24 (0, 0)) (by (with_reducible repeat (first | refine blk_drewN ?_ _ | refine blk_drew ?_ | refine blk_alloc ?_ _)); exact BK235.out) hb); have n1_ := Aside0.mk (below_step (by repeat (first | (with_reducible first | exact HB.out | apply below_alloc | apply pw_below_drewN | apply below_drew1 | refine below_set ?_ GE235.out) | exact HB.out)) hb); clear BK235; clear HB; have BK235 := n0_; have HB := n1_; clear n0_ n1_; (try clear hb); (try clear hb2); (try clear hk); (try clear hi)))
    go_ret
    exact ⟨by first | (with_reducible rfl) | (simp only [isEmpty_bne, Bool.not_not] <;> with_reducible rfl) | (simp [errW_none, errW_some] <;> with_reducible rfl) | (simp only [isEmpty_bne, Bool.not_not] <;> rfl) | rfl | (simp [errW_none, errW_some] <;> rfl) | (simp [*, errW_none, errW_some] <;> rfl), by repeat (first | (with_reducible first | exact HB.out | apply below_alloc | apply pw_below_drewN | apply below_drew1 | refine below_set ?_ GE235.out) | exact HB.out)⟩

/-! ### factotumref17_count: function 50 -/
def factotumref17_count.f (a0 : Int) : Option (Bool) := if a0 ≥ 0 then (some (decide (a0 ≤ 255))) else (some false)
set_option maxHeartbeats 8000000 in
set_option maxRecDepth 100000 in
theorem factotumref17_count.calls (a0 : Int) (r : Bool) (w : World) (h : factotumref17_count.f a0 = some r) :
    Calls Tryd.prog 50 #[.int .i64 a0] w fun e w' => e = .returned (.bool r) ∧ Drawn0 w w' := by
  have H : (if a0 ≥ 0 then (some (decide (a0 ≤ 255))) else (some false)) = some r := h
  clear h
  by_cases c2 : a0 ≥ 0
  · rw [if_pos c2] at H
    have c2b0 : decide (0 ≤ a0) = true := decide_eq_true c2
    clear c2
    obtain rfl := Option.some.inj H
    go_enter Tryd.func50, Tryd.ntmps50
    go_wp2
    go_ret
    exact ⟨by first | (with_reducible rfl) | (simp; done) | (simp [*]; done) | rfl, by repeat (first | exact Drawn0.refl _ | apply Drawn0.step)⟩
  · rw [if_neg c2] at H
    have c2b0 : decide (0 ≤ a0) = false := decide_eq_false c2
    clear c2
    obtain rfl := Option.some.inj H
    go_enter Tryd.func50, Tryd.ntmps50
    go_wp2
    go_ret
    exact ⟨by first | (with_reducible rfl) | (simp; done) | (simp [*]; done) | rfl, by repeat (first | exact Drawn0.refl _ | apply Drawn0.step)⟩

/-! ### factotumref17_Right: function 36 -/
def factotumref17_Right.f (a0_0 : Int) (a0_1 : Int) (a0_2 : Int) (a0_3 : ByteArray) (a0_4 : Int) (a0_5 : Int) (a0_6 : Int) (a0_7 : Int) : Option (Bool) := if a0_0 ≥ 0 then (if a0_0 ≤ 3 then (if (a0_1 == 0 && (a0_2 == 0 && (a0_3.toList == ([] : List UInt8)))) = true then (if a0_4 ≥ 0 then (if a0_4 ≤ 1000000 then ((factotumref17_count.f a0_5).bind fun t238 => (if t238 = true then ((factotumref17_count.f a0_6).bind fun t239 => (if t239 = true then ((factotumref17_count.f a0_7).bind fun t240 => (some t240)) else (some false))) else (some false))) else (some false)) else (some false)) else ((factotumref16_Is.f a0_1 a0_2 a0_3).bind fun t241 => (if t241 = true then (if a0_4 ≥ 0 then (if a0_4 ≤ 1000000 then ((factotumref17_count.f a0_5).bind fun t242 => (if t242 = true then ((factotumref17_count.f a0_6).bind fun t243 => (if t243 = true then ((factotumref17_count.f a0_7).bind fun t244 => (some t244)) else (some false))) else (some false))) else (some false)) else (some false)) else (some false)))) else (some false)) else (some false)
set_option maxHeartbeats 8000000 in
set_option maxRecDepth 100000 in
theorem factotumref17_Right.calls (a0_0 : Int) (a0_1 : Int) (a0_2 : Int) (a0_3 : ByteArray) (a0_4 : Int) (a0_5 : Int) (a0_6 : Int) (a0_7 : Int) (r : Bool) (w : World) (h : factotumref17_Right.f a0_0 a0_1 a0_2 a0_3 a0_4 a0_5 a0_6 a0_7 = some r) :
    Calls Tryd.prog 36 #[.agg #[.int .i64 a0_0, .int .i64 a0_1, .int .i64 a0_2, .string a0_3, .int .i64 a0_4, .int .i64 a0_5, .int .i64 a0_6, .int .i64 a0_7]] w fun e w' => e = .returned (.bool r) ∧ Below w.heap.size w w' := by
  have hu33 := Tryd.underlying33
  have hu24 := Tryd.underlying24
  have HB := Aside0.mk (Below.refl w.heap.size w)
  have H : (if a0_0 ≥ 0 then (if a0_0 ≤ 3 then (if (a0_1 == 0 && (a0_2 == 0 && (a0_3.toList == ([] : List UInt8)))) = true then (if a0_4 ≥ 0 then (if a0_4 ≤ 1000000 then ((factotumref17_count.f a0_5).bind fun t238 => (if t238 = true then ((factotumref17_count.f a0_6).bind fun t239 => (if t239 = true then ((factotumref17_count.f a0_7).bind fun t240 => (some t240)) else (some false))) else (some false))) else (some false)) else (some false)) else ((factotumref16_Is.f a0_1 a0_2 a0_3).bind fun t241 => (if t241 = true then (if a0_4 ≥ 0 then (if a0_4 ≤ 1000000 then ((factotumref17_count.f a0_5).bind fun t242 => (if t242 = true then ((factotumref17_count.f a0_6).bind fun t243 => (if t243 = true then ((factotumref17_count.f a0_7).bind fun t244 => (some t244)) else (some false))) else (some false))) else (some false)) else (some false)) else (some false)))) else (some false)) else (some false)) = some r := h
  clear h
  by_cases c2 : a0_0 ≥ 0
  · rw [if_pos c2] at H
    have c2b0 : decide (0 ≤ a0_0) = true := decide_eq_true c2
    clear c2
    by_cases c3 : a0_0 ≤ 3
    · rw [if_pos c3] at H
      have c3b0 : decide (a0_0 ≤ 3) = true := decide_eq_true c3
      clear c3
      by_cases c4 : (a0_1 == 0 && (a0_2 == 0 && (a0_3.toList == ([] : List UInt8)))) = true
      · rw [if_pos c4] at H
        have c4b0 : (a0_1 == 0 && (a0_2 == 0 && (a0_3.toList == ([] : List UInt8)))) = true := c4
        (try (have c4b7 : (a0_1 == 0 && (a0_2 == 0 && (a0_3.toList.isEmpty))) = true := by simp only [isEmpty_beq]; exact c4b0))
        (try (have c4b1 : decide (a0_1 = 0 && (a0_2 == 0 && (a0_3.toList == ([] : List UInt8)))) = true := by simpa using c4))
        (try (have c4b2 : (a0_1 == 0 && (a0_2 == 0 && (a0_3.toList == ([] : List UInt8)))) = true := by simpa using c4))
        clear c4
        by_cases c5 : a0_4 ≥ 0
        · rw [if_pos c5] at H
          have c5b0 : decide (0 ≤ a0_4) = true := decide_eq_true c5
          clear c5
          by_cases c6 : a0_4 ≤ 1000000
          · rw [if_pos c6] at H
            have c6b0 : decide (a0_4 ≤ 1000000) = true := decide_eq_true c6
            clear c6
            replace H := Option.bind_eq_some_iff.mp H
            obtain ⟨t238, A70, H⟩ := H
            replace H : (if t238 = true then ((factotumref17_count.f a0_6).bind fun t239 => (if t239 = true then ((factotumref17_count.f a0_7).bind fun t240 => (some t240)) else (some false))) else (some false)) = some r := H
            have A7 := Aside0.mk A70
            clear A70
            by_cases c8 : t238 = true
            · subst c8
              have H1 : ((factotumref17_count.f a0_6).bind fun t239 => (if t239 = true then ((factotumref17_count.f a0_7).bind fun t240 => (some t240)) else (some false))) = some r := by rw [if_pos rfl] at H; exact H
              clear H
              have H := H1
              clear H1
              replace H := Option.bind_eq_some_iff.mp H
              obtain ⟨t239, A90, H⟩ := H
              replace H : (if t239 = true then ((factotumref17_count.f a0_7).bind fun t240 => (some t240)) else (some false)) = some r := H
              have A9 := Aside0.mk A90
              clear A90
              by_cases c10 : t239 = true
              · subst c10
                have H1 : ((factotumref17_count.f a0_7).bind fun t240 => (some t240)) = some r := by rw [if_pos rfl] at H; exact H
                clear H
                have H := H1
                clear H1
                replace H := Option.bind_eq_some_iff.mp H
                obtain ⟨t240, A110, H⟩ := H
                replace H : (some t240) = some r := H
                have A11 := Aside0.mk A110
                clear A110
                obtain rfl := Option.some.inj H
                go_enter Tryd.func36, Tryd.ntmps36
                go_wp2_with (first | ((with_reducible refine gate_dst (N := 1) rfl ?_); refine box_event ?hg (N := 1) ?hd (cs := #[.int .i64 a0_0, .int .i64 a0_1, .int .i64 a0_2, .string a0_3, .int .i64 a0_4, .int .i64 a0_5, .int .i64 a0_6, .int .i64 a0_7]) (t := 33) ?hr ?_; (case hd => rfl); (case hg => rfl); (case hr => first | (go_simp; done) | (go_simp; rfl)); intro gb237 hg w12 hbox hb; have n0_ := Aside0.mk (below_step (by repeat (first | (with_reducible first | exact HB.out | apply below_alloc | apply pw_below_drewN | apply below_drew1) | exact HB.out)) hb); have n1_ := Aside0.mk (hbox); have n2_ := Aside0.mk ((by rw [hg]; exact (below_size (by repeat (first | (with_reducible first | exact HB.out | apply below_alloc | apply pw_below_drewN | apply below_drew1) | exact HB.out))) : w.heap.size ≤ gb237)); have n3_ := Aside0.mk ((by rw [hg]; exact (below_size (by repeat (first | (with_reducible first | exact HB.out | apply below_alloc | apply pw_below_drewN | apply below_drew1) | exact HB.out))) : w.heap.size ≤ gb237)); clear HB; have HB := n0_; have BK237 := n1_; have GW237 := n2_; have GE237 := n3_; clear n0_ n1_ n2_ n3_; clear hb hbox hg; have hcz13_0 : w12.cell? ⟨gb237, 0, none⟩ = some (.int .i64 a0_0) := (blk_cell BK237.out 0).trans rfl; have hcz13_1 : w12.cell? ⟨gb237, 1, none⟩ = some (.int .i64 a0_1) := (blk_cell BK237.out 1).trans rfl; have hcz13_2 : w12.cell? ⟨gb237, 2, none⟩ = some (.int .i64 a0_2) := (blk_cell BK237.out 2).trans rfl; have hcz13_3 : w12.cell? ⟨gb237, 3, none⟩ = some (.string a0_3) := (blk_cell BK237.out 3).trans rfl; have hcz13_4 : w12.cell? ⟨gb237, 4, none⟩ = some (.int .i64 a0_4) := (blk_cell BK237.out 4).trans rfl; have hcz13_5 : w12.cell? ⟨gb237, 5, none⟩ = some (.int .i64 a0_5) := (blk_cell BK237.out 5).trans rfl; have hcz13_6 : w12.cell? ⟨gb237, 6, none⟩ = some (.int .i64 a0_6) := (blk_cell BK237.out 6).trans rfl; have hcz13_7 : w12.cell? ⟨gb237, 7, none⟩ = some (.int .i64 a0_7) := (blk_cell BK237.out 7).trans rfl; have hfz13_0 := blk_frozen BK237.out 0; have hfz13_1 := blk_frozen BK237.out 1; have hfz13_2 := blk_frozen BK237.out 2; have hfz13_3 := blk_frozen BK237.out 3; have hfz13_4 := blk_frozen BK237.out 4; have hfz13_5 := blk_frozen BK237.out 5; have hfz13_6 := blk_frozen BK237.out 6; have hfz13_7 := blk_frozen BK237.out 7) | (go_at_call 50; (with_reducible refine (factotumref17_count.calls a0_5 true _ A7.out).mono ?_); rintro e w' ⟨rfl, ⟨nd, rfl⟩⟩) | (go_at_call 50; (with_reducible refine (factotumref17_count.calls a0_6 true _ A9.out).mono ?_); rintro e w' ⟨rfl, ⟨nd, rfl⟩⟩) | (go_at_call 50; (with_reducible refine (factotumref17_count.calls a0_7 t240 _ A11.out).mono ?_); rintro e w' ⟨rfl, ⟨nd, rfl⟩⟩))
                go_ret
                exact ⟨by first | (with_reducible rfl) | (simp only [isEmpty_bne, Bool.not_not] <;> with_reducible rfl) | (simp [errW_none, errW_some] <;> with_reducible rfl) | (simp only [isEmpty_bne, Bool.not_not] <;> rfl) | rfl | (simp [errW_none, errW_some] <;> rfl) | (simp [*, errW_none, errW_some] <;> rfl), by repeat (first | (with_reducible first | exact HB.out | apply below_alloc | apply pw_below_drewN | apply below_drew1 | refine below_set ?_ GE237.out) | exact HB.out)⟩
              · replace c10 := Bool.eq_false_iff.mpr c10
                subst c10
                have H1 : (some false) = some r := by rw [if_neg (show ¬ (false = true) by decide)] at H; exact H
                clear H
                have H := H1
                clear H1
                obtain rfl := Option.some.inj H
                go_enter Tryd.func36, Tryd.ntmps36
                go_wp2_with (first | ((with_reducible refine gate_dst (N := 1) rfl ?_); refine box_event ?hg (N := 1) ?hd (cs := #[.int .i64 a0_0, .int .i64 a0_1, .int .i64 a0_2, .string a0_3, .int .i64 a0_4, .int .i64 a0_5, .int .i64 a0_6, .int .i64 a0_7]) (t := 33) ?hr ?_; (case hd => rfl); (case hg => rfl); (case hr => first | (go_simp; done) | (go_simp; rfl)); intro gb237 hg w14 hbox hb; have n0_ := Aside0.mk (below_step (by repeat (first | (with_reducible first | exact HB.out | apply below_alloc | apply pw_below_drewN | apply below_drew1) | exact HB.out)) hb); have n1_ := Aside0.mk (hbox); have n2_ := Aside0.mk ((by rw [hg]; exact (below_size (by repeat (first | (with_reducible first | exact HB.out | apply below_alloc | apply pw_below_drewN | apply below_drew1) | exact HB.out))) : w.heap.size ≤ gb237)); have n3_ := Aside0.mk ((by rw [hg]; exact (below_size (by repeat (first | (with_reducible first | exact HB.out | apply below_alloc | apply pw_below_drewN | apply below_drew1) | exact HB.out))) : w.heap.size ≤ gb237)); clear HB; have HB := n0_; have BK237 := n1_; have GW237 := n2_; have GE237 := n3_; clear n0_ n1_ n2_ n3_; clear hb hbox hg; have hcz15_0 : w14.cell? ⟨gb237, 0, none⟩ = some (.int .i64 a0_0) := (blk_cell BK237.out 0).trans rfl; have hcz15_1 : w14.cell? ⟨gb237, 1, none⟩ = some (.int .i64 a0_1) := (blk_cell BK237.out 1).trans rfl; have hcz15_2 : w14.cell? ⟨gb237, 2, none⟩ = some (.int .i64 a0_2) := (blk_cell BK237.out 2).trans rfl; have hcz15_3 : w14.cell? ⟨gb237, 3, none⟩ = some (.string a0_3) := (blk_cell BK237.out 3).trans rfl; have hcz15_4 : w14.cell? ⟨gb237, 4, none⟩ = some (.int .i64 a0_4) := (blk_cell BK237.out 4).trans rfl; have hcz15_5 : w14.cell? ⟨gb237, 5, none⟩ = some (.int .i64 a0_5) := (blk_cell BK237.out 5).trans rfl; have hcz15_6 : w14.cell? ⟨gb237, 6, none⟩ = some (.int .i64 a0_6) := (blk_cell BK237.out 6).trans rfl; have hcz15_7 : w14.cell? ⟨gb237, 7, none⟩ = some (.int .i64 a0_7) := (blk_cell BK237.out 7).trans rfl; have hfz15_0 := blk_frozen BK237.out 0; have hfz15_1 := blk_frozen BK237.out 1; have hfz15_2 := blk_frozen BK237.out 2; have hfz15_3 := blk_frozen BK237.out 3; have hfz15_4 := blk_frozen BK237.out 4; have hfz15_5 := blk_frozen BK237.out 5; have hfz15_6 := blk_frozen BK237.out 6; have hfz15_7 := blk_frozen BK237.out 7) | (go_at_call 50; (with_reducible refine (factotumref17_count.calls a0_5 true _ A7.out).mono ?_); rintro e w' ⟨rfl, ⟨nd, rfl⟩⟩) | (go_at_call 50; (with_reducible refine (factotumref17_count.calls a0_6 false _ A9.out).mono ?_); rintro e w' ⟨rfl, ⟨nd, rfl⟩⟩))
                go_ret
                exact ⟨by first | (with_reducible rfl) | (simp only [isEmpty_bne, Bool.not_not] <;> with_reducible rfl) | (simp [errW_none, errW_some] <;> with_reducible rfl) | (simp only [isEmpty_bne, Bool.not_not] <;> rfl) | rfl | (simp [errW_none, errW_some] <;> rfl) | (simp [*, errW_none, errW_some] <;> rfl), by repeat (first | (with_reducible first | exact HB.out | apply below_alloc | apply pw_below_drewN | apply below_drew1 | refine below_set ?_ GE237.out) | exact HB.out)⟩
            · replace c8 := Bool.eq_false_iff.mpr c8
              subst c8
              have H1 : (some false) = some r := by rw [if_neg (show ¬ (false = true) by decide)] at H; exact H
              clear H
              have H := H1
              clear H1
              obtain rfl := Option.some.inj H
              go_enter Tryd.func36, Tryd.ntmps36
              go_wp2_with (first | ((with_reducible refine gate_dst (N := 1) rfl ?_); refine box_event ?hg (N := 1) ?hd (cs := #[.int .i64 a0_0, .int .i64 a0_1, .int .i64 a0_2, .string a0_3, .int .i64 a0_4, .int .i64 a0_5, .int .i64 a0_6, .int .i64 a0_7]) (t := 33) ?hr ?_; (case hd => rfl); (case hg => rfl); (case hr => first | (go_simp; done) | (go_simp; rfl)); intro gb237 hg w16 hbox hb; have n0_ := Aside0.mk (below_step (by repeat (first | (with_reducible first | exact HB.out | apply below_alloc | apply pw_below_drewN | apply below_drew1) | exact HB.out)) hb); have n1_ := Aside0.mk (hbox); have n2_ := Aside0.mk ((by rw [hg]; exact (below_size (by repeat (first | (with_reducible first | exact HB.out | apply below_alloc | apply pw_below_drewN | apply below_drew1) | exact HB.out))) : w.heap.size ≤ gb237)); have n3_ := Aside0.mk ((by rw [hg]; exact (below_size (by repeat (first | (with_reducible first | exact HB.out | apply below_alloc | apply pw_below_drewN | apply below_drew1) | exact HB.out))) : w.heap.size ≤ gb237)); clear HB; have HB := n0_; have BK237 := n1_; have GW237 := n2_; have GE237 := n3_; clear n0_ n1_ n2_ n3_; clear hb hbox hg; have hcz17_0 : w16.cell? ⟨gb237, 0, none⟩ = some (.int .i64 a0_0) := (blk_cell BK237.out 0).trans rfl; have hcz17_1 : w16.cell? ⟨gb237, 1, none⟩ = some (.int .i64 a0_1) := (blk_cell BK237.out 1).trans rfl; have hcz17_2 : w16.cell? ⟨gb237, 2, none⟩ = some (.int .i64 a0_2) := (blk_cell BK237.out 2).trans rfl; have hcz17_3 : w16.cell? ⟨gb237, 3, none⟩ = some (.string a0_3) := (blk_cell BK237.out 3).trans rfl; have hcz17_4 : w16.cell? ⟨gb237, 4, none⟩ = some (.int .i64 a0_4) := (blk_cell BK237.out 4).trans rfl; have hcz17_5 : w16.cell? ⟨gb237, 5, none⟩ = some (.int .i64 a0_5) := (blk_cell BK237.out 5).trans rfl; have hcz17_6 : w16.cell? ⟨gb237, 6, none⟩ = some (.int .i64 a0_6) := (blk_cell BK237.out 6).trans rfl; have hcz17_7 : w16.cell? ⟨gb237, 7, none⟩ = some (.int .i64 a0_7) := (blk_cell BK237.out 7).trans rfl; have hfz17_0 := blk_frozen BK237.out 0; have hfz17_1 := blk_frozen BK237.out 1; have hfz17_2 := blk_frozen BK237.out 2; have hfz17_3 := blk_frozen BK237.out 3; have hfz17_4 := blk_frozen BK237.out 4; have hfz17_5 := blk_frozen BK237.out 5; have hfz17_6 := blk_frozen BK237.out 6; have hfz17_7 := blk_frozen BK237.out 7) | (go_at_call 50; (with_reducible refine (factotumref17_count.calls a0_5 false _ A7.out).mono ?_); rintro e w' ⟨rfl, ⟨nd, rfl⟩⟩))
              go_ret
              exact ⟨by first | (with_reducible rfl) | (simp only [isEmpty_bne, Bool.not_not] <;> with_reducible rfl) | (simp [errW_none, errW_some] <;> with_reducible rfl) | (simp only [isEmpty_bne, Bool.not_not] <;> rfl) | rfl | (simp [errW_none, errW_some] <;> rfl) | (simp [*, errW_none, errW_some] <;> rfl), by repeat (first | (with_reducible first | exact HB.out | apply below_alloc | apply pw_below_drewN | apply below_drew1 | refine below_set ?_ GE237.out) | exact HB.out)⟩
          · rw [if_neg c6] at H
            have c6b0 : decide (a0_4 ≤ 1000000) = false := decide_eq_false c6
            clear c6
            obtain rfl := Option.some.inj H
            go_enter Tryd.func36, Tryd.ntmps36
            go_wp2_with (first | ((with_reducible refine gate_dst (N := 1) rfl ?_); refine box_event ?hg (N := 1) ?hd (cs := #[.int .i64 a0_0, .int .i64 a0_1, .int .i64 a0_2, .string a0_3, .int .i64 a0_4, .int .i64 a0_5, .int .i64 a0_6, .int .i64 a0_7]) (t := 33) ?hr ?_; (case hd => rfl); (case hg => rfl); (case hr => first | (go_simp; done) | (go_simp; rfl)); intro gb237 hg w18 hbox hb; have n0_ := Aside0.mk (below_step (by repeat (first | (with_reducible first | exact HB.out | apply below_alloc | apply pw_below_drewN | apply below_drew1) | exact HB.out)) hb); have n1_ := Aside0.mk (hbox); have n2_ := Aside0.mk ((by rw [hg]; exact (below_size (by repeat (first | (with_reducible first | exact HB.out | apply below_alloc | apply pw_below_drewN | apply below_drew1) | exact HB.out))) : w.heap.size ≤ gb237)); have n3_ := Aside0.mk ((by rw [hg]; exact (below_size (by repeat (first | (with_reducible first | exact HB.out | apply below_alloc | apply pw_below_drewN | apply below_drew1) | exact HB.out))) : w.heap.size ≤ gb237)); clear HB; have HB := n0_; have BK237 := n1_; have GW237 := n2_; have GE237 := n3_; clear n0_ n1_ n2_ n3_; clear hb hbox hg; have hcz19_0 : w18.cell? ⟨gb237, 0, none⟩ = some (.int .i64 a0_0) := (blk_cell BK237.out 0).trans rfl; have hcz19_1 : w18.cell? ⟨gb237, 1, none⟩ = some (.int .i64 a0_1) := (blk_cell BK237.out 1).trans rfl; have hcz19_2 : w18.cell? ⟨gb237, 2, none⟩ = some (.int .i64 a0_2) := (blk_cell BK237.out 2).trans rfl; have hcz19_3 : w18.cell? ⟨gb237, 3, none⟩ = some (.string a0_3) := (blk_cell BK237.out 3).trans rfl; have hcz19_4 : w18.cell? ⟨gb237, 4, none⟩ = some (.int .i64 a0_4) := (blk_cell BK237.out 4).trans rfl; have hcz19_5 : w18.cell? ⟨gb237, 5, none⟩ = some (.int .i64 a0_5) := (blk_cell BK237.out 5).trans rfl; have hcz19_6 : w18.cell? ⟨gb237, 6, none⟩ = some (.int .i64 a0_6) := (blk_cell BK237.out 6).trans rfl; have hcz19_7 : w18.cell? ⟨gb237, 7, none⟩ = some (.int .i64 a0_7) := (blk_cell BK237.out 7).trans rfl; have hfz19_0 := blk_frozen BK237.out 0; have hfz19_1 := blk_frozen BK237.out 1; have hfz19_2 := blk_frozen BK237.out 2; have hfz19_3 := blk_frozen BK237.out 3; have hfz19_4 := blk_frozen BK237.out 4; have hfz19_5 := blk_frozen BK237.out 5; have hfz19_6 := blk_frozen BK237.out 6; have hfz19_7 := blk_frozen BK237.out 7))
            go_ret
            exact ⟨by first | (with_reducible rfl) | (simp only [isEmpty_bne, Bool.not_not] <;> with_reducible rfl) | (simp [errW_none, errW_some] <;> with_reducible rfl) | (simp only [isEmpty_bne, Bool.not_not] <;> rfl) | rfl | (simp [errW_none, errW_some] <;> rfl) | (simp [*, errW_none, errW_some] <;> rfl), by repeat (first | (with_reducible first | exact HB.out | apply below_alloc | apply pw_below_drewN | apply below_drew1 | refine below_set ?_ GE237.out) | exact HB.out)⟩
        · rw [if_neg c5] at H
          have c5b0 : decide (0 ≤ a0_4) = false := decide_eq_false c5
          clear c5
          obtain rfl := Option.some.inj H
          go_enter Tryd.func36, Tryd.ntmps36
          go_wp2_with (first | ((with_reducible refine gate_dst (N := 1) rfl ?_); refine box_event ?hg (N := 1) ?hd (cs := #[.int .i64 a0_0, .int .i64 a0_1, .int .i64 a0_2, .string a0_3, .int .i64 a0_4, .int .i64 a0_5, .int .i64 a0_6, .int .i64 a0_7]) (t := 33) ?hr ?_; (case hd => rfl); (case hg => rfl); (case hr => first | (go_simp; done) | (go_simp; rfl)); intro gb237 hg w20 hbox hb; have n0_ := Aside0.mk (below_step (by repeat (first | (with_reducible first | exact HB.out | apply below_alloc | apply pw_below_drewN | apply below_drew1) | exact HB.out)) hb); have n1_ := Aside0.mk (hbox); have n2_ := Aside0.mk ((by rw [hg]; exact (below_size (by repeat (first | (with_reducible first | exact HB.out | apply below_alloc | apply pw_below_drewN | apply below_drew1) | exact HB.out))) : w.heap.size ≤ gb237)); have n3_ := Aside0.mk ((by rw [hg]; exact (below_size (by repeat (first | (with_reducible first | exact HB.out | apply below_alloc | apply pw_below_drewN | apply below_drew1) | exact HB.out))) : w.heap.size ≤ gb237)); clear HB; have HB := n0_; have BK237 := n1_; have GW237 := n2_; have GE237 := n3_; clear n0_ n1_ n2_ n3_; clear hb hbox hg; have hcz21_0 : w20.cell? ⟨gb237, 0, none⟩ = some (.int .i64 a0_0) := (blk_cell BK237.out 0).trans rfl; have hcz21_1 : w20.cell? ⟨gb237, 1, none⟩ = some (.int .i64 a0_1) := (blk_cell BK237.out 1).trans rfl; have hcz21_2 : w20.cell? ⟨gb237, 2, none⟩ = some (.int .i64 a0_2) := (blk_cell BK237.out 2).trans rfl; have hcz21_3 : w20.cell? ⟨gb237, 3, none⟩ = some (.string a0_3) := (blk_cell BK237.out 3).trans rfl; have hcz21_4 : w20.cell? ⟨gb237, 4, none⟩ = some (.int .i64 a0_4) := (blk_cell BK237.out 4).trans rfl; have hcz21_5 : w20.cell? ⟨gb237, 5, none⟩ = some (.int .i64 a0_5) := (blk_cell BK237.out 5).trans rfl; have hcz21_6 : w20.cell? ⟨gb237, 6, none⟩ = some (.int .i64 a0_6) := (blk_cell BK237.out 6).trans rfl; have hcz21_7 : w20.cell? ⟨gb237, 7, none⟩ = some (.int .i64 a0_7) := (blk_cell BK237.out 7).trans rfl; have hfz21_0 := blk_frozen BK237.out 0; have hfz21_1 := blk_frozen BK237.out 1; have hfz21_2 := blk_frozen BK237.out 2; have hfz21_3 := blk_frozen BK237.out 3; have hfz21_4 := blk_frozen BK237.out 4; have hfz21_5 := blk_frozen BK237.out 5; have hfz21_6 := blk_frozen BK237.out 6; have hfz21_7 := blk_frozen BK237.out 7))
          go_ret
          exact ⟨by first | (with_reducible rfl) | (simp only [isEmpty_bne, Bool.not_not] <;> with_reducible rfl) | (simp [errW_none, errW_some] <;> with_reducible rfl) | (simp only [isEmpty_bne, Bool.not_not] <;> rfl) | rfl | (simp [errW_none, errW_some] <;> rfl) | (simp [*, errW_none, errW_some] <;> rfl), by repeat (first | (with_reducible first | exact HB.out | apply below_alloc | apply pw_below_drewN | apply below_drew1 | refine below_set ?_ GE237.out) | exact HB.out)⟩
      · rw [if_neg c4] at H
        have c4b0 : (a0_1 == 0 && (a0_2 == 0 && (a0_3.toList == ([] : List UInt8)))) = false := by simpa using c4
        (try (have c4b7 : (a0_1 == 0 && (a0_2 == 0 && (a0_3.toList.isEmpty))) = false := by simp only [isEmpty_beq]; exact c4b0))
        (try (have c4b1 : decide (a0_1 = 0 && (a0_2 == 0 && (a0_3.toList == ([] : List UInt8)))) = false := by simpa using c4))
        (try (have c4b2 : (a0_1 == 0 && (a0_2 == 0 && (a0_3.toList == ([] : List UInt8)))) = false := by simpa using c4))
        (try (have c4b3 : ¬ (a0_1 = 0 && (a0_2 == 0 && (a0_3.toList == ([] : List UInt8)))) := by simpa using c4))
        clear c4
        replace H := Option.bind_eq_some_iff.mp H
        obtain ⟨t241, A220, H⟩ := H
        replace H : (if t241 = true then (if a0_4 ≥ 0 then (if a0_4 ≤ 1000000 then ((factotumref17_count.f a0_5).bind fun t242 => (if t242 = true then ((factotumref17_count.f a0_6).bind fun t243 => (if t243 = true then ((factotumref17_count.f a0_7).bind fun t244 => (some t244)) else (some false))) else (some false))) else (some false)) else (some false)) else (some false)) = some r := H
        have A22 := Aside0.mk A220
        clear A220
        by_cases c23 : t241 = true
        · subst c23
          have H1 : (if a0_4 ≥ 0 then (if a0_4 ≤ 1000000 then ((factotumref17_count.f a0_5).bind fun t242 => (if t242 = true then ((factotumref17_count.f a0_6).bind fun t243 => (if t243 = true then ((factotumref17_count.f a0_7).bind fun t244 => (some t244)) else (some false))) else (some false))) else (some false)) else (some false)) = some r := by rw [if_pos rfl] at H; exact H
          clear H
          have H := H1
          clear H1
          by_cases c24 : a0_4 ≥ 0
          · rw [if_pos c24] at H
            have c24b0 : decide (0 ≤ a0_4) = true := decide_eq_true c24
            clear c24
            by_cases c25 : a0_4 ≤ 1000000
            · rw [if_pos c25] at H
              have c25b0 : decide (a0_4 ≤ 1000000) = true := decide_eq_true c25
              clear c25
              replace H := Option.bind_eq_some_iff.mp H
              obtain ⟨t242, A260, H⟩ := H
              replace H : (if t242 = true then ((factotumref17_count.f a0_6).bind fun t243 => (if t243 = true then ((factotumref17_count.f a0_7).bind fun t244 => (some t244)) else (some false))) else (some false)) = some r := H
              have A26 := Aside0.mk A260
              clear A260
              by_cases c27 : t242 = true
              · subst c27
                have H1 : ((factotumref17_count.f a0_6).bind fun t243 => (if t243 = true then ((factotumref17_count.f a0_7).bind fun t244 => (some t244)) else (some false))) = some r := by rw [if_pos rfl] at H; exact H
                clear H
                have H := H1
                clear H1
                replace H := Option.bind_eq_some_iff.mp H
                obtain ⟨t243, A280, H⟩ := H
                replace H : (if t243 = true then ((factotumref17_count.f a0_7).bind fun t244 => (some t244)) else (some false)) = some r := H
                have A28 := Aside0.mk A280
                clear A280
                by_cases c29 : t243 = true
                · subst c29
                  have H1 : ((factotumref17_count.f a0_7).bind fun t244 => (some t244)) = some r := by rw [if_pos rfl] at H; exact H
                  clear H
                  have H := H1
                  clear H1
                  replace H := Option.bind_eq_some_iff.mp H
                  obtain ⟨t244, A300, H⟩ := H
                  replace H : (some t244) = some r := H
                  have A30 := Aside0.mk A300
                  clear A300
                  obtain rfl := Option.some.inj H
                  go_enter Tryd.func36, Tryd.ntmps36
                  go_wp2_with (first | ((with_reducible refine gate_dst (N := 1) rfl ?_); refine box_event ?hg (N := 1) ?hd (cs := #[.int .i64 a0_0, .int .i64 a0_1, .int .i64 a0_2, .string a0_3, .int .i64 a0_4, .int .i64 a0_5, .int .i64 a0_6, .int .i64 a0_7]) (t := 33) ?hr ?_; (case hd => rfl); (case hg => rfl); (case hr => first | (go_simp; done) | (go_simp; rfl)); intro gb237 hg w31 hbox hb; have n0_ := Aside0.mk (below_step (by repeat (first | (with_reducible first | exact HB.out | apply below_alloc | apply pw_below_drewN | apply below_drew1) | exact HB.out)) hb); have n1_ := Aside0.mk (hbox); have n2_ := Aside0.mk ((by rw [hg]; exact (below_size (by repeat (first | (with_reducible first | exact HB.out | apply below_alloc | apply pw_below_drewN | apply below_drew1) | exact HB.out))) : w.heap.size ≤ gb237)); have n3_ := Aside0.mk ((by rw [hg]; exact (below_size (by repeat (first | (with_reducible first | exact HB.out | apply below_alloc | apply pw_below_drewN | apply below_drew1) | exact HB.out))) : w.heap.size ≤ gb237)); clear HB; have HB := n0_; have BK237 := n1_; have GW237 := n2_; have GE237 := n3_; clear n0_ n1_ n2_ n3_; clear hb hbox hg; have hcz32_0 : w31.cell? ⟨gb237, 0, none⟩ = some (.int .i64 a0_0) := (blk_cell BK237.out 0).trans rfl; have hcz32_1 : w31.cell? ⟨gb237, 1, none⟩ = some (.int .i64 a0_1) := (blk_cell BK237.out 1).trans rfl; have hcz32_2 : w31.cell? ⟨gb237, 2, none⟩ = some (.int .i64 a0_2) := (blk_cell BK237.out 2).trans rfl; have hcz32_3 : w31.cell? ⟨gb237, 3, none⟩ = some (.string a0_3) := (blk_cell BK237.out 3).trans rfl; have hcz32_4 : w31.cell? ⟨gb237, 4, none⟩ = some (.int .i64 a0_4) := (blk_cell BK237.out 4).trans rfl; have hcz32_5 : w31.cell? ⟨gb237, 5, none⟩ = some (.int .i64 a0_5) := (blk_cell BK237.out 5).trans rfl; have hcz32_6 : w31.cell? ⟨gb237, 6, none⟩ = some (.int .i64 a0_6) := (blk_cell BK237.out 6).trans rfl; have hcz32_7 : w31.cell? ⟨gb237, 7, none⟩ = some (.int .i64 a0_7) := (blk_cell BK237.out 7).trans rfl; have hfz32_0 := blk_frozen BK237.out 0; have hfz32_1 := blk_frozen BK237.out 1; have hfz32_2 := blk_frozen BK237.out 2; have hfz32_3 := blk_frozen BK237.out 3; have hfz32_4 := blk_frozen BK237.out 4; have hfz32_5 := blk_frozen BK237.out 5; have hfz32_6 := blk_frozen BK237.out 6; have hfz32_7 := blk_frozen BK237.out 7) | (go_at_call 26; (with_reducible refine (factotumref16_Is.calls a0_1 a0_2 a0_3 true _ A22.out).mono ?_); rintro e w33 ⟨rfl, hb⟩; have n0_ := Aside0.mk (blk_below (g := gb237) (o := .cells #[.int .i64 a0_0, .int .i64 a0_1, .int .i64 a0_2, .string a0_3, .int .i64 a0_4, .int .i64 a0_5, .int .i64 a0_6, .int .i64 a0_7] 33 (0, 0)) (by (with_reducible repeat (first | refine blk_drewN ?_ _ | refine blk_drew ?_ | refine blk_alloc ?_ _)); exact BK237.out) hb); have n1_ := Aside0.mk (below_step (by repeat (first | (with_reducible first | exact HB.out | apply below_alloc | apply pw_below_drewN | apply below_drew1 | refine below_set ?_ GE237.out) | exact HB.out)) hb); clear BK237; clear HB; have BK237 := n0_; have HB := n1_; clear n0_ n1_; (try clear hb); (try clear hb2); (try clear hk); (try clear hi); have hcz34_0 : w33.cell? ⟨gb237, 0, none⟩ = some (.int .i64 a0_0) := (blk_cell BK237.out 0).trans rfl; have hcz34_1 : w33.cell? ⟨gb237, 1, none⟩ = some (.int .i64 a0_1) := (blk_cell BK237.out 1).trans rfl; have hcz34_2 : w33.cell? ⟨gb237, 2, none⟩ = some (.int .i64 a0_2) := (blk_cell BK237.out 2).trans rfl; have hcz34_3 : w33.cell? ⟨gb237, 3, none⟩ = some (.string a0_3) := (blk_cell BK237.out 3).trans rfl; have hcz34_4 : w33.cell? ⟨gb237, 4, none⟩ = some (.int .i64 a0_4) := (blk_cell BK237.out 4).trans rfl; have hcz34_5 : w33.cell? ⟨gb237, 5, none⟩ = some (.int .i64 a0_5) := (blk_cell BK237.out 5).trans rfl; have hcz34_6 : w33.cell? ⟨gb237, 6, none⟩ = some (.int .i64 a0_6) := (blk_cell BK237.out 6).trans rfl; have hcz34_7 : w33.cell? ⟨gb237, 7, none⟩ = some (.int .i64 a0_7) := (blk_cell BK237.out 7).trans rfl; have hfz34_0 := blk_frozen BK237.out 0; have hfz34_1 := blk_frozen BK237.out 1; have hfz34_2 := blk_frozen BK237.out 2; have hfz34_3 := blk_frozen BK237.out 3; have hfz34_4 := blk_frozen BK237.out 4; have hfz34_5 := blk_frozen BK237.out 5; have hfz34_6 := blk_frozen BK237.out 6; have hfz34_7 := blk_frozen BK237.out 7) | (go_at_call 50; (with_reducible refine (factotumref17_count.calls a0_5 true _ A26.out).mono ?_); rintro e w' ⟨rfl, ⟨nd, rfl⟩⟩) | (go_at_call 50; (with_reducible refine (factotumref17_count.calls a0_6 true _ A28.out).mono ?_); rintro e w' ⟨rfl, ⟨nd, rfl⟩⟩) | (go_at_call 50; (with_reducible refine (factotumref17_count.calls a0_7 t244 _ A30.out).mono ?_); rintro e w' ⟨rfl, ⟨nd, rfl⟩⟩))
                  go_ret
                  exact ⟨by first | (with_reducible rfl) | (simp only [isEmpty_bne, Bool.not_not] <;> with_reducible rfl) | (simp [errW_none, errW_some] <;> with_reducible rfl) | (simp only [isEmpty_bne, Bool.not_not] <;> rfl) | rfl | (simp [errW_none, errW_some] <;> rfl) | (simp [*, errW_none, errW_some] <;> rfl), by repeat (first | (with_reducible first | exact HB.out | apply below_alloc | apply pw_below_drewN | apply below_drew1 | refine below_set ?_ GE237.out) | exact HB.out)⟩
                · replace c29 := Bool.eq_false_iff.mpr c29
                  subst c29
                  have H1 : (some false) = some r := by rw [if_neg (show ¬ (false = true) by decide)] at H; exact H
                  clear H
                  have H := H1
                  clear H1
                  obtain rfl := Option.some.inj H
                  go_enter Tryd.func36, Tryd.ntmps36
                  go_wp2_with (first | ((with_reducible refine gate_dst (N := 1) rfl ?_); refine box_event ?hg (N := 1) ?hd (cs := #[.int .i64 a0_0, .int .i64 a0_1, .int .i64 a0_2, .string a0_3, .int .i64 a0_4, .int .i64 a0_5, .int .i64 a0_6, .int .i64 a0_7]) (t := 33) ?hr ?_; (case hd => rfl); (case hg => rfl); (case hr => first | (go_simp; done) | (go_simp; rfl)); intro gb237 hg w35 hbox hb; have n0_ := Aside0.mk (below_step (by repeat (first | (with_reducible first | exact HB.out | apply below_alloc | apply pw_below_drewN | apply below_drew1) | exact HB.out)) hb); have n1_ := Aside0.mk (hbox); have n2_ := Aside0.mk ((by rw [hg]; exact (below_size (by repeat (first | (with_reducible first | exact HB.out | apply below_alloc | apply pw_below_drewN | apply below_drew1) | exact HB.out))) : w.heap.size ≤ gb237)); have n3_ := Aside0.mk ((by rw [hg]; exact (below_size (by repeat (first | (with_reducible first | exact HB.out | apply below_alloc | apply pw_below_drewN | apply below_drew1) | exact HB.out))) : w.heap.size ≤ gb237)); clear HB; have HB := n0_; have BK237 := n1_; have GW237 := n2_; have GE237 := n3_; clear n0_ n1_ n2_ n3_; clear hb hbox hg; have hcz36_0 : w35.cell? ⟨gb237, 0, none⟩ = some (.int .i64 a0_0) := (blk_cell BK237.out 0).trans rfl; have hcz36_1 : w35.cell? ⟨gb237, 1, none⟩ = some (.int .i64 a0_1) := (blk_cell BK237.out 1).trans rfl; have hcz36_2 : w35.cell? ⟨gb237, 2, none⟩ = some (.int .i64 a0_2) := (blk_cell BK237.out 2).trans rfl; have hcz36_3 : w35.cell? ⟨gb237, 3, none⟩ = some (.string a0_3) := (blk_cell BK237.out 3).trans rfl; have hcz36_4 : w35.cell? ⟨gb237, 4, none⟩ = some (.int .i64 a0_4) := (blk_cell BK237.out 4).trans rfl; have hcz36_5 : w35.cell? ⟨gb237, 5, none⟩ = some (.int .i64 a0_5) := (blk_cell BK237.out 5).trans rfl; have hcz36_6 : w35.cell? ⟨gb237, 6, none⟩ = some (.int .i64 a0_6) := (blk_cell BK237.out 6).trans rfl; have hcz36_7 : w35.cell? ⟨gb237, 7, none⟩ = some (.int .i64 a0_7) := (blk_cell BK237.out 7).trans rfl; have hfz36_0 := blk_frozen BK237.out 0; have hfz36_1 := blk_frozen BK237.out 1; have hfz36_2 := blk_frozen BK237.out 2; have hfz36_3 := blk_frozen BK237.out 3; have hfz36_4 := blk_frozen BK237.out 4; have hfz36_5 := blk_frozen BK237.out 5; have hfz36_6 := blk_frozen BK237.out 6; have hfz36_7 := blk_frozen BK237.out 7) | (go_at_call 26; (with_reducible refine (factotumref16_Is.calls a0_1 a0_2 a0_3 true _ A22.out).mono ?_); rintro e w37 ⟨rfl, hb⟩; have n0_ := Aside0.mk (blk_below (g := gb237) (o := .cells #[.int .i64 a0_0, .int .i64 a0_1, .int .i64 a0_2, .string a0_3, .int .i64 a0_4, .int .i64 a0_5, .int .i64 a0_6, .int .i64 a0_7] 33 (0, 0)) (by (with_reducible repeat (first | refine blk_drewN ?_ _ | refine blk_drew ?_ | refine blk_alloc ?_ _)); exact BK237.out) hb); have n1_ := Aside0.mk (below_step (by repeat (first | (with_reducible first | exact HB.out | apply below_alloc | apply pw_below_drewN | apply below_drew1 | refine below_set ?_ GE237.out) | exact HB.out)) hb); clear BK237; clear HB; have BK237 := n0_; have HB := n1_; clear n0_ n1_; (try clear hb); (try clear hb2); (try clear hk); (try clear hi); have hcz38_0 : w37.cell? ⟨gb237, 0, none⟩ = some (.int .i64 a0_0) := (blk_cell BK237.out 0).trans rfl; have hcz38_1 : w37.cell? ⟨gb237, 1, none⟩ = some (.int .i64 a0_1) := (blk_cell BK237.out 1).trans rfl; have hcz38_2 : w37.cell? ⟨gb237, 2, none⟩ = some (.int .i64 a0_2) := (blk_cell BK237.out 2).trans rfl; have hcz38_3 : w37.cell? ⟨gb237, 3, none⟩ = some (.string a0_3) := (blk_cell BK237.out 3).trans rfl; have hcz38_4 : w37.cell? ⟨gb237, 4, none⟩ = some (.int .i64 a0_4) := (blk_cell BK237.out 4).trans rfl; have hcz38_5 : w37.cell? ⟨gb237, 5, none⟩ = some (.int .i64 a0_5) := (blk_cell BK237.out 5).trans rfl; have hcz38_6 : w37.cell? ⟨gb237, 6, none⟩ = some (.int .i64 a0_6) := (blk_cell BK237.out 6).trans rfl; have hcz38_7 : w37.cell? ⟨gb237, 7, none⟩ = some (.int .i64 a0_7) := (blk_cell BK237.out 7).trans rfl; have hfz38_0 := blk_frozen BK237.out 0; have hfz38_1 := blk_frozen BK237.out 1; have hfz38_2 := blk_frozen BK237.out 2; have hfz38_3 := blk_frozen BK237.out 3; have hfz38_4 := blk_frozen BK237.out 4; have hfz38_5 := blk_frozen BK237.out 5; have hfz38_6 := blk_frozen BK237.out 6; have hfz38_7 := blk_frozen BK237.out 7) | (go_at_call 50; (with_reducible refine (factotumref17_count.calls a0_5 true _ A26.out).mono ?_); rintro e w' ⟨rfl, ⟨nd, rfl⟩⟩) | (go_at_call 50; (with_reducible refine (factotumref17_count.calls a0_6 false _ A28.out).mono ?_); rintro e w' ⟨rfl, ⟨nd, rfl⟩⟩))
                  go_ret
                  exact ⟨by first | (with_reducible rfl) | (simp only [isEmpty_bne, Bool.not_not] <;> with_reducible rfl) | (simp [errW_none, errW_some] <;> with_reducible rfl) | (simp only [isEmpty_bne, Bool.not_not] <;> rfl) | rfl | (simp [errW_none, errW_some] <;> rfl) | (simp [*, errW_none, errW_some] <;> rfl), by repeat (first | (with_reducible first | exact HB.out | apply below_alloc | apply pw_below_drewN | apply below_drew1 | refine below_set ?_ GE237.out) | exact HB.out)⟩
              · replace c27 := Bool.eq_false_iff.mpr c27
                subst c27
                have H1 : (some false) = some r := by rw [if_neg (show ¬ (false = true) by decide)] at H; exact H
                clear H
                have H := H1
                clear H1
                obtain rfl := Option.some.inj H
                go_enter Tryd.func36, Tryd.ntmps36
                go_wp2_with (first | ((with_reducible refine gate_dst (N := 1) rfl ?_); refine box_event ?hg (N := 1) ?hd (cs := #[.int .i64 a0_0, .int .i64 a0_1, .int .i64 a0_2, .string a0_3, .int .i64 a0_4, .int .i64 a0_5, .int .i64 a0_6, .int .i64 a0_7]) (t := 33) ?hr ?_; (case hd => rfl); (case hg => rfl); (case hr => first | (go_simp; done) | (go_simp; rfl)); intro gb237 hg w39 hbox hb; have n0_ := Aside0.mk (below_step (by repeat (first | (with_reducible first | exact HB.out | apply below_alloc | apply pw_below_drewN | apply below_drew1) | exact HB.out)) hb); have n1_ := Aside0.mk (hbox); have n2_ := Aside0.mk ((by rw [hg]; exact (below_size (by repeat (first | (with_reducible first | exact HB.out | apply below_alloc | apply pw_below_drewN | apply below_drew1) | exact HB.out))) : w.heap.size ≤ gb237)); have n3_ := Aside0.mk ((by rw [hg]; exact (below_size (by repeat (first | (with_reducible first | exact HB.out | apply below_alloc | apply pw_below_drewN | apply below_drew1) | exact HB.out))) : w.heap.size ≤ gb237)); clear HB; have HB := n0_; have BK237 := n1_; have GW237 := n2_; have GE237 := n3_; clear n0_ n1_ n2_ n3_; clear hb hbox hg; have hcz40_0 : w39.cell? ⟨gb237, 0, none⟩ = some (.int .i64 a0_0) := (blk_cell BK237.out 0).trans rfl; have hcz40_1 : w39.cell? ⟨gb237, 1, none⟩ = some (.int .i64 a0_1) := (blk_cell BK237.out 1).trans rfl; have hcz40_2 : w39.cell? ⟨gb237, 2, none⟩ = some (.int .i64 a0_2) := (blk_cell BK237.out 2).trans rfl; have hcz40_3 : w39.cell? ⟨gb237, 3, none⟩ = some (.string a0_3) := (blk_cell BK237.out 3).trans rfl; have hcz40_4 : w39.cell? ⟨gb237, 4, none⟩ = some (.int .i64 a0_4) := (blk_cell BK237.out 4).trans rfl; have hcz40_5 : w39.cell? ⟨gb237, 5, none⟩ = some (.int .i64 a0_5) := (blk_cell BK237.out 5).trans rfl; have hcz40_6 : w39.cell? ⟨gb237, 6, none⟩ = some (.int .i64 a0_6) := (blk_cell BK237.out 6).trans rfl; have hcz40_7 : w39.cell? ⟨gb237, 7, none⟩ = some (.int .i64 a0_7) := (blk_cell BK237.out 7).trans rfl; have hfz40_0 := blk_frozen BK237.out 0; have hfz40_1 := blk_frozen BK237.out 1; have hfz40_2 := blk_frozen BK237.out 2; have hfz40_3 := blk_frozen BK237.out 3; have hfz40_4 := blk_frozen BK237.out 4; have hfz40_5 := blk_frozen BK237.out 5; have hfz40_6 := blk_frozen BK237.out 6; have hfz40_7 := blk_frozen BK237.out 7) | (go_at_call 26; (with_reducible refine (factotumref16_Is.calls a0_1 a0_2 a0_3 true _ A22.out).mono ?_); rintro e w41 ⟨rfl, hb⟩; have n0_ := Aside0.mk (blk_below (g := gb237) (o := .cells #[.int .i64 a0_0, .int .i64 a0_1, .int .i64 a0_2, .string a0_3, .int .i64 a0_4, .int .i64 a0_5, .int .i64 a0_6, .int .i64 a0_7] 33 (0, 0)) (by (with_reducible repeat (first | refine blk_drewN ?_ _ | refine blk_drew ?_ | refine blk_alloc ?_ _)); exact BK237.out) hb); have n1_ := Aside0.mk (below_step (by repeat (first | (with_reducible first | exact HB.out | apply below_alloc | apply pw_below_drewN | apply below_drew1 | refine below_set ?_ GE237.out) | exact HB.out)) hb); clear BK237; clear HB; have BK237 := n0_; have HB := n1_; clear n0_ n1_; (try clear hb); (try clear hb2); (try clear hk); (try clear hi); have hcz42_0 : w41.cell? ⟨gb237, 0, none⟩ = some (.int .i64 a0_0) := (blk_cell BK237.out 0).trans rfl; have hcz42_1 : w41.cell? ⟨gb237, 1, none⟩ = some (.int .i64 a0_1) := (blk_cell BK237.out 1).trans rfl; have hcz42_2 : w41.cell? ⟨gb237, 2, none⟩ = some (.int .i64 a0_2) := (blk_cell BK237.out 2).trans rfl; have hcz42_3 : w41.cell? ⟨gb237, 3, none⟩ = some (.string a0_3) := (blk_cell BK237.out 3).trans rfl; have hcz42_4 : w41.cell? ⟨gb237, 4, none⟩ = some (.int .i64 a0_4) := (blk_cell BK237.out 4).trans rfl; have hcz42_5 : w41.cell? ⟨gb237, 5, none⟩ = some (.int .i64 a0_5) := (blk_cell BK237.out 5).trans rfl; have hcz42_6 : w41.cell? ⟨gb237, 6, none⟩ = some (.int .i64 a0_6) := (blk_cell BK237.out 6).trans rfl; have hcz42_7 : w41.cell? ⟨gb237, 7, none⟩ = some (.int .i64 a0_7) := (blk_cell BK237.out 7).trans rfl; have hfz42_0 := blk_frozen BK237.out 0; have hfz42_1 := blk_frozen BK237.out 1; have hfz42_2 := blk_frozen BK237.out 2; have hfz42_3 := blk_frozen BK237.out 3; have hfz42_4 := blk_frozen BK237.out 4; have hfz42_5 := blk_frozen BK237.out 5; have hfz42_6 := blk_frozen BK237.out 6; have hfz42_7 := blk_frozen BK237.out 7) | (go_at_call 50; (with_reducible refine (factotumref17_count.calls a0_5 false _ A26.out).mono ?_); rintro e w' ⟨rfl, ⟨nd, rfl⟩⟩))
                go_ret
                exact ⟨by first | (with_reducible rfl) | (simp only [isEmpty_bne, Bool.not_not] <;> with_reducible rfl) | (simp [errW_none, errW_some] <;> with_reducible rfl) | (simp only [isEmpty_bne, Bool.not_not] <;> rfl) | rfl | (simp [errW_none, errW_some] <;> rfl) | (simp [*, errW_none, errW_some] <;> rfl), by repeat (first | (with_reducible first | exact HB.out | apply below_alloc | apply pw_below_drewN | apply below_drew1 | refine below_set ?_ GE237.out) | exact HB.out)⟩
            · rw [if_neg c25] at H
              have c25b0 : decide (a0_4 ≤ 1000000) = false := decide_eq_false c25
              clear c25
              obtain rfl := Option.some.inj H
              go_enter Tryd.func36, Tryd.ntmps36
              go_wp2_with (first | ((with_reducible refine gate_dst (N := 1) rfl ?_); refine box_event ?hg (N := 1) ?hd (cs := #[.int .i64 a0_0, .int .i64 a0_1, .int .i64 a0_2, .string a0_3, .int .i64 a0_4, .int .i64 a0_5, .int .i64 a0_6, .int .i64 a0_7]) (t := 33) ?hr ?_; (case hd => rfl); (case hg => rfl); (case hr => first | (go_simp; done) | (go_simp; rfl)); intro gb237 hg w43 hbox hb; have n0_ := Aside0.mk (below_step (by repeat (first | (with_reducible first | exact HB.out | apply below_alloc | apply pw_below_drewN | apply below_drew1) | exact HB.out)) hb); have n1_ := Aside0.mk (hbox); have n2_ := Aside0.mk ((by rw [hg]; exact (below_size (by repeat (first | (with_reducible first | exact HB.out | apply below_alloc | apply pw_below_drewN | apply below_drew1) | exact HB.out))) : w.heap.size ≤ gb237)); have n3_ := Aside0.mk ((by rw [hg]; exact (below_size (by repeat (first | (with_reducible first | exact HB.out | apply below_alloc | apply pw_below_drewN | apply below_drew1) | exact HB.out))) : w.heap.size ≤ gb237)); clear HB; have HB := n0_; have BK237 := n1_; have GW237 := n2_; have GE237 := n3_; clear n0_ n1_ n2_ n3_; clear hb hbox hg; have hcz44_0 : w43.cell? ⟨gb237, 0, none⟩ = some (.int .i64 a0_0) := (blk_cell BK237.out 0).trans rfl; have hcz44_1 : w43.cell? ⟨gb237, 1, none⟩ = some (.int .i64 a0_1) := (blk_cell BK237.out 1).trans rfl; have hcz44_2 : w43.cell? ⟨gb237, 2, none⟩ = some (.int .i64 a0_2) := (blk_cell BK237.out 2).trans rfl; have hcz44_3 : w43.cell? ⟨gb237, 3, none⟩ = some (.string a0_3) := (blk_cell BK237.out 3).trans rfl; have hcz44_4 : w43.cell? ⟨gb237, 4, none⟩ = some (.int .i64 a0_4) := (blk_cell BK237.out 4).trans rfl; have hcz44_5 : w43.cell? ⟨gb237, 5, none⟩ = some (.int .i64 a0_5) := (blk_cell BK237.out 5).trans rfl; have hcz44_6 : w43.cell? ⟨gb237, 6, none⟩ = some (.int .i64 a0_6) := (blk_cell BK237.out 6).trans rfl; have hcz44_7 : w43.cell? ⟨gb237, 7, none⟩ = some (.int .i64 a0_7) := (blk_cell BK237.out 7).trans rfl; have hfz44_0 := blk_frozen BK237.out 0; have hfz44_1 := blk_frozen BK237.out 1; have hfz44_2 := blk_frozen BK237.out 2; have hfz44_3 := blk_frozen BK237.out 3; have hfz44_4 := blk_frozen BK237.out 4; have hfz44_5 := blk_frozen BK237.out 5; have hfz44_6 := blk_frozen BK237.out 6; have hfz44_7 := blk_frozen BK237.out 7) | (go_at_call 26; (with_reducible refine (factotumref16_Is.calls a0_1 a0_2 a0_3 true _ A22.out).mono ?_); rintro e w45 ⟨rfl, hb⟩; have n0_ := Aside0.mk (blk_below (g := gb237) (o := .cells #[.int .i64 a0_0, .int .i64 a0_1, .int .i64 a0_2, .string a0_3, .int .i64 a0_4, .int .i64 a0_5, .int .i64 a0_6, .int .i64 a0_7] 33 (0, 0)) (by (with_reducible repeat (first | refine blk_drewN ?_ _ | refine blk_drew ?_ | refine blk_alloc ?_ _)); exact BK237.out) hb); have n1_ := Aside0.mk (below_step (by repeat (first | (with_reducible first | exact HB.out | apply below_alloc | apply pw_below_drewN | apply below_drew1 | refine below_set ?_ GE237.out) | exact HB.out)) hb); clear BK237; clear HB; have BK237 := n0_; have HB := n1_; clear n0_ n1_; (try clear hb); (try clear hb2); (try clear hk); (try clear hi); have hcz46_0 : w45.cell? ⟨gb237, 0, none⟩ = some (.int .i64 a0_0) := (blk_cell BK237.out 0).trans rfl; have hcz46_1 : w45.cell? ⟨gb237, 1, none⟩ = some (.int .i64 a0_1) := (blk_cell BK237.out 1).trans rfl; have hcz46_2 : w45.cell? ⟨gb237, 2, none⟩ = some (.int .i64 a0_2) := (blk_cell BK237.out 2).trans rfl; have hcz46_3 : w45.cell? ⟨gb237, 3, none⟩ = some (.string a0_3) := (blk_cell BK237.out 3).trans rfl; have hcz46_4 : w45.cell? ⟨gb237, 4, none⟩ = some (.int .i64 a0_4) := (blk_cell BK237.out 4).trans rfl; have hcz46_5 : w45.cell? ⟨gb237, 5, none⟩ = some (.int .i64 a0_5) := (blk_cell BK237.out 5).trans rfl; have hcz46_6 : w45.cell? ⟨gb237, 6, none⟩ = some (.int .i64 a0_6) := (blk_cell BK237.out 6).trans rfl; have hcz46_7 : w45.cell? ⟨gb237, 7, none⟩ = some (.int .i64 a0_7) := (blk_cell BK237.out 7).trans rfl; have hfz46_0 := blk_frozen BK237.out 0; have hfz46_1 := blk_frozen BK237.out 1; have hfz46_2 := blk_frozen BK237.out 2; have hfz46_3 := blk_frozen BK237.out 3; have hfz46_4 := blk_frozen BK237.out 4; have hfz46_5 := blk_frozen BK237.out 5; have hfz46_6 := blk_frozen BK237.out 6; have hfz46_7 := blk_frozen BK237.out 7))
              go_ret
              exact ⟨by first | (with_reducible rfl) | (simp only [isEmpty_bne, Bool.not_not] <;> with_reducible rfl) | (simp [errW_none, errW_some] <;> with_reducible rfl) | (simp only [isEmpty_bne, Bool.not_not] <;> rfl) | rfl | (simp [errW_none, errW_some] <;> rfl) | (simp [*, errW_none, errW_some] <;> rfl), by repeat (first | (with_reducible first | exact HB.out | apply below_alloc | apply pw_below_drewN | apply below_drew1 | refine below_set ?_ GE237.out) | exact HB.out)⟩
          · rw [if_neg c24] at H
            have c24b0 : decide (0 ≤ a0_4) = false := decide_eq_false c24
            clear c24
            obtain rfl := Option.some.inj H
            go_enter Tryd.func36, Tryd.ntmps36
            go_wp2_with (first | ((with_reducible refine gate_dst (N := 1) rfl ?_); refine box_event ?hg (N := 1) ?hd (cs := #[.int .i64 a0_0, .int .i64 a0_1, .int .i64 a0_2, .string a0_3, .int .i64 a0_4, .int .i64 a0_5, .int .i64 a0_6, .int .i64 a0_7]) (t := 33) ?hr ?_; (case hd => rfl); (case hg => rfl); (case hr => first | (go_simp; done) | (go_simp; rfl)); intro gb237 hg w47 hbox hb; have n0_ := Aside0.mk (below_step (by repeat (first | (with_reducible first | exact HB.out | apply below_alloc | apply pw_below_drewN | apply below_drew1) | exact HB.out)) hb); have n1_ := Aside0.mk (hbox); have n2_ := Aside0.mk ((by rw [hg]; exact (below_size (by repeat (first | (with_reducible first | exact HB.out | apply below_alloc | apply pw_below_drewN | apply below_drew1) | exact HB.out))) : w.heap.size ≤ gb237)); have n3_ := Aside0.mk ((by rw [hg]; exact (below_size (by repeat (first | (with_reducible first | exact HB.out | apply below_alloc | apply pw_below_drewN | apply below_drew1) | exact HB.out))) : w.heap.size ≤ gb237)); clear HB; have HB := n0_; have BK237 := n1_; have GW237 := n2_; have GE237 := n3_; clear n0_ n1_ n2_ n3_; clear hb hbox hg; have hcz48_0 : w47.cell? ⟨gb237, 0, none⟩ = some (.int .i64 a0_0) := (blk_cell BK237.out 0).trans rfl; have hcz48_1 : w47.cell? ⟨gb237, 1, none⟩ = some (.int .i64 a0_1) := (blk_cell BK237.out 1).trans rfl; have hcz48_2 : w47.cell? ⟨gb237, 2, none⟩ = some (.int .i64 a0_2) := (blk_cell BK237.out 2).trans rfl; have hcz48_3 : w47.cell? ⟨gb237, 3, none⟩ = some (.string a0_3) := (blk_cell BK237.out 3).trans rfl; have hcz48_4 : w47.cell? ⟨gb237, 4, none⟩ = some (.int .i64 a0_4) := (blk_cell BK237.out 4).trans rfl; have hcz48_5 : w47.cell? ⟨gb237, 5, none⟩ = some (.int .i64 a0_5) := (blk_cell BK237.out 5).trans rfl; have hcz48_6 : w47.cell? ⟨gb237, 6, none⟩ = some (.int .i64 a0_6) := (blk_cell BK237.out 6).trans rfl; have hcz48_7 : w47.cell? ⟨gb237, 7, none⟩ = some (.int .i64 a0_7) := (blk_cell BK237.out 7).trans rfl; have hfz48_0 := blk_frozen BK237.out 0; have hfz48_1 := blk_frozen BK237.out 1; have hfz48_2 := blk_frozen BK237.out 2; have hfz48_3 := blk_frozen BK237.out 3; have hfz48_4 := blk_frozen BK237.out 4; have hfz48_5 := blk_frozen BK237.out 5; have hfz48_6 := blk_frozen BK237.out 6; have hfz48_7 := blk_frozen BK237.out 7) | (go_at_call 26; (with_reducible refine (factotumref16_Is.calls a0_1 a0_2 a0_3 true _ A22.out).mono ?_); rintro e w49 ⟨rfl, hb⟩; have n0_ := Aside0.mk (blk_below (g := gb237) (o := .cells #[.int .i64 a0_0, .int .i64 a0_1, .int .i64 a0_2, .string a0_3, .int .i64 a0_4, .int .i64 a0_5, .int .i64 a0_6, .int .i64 a0_7] 33 (0, 0)) (by (with_reducible repeat (first | refine blk_drewN ?_ _ | refine blk_drew ?_ | refine blk_alloc ?_ _)); exact BK237.out) hb); have n1_ := Aside0.mk (below_step (by repeat (first | (with_reducible first | exact HB.out | apply below_alloc | apply pw_below_drewN | apply below_drew1 | refine below_set ?_ GE237.out) | exact HB.out)) hb); clear BK237; clear HB; have BK237 := n0_; have HB := n1_; clear n0_ n1_; (try clear hb); (try clear hb2); (try clear hk); (try clear hi); have hcz50_0 : w49.cell? ⟨gb237, 0, none⟩ = some (.int .i64 a0_0) := (blk_cell BK237.out 0).trans rfl; have hcz50_1 : w49.cell? ⟨gb237, 1, none⟩ = some (.int .i64 a0_1) := (blk_cell BK237.out 1).trans rfl; have hcz50_2 : w49.cell? ⟨gb237, 2, none⟩ = some (.int .i64 a0_2) := (blk_cell BK237.out 2).trans rfl; have hcz50_3 : w49.cell? ⟨gb237, 3, none⟩ = some (.string a0_3) := (blk_cell BK237.out 3).trans rfl; have hcz50_4 : w49.cell? ⟨gb237, 4, none⟩ = some (.int .i64 a0_4) := (blk_cell BK237.out 4).trans rfl; have hcz50_5 : w49.cell? ⟨gb237, 5, none⟩ = some (.int .i64 a0_5) := (blk_cell BK237.out 5).trans rfl; have hcz50_6 : w49.cell? ⟨gb237, 6, none⟩ = some (.int .i64 a0_6) := (blk_cell BK237.out 6).trans rfl; have hcz50_7 : w49.cell? ⟨gb237, 7, none⟩ = some (.int .i64 a0_7) := (blk_cell BK237.out 7).trans rfl; have hfz50_0 := blk_frozen BK237.out 0; have hfz50_1 := blk_frozen BK237.out 1; have hfz50_2 := blk_frozen BK237.out 2; have hfz50_3 := blk_frozen BK237.out 3; have hfz50_4 := blk_frozen BK237.out 4; have hfz50_5 := blk_frozen BK237.out 5; have hfz50_6 := blk_frozen BK237.out 6; have hfz50_7 := blk_frozen BK237.out 7))
            go_ret
            exact ⟨by first | (with_reducible rfl) | (simp only [isEmpty_bne, Bool.not_not] <;> with_reducible rfl) | (simp [errW_none, errW_some] <;> with_reducible rfl) | (simp only [isEmpty_bne, Bool.not_not] <;> rfl) | rfl | (simp [errW_none, errW_some] <;> rfl) | (simp [*, errW_none, errW_some] <;> rfl), by repeat (first | (with_reducible first | exact HB.out | apply below_alloc | apply pw_below_drewN | apply below_drew1 | refine below_set ?_ GE237.out) | exact HB.out)⟩
        · replace c23 := Bool.eq_false_iff.mpr c23
          subst c23
          have H1 : (some false) = some r := by rw [if_neg (show ¬ (false = true) by decide)] at H; exact H
          clear H
          have H := H1
          clear H1
          obtain rfl := Option.some.inj H
          go_enter Tryd.func36, Tryd.ntmps36
          go_wp2_with (first | ((with_reducible refine gate_dst (N := 1) rfl ?_); refine box_event ?hg (N := 1) ?hd (cs := #[.int .i64 a0_0, .int .i64 a0_1, .int .i64 a0_2, .string a0_3, .int .i64 a0_4, .int .i64 a0_5, .int .i64 a0_6, .int .i64 a0_7]) (t := 33) ?hr ?_; (case hd => rfl); (case hg => rfl); (case hr => first | (go_simp; done) | (go_simp; rfl)); intro gb237 hg w51 hbox hb; have n0_ := Aside0.mk (below_step (by repeat (first | (with_reducible first | exact HB.out | apply below_alloc | apply pw_below_drewN | apply below_drew1) | exact HB.out)) hb); have n1_ := Aside0.mk (hbox); have n2_ := Aside0.mk ((by rw [hg]; exact (below_size (by repeat (first | (with_reducible first | exact HB.out | apply below_alloc | apply pw_below_drewN | apply below_drew1) | exact HB.out))) : w.heap.size ≤ gb237)); have n3_ := Aside0.mk ((by rw [hg]; exact (below_size (by repeat (first | (with_reducible first | exact HB.out | apply below_alloc | apply pw_below_drewN | apply below_drew1) | exact HB.out))) : w.heap.size ≤ gb237)); clear HB; have HB := n0_; have BK237 := n1_; have GW237 := n2_; have GE237 := n3_; clear n0_ n1_ n2_ n3_; clear hb hbox hg; have hcz52_0 : w51.cell? ⟨gb237, 0, none⟩ = some (.int .i64 a0_0) := (blk_cell BK237.out 0).trans rfl; have hcz52_1 : w51.cell? ⟨gb237, 1, none⟩ = some (.int .i64 a0_1) := (blk_cell BK237.out 1).trans rfl; have hcz52_2 : w51.cell? ⟨gb237, 2, none⟩ = some (.int .i64 a0_2) := (blk_cell BK237.out 2).trans rfl; have hcz52_3 : w51.cell? ⟨gb237, 3, none⟩ = some (.string a0_3) := (blk_cell BK237.out 3).trans rfl; have hcz52_4 : w51.cell? ⟨gb237, 4, none⟩ = some (.int .i64 a0_4) := (blk_cell BK237.out 4).trans rfl; have hcz52_5 : w51.cell? ⟨gb237, 5, none⟩ = some (.int .i64 a0_5) := (blk_cell BK237.out 5).trans rfl; have hcz52_6 : w51.cell? ⟨gb237, 6, none⟩ = some (.int .i64 a0_6) := (blk_cell BK237.out 6).trans rfl; have hcz52_7 : w51.cell? ⟨gb237, 7, none⟩ = some (.int .i64 a0_7) := (blk_cell BK237.out 7).trans rfl; have hfz52_0 := blk_frozen BK237.out 0; have hfz52_1 := blk_frozen BK237.out 1; have hfz52_2 := blk_frozen BK237.out 2; have hfz52_3 := blk_frozen BK237.out 3; have hfz52_4 := blk_frozen BK237.out 4; have hfz52_5 := blk_frozen BK237.out 5; have hfz52_6 := blk_frozen BK237.out 6; have hfz52_7 := blk_frozen BK237.out 7) | (go_at_call 26; (with_reducible refine (factotumref16_Is.calls a0_1 a0_2 a0_3 false _ A22.out).mono ?_); rintro e w53 ⟨rfl, hb⟩; have n0_ := Aside0.mk (blk_below (g := gb237) (o := .cells #[.int .i64 a0_0, .int .i64 a0_1, .int .i64 a0_2, .string a0_3, .int .i64 a0_4, .int .i64 a0_5, .int .i64 a0_6, .int .i64 a0_7] 33 (0, 0)) (by (with_reducible repeat (first | refine blk_drewN ?_ _ | refine blk_drew ?_ | refine blk_alloc ?_ _)); exact BK237.out) hb); have n1_ := Aside0.mk (below_step (by repeat (first | (with_reducible first | exact HB.out | apply below_alloc | apply pw_below_drewN | apply below_drew1 | refine below_set ?_ GE237.out) | exact HB.out)) hb); clear BK237; clear HB; have BK237 := n0_; have HB := n1_; clear n0_ n1_; (try clear hb); (try clear hb2); (try clear hk); (try clear hi)))
          go_ret
          exact ⟨by first | (with_reducible rfl) | (simp only [isEmpty_bne, Bool.not_not] <;> with_reducible rfl) | (simp [errW_none, errW_some] <;> with_reducible rfl) | (simp only [isEmpty_bne, Bool.not_not] <;> rfl) | rfl | (simp [errW_none, errW_some] <;> rfl) | (simp [*, errW_none, errW_some] <;> rfl), by repeat (first | (with_reducible first | exact HB.out | apply below_alloc | apply pw_below_drewN | apply below_drew1 | refine below_set ?_ GE237.out) | exact HB.out)⟩
    · rw [if_neg c3] at H
      have c3b0 : decide (a0_0 ≤ 3) = false := decide_eq_false c3
      clear c3
      obtain rfl := Option.some.inj H
      go_enter Tryd.func36, Tryd.ntmps36
      go_wp2_with (first | ((with_reducible refine gate_dst (N := 1) rfl ?_); refine box_event ?hg (N := 1) ?hd (cs := #[.int .i64 a0_0, .int .i64 a0_1, .int .i64 a0_2, .string a0_3, .int .i64 a0_4, .int .i64 a0_5, .int .i64 a0_6, .int .i64 a0_7]) (t := 33) ?hr ?_; (case hd => rfl); (case hg => rfl); (case hr => first | (go_simp; done) | (go_simp; rfl)); intro gb237 hg w54 hbox hb; have n0_ := Aside0.mk (below_step (by repeat (first | (with_reducible first | exact HB.out | apply below_alloc | apply pw_below_drewN | apply below_drew1) | exact HB.out)) hb); have n1_ := Aside0.mk (hbox); have n2_ := Aside0.mk ((by rw [hg]; exact (below_size (by repeat (first | (with_reducible first | exact HB.out | apply below_alloc | apply pw_below_drewN | apply below_drew1) | exact HB.out))) : w.heap.size ≤ gb237)); have n3_ := Aside0.mk ((by rw [hg]; exact (below_size (by repeat (first | (with_reducible first | exact HB.out | apply below_alloc | apply pw_below_drewN | apply below_drew1) | exact HB.out))) : w.heap.size ≤ gb237)); clear HB; have HB := n0_; have BK237 := n1_; have GW237 := n2_; have GE237 := n3_; clear n0_ n1_ n2_ n3_; clear hb hbox hg; have hcz55_0 : w54.cell? ⟨gb237, 0, none⟩ = some (.int .i64 a0_0) := (blk_cell BK237.out 0).trans rfl; have hcz55_1 : w54.cell? ⟨gb237, 1, none⟩ = some (.int .i64 a0_1) := (blk_cell BK237.out 1).trans rfl; have hcz55_2 : w54.cell? ⟨gb237, 2, none⟩ = some (.int .i64 a0_2) := (blk_cell BK237.out 2).trans rfl; have hcz55_3 : w54.cell? ⟨gb237, 3, none⟩ = some (.string a0_3) := (blk_cell BK237.out 3).trans rfl; have hcz55_4 : w54.cell? ⟨gb237, 4, none⟩ = some (.int .i64 a0_4) := (blk_cell BK237.out 4).trans rfl; have hcz55_5 : w54.cell? ⟨gb237, 5, none⟩ = some (.int .i64 a0_5) := (blk_cell BK237.out 5).trans rfl; have hcz55_6 : w54.cell? ⟨gb237, 6, none⟩ = some (.int .i64 a0_6) := (blk_cell BK237.out 6).trans rfl; have hcz55_7 : w54.cell? ⟨gb237, 7, none⟩ = some (.int .i64 a0_7) := (blk_cell BK237.out 7).trans rfl; have hfz55_0 := blk_frozen BK237.out 0; have hfz55_1 := blk_frozen BK237.out 1; have hfz55_2 := blk_frozen BK237.out 2; have hfz55_3 := blk_frozen BK237.out 3; have hfz55_4 := blk_frozen BK237.out 4; have hfz55_5 := blk_frozen BK237.out 5; have hfz55_6 := blk_frozen BK237.out 6; have hfz55_7 := blk_frozen BK237.out 7))
      go_ret
      exact ⟨by first | (with_reducible rfl) | (simp only [isEmpty_bne, Bool.not_not] <;> with_reducible rfl) | (simp [errW_none, errW_some] <;> with_reducible rfl) | (simp only [isEmpty_bne, Bool.not_not] <;> rfl) | rfl | (simp [errW_none, errW_some] <;> rfl) | (simp [*, errW_none, errW_some] <;> rfl), by repeat (first | (with_reducible first | exact HB.out | apply below_alloc | apply pw_below_drewN | apply below_drew1 | refine below_set ?_ GE237.out) | exact HB.out)⟩
  · rw [if_neg c2] at H
    have c2b0 : decide (0 ≤ a0_0) = false := decide_eq_false c2
    clear c2
    obtain rfl := Option.some.inj H
    go_enter Tryd.func36, Tryd.ntmps36
    go_wp2_with (first | ((with_reducible refine gate_dst (N := 1) rfl ?_); refine box_event ?hg (N := 1) ?hd (cs := #[.int .i64 a0_0, .int .i64 a0_1, .int .i64 a0_2, .string a0_3, .int .i64 a0_4, .int .i64 a0_5, .int .i64 a0_6, .int .i64 a0_7]) (t := 33) ?hr ?_; (case hd => rfl); (case hg => rfl); (case hr => first | (go_simp; done) | (go_simp; rfl)); intro gb237 hg w56 hbox hb; have n0_ := Aside0.mk (below_step (by repeat (first | (with_reducible first | exact HB.out | apply below_alloc | apply pw_below_drewN | apply below_drew1) | exact HB.out)) hb); have n1_ := Aside0.mk (hbox); have n2_ := Aside0.mk ((by rw [hg]; exact (below_size (by repeat (first | (with_reducible first | exact HB.out | apply below_alloc | apply pw_below_drewN | apply below_drew1) | exact HB.out))) : w.heap.size ≤ gb237)); have n3_ := Aside0.mk ((by rw [hg]; exact (below_size (by repeat (first | (with_reducible first | exact HB.out | apply below_alloc | apply pw_below_drewN | apply below_drew1) | exact HB.out))) : w.heap.size ≤ gb237)); clear HB; have HB := n0_; have BK237 := n1_; have GW237 := n2_; have GE237 := n3_; clear n0_ n1_ n2_ n3_; clear hb hbox hg; have hcz57_0 : w56.cell? ⟨gb237, 0, none⟩ = some (.int .i64 a0_0) := (blk_cell BK237.out 0).trans rfl; have hcz57_1 : w56.cell? ⟨gb237, 1, none⟩ = some (.int .i64 a0_1) := (blk_cell BK237.out 1).trans rfl; have hcz57_2 : w56.cell? ⟨gb237, 2, none⟩ = some (.int .i64 a0_2) := (blk_cell BK237.out 2).trans rfl; have hcz57_3 : w56.cell? ⟨gb237, 3, none⟩ = some (.string a0_3) := (blk_cell BK237.out 3).trans rfl; have hcz57_4 : w56.cell? ⟨gb237, 4, none⟩ = some (.int .i64 a0_4) := (blk_cell BK237.out 4).trans rfl; have hcz57_5 : w56.cell? ⟨gb237, 5, none⟩ = some (.int .i64 a0_5) := (blk_cell BK237.out 5).trans rfl; have hcz57_6 : w56.cell? ⟨gb237, 6, none⟩ = some (.int .i64 a0_6) := (blk_cell BK237.out 6).trans rfl; have hcz57_7 : w56.cell? ⟨gb237, 7, none⟩ = some (.int .i64 a0_7) := (blk_cell BK237.out 7).trans rfl; have hfz57_0 := blk_frozen BK237.out 0; have hfz57_1 := blk_frozen BK237.out 1; have hfz57_2 := blk_frozen BK237.out 2; have hfz57_3 := blk_frozen BK237.out 3; have hfz57_4 := blk_frozen BK237.out 4; have hfz57_5 := blk_frozen BK237.out 5; have hfz57_6 := blk_frozen BK237.out 6; have hfz57_7 := blk_frozen BK237.out 7))
    go_ret
    exact ⟨by first | (with_reducible rfl) | (simp only [isEmpty_bne, Bool.not_not] <;> with_reducible rfl) | (simp [errW_none, errW_some] <;> with_reducible rfl) | (simp only [isEmpty_bne, Bool.not_not] <;> rfl) | rfl | (simp [errW_none, errW_some] <;> rfl) | (simp [*, errW_none, errW_some] <;> rfl), by repeat (first | (with_reducible first | exact HB.out | apply below_alloc | apply pw_below_drewN | apply below_drew1 | refine below_set ?_ GE237.out) | exact HB.out)⟩

/-! ### factotumref01_size: function 43 -/
def factotumref01_size.f (a0 : Int) : Option (Int) := some (mn (mx a0 1) 8)
set_option maxHeartbeats 8000000 in
set_option maxRecDepth 100000 in
theorem factotumref01_size.calls (a0 : Int) (r : Int) (w : World) (h : factotumref01_size.f a0 = some r) :
    Calls Tryd.prog 43 #[.int .i64 a0] w fun e w' => e = .returned (.int .i64 r) ∧ Below w.heap.size w w' := by
  have HB := Aside0.mk (Below.refl w.heap.size w)
  have H : (some (mn (mx a0 1) 8)) = some r := h
  clear h
  obtain ⟨ji2, hji2⟩ : ∃ j_ : Int, (mx a0 1) = j_ := ⟨_, rfl⟩
  replace H : (some (mn (ji2) 8)) = some r := by first | (rw [hji2] at H; exact H) | (simp only [hji2] at H ⊢; exact H)
  (try (have hji2l : 1 ≤ ji2 := by (rw [← hji2]; unfold mx; (repeat' split) <;> omega)))
  (try (have hji2m : 0 ≤ ji2 := by omega))
  have hji2_ : (if a0 < 1 then 1 else a0) = ji2 := hji2
  obtain ⟨ji3, hji3⟩ : ∃ j_ : Int, (mn (ji2) 8) = j_ := ⟨_, rfl⟩
  replace H : (some ji3) = some r := by first | (rw [hji3] at H; exact H) | (simp only [hji3] at H ⊢; exact H)
  have hji3_ : (if 8 < (ji2) then 8 else (ji2)) = ji3 := hji3
  obtain rfl := Option.some.inj H
  go_enter Tryd.func43, Tryd.ntmps43
  go_wp2
  go_ret
  exact ⟨by first | (with_reducible rfl) | (simp only [isEmpty_bne, Bool.not_not] <;> with_reducible rfl) | (simp [errW_none, errW_some] <;> with_reducible rfl) | (simp only [isEmpty_bne, Bool.not_not] <;> rfl) | rfl | (simp [errW_none, errW_some] <;> rfl) | (simp only [← hji2, ← hji3]; first | rfl | (simp [errW_none, errW_some] <;> rfl)) | (simp [*, errW_none, errW_some] <;> rfl), by repeat (first | (with_reducible first | exact HB.out | apply below_alloc | apply pw_below_drewN | apply below_drew1) | exact HB.out)⟩

/-! ### factotumref01_Num: function 27 -/
def factotumref01_Num.l0 : Nat → Int → List Int → Int → Option (ByteArray)
  | 0, _, _, _ => none
  | k + 1, x0, x5, x6 => if x6 ≥ 0 then (if 0 ≤ x6 then (if x6 < (x5.length : Int) then (factotumref01_Num.l0 k (IntKind.u64.wrap (Int.tdiv x0 256)) (x5.set (x6 : Int).toNat ((Int.tmod x0 256) % 256)) (wrap64 (x6 - 1))) else (none)) else (none)) else (some (strOfNums x5))
def factotumref01_Num.f (k : Nat) (a0 : Int) (a1 : Int) : Option (ByteArray) := (factotumref01_size.f a1).bind fun t245 => (if 0 ≤ t245 then (if (t245 : Int).toNat ≤ 281474976710656 then (factotumref01_Num.l0 k a0 (List.replicate (t245 : Int).toNat 0) (wrap64 (t245 - 1))) else (none)) else (none))
theorem factotumref01_Num.mono_l : ∀ k, (∀ y0 y1 y2, LeO (factotumref01_Num.l0 k y0 y1 y2) (factotumref01_Num.l0 (k + 1) y0 y1 y2))
  | 0 => fun _ _ _ r h => by simp [factotumref01_Num.l0] at h
  | k + 1 => by
    have ih0 := factotumref01_Num.mono_l k
    · intro y0 y1 y2
      unfold factotumref01_Num.l0
      repeat' first
      | (with_reducible exact ih0 _ _ _)
      | (with_reducible exact LeO.refl _)
      | (with_reducible exact LeO.none _)
      | (with_reducible refine LeO.ite ?_ ?_)
      | (with_reducible refine LeO.bind ?_ (fun _ => ?_))
      | exact ih0 _ _ _
      | exact LeO.none _
      | refine LeO.ite ?_ ?_
      | refine LeO.bind ?_ (fun _ => ?_)
theorem factotumref01_Num.mono : ∀ a0 a1 k, LeO (factotumref01_Num.f k a0 a1) (factotumref01_Num.f (k + 1) a0 a1) := by
  intro a0 a1 k
  have ih0 := factotumref01_Num.mono_l k
  unfold factotumref01_Num.f
  repeat' first
      | (with_reducible exact ih0 _ _ _)
      | (with_reducible exact LeO.refl _)
      | (with_reducible exact LeO.none _)
      | (with_reducible refine LeO.ite ?_ ?_)
      | (with_reducible refine LeO.bind ?_ (fun _ => ?_))
      | exact ih0 _ _ _
      | exact LeO.none _
      | refine LeO.ite ?_ ?_
      | refine LeO.bind ?_ (fun _ => ?_)
set_option maxHeartbeats 8000000 in
set_option maxRecDepth 100000 in
theorem factotumref01_Num.calls (k : Nat) (a0 : Int) (a1 : Int) (r : ByteArray) (w : World) (h : factotumref01_Num.f k a0 a1 = some r) :
    Calls Tryd.prog 27 #[.int .u64 a0, .int .i64 a1] w fun e w' => e = .returned (.string r) ∧ Below w.heap.size w w' := by
  have HB := Aside0.mk (Below.refl w.heap.size w)
  have H : ((factotumref01_size.f a1).bind fun t245 => (if 0 ≤ t245 then (if (t245 : Int).toNat ≤ 281474976710656 then (factotumref01_Num.l0 k a0 (List.replicate (t245 : Int).toNat 0) (wrap64 (t245 - 1))) else (none)) else (none))) = some r := h
  clear h
  replace H := Option.bind_eq_some_iff.mp H
  obtain ⟨t245, A30, H⟩ := H
  replace H : (if 0 ≤ t245 then (if (t245 : Int).toNat ≤ 281474976710656 then (factotumref01_Num.l0 k a0 (List.replicate (t245 : Int).toNat 0) (wrap64 (t245 - 1))) else (none)) else (none)) = some r := H
  have A3 := Aside0.mk A30
  clear A30
  by_cases c4 : 0 ≤ t245
  · rw [if_pos c4] at H
    have c4b0 := eq_true c4
    have c4b1 : decide (0 ≤ t245) = true := decide_eq_true c4
    clear c4
    by_cases c5 : (t245 : Int).toNat ≤ 281474976710656
    · rw [if_pos c5] at H
      have c5b0 := eq_true c5
      have c5b1 : decide ((t245 : Int).toNat ≤ 281474976710656) = true := decide_eq_true c5
      clear c5
      obtain ⟨y246, hy246⟩ : ∃ y_ : List Int, y_ = (List.replicate (t245 : Int).toNat 0) := ⟨_, rfl⟩
      replace H : (factotumref01_Num.l0 k a0 y246 (wrap64 (t245 - 1))) = some r := by first | (rw [hy246]; with_reducible exact H) | (have H2_ := (Option.bind_some _ _).symm.trans H; rw [hy246]; with_reducible exact H2_) | (have H2_ := (Option.bind_some _ _).symm.trans H; with_reducible exact H2_) | with_reducible exact H | (rw [hy246]; exact H) | exact H
      have Ny246 := Aside0.mk hy246
      clear hy246
      have H' := Aside0.mk H
      clear H
      go_enter Tryd.func27, Tryd.ntmps27
      go_wp2_with (first | ((with_reducible refine gate_callee (f := 43) rfl ?_); refine goesL_ (some 8) rfl rfl Tryd.func43 (by kernel_rfl) rfl #[.int .i64 a1] rfl (by (try simp only [List.map_toArray, List.map_cons, List.map_nil]); first | done | rfl | (simp only [List.length_drop, List.length_take]; rfl) | (simp (disch := omega) only [u64_in]; rfl)) ?_; (with_reducible refine (factotumref01_size.calls a1 t245 _ A3.out).mono ?_); rintro e w6 ⟨rfl, hb⟩; refine ⟨_, rfl, ?_⟩; have n0_ := Aside0.mk (below_step (by repeat (first | (with_reducible first | exact HB.out | apply below_alloc | apply pw_below_drewN | apply below_drew1) | exact HB.out)) hb); clear HB; have HB := n0_; clear n0_; (try clear hb); (try clear hb2); (try clear hk); (try clear hi)) | ((with_reducible refine gate_dst (N := 10) rfl ?_); refine Kd.R_make (Kd.int .u8) _ 5 rfl (N := 10) rfl 60 _ _ rfl t245 rfl rfl Tryd.underlying60 (.int .u8 0) 1 info5 rfl (by decide) (by omega) 0 (ok := fun _ => True) (okp := fun _ => True) rfl (fun _ hk => hk) trivial (of_decide_eq_true (by first | (with_reducible assumption) | assumption)) (Nat.le_trans (Nat.mul_le_mul_right _ (of_decide_eq_true (by first | (with_reducible assumption) | assumption) : t245.toNat ≤ 281474976710656)) (by omega)) (Below.refl _ _) (Nat.le_refl _) ?_; intro v247 w7 ho8 hb hg_ hnew_; clear hg_ hnew_; (first | rw [← Ny246.out] at ho8 | (simp only [Int.reduceToNat] at ho8; rw [← Ny246.out] at ho8)); have n0_ := Aside0.mk (Kd.R_lower ho8 (below_size (by repeat (first | (with_reducible first | exact HB.out | apply below_alloc | apply pw_below_drewN | apply below_drew1) | exact HB.out)))); have n1_ := Aside0.mk (below_step (by repeat (first | (with_reducible first | exact HB.out | apply below_alloc | apply pw_below_drewN | apply below_drew1) | exact HB.out)) hb); clear HB; have HO248 := n0_; have HB := n1_; clear n0_ n1_; clear hb ho8))
      go_loopg [0, 6] k (fun kq v0 v6 w' => ∃ (x0_1 : Int) (x5_1 : List Int) (x6_1 : Int), v0 = .int .u64 x0_1 ∧ v6 = .int .i64 x6_1 ∧ Aside0 (factotumref01_Num.l0 kq x0_1 x5_1 x6_1 = some r) ∧ Aside0 (kq ≤ k) ∧ Aside0 (Kd.R (Kd.int .u8) 5 w' w.heap.size (fun _ => True) v247 x5_1) ∧ Aside0 (Below w.heap.size w w'))
      case atStart => exact ⟨(a0), (y246), (wrap64 (t245 - 1)), (by first | (with_reducible rfl) | (simp; done) | (simp [*]; done) | rfl), (by first | (with_reducible rfl) | (simp; done) | (simp [*]; done) | rfl), H', ⟨Nat.le_refl _⟩, ⟨by (with_reducible repeat (first | apply Kd.R_alloc | apply Kd.R_drewN | apply Kd.R_drew)); exact HO248.out⟩, ⟨by repeat (first | (with_reducible first | exact HB.out | apply below_alloc | apply pw_below_drewN | apply below_drew1) | exact HB.out)⟩⟩
      case round =>
        clear H'
        try clear c2
        try clear p2
        try clear c4
        try clear c4b0
        try clear c4b1
        try clear c5
        try clear c5b0
        try clear c5b1
        try clear p6
        obtain ⟨x0_1, x5_1, x6_1, rfl, rfl, HA, HK1, HO_5, HB⟩ := hrel
        cases gk with
        | zero => exact absurd HA.out (by simp [factotumref01_Num.l0])
        | succ k1 =>
          have H := HA.out
          clear HA
          simp only [factotumref01_Num.l0] at H
          by_cases c9 : x6_1 ≥ 0
          · rw [if_pos c9] at H
            have c9b0 : decide (0 ≤ x6_1) = true := decide_eq_true c9
            clear c9
            by_cases c10 : 0 ≤ x6_1
            · rw [if_pos c10] at H
              have c10b0 : decide (0 ≤ x6_1) = true := decide_eq_true c10
              clear c10
              by_cases c11 : x6_1 < (x5_1.length : Int)
              · rw [if_pos c11] at H
                have c11b0 : decide (x6_1 < (x5_1.length : Int)) = true := decide_eq_true c11
                clear c11
                obtain ⟨y249, hy249⟩ : ∃ y_ : List Int, y_ = (x5_1.set (x6_1 : Int).toNat ((Int.tmod x0_1 256) % 256)) := ⟨_, rfl⟩
                replace H : (factotumref01_Num.l0 k1 (IntKind.u64.wrap (Int.tdiv x0_1 256)) y249 (wrap64 (x6_1 - 1))) = some r := by first | (rw [hy249]; with_reducible exact H) | (have H2_ := (Option.bind_some _ _).symm.trans H; rw [hy249]; with_reducible exact H2_) | (have H2_ := (Option.bind_some _ _).symm.trans H; with_reducible exact H2_) | with_reducible exact H | (rw [hy249]; exact H) | exact H
                have Ny249 := Aside0.mk hy249
                clear hy249
                have H' := Aside0.mk H
                clear H
                have p12 : 0 ≤ (x6_1 : Int) := of_decide_eq_true (by first | (with_reducible assumption) | assumption)
                have q12 : (x6_1 : Int) < ((x5_1.length : Int) : Int) := of_decide_eq_true (by first | (with_reducible assumption) | assumption)
                obtain ⟨go12, co12, eo12, gb12, gl12, cl12, HG12⟩ := Kd.R_form HO_5.out (by omega)
                (first | cases eo12 | (injection eo12 with ea_ en_ ec_; (first | subst ea_ | (injection ea_ with ea_; subst ea_)); subst ec_; clear en_))
                have GB12 := Aside0.mk gb12
                have GG12 := Aside0.mk HG12
                clear gb12 gl12 HG12
                obtain ⟨hx12_0, hf12_0⟩ := Kd.R_celln 0 HO_5.out (x6_1 : Int) p12 q12
                replace p12 := eq_true p12
                replace q12 := eq_true q12
                have HP13 := Kd.R_putg HO_5.out (x6_1 : Int) ((Int.tmod x0_1 256) % 256)
                go_wp2_with (first | ((with_reducible refine gate_store (t := 5) (p := 22) rfl ?_); refine store_event (t := 5) (p := 22) (v := ?vo_w14) (w1 := (wr.setCell ⟨go12, (x6_1 : Int).toNat, none⟩ (.int .u8 ((Int.tmod x0_1 256) % 256)))) ?hg ?ho ?hn ?hr ?_; (case ho => rfl); (case hg => rfl); (case hn => rfl); (case hr => first | (go_simp; done) | (go_simp; rfl)); intro w14 hw; have hg : wr.grownBy w14 (some go12) := (by rw [hw]; exact HP13.2); have hp_ : Kd.R (Kd.int .u8) 5 w14 w.heap.size (fun _ => True) (.slice (some ⟨go12, 0, none⟩) x5_1.length co12) y249 := (by rw [hw, Ny249.out]; exact HP13.1); clear HP13; have n0_ := Aside0.mk (hp_); have n1_ := Aside0.mk ((by rw [hw]; exact below_set (HB.out) GB12.out : Below w.heap.size w w14)); clear HO_5; clear HB; have HO_5 := n0_; have HB := n1_; clear n0_ n1_; clear hg hw hp_))
                go_roundg k1
                case measure => have := HK1.out; omega
                case rel => exact ⟨(IntKind.u64.wrap (Int.tdiv x0_1 256)), (y249), (wrap64 (x6_1 - 1)), (by first | (with_reducible rfl) | (simp; done) | (simp [*]; done) | rfl), (by first | (with_reducible rfl) | (simp; done) | (simp [*]; done) | rfl), H', ⟨by have := HK1.out; omega⟩, ⟨by (with_reducible repeat (first | apply Kd.R_alloc | apply Kd.R_drewN | apply Kd.R_drew)); exact HO_5.out⟩, ⟨by repeat (first | (with_reducible first | exact HB.out | apply below_alloc | apply pw_below_drewN | apply below_drew1) | exact HB.out)⟩⟩
              · rw [if_neg c11] at H
                exact absurd H (by simp)
            · rw [if_neg c10] at H
              exact absurd H (by simp)
          · rw [if_neg c9] at H
            have c9b0 : decide (0 ≤ x6_1) = false := decide_eq_false c9
            clear c9
            obtain rfl := Option.some.inj H
            have hcv15 := own_string (P := Tryd.prog) Tryd.underlying60 Tryd.underlying5 Tryd.underlying9 (Kd.own_of_R HO_5.out)
            go_wp2
            go_ret
            exact ⟨by first | (with_reducible rfl) | (simp only [isEmpty_bne, Bool.not_not] <;> with_reducible rfl) | (simp [errW_none, errW_some] <;> with_reducible rfl) | (simp only [isEmpty_bne, Bool.not_not] <;> rfl) | rfl | (simp [errW_none, errW_some] <;> rfl) | (simp [*, errW_none, errW_some] <;> rfl), by repeat (first | (with_reducible first | exact HB.out | apply below_alloc | apply pw_below_drewN | apply below_drew1) | exact HB.out)⟩
    · rw [if_neg c5] at H
      exact absurd H (by simp)
  · rw [if_neg c4] at H
    exact absurd H (by simp)

end Go.Proofs.YtjkjkebblkmpkaaDoor.PAll
