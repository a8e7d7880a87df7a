/- Printed walks of the functions that the laws reach: each function, what it computes, and that it does. No conditions. -/
import Derived.Test.YtbdmfpgiolaooaaDoorPAllx0
import Derived.Test.YtbdmfpgiolaooaaDoorPAllx9
import Derived.Test.YtbdmfpgiolaooaaDoorPAllx11
namespace Go.Proofs.YtbdmfpgiolaooaaDoor.PAll
open Go.RowKit Go.Proofs.YtbdmfpgiolaooaaDoor.XW Go.Proofs.YtbdmfpgiolaooaaDoor.XLib Go.Proofs.YtbdmfpgiolaooaaDoorW.PrintWords Go.Proofs.YtbdmfpgiolaooaaDoorW.PrintLast Go.Proofs.YtbdmfpgiolaooaaDoorW.PrintMore
attribute [local go_sem] max2_int min2_int max_two min_two max_three min_three max_four min_four   -- for this text's walks alone
set_option linter.unusedVariables false
set_option linter.unusedSimpArgs false

/-! ### code_Write: function 30 -/
def code_Write.l0 : Nat → List Int → List (S32) → Int → Int → Option (ByteArray × Int)
  | 0, _, _, _, _ => none
  | k + 1, x4, x10, x11, x12 => if x12 < x11 then (if 0 ≤ x12 then (if x12 < (x10.length : Int) then ((code_right.f k ((rd_T32 x10 x12).f0) ((rd_T32 x10 x12).f1) ((rd_T32 x10 x12).f2) ((rd_T32 x10 x12).f3) ((rd_T32 x10 x12).f4.f0) ((rd_T32 x10 x12).f4.f1) ((rd_T32 x10 x12).f4.f2)).bind fun t163 => (if t163 = true then ((code_put.f k x4 ((rd_T32 x10 x12).f0) ((rd_T32 x10 x12).f1) ((rd_T32 x10 x12).f2) ((rd_T32 x10 x12).f3) ((rd_T32 x10 x12).f4.f0) ((rd_T32 x10 x12).f4.f1) ((rd_T32 x10 x12).f4.f2)).bind fun t164 => (code_Write.l0 k t164 x10 x11 (wrap64 (x12 + 1)))) else (some ((⟨#[]⟩ : ByteArray), 4)))) else (none)) else (none)) else (some (strOfNums x4, 0))
def code_Write.f (k : Nat) (l0 : List (S32)) : Option (ByteArray × Int) := if (l0.length : Int) > 64 then (some ((⟨#[]⟩ : ByteArray), 3)) else (code_Write.l0 k ([] : List Int) l0 (l0.length : Int) 0)
theorem code_Write.mono_l : ∀ k, (∀ y0 y1 y2 y3, LeO (code_Write.l0 k y0 y1 y2 y3) (code_Write.l0 (k + 1) y0 y1 y2 y3))
  | 0 => fun _ _ _ _ r h => by simp [code_Write.l0] at h
  | k + 1 => by
    have ih0 := code_Write.mono_l k
    · intro y0 y1 y2 y3
      unfold code_Write.l0
      repeat' first
      | (with_reducible exact ih0 _ _ _ _)
      | (with_reducible exact code_put.mono _ _ _ _ _ _ _ _ _)
      | (with_reducible exact code_right.mono _ _ _ _ _ _ _ _)
      | (with_reducible exact LeO.refl _)
      | (with_reducible exact LeO.none _)
      | (with_reducible refine LeO.ite ?_ ?_)
      | (with_reducible refine LeO.bind ?_ (fun _ => ?_))
      | exact ih0 _ _ _ _
      | exact code_put.mono _ _ _ _ _ _ _ _ _
      | exact code_right.mono _ _ _ _ _ _ _ _
      | exact LeO.none _
      | refine LeO.ite ?_ ?_
      | refine LeO.bind ?_ (fun _ => ?_)
theorem code_Write.mono : ∀ a0 k, LeO (code_Write.f k a0) (code_Write.f (k + 1) a0) := by
  intro a0 k
  have ih0 := code_Write.mono_l k
  unfold code_Write.f
  repeat' first
      | (with_reducible exact ih0 _ _ _ _)
      | (with_reducible exact code_put.mono _ _ _ _ _ _ _ _ _)
      | (with_reducible exact code_right.mono _ _ _ _ _ _ _ _)
      | (with_reducible exact LeO.refl _)
      | (with_reducible exact LeO.none _)
      | (with_reducible refine LeO.ite ?_ ?_)
      | (with_reducible refine LeO.bind ?_ (fun _ => ?_))
      | exact ih0 _ _ _ _
      | exact code_put.mono _ _ _ _ _ _ _ _ _
      | exact code_right.mono _ _ _ _ _ _ _ _
      | exact LeO.none _
      | refine LeO.ite ?_ ?_
      | refine LeO.bind ?_ (fun _ => ?_)
set_option maxHeartbeats 8000000 in
set_option maxRecDepth 100000 in
theorem code_Write.calls (k : Nat) (A0 : Option Addr) (c0 : Nat) (l0 : List (S32)) (r1 : ByteArray) (r2 : Int) (w : World) (hr0 : Kd.C k32 w A0 l0.length l0) (hc0 : l0.length ≤ c0) (h : code_Write.f k l0 = some (r1, r2)) :
    Calls Tryd.prog 30 #[.slice A0 l0.length c0] w fun e w' => e = .returned (.tuple #[.string r1, .int .i64 r2]) ∧ Below w.heap.size w w' := by
  have hu32 := Tryd.underlying32
  have HR0 := Aside0.mk hr0
  have HC0 := Aside0.mk hc0
  clear hr0 hc0
  have HB := Aside0.mk (Below.refl w.heap.size w)
  have H : (if (l0.length : Int) > 64 then (some ((⟨#[]⟩ : ByteArray), 3)) else (code_Write.l0 k ([] : List Int) l0 (l0.length : Int) 0)) = some (r1, r2) := h
  clear h
  by_cases c2 : (l0.length : Int) > 64
  · rw [if_pos c2] at H
    have c2b0 : decide (64 < (l0.length : Int)) = true := decide_eq_true c2
    have c2b1 : decide (64 < l0.length) = true := decide_eq_true (by omega)
    clear c2
    simp only [Option.some.injEq, Prod.mk.injEq] at H
    obtain ⟨rfl, rfl⟩ := H
    go_enter Tryd.func30, Tryd.ntmps30
    go_wp2
    go_ret2
    exact ⟨by first | (with_reducible rfl) | (simp only [isEmpty_bne, Bool.not_not] <;> with_reducible rfl) | (simp [errW_none, errW_some] <;> with_reducible rfl) | (simp only [isEmpty_bne, Bool.not_not] <;> rfl) | rfl | (simp [errW_none, errW_some] <;> rfl) | (simp [*, errW_none, errW_some] <;> rfl), by repeat (first | (with_reducible first | exact HB.out | apply below_alloc | apply pw_below_drewN | apply below_drew1) | exact HB.out)⟩
  · rw [if_neg c2] at H
    have c2b0 : decide (64 < (l0.length : Int)) = false := decide_eq_false c2
    have c2b1 : decide (64 < l0.length) = false := decide_eq_false (by omega)
    clear c2
    have H' := Aside0.mk H
    clear H
    go_enter Tryd.func30, Tryd.ntmps30
    go_wp2
    go_loopg [4, 12] k (fun kq v4 v12 w' => ∃ (x4_1 : List Int) (x12_1 : Int), v12 = .int .i64 x12_1 ∧ Aside0 (code_Write.l0 kq x4_1 l0 (l0.length : Int) x12_1 = some (r1, r2)) ∧ Aside0 (kq ≤ k) ∧ Aside0 (Kd.R (Kd.int .u8) 5 w' w.heap.size (fun _ => True) v4 x4_1) ∧ Aside0 (Below w.heap.size w w'))
    case atStart => exact ⟨(([] : List Int)), (0), (by first | (with_reducible rfl) | (simp; done) | (simp [*]; done) | rfl | (simp only [not_isEmpty_bne])), H', ⟨Nat.le_refl _⟩, ⟨by first | exact Kd.R_nil _ _ _ _ _ | exact Kd.N_nil _ _ _ _ _ | exact Kd.V_nil _ _ _ _ _ | exact Kd.Q_nil _ _ _ _ _ | exact Kd.S_nil _ _ _ _ _⟩, ⟨by repeat (first | (with_reducible first | exact HB.out | apply below_alloc | apply pw_below_drewN | apply below_drew1) | exact HB.out)⟩⟩
    case round =>
      clear H'
      try clear c2
      try clear c2b0
      try clear c2b1
      try clear p2
      obtain ⟨x4_1, x12_1, rfl, HA, HK1, HO_4, HB⟩ := hrel
      cases gk with
      | zero => exact absurd HA.out (by simp [code_Write.l0])
      | succ k1 =>
        have H := HA.out
        clear HA
        simp only [code_Write.l0] at H
        by_cases c3 : x12_1 < (l0.length : Int)
        · rw [if_pos c3] at H
          have c3b0 : decide (x12_1 < (l0.length : Int)) = true := decide_eq_true c3
          clear c3
          by_cases c4 : 0 ≤ x12_1
          · rw [if_pos c4] at H
            have c4b0 : decide (0 ≤ x12_1) = true := decide_eq_true c4
            clear c4
            by_cases c5 : x12_1 < (l0.length : Int)
            · rw [if_pos c5] at H
              have c5b0 : decide (x12_1 < (l0.length : Int)) = true := decide_eq_true c5
              clear c5
              replace H := Option.bind_eq_some_iff.mp H
              obtain ⟨t163, A60, H⟩ := H
              replace H : (if t163 = true then ((code_put.f k1 x4_1 ((rd_T32 l0 x12_1).f0) ((rd_T32 l0 x12_1).f1) ((rd_T32 l0 x12_1).f2) ((rd_T32 l0 x12_1).f3) ((rd_T32 l0 x12_1).f4.f0) ((rd_T32 l0 x12_1).f4.f1) ((rd_T32 l0 x12_1).f4.f2)).bind fun t164 => (code_Write.l0 k1 t164 l0 (l0.length : Int) (wrap64 (x12_1 + 1)))) else (some ((⟨#[]⟩ : ByteArray), 4))) = some (r1, r2) := H
              have A6 := Aside0.mk A60
              clear A60
              by_cases c7 : t163 = true
              · subst c7
                have H1 : ((code_put.f k1 x4_1 ((rd_T32 l0 x12_1).f0) ((rd_T32 l0 x12_1).f1) ((rd_T32 l0 x12_1).f2) ((rd_T32 l0 x12_1).f3) ((rd_T32 l0 x12_1).f4.f0) ((rd_T32 l0 x12_1).f4.f1) ((rd_T32 l0 x12_1).f4.f2)).bind fun t164 => (code_Write.l0 k1 t164 l0 (l0.length : Int) (wrap64 (x12_1 + 1)))) = some (r1, r2) := by rw [if_pos rfl] at H; exact H
                clear H
                have H := H1
                clear H1
                replace H := Option.bind_eq_some_iff.mp H
                obtain ⟨t164, A80, H⟩ := H
                replace H : (code_Write.l0 k1 t164 l0 (l0.length : Int) (wrap64 (x12_1 + 1))) = some (r1, r2) := H
                have A8 := Aside0.mk A80
                clear A80
                have H' := Aside0.mk H
                clear H
                have p161 : 0 ≤ (x12_1 : Int) := of_decide_eq_true (by first | (with_reducible assumption) | assumption)
                have q161 : x12_1 < (l0.length : Int) := of_decide_eq_true (by first | (with_reducible assumption) | assumption)
                obtain ⟨ad161, e161, hx161_0, hx161_1, hx161_2, hx161_3, hx161_4, hx161_5, hx161_6⟩ := at_T32 HR0.out x12_1 p161 q161
                cases e161
                replace hx161_0 := (HB.out.cell (World.block_lt_of_cell? w _ hx161_0)).trans hx161_0
                replace hx161_1 := (HB.out.cell (World.block_lt_of_cell? w _ hx161_1)).trans hx161_1
                replace hx161_2 := (HB.out.cell (World.block_lt_of_cell? w _ hx161_2)).trans hx161_2
                replace hx161_3 := (HB.out.cell (World.block_lt_of_cell? w _ hx161_3)).trans hx161_3
                replace hx161_4 := (HB.out.cell (World.block_lt_of_cell? w _ hx161_4)).trans hx161_4
                replace hx161_5 := (HB.out.cell (World.block_lt_of_cell? w _ hx161_5)).trans hx161_5
                replace hx161_6 := (HB.out.cell (World.block_lt_of_cell? w _ hx161_6)).trans hx161_6
                replace p161 := eq_true p161
                replace q161 := eq_true q161
                go_wp2_with (first | ((with_reducible refine gate_dst (N := 6) rfl ?_); refine box_event ?hg (N := 6) ?hd (cs := #[.int .i64 0, .int .i64 0, .int .i64 0, .int .i64 0, .int .i64 0, .int .i64 0, .string (⟨#[]⟩ : ByteArray)]) (t := 32) ?hr ?_; (case hd => rfl); (case hg => rfl); (case hr => first | (go_simp; done) | (go_simp; rfl)); intro gb162 hg w9 hbox hb; have n0_ := Aside0.mk (Kd.R_below (by (with_reducible repeat (first | apply Kd.R_alloc | apply Kd.R_drewN | apply Kd.R_drew)); exact HO_4.out) hb); have n1_ := Aside0.mk (below_step (by repeat (first | (with_reducible first | exact HB.out | apply below_alloc | apply pw_below_drewN | apply below_drew1) | exact HB.out)) hb); have n2_ := Aside0.mk (hbox); have n3_ := Aside0.mk ((by rw [hg]; exact (below_size (by repeat (first | (with_reducible first | exact HB.out | apply below_alloc | apply pw_below_drewN | apply below_drew1) | exact HB.out))) : w.heap.size ≤ gb162)); have n4_ := Aside0.mk ((by rw [hg]; exact (below_size (by repeat (first | (with_reducible first | exact HB.out | apply below_alloc | apply pw_below_drewN | apply below_drew1) | exact HB.out))) : w.heap.size ≤ gb162)); clear HO_4; clear HB; have HO_4 := n0_; have HB := n1_; have BK162 := n2_; have GW162 := n3_; have GE162 := n4_; clear n0_ n1_ n2_ n3_ n4_; clear hb hbox hg) | ((with_reducible refine gate_store (t := 32) (p := 6) rfl ?_); refine store_all 32 gb162 32 #[.int .i64 0, .int .i64 0, .int .i64 0, .int .i64 0, .int .i64 0, .int .i64 0, .string (⟨#[]⟩ : ByteArray)] #[.int .i64 ((rd_T32 l0 x12_1).f0), .int .i64 ((rd_T32 l0 x12_1).f1), .int .i64 ((rd_T32 l0 x12_1).f2), .int .i64 ((rd_T32 l0 x12_1).f3), .int .i64 ((rd_T32 l0 x12_1).f4.f0), .int .i64 ((rd_T32 l0 x12_1).f4.f1), .string ((rd_T32 l0 x12_1).f4.f2)] rfl rfl rfl (by first | rfl | (go_simp; done)) (by (with_reducible repeat (first | refine blk_drewN ?_ _ | refine blk_drew ?_ | refine blk_alloc ?_ _)); exact BK162.out) (by kernel_rfl) rfl (by kernel_rfl) ?_; intro w10 hx hg; have n0_ := Aside0.mk (Kd.R_mono (Kd.R_grown (Kd.R_types HO_4.out BK162.out (by decide)) hg (fun k_ hk_ he_ => (hk_.2) (Option.some.inj he_))) (fun _ h_ => h_.1)); have n1_ := Aside0.mk ((fun {W_ : World} (hB_ : Below w.heap.size w W_) (hg_ : W_.grownBy w10 (some gb162)) => hB_.grown hg_ hB_.size (fun k_ e_ => by cases e_; exact GE162.out)) (by repeat (first | (with_reducible first | exact HB.out | apply below_alloc | apply pw_below_drewN | apply below_drew1 | refine below_set ?_ GE162.out) | exact HB.out)) hg); have n2_ := Aside0.mk (hx); clear HO_4; clear HB; clear BK162; have HO_4 := n0_; have HB := n1_; have BK162 := n2_; clear n0_ n1_ n2_; clear hx hg; have hcz11_0 : w10.cell? ⟨gb162, 0, none⟩ = some (.int .i64 ((rd_T32 l0 x12_1).f0)) := (blk_cell BK162.out 0).trans rfl; have hcz11_1 : w10.cell? ⟨gb162, 1, none⟩ = some (.int .i64 ((rd_T32 l0 x12_1).f1)) := (blk_cell BK162.out 1).trans rfl; have hcz11_2 : w10.cell? ⟨gb162, 2, none⟩ = some (.int .i64 ((rd_T32 l0 x12_1).f2)) := (blk_cell BK162.out 2).trans rfl; have hcz11_3 : w10.cell? ⟨gb162, 3, none⟩ = some (.int .i64 ((rd_T32 l0 x12_1).f3)) := (blk_cell BK162.out 3).trans rfl; have hcz11_4 : w10.cell? ⟨gb162, 4, none⟩ = some (.int .i64 ((rd_T32 l0 x12_1).f4.f0)) := (blk_cell BK162.out 4).trans rfl; have hcz11_5 : w10.cell? ⟨gb162, 5, none⟩ = some (.int .i64 ((rd_T32 l0 x12_1).f4.f1)) := (blk_cell BK162.out 5).trans rfl; have hcz11_6 : w10.cell? ⟨gb162, 6, none⟩ = some (.string ((rd_T32 l0 x12_1).f4.f2)) := (blk_cell BK162.out 6).trans rfl; have hfz11_0 := blk_frozen BK162.out 0; have hfz11_1 := blk_frozen BK162.out 1; have hfz11_2 := blk_frozen BK162.out 2; have hfz11_3 := blk_frozen BK162.out 3; have hfz11_4 := blk_frozen BK162.out 4; have hfz11_5 := blk_frozen BK162.out 5; have hfz11_6 := blk_frozen BK162.out 6) | ((with_reducible refine gate_callee (f := 35) rfl ?_); refine goesL_ (some 17) rfl rfl Tryd.func35 (by kernel_rfl) rfl #[.agg #[.int .i64 ((rd_T32 l0 x12_1).f0), .int .i64 ((rd_T32 l0 x12_1).f1), .int .i64 ((rd_T32 l0 x12_1).f2), .int .i64 ((rd_T32 l0 x12_1).f3), .int .i64 ((rd_T32 l0 x12_1).f4.f0), .int .i64 ((rd_T32 l0 x12_1).f4.f1), .string ((rd_T32 l0 x12_1).f4.f2)]] rfl (by (try simp only [List.map_toArray, List.map_cons, List.map_nil]); first | done | rfl | (simp only [List.length_drop, List.length_take]; rfl) | (simp (disch := omega) only [u64_in]; rfl)) ?_; (with_reducible refine (code_right.calls k1 ((rd_T32 l0 x12_1).f0) ((rd_T32 l0 x12_1).f1) ((rd_T32 l0 x12_1).f2) ((rd_T32 l0 x12_1).f3) ((rd_T32 l0 x12_1).f4.f0) ((rd_T32 l0 x12_1).f4.f1) ((rd_T32 l0 x12_1).f4.f2) true _ A6.out).mono ?_); rintro e w12 ⟨rfl, hb⟩; refine ⟨_, rfl, ?_⟩; have n0_ := Aside0.mk (Kd.R_below (by (with_reducible repeat (first | apply Kd.R_alloc | apply Kd.R_drewN | apply Kd.R_drew)); exact HO_4.out) hb); have n1_ := Aside0.mk (blk_below (g := gb162) (o := .cells #[.int .i64 ((rd_T32 l0 x12_1).f0), .int .i64 ((rd_T32 l0 x12_1).f1), .int .i64 ((rd_T32 l0 x12_1).f2), .int .i64 ((rd_T32 l0 x12_1).f3), .int .i64 ((rd_T32 l0 x12_1).f4.f0), .int .i64 ((rd_T32 l0 x12_1).f4.f1), .string ((rd_T32 l0 x12_1).f4.f2)] 32 (0, 0)) (by (with_reducible repeat (first | refine blk_drewN ?_ _ | refine blk_drew ?_ | refine blk_alloc ?_ _)); exact BK162.out) hb); have n2_ := Aside0.mk (below_step (by repeat (first | (with_reducible first | exact HB.out | apply below_alloc | apply pw_below_drewN | apply below_drew1 | refine below_set ?_ GE162.out) | exact HB.out)) hb); clear HO_4; clear BK162; clear HB; have HO_4 := n0_; have BK162 := n1_; have HB := n2_; clear n0_ n1_ n2_; (try clear hb); (try clear hb2); (try clear hk); (try clear hi); have hcz13_0 : w12.cell? ⟨gb162, 0, none⟩ = some (.int .i64 ((rd_T32 l0 x12_1).f0)) := (blk_cell BK162.out 0).trans rfl; have hcz13_1 : w12.cell? ⟨gb162, 1, none⟩ = some (.int .i64 ((rd_T32 l0 x12_1).f1)) := (blk_cell BK162.out 1).trans rfl; have hcz13_2 : w12.cell? ⟨gb162, 2, none⟩ = some (.int .i64 ((rd_T32 l0 x12_1).f2)) := (blk_cell BK162.out 2).trans rfl; have hcz13_3 : w12.cell? ⟨gb162, 3, none⟩ = some (.int .i64 ((rd_T32 l0 x12_1).f3)) := (blk_cell BK162.out 3).trans rfl; have hcz13_4 : w12.cell? ⟨gb162, 4, none⟩ = some (.int .i64 ((rd_T32 l0 x12_1).f4.f0)) := (blk_cell BK162.out 4).trans rfl; have hcz13_5 : w12.cell? ⟨gb162, 5, none⟩ = some (.int .i64 ((rd_T32 l0 x12_1).f4.f1)) := (blk_cell BK162.out 5).trans rfl; have hcz13_6 : w12.cell? ⟨gb162, 6, none⟩ = some (.string ((rd_T32 l0 x12_1).f4.f2)) := (blk_cell BK162.out 6).trans rfl; have hfz13_0 := blk_frozen BK162.out 0; have hfz13_1 := blk_frozen BK162.out 1; have hfz13_2 := blk_frozen BK162.out 2; have hfz13_3 := blk_frozen BK162.out 3; have hfz13_4 := blk_frozen BK162.out 4; have hfz13_5 := blk_frozen BK162.out 5; have hfz13_6 := blk_frozen BK162.out 6; obtain ⟨Ao14, co14, eo14⟩ := Kd.R_slice HO_4.out; subst eo14) | ((with_reducible refine gate_callee (f := 36) rfl ?_); refine goesL_ (some 21) rfl rfl Tryd.func36 (by kernel_rfl) rfl #[.slice Ao14 x4_1.length co14, .agg #[.int .i64 ((rd_T32 l0 x12_1).f0), .int .i64 ((rd_T32 l0 x12_1).f1), .int .i64 ((rd_T32 l0 x12_1).f2), .int .i64 ((rd_T32 l0 x12_1).f3), .int .i64 ((rd_T32 l0 x12_1).f4.f0), .int .i64 ((rd_T32 l0 x12_1).f4.f1), .string ((rd_T32 l0 x12_1).f4.f2)]] rfl (by (try simp only [List.map_toArray, List.map_cons, List.map_nil]); first | done | rfl | (simp only [List.length_drop, List.length_take]; rfl) | (simp (disch := omega) only [u64_in]; rfl)) ?_; (with_reducible refine (code_put.calls k1 (fun k_ => some k_ = (.slice Ao14 x4_1.length co14 : Value).ownBlock) (.slice Ao14 x4_1.length co14) x4_1 ((rd_T32 l0 x12_1).f0) ((rd_T32 l0 x12_1).f1) ((rd_T32 l0 x12_1).f2) ((rd_T32 l0 x12_1).f3) ((rd_T32 l0 x12_1).f4.f0) ((rd_T32 l0 x12_1).f4.f1) ((rd_T32 l0 x12_1).f4.f2) t164 w _ ?side1 ?side2 A8.out).mono ?_); (case side1 => repeat (first | (with_reducible first | exact HB.out | apply below_alloc | apply pw_below_drewN | apply below_drew1 | refine below_set ?_ GE162.out) | exact HB.out)); (case side2 => exact Kd.R_tight rfl HO_4.out); rintro e w15 ⟨v165, rfl, ho0, hb, hkp⟩; refine ⟨_, rfl, ?_⟩; have n0_ := Aside0.mk (blk_kept (by (with_reducible repeat (first | refine blk_drewN ?_ _ | refine blk_drew ?_ | refine blk_alloc ?_ _)); exact BK162.out) hkp (fun hs_ => (fun e_ => (Kd.R_ne HO_4.out BK162.out (by decide)) e_) hs_)); have n1_ := Aside0.mk (Kd.R_mono (ok' := fun k_ => True) ho0 (fun k_ hk_ => trivial)); have n2_ := Aside0.mk (hb); clear BK162; clear HB; clear HO_4; have BK162 := n0_; have HO166 := n1_; have HB := n2_; clear n0_ n1_ n2_; (try clear hb); (try clear hkp); (try clear ho0)))
                go_roundg k1
                case measure => have := HK1.out; omega
                case rel => exact ⟨(t164), (wrap64 (x12_1 + 1)), (by first | (with_reducible rfl) | (simp; done) | (simp [*]; done) | rfl | (simp only [not_isEmpty_bne])), H', ⟨by have := HK1.out; omega⟩, ⟨by (with_reducible repeat (first | apply Kd.R_alloc | apply Kd.R_drewN | apply Kd.R_drew)); exact HO166.out⟩, ⟨by repeat (first | (with_reducible first | exact HB.out | apply below_alloc | apply pw_below_drewN | apply below_drew1 | refine below_set ?_ GE162.out) | exact HB.out)⟩⟩
              · replace c7 := Bool.eq_false_iff.mpr c7
                subst c7
                have H1 : (some ((⟨#[]⟩ : ByteArray), 4)) = some (r1, r2) := by rw [if_neg (show ¬ (false = true) by decide)] at H; exact H
                clear H
                have H := H1
                clear H1
                simp only [Option.some.injEq, Prod.mk.injEq] at H
                obtain ⟨rfl, rfl⟩ := H
                have p161 : 0 ≤ (x12_1 : Int) := of_decide_eq_true (by first | (with_reducible assumption) | assumption)
                have q161 : x12_1 < (l0.length : Int) := of_decide_eq_true (by first | (with_reducible assumption) | assumption)
                obtain ⟨ad161, e161, hx161_0, hx161_1, hx161_2, hx161_3, hx161_4, hx161_5, hx161_6⟩ := at_T32 HR0.out x12_1 p161 q161
                cases e161
                replace hx161_0 := (HB.out.cell (World.block_lt_of_cell? w _ hx161_0)).trans hx161_0
                replace hx161_1 := (HB.out.cell (World.block_lt_of_cell? w _ hx161_1)).trans hx161_1
                replace hx161_2 := (HB.out.cell (World.block_lt_of_cell? w _ hx161_2)).trans hx161_2
                replace hx161_3 := (HB.out.cell (World.block_lt_of_cell? w _ hx161_3)).trans hx161_3
                replace hx161_4 := (HB.out.cell (World.block_lt_of_cell? w _ hx161_4)).trans hx161_4
                replace hx161_5 := (HB.out.cell (World.block_lt_of_cell? w _ hx161_5)).trans hx161_5
                replace hx161_6 := (HB.out.cell (World.block_lt_of_cell? w _ hx161_6)).trans hx161_6
                replace p161 := eq_true p161
                replace q161 := eq_true q161
                go_wp2_with (first | ((with_reducible refine gate_dst (N := 6) rfl ?_); refine box_event ?hg (N := 6) ?hd (cs := #[.int .i64 0, .int .i64 0, .int .i64 0, .int .i64 0, .int .i64 0, .int .i64 0, .string (⟨#[]⟩ : ByteArray)]) (t := 32) ?hr ?_; (case hd => rfl); (case hg => rfl); (case hr => first | (go_simp; done) | (go_simp; rfl)); intro gb162 hg w16 hbox hb; have n0_ := Aside0.mk (Kd.R_below (by (with_reducible repeat (first | apply Kd.R_alloc | apply Kd.R_drewN | apply Kd.R_drew)); exact HO_4.out) hb); have n1_ := Aside0.mk (below_step (by repeat (first | (with_reducible first | exact HB.out | apply below_alloc | apply pw_below_drewN | apply below_drew1) | exact HB.out)) hb); have n2_ := Aside0.mk (hbox); have n3_ := Aside0.mk ((by rw [hg]; exact (below_size (by repeat (first | (with_reducible first | exact HB.out | apply below_alloc | apply pw_below_drewN | apply below_drew1) | exact HB.out))) : w.heap.size ≤ gb162)); have n4_ := Aside0.mk ((by rw [hg]; exact (below_size (by repeat (first | (with_reducible first | exact HB.out | apply below_alloc | apply pw_below_drewN | apply below_drew1) | exact HB.out))) : w.heap.size ≤ gb162)); clear HO_4; clear HB; have HO_4 := n0_; have HB := n1_; have BK162 := n2_; have GW162 := n3_; have GE162 := n4_; clear n0_ n1_ n2_ n3_ n4_; clear hb hbox hg) | ((with_reducible refine gate_store (t := 32) (p := 6) rfl ?_); refine store_all 32 gb162 32 #[.int .i64 0, .int .i64 0, .int .i64 0, .int .i64 0, .int .i64 0, .int .i64 0, .string (⟨#[]⟩ : ByteArray)] #[.int .i64 ((rd_T32 l0 x12_1).f0), .int .i64 ((rd_T32 l0 x12_1).f1), .int .i64 ((rd_T32 l0 x12_1).f2), .int .i64 ((rd_T32 l0 x12_1).f3), .int .i64 ((rd_T32 l0 x12_1).f4.f0), .int .i64 ((rd_T32 l0 x12_1).f4.f1), .string ((rd_T32 l0 x12_1).f4.f2)] rfl rfl rfl (by first | rfl | (go_simp; done)) (by (with_reducible repeat (first | refine blk_drewN ?_ _ | refine blk_drew ?_ | refine blk_alloc ?_ _)); exact BK162.out) (by kernel_rfl) rfl (by kernel_rfl) ?_; intro w17 hx hg; have n0_ := Aside0.mk (Kd.R_mono (Kd.R_grown (Kd.R_types HO_4.out BK162.out (by decide)) hg (fun k_ hk_ he_ => (hk_.2) (Option.some.inj he_))) (fun _ h_ => h_.1)); have n1_ := Aside0.mk ((fun {W_ : World} (hB_ : Below w.heap.size w W_) (hg_ : W_.grownBy w17 (some gb162)) => hB_.grown hg_ hB_.size (fun k_ e_ => by cases e_; exact GE162.out)) (by repeat (first | (with_reducible first | exact HB.out | apply below_alloc | apply pw_below_drewN | apply below_drew1 | refine below_set ?_ GE162.out) | exact HB.out)) hg); have n2_ := Aside0.mk (hx); clear HO_4; clear HB; clear BK162; have HO_4 := n0_; have HB := n1_; have BK162 := n2_; clear n0_ n1_ n2_; clear hx hg; have hcz18_0 : w17.cell? ⟨gb162, 0, none⟩ = some (.int .i64 ((rd_T32 l0 x12_1).f0)) := (blk_cell BK162.out 0).trans rfl; have hcz18_1 : w17.cell? ⟨gb162, 1, none⟩ = some (.int .i64 ((rd_T32 l0 x12_1).f1)) := (blk_cell BK162.out 1).trans rfl; have hcz18_2 : w17.cell? ⟨gb162, 2, none⟩ = some (.int .i64 ((rd_T32 l0 x12_1).f2)) := (blk_cell BK162.out 2).trans rfl; have hcz18_3 : w17.cell? ⟨gb162, 3, none⟩ = some (.int .i64 ((rd_T32 l0 x12_1).f3)) := (blk_cell BK162.out 3).trans rfl; have hcz18_4 : w17.cell? ⟨gb162, 4, none⟩ = some (.int .i64 ((rd_T32 l0 x12_1).f4.f0)) := (blk_cell BK162.out 4).trans rfl; have hcz18_5 : w17.cell? ⟨gb162, 5, none⟩ = some (.int .i64 ((rd_T32 l0 x12_1).f4.f1)) := (blk_cell BK162.out 5).trans rfl; have hcz18_6 : w17.cell? ⟨gb162, 6, none⟩ = some (.string ((rd_T32 l0 x12_1).f4.f2)) := (blk_cell BK162.out 6).trans rfl; have hfz18_0 := blk_frozen BK162.out 0; have hfz18_1 := blk_frozen BK162.out 1; have hfz18_2 := blk_frozen BK162.out 2; have hfz18_3 := blk_frozen BK162.out 3; have hfz18_4 := blk_frozen BK162.out 4; have hfz18_5 := blk_frozen BK162.out 5; have hfz18_6 := blk_frozen BK162.out 6) | ((with_reducible refine gate_callee (f := 35) rfl ?_); refine goesL_ (some 17) rfl rfl Tryd.func35 (by kernel_rfl) rfl #[.agg #[.int .i64 ((rd_T32 l0 x12_1).f0), .int .i64 ((rd_T32 l0 x12_1).f1), .int .i64 ((rd_T32 l0 x12_1).f2), .int .i64 ((rd_T32 l0 x12_1).f3), .int .i64 ((rd_T32 l0 x12_1).f4.f0), .int .i64 ((rd_T32 l0 x12_1).f4.f1), .string ((rd_T32 l0 x12_1).f4.f2)]] rfl (by (try simp only [List.map_toArray, List.map_cons, List.map_nil]); first | done | rfl | (simp only [List.length_drop, List.length_take]; rfl) | (simp (disch := omega) only [u64_in]; rfl)) ?_; (with_reducible refine (code_right.calls k1 ((rd_T32 l0 x12_1).f0) ((rd_T32 l0 x12_1).f1) ((rd_T32 l0 x12_1).f2) ((rd_T32 l0 x12_1).f3) ((rd_T32 l0 x12_1).f4.f0) ((rd_T32 l0 x12_1).f4.f1) ((rd_T32 l0 x12_1).f4.f2) false _ A6.out).mono ?_); rintro e w19 ⟨rfl, hb⟩; refine ⟨_, rfl, ?_⟩; have n0_ := Aside0.mk (Kd.R_below (by (with_reducible repeat (first | apply Kd.R_alloc | apply Kd.R_drewN | apply Kd.R_drew)); exact HO_4.out) hb); have n1_ := Aside0.mk (blk_below (g := gb162) (o := .cells #[.int .i64 ((rd_T32 l0 x12_1).f0), .int .i64 ((rd_T32 l0 x12_1).f1), .int .i64 ((rd_T32 l0 x12_1).f2), .int .i64 ((rd_T32 l0 x12_1).f3), .int .i64 ((rd_T32 l0 x12_1).f4.f0), .int .i64 ((rd_T32 l0 x12_1).f4.f1), .string ((rd_T32 l0 x12_1).f4.f2)] 32 (0, 0)) (by (with_reducible repeat (first | refine blk_drewN ?_ _ | refine blk_drew ?_ | refine blk_alloc ?_ _)); exact BK162.out) hb); have n2_ := Aside0.mk (below_step (by repeat (first | (with_reducible first | exact HB.out | apply below_alloc | apply pw_below_drewN | apply below_drew1 | refine below_set ?_ GE162.out) | exact HB.out)) hb); clear HO_4; clear BK162; clear HB; have HO_4 := n0_; have BK162 := n1_; have HB := n2_; clear n0_ n1_ n2_; (try clear hb); (try clear hb2); (try clear hk); (try clear hi)))
                go_ret2
                exact ⟨by first | (with_reducible rfl) | (simp only [isEmpty_bne, Bool.not_not] <;> with_reducible rfl) | (simp [errW_none, errW_some] <;> with_reducible rfl) | (simp only [isEmpty_bne, Bool.not_not] <;> rfl) | rfl | (simp [errW_none, errW_some] <;> rfl) | (simp [*, errW_none, errW_some] <;> rfl), by repeat (first | (with_reducible first | exact HB.out | apply below_alloc | apply pw_below_drewN | apply below_drew1 | refine below_set ?_ GE162.out) | exact HB.out)⟩
            · rw [if_neg c5] at H
              exact absurd H (by simp)
          · rw [if_neg c4] at H
            exact absurd H (by simp)
        · rw [if_neg c3] at H
          have c3b0 : decide (x12_1 < (l0.length : Int)) = false := decide_eq_false c3
          clear c3
          simp only [Option.some.injEq, Prod.mk.injEq] at H
          obtain ⟨rfl, rfl⟩ := H
          have hcv20 := own_string (P := Tryd.prog) Tryd.underlying55 Tryd.underlying5 Tryd.underlying9 (Kd.own_of_R HO_4.out)
          go_wp2
          go_ret2
          exact ⟨by first | (with_reducible rfl) | (simp only [isEmpty_bne, Bool.not_not] <;> with_reducible rfl) | (simp [errW_none, errW_some] <;> with_reducible rfl) | (simp only [isEmpty_bne, Bool.not_not] <;> rfl) | rfl | (simp [errW_none, errW_some] <;> rfl) | (simp [*, errW_none, errW_some] <;> rfl), by repeat (first | (with_reducible first | exact HB.out | apply below_alloc | apply pw_below_drewN | apply below_drew1) | exact HB.out)⟩

end Go.Proofs.YtbdmfpgiolaooaaDoor.PAll
