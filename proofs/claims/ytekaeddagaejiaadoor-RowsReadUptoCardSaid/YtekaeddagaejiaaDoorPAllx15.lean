/- Printed walks of the functions that the laws reach: each function, what it computes, and that it does. No conditions. -/
import Derived.Test.YtekaeddagaejiaaDoorPAllx0
import Derived.Test.YtekaeddagaejiaaDoorPAllx10
import Derived.Test.YtekaeddagaejiaaDoorPAllx11
import Derived.Test.YtekaeddagaejiaaDoorPAllx12
import Derived.Test.YtekaeddagaejiaaDoorPAllx13
import Derived.Test.YtekaeddagaejiaaDoorPAllx14
namespace Go.Proofs.YtekaeddagaejiaaDoor.PAll
open Go.RowKit Go.Proofs.YtekaeddagaejiaaDoor.XW Go.Proofs.YtekaeddagaejiaaDoor.XLib Go.Proofs.YtekaeddagaejiaaDoorW.PrintWords Go.Proofs.YtekaeddagaejiaaDoorW.PrintLast Go.Proofs.YtekaeddagaejiaaDoorW.PrintMore
attribute [local go_sem] max2_int min2_int max_two min_two max_three min_three max_four min_four   -- for this text's walks alone
set_option linter.unusedVariables false
set_option linter.unusedSimpArgs false

/-! ### factotumref03_Read: function 20 -/
mutual
def factotumref03_Read.j0 : Nat → ByteArray → List (S29) → Bool → List Int → Int → Int → Option ((List (S29)) × Int)
  | 0, _, _, _, _, _, _ => none
  | k + 1, x2, x8, x29, x298000, x298001, x298002 => if x29 = true then (some (([] : List (S29)), 10)) else (if 0 < (x8.length : Int) then (factotumref03_Read.l0 k (([(⟨(rd_T29 x8 0).f0, (rd_T29 x8 0).f1, (rd_T29 x8 0).f2⟩ : S29)] : List (S29))) 1 x298000 x298001 x298002 x2 0 0) else (none))
def factotumref03_Read.l0 : Nat → List (S29) → Int → List Int → Int → Int → ByteArray → Int → Int → Option ((List (S29)) × Int)
  | 0, _, _, _, _, _, _, _, _ => none
  | k + 1, x10, x12, x298000, x298001, x298002, x308000, x308001, x308002 => if x12 < (x298000.length : Int) then (if 0 ≤ x12 then (if (rd x298000 x12) = 1 then ((factotumref01_Reader_Num.f k x308000 x308001 x308002 8).bind fun bt310 => (if x10.length < 4398046511104 then (factotumref03_Read.l0 k (x10 ++ [(⟨rd x298000 x12, wrap64 (bt310.1), (⟨#[]⟩ : ByteArray)⟩ : S29)]) (wrap64 (x12 + 1)) x298000 x298001 x298002 bt310.2.1 bt310.2.2.1 bt310.2.2.2) else (none))) else ((factotumref01_Reader_Str.f x308000 x308001 x308002 10).bind fun bt317 => (if x10.length < 4398046511104 then (factotumref03_Read.l0 k (x10 ++ [(⟨rd x298000 x12, 0, bt317.1⟩ : S29)]) (wrap64 (x12 + 1)) x298000 x298001 x298002 bt317.2.1 bt317.2.2.1 bt317.2.2.2) else (none)))) else (none)) else ((factotumref01_Reader_Done.f x308000 x308001 x308002).bind fun bt324 => (if bt324.1 = 0 then ((factotumref03_Fits.f k x298000 x298001 x298002 x10).bind fun t328 => (if t328 = 0 then (some (x10, 0)) else (some (([] : List (S29)), 10)))) else (some (([] : List (S29)), 10))))
end
def factotumref03_Read.f (k : Nat) (l0_0 : List Int) (a0_1 : Int) (a0_2 : Int) (a1 : ByteArray) (a2 : ByteArray) : Option ((List (S29)) × Int) := (factotumref03_Right.f k l0_0 a0_1 a0_2).bind fun t298 => (if t298 = true then ((factotumref02_Read.f a1).bind fun bt299 => (if bt299.2 = 0 then (factotumref03_Read.j0 k a2 bt299.1 ((bt299.1.length : Int) != 1) l0_0 a0_1 a0_2) else (factotumref03_Read.j0 k a2 bt299.1 true l0_0 a0_1 a0_2))) else (some (([] : List (S29)), 4)))
theorem factotumref03_Read.mono_l : ∀ k, (∀ y0 y1 y2 y3 y4 y5, LeO (factotumref03_Read.j0 k y0 y1 y2 y3 y4 y5) (factotumref03_Read.j0 (k + 1) y0 y1 y2 y3 y4 y5)) ∧ (∀ y0 y1 y2 y3 y4 y5 y6 y7, LeO (factotumref03_Read.l0 k y0 y1 y2 y3 y4 y5 y6 y7) (factotumref03_Read.l0 (k + 1) y0 y1 y2 y3 y4 y5 y6 y7))
  | 0 => ⟨fun _ _ _ _ _ _ r h => by simp [factotumref03_Read.j0] at h, fun _ _ _ _ _ _ _ _ r h => by simp [factotumref03_Read.l0] at h⟩
  | k + 1 => by
    obtain ⟨ih0, ih1⟩ := factotumref03_Read.mono_l k
    refine ⟨?_, ?_⟩
    · intro y0 y1 y2 y3 y4 y5
      unfold factotumref03_Read.j0
      repeat' first
      | (with_reducible exact ih0 _ _ _ _ _ _)
      | (with_reducible exact ih1 _ _ _ _ _ _ _ _)
      | (with_reducible exact factotumref01_Reader_Num.mono _ _ _ _ _)
      | (with_reducible exact factotumref03_Fits.mono _ _ _ _ _)
      | (with_reducible exact factotumref03_Right.mono _ _ _ _)
      | (with_reducible exact LeO.refl _)
      | (with_reducible exact LeO.none _)
      | (with_reducible refine LeO.ite ?_ ?_)
      | (with_reducible refine LeO.bind ?_ (fun _ => ?_))
      | exact ih0 _ _ _ _ _ _
      | exact ih1 _ _ _ _ _ _ _ _
      | exact factotumref01_Reader_Num.mono _ _ _ _ _
      | exact factotumref03_Fits.mono _ _ _ _ _
      | exact factotumref03_Right.mono _ _ _ _
      | exact LeO.none _
      | refine LeO.ite ?_ ?_
      | refine LeO.bind ?_ (fun _ => ?_)
    · intro y0 y1 y2 y3 y4 y5 y6 y7
      unfold factotumref03_Read.l0
      repeat' first
      | (with_reducible exact ih0 _ _ _ _ _ _)
      | (with_reducible exact ih1 _ _ _ _ _ _ _ _)
      | (with_reducible exact factotumref01_Reader_Num.mono _ _ _ _ _)
      | (with_reducible exact factotumref03_Fits.mono _ _ _ _ _)
      | (with_reducible exact factotumref03_Right.mono _ _ _ _)
      | (with_reducible exact LeO.refl _)
      | (with_reducible exact LeO.none _)
      | (with_reducible refine LeO.ite ?_ ?_)
      | (with_reducible refine LeO.bind ?_ (fun _ => ?_))
      | exact ih0 _ _ _ _ _ _
      | exact ih1 _ _ _ _ _ _ _ _
      | exact factotumref01_Reader_Num.mono _ _ _ _ _
      | exact factotumref03_Fits.mono _ _ _ _ _
      | exact factotumref03_Right.mono _ _ _ _
      | exact LeO.none _
      | refine LeO.ite ?_ ?_
      | refine LeO.bind ?_ (fun _ => ?_)
theorem factotumref03_Read.mono : ∀ a0 a1 a2 a3 a4 k, LeO (factotumref03_Read.f k a0 a1 a2 a3 a4) (factotumref03_Read.f (k + 1) a0 a1 a2 a3 a4) := by
  intro a0 a1 a2 a3 a4 k
  obtain ⟨ih0, ih1⟩ := factotumref03_Read.mono_l k
  unfold factotumref03_Read.f
  repeat' first
      | (with_reducible exact ih0 _ _ _ _ _ _)
      | (with_reducible exact ih1 _ _ _ _ _ _ _ _)
      | (with_reducible exact factotumref01_Reader_Num.mono _ _ _ _ _)
      | (with_reducible exact factotumref03_Fits.mono _ _ _ _ _)
      | (with_reducible exact factotumref03_Right.mono _ _ _ _)
      | (with_reducible exact LeO.refl _)
      | (with_reducible exact LeO.none _)
      | (with_reducible refine LeO.ite ?_ ?_)
      | (with_reducible refine LeO.bind ?_ (fun _ => ?_))
      | exact ih0 _ _ _ _ _ _
      | exact ih1 _ _ _ _ _ _ _ _
      | exact factotumref01_Reader_Num.mono _ _ _ _ _
      | exact factotumref03_Fits.mono _ _ _ _ _
      | exact factotumref03_Right.mono _ _ _ _
      | exact LeO.none _
      | refine LeO.ite ?_ ?_
      | refine LeO.bind ?_ (fun _ => ?_)
set_option maxHeartbeats 8000000 in
set_option maxRecDepth 100000 in
theorem factotumref03_Read.calls (k : Nat) (A0_0 : Option Addr) (c0_0 : Nat) (l0_0 : List Int) (a0_1 : Int) (a0_2 : Int) (a1 : ByteArray) (a2 : ByteArray) (r1 : List (S29)) (r2 : Int) (w : World) (hr0_0 : Kd.C (Kd.int .i64) w A0_0 l0_0.length l0_0) (hc0_0 : l0_0.length ≤ c0_0) (h : factotumref03_Read.f k l0_0 a0_1 a0_2 a1 a2 = some (r1, r2)) :
    Calls Tryd.prog 20 #[.agg #[.slice A0_0 l0_0.length c0_0, .int .i64 a0_1, .int .i64 a0_2], .string a1, .string a2] w fun e w' => ∃ v0_ : Value, e = .returned (.tuple #[v0_, .int .i64 r2]) ∧ Kd.R k29 29 w' w.heap.size (fun _ => True) v0_ r1 ∧ Below w.heap.size w w' := by
  have hu24 := Tryd.underlying24
  have hu29 := Tryd.underlying29
  have hu73 := Tryd.underlying73
  have HR0_0 := Aside0.mk hr0_0
  have HC0_0 := Aside0.mk hc0_0
  clear hr0_0 hc0_0
  have HB := Aside0.mk (Below.refl w.heap.size w)
  have H : ((factotumref03_Right.f k l0_0 a0_1 a0_2).bind fun t298 => (if t298 = true then ((factotumref02_Read.f a1).bind fun bt299 => (if bt299.2 = 0 then (factotumref03_Read.j0 k a2 bt299.1 ((bt299.1.length : Int) != 1) l0_0 a0_1 a0_2) else (factotumref03_Read.j0 k a2 bt299.1 true l0_0 a0_1 a0_2))) else (some (([] : List (S29)), 4)))) = some (r1, r2) := h
  clear h
  replace H := Option.bind_eq_some_iff.mp H
  obtain ⟨t298, A40, H⟩ := H
  replace H : (if t298 = true then ((factotumref02_Read.f a1).bind fun bt299 => (if bt299.2 = 0 then (factotumref03_Read.j0 k a2 bt299.1 ((bt299.1.length : Int) != 1) l0_0 a0_1 a0_2) else (factotumref03_Read.j0 k a2 bt299.1 true l0_0 a0_1 a0_2))) else (some (([] : List (S29)), 4))) = some (r1, r2) := H
  have A4 := Aside0.mk A40
  clear A40
  by_cases c5 : t298 = true
  · subst c5
    have H1 : ((factotumref02_Read.f a1).bind fun bt299 => (if bt299.2 = 0 then (factotumref03_Read.j0 k a2 bt299.1 ((bt299.1.length : Int) != 1) l0_0 a0_1 a0_2) else (factotumref03_Read.j0 k a2 bt299.1 true l0_0 a0_1 a0_2))) = some (r1, r2) := by rw [if_pos rfl] at H; exact H
    clear H
    have H := H1
    clear H1
    replace H := Option.bind_eq_some_iff.mp H
    obtain ⟨⟨t299, t300⟩, A60, H⟩ := H
    replace H : (if t300 = 0 then (factotumref03_Read.j0 k a2 t299 ((t299.length : Int) != 1) l0_0 a0_1 a0_2) else (factotumref03_Read.j0 k a2 t299 true l0_0 a0_1 a0_2)) = some (r1, r2) := H
    have A6 := Aside0.mk A60
    clear A60
    have HC7 := Aside0.mk H
    clear H
    go_enter Tryd.func20, Tryd.ntmps20
    go_upto_region 4 with (first | ((with_reducible refine gate_dst (N := 3) rfl ?_); (try (refine gate_guard (by rfl) ?_; dsimp only)); refine box_event ?hg (N := 3) ?hd (cs := #[.slice A0_0 l0_0.length c0_0, .int .i64 a0_1, .int .i64 a0_2]) (t := 24) ?hr ?_; (case hd => rfl); (case hg => rfl); (case hr => first | (go_simp; done) | (go_simp; rfl)); intro gb297 hg w8 hbox hb; have n0_ := Aside0.mk (below_step (by repeat (first | (with_reducible first | exact HB.out | apply below_alloc | apply pw_below_drewN | apply below_drew1) | exact HB.out)) hb); have n1_ := Aside0.mk (hbox); have n2_ := Aside0.mk ((by rw [hg]; exact (below_size (by repeat (first | (with_reducible first | exact HB.out | apply below_alloc | apply pw_below_drewN | apply below_drew1) | exact HB.out))) : w.heap.size ≤ gb297)); have n3_ := Aside0.mk ((by rw [hg]; exact (below_size (by repeat (first | (with_reducible first | exact HB.out | apply below_alloc | apply pw_below_drewN | apply below_drew1) | exact HB.out))) : w.heap.size ≤ gb297)); clear HB; have HB := n0_; have BK297 := n1_; have GW297 := n2_; have GE297 := n3_; clear n0_ n1_ n2_ n3_; clear hb hbox hg; have hcz9_0 : w8.cell? ⟨gb297, 0, none⟩ = some (.slice A0_0 l0_0.length c0_0) := (blk_cell BK297.out 0).trans rfl; have hcz9_1 : w8.cell? ⟨gb297, 1, none⟩ = some (.int .i64 a0_1) := (blk_cell BK297.out 1).trans rfl; have hcz9_2 : w8.cell? ⟨gb297, 2, none⟩ = some (.int .i64 a0_2) := (blk_cell BK297.out 2).trans rfl; have hfz9_0 := blk_frozen BK297.out 0; have hfz9_1 := blk_frozen BK297.out 1; have hfz9_2 := blk_frozen BK297.out 2) | ((with_reducible refine gate_callee (f := 14) rfl ?_); refine goesL_ (some 16) rfl rfl Tryd.func14 (by kernel_rfl) rfl #[.agg #[.slice A0_0 l0_0.length c0_0, .int .i64 a0_1, .int .i64 a0_2]] rfl (by (try simp only [List.map_toArray, List.map_cons, List.map_nil]); first | done | rfl | (simp only [List.length_drop, List.length_take]; rfl) | (simp (disch := omega) only [u64_in]; rfl)) ?_; (with_reducible refine (factotumref03_Right.calls k _ _ l0_0 a0_1 a0_2 true _ ?side1 ?side2 A4.out).mono ?_); (case side1 => repeat (first | exact (Kd.C_below HR0_0.out HB.out) | (with_reducible refine Kd.C_alloc ?_ _) | (with_reducible refine Kd.C_drewN ?_ _) | (with_reducible refine Kd.C_drew ?_))); (case side2 => exact HC0_0.out); rintro e w10 ⟨rfl, hb⟩; refine ⟨_, rfl, ?_⟩; have n0_ := Aside0.mk (blk_below (g := gb297) (o := .cells #[.slice A0_0 l0_0.length c0_0, .int .i64 a0_1, .int .i64 a0_2] 24 (0, 0)) (by (with_reducible repeat (first | refine blk_drewN ?_ _ | refine blk_drew ?_ | refine blk_alloc ?_ _)); exact BK297.out) hb); have n1_ := Aside0.mk (below_step (by repeat (first | (with_reducible first | exact HB.out | apply below_alloc | apply pw_below_drewN | apply below_drew1 | refine below_set ?_ GE297.out) | exact HB.out)) hb); clear BK297; clear HB; have BK297 := n0_; have HB := n1_; clear n0_ n1_; (try clear hb); (try clear hb2); (try clear hk); (try clear hi)) | ((with_reducible refine gate_callee (f := 46) rfl ?_); refine goesL_ (some 20) rfl rfl Tryd.func46 (by kernel_rfl) rfl #[.string a1] rfl (by (try simp only [List.map_toArray, List.map_cons, List.map_nil]); first | done | rfl | (simp only [List.length_drop, List.length_take]; rfl) | (simp (disch := omega) only [u64_in]; rfl)) ?_; (with_reducible refine (factotumref02_Read.calls a1 t299 t300 _ A6.out).mono ?_); rintro e w11 ⟨v301, rfl, ho0, hb⟩; refine ⟨_, rfl, ?_⟩; have n0_ := Aside0.mk (Kd.R_lower ho0 (below_size (by repeat (first | (with_reducible first | exact HB.out | apply below_alloc | apply pw_below_drewN | apply below_drew1 | refine below_set ?_ GE297.out) | exact HB.out)))); have n1_ := Aside0.mk (blk_below (g := gb297) (o := .cells #[.slice A0_0 l0_0.length c0_0, .int .i64 a0_1, .int .i64 a0_2] 24 (0, 0)) (by (with_reducible repeat (first | refine blk_drewN ?_ _ | refine blk_drew ?_ | refine blk_alloc ?_ _)); exact BK297.out) hb); have n2_ := Aside0.mk (below_step (by repeat (first | (with_reducible first | exact HB.out | apply below_alloc | apply pw_below_drewN | apply below_drew1 | refine below_set ?_ GE297.out) | exact HB.out)) hb); clear BK297; clear HB; have HO302 := n0_; have BK297 := n1_; have HB := n2_; clear n0_ n1_ n2_; (try clear hb); (try clear hb2); (try clear hk); (try clear hi); (try clear ho0)))
    (try simp only [Act.put, List.setIfInBounds_toArray, List.set_cons_zero, List.set_cons_succ])
    go_cut [29] (fun v29 wc => ∃ (kq : Nat) (x29_6 : Bool), v29 = .bool x29_6 ∧ Aside0 (factotumref03_Read.j0 kq a2 t299 x29_6 l0_0 a0_1 a0_2 = some (r1, r2)) ∧ Aside0 (kq ≤ k) ∧ Aside0 (Kd.R k29 29 wc w.heap.size (fun _ => True) v301 t299) ∧ Aside0 (wc.heap[gb297]? = some (.cells #[(.slice A0_0 l0_0.length c0_0), .int .i64 a0_1, .int .i64 a0_2] 24 (0, 0))) ∧ Aside0 (Below w.heap.size w wc))
    case first =>
      have H := HC7.out
      clear HC7
      by_cases c12 : t300 = 0
      · rw [if_pos c12] at H
        have c12b0 : (t300 == 0) = true := beq_iff_eq.mpr c12
        have c12b1 : (t300 != 0) = false := bne_eq_false_iff_eq.mpr c12
        clear c12
        (first | rw [c12b0] | (simp only [i64_w, i32_w]; rw [c12b0]) | skip)
        have H' := Aside0.mk H
        clear H
        obtain ⟨Ao13, co13, eo13⟩ := Kd.R_slice HO302.out
        subst eo13
        go_wp2
        go_meet
        case rel => exact ⟨_, (((t299.length : Int) != 1)), (by first | (with_reducible rfl) | (simp; done) | (simp [*]; done) | rfl), H', ⟨by first | omega | exact Nat.le_refl _⟩, ⟨by (with_reducible repeat (first | apply Kd.R_alloc | apply Kd.R_drewN | apply Kd.R_drew)); exact HO302.out⟩, ⟨by (with_reducible repeat (first | refine blk_drewN ?_ _ | refine blk_drew ?_ | refine blk_alloc ?_ _)); exact BK297.out⟩, ⟨by repeat (first | (with_reducible first | exact HB.out | apply below_alloc | apply pw_below_drewN | apply below_drew1 | refine below_set ?_ GE297.out) | exact HB.out)⟩⟩
      · rw [if_neg c12] at H
        have c12b0 : (t300 == 0) = false := beq_eq_false_iff_ne.mpr c12
        have c12b1 : (t300 != 0) = true := bne_iff_ne.mpr c12
        (first | rw [c12b0] | (simp only [i64_w, i32_w]; rw [c12b0]) | skip)
        have H' := Aside0.mk H
        clear H
        go_wp2
        go_meet
        case rel => exact ⟨_, (true), (by first | (with_reducible rfl) | (simp; done) | (simp [*]; done) | rfl), H', ⟨by first | omega | exact Nat.le_refl _⟩, ⟨by (with_reducible repeat (first | apply Kd.R_alloc | apply Kd.R_drewN | apply Kd.R_drew)); exact HO302.out⟩, ⟨by (with_reducible repeat (first | refine blk_drewN ?_ _ | refine blk_drew ?_ | refine blk_alloc ?_ _)); exact BK297.out⟩, ⟨by repeat (first | (with_reducible first | exact HB.out | apply below_alloc | apply pw_below_drewN | apply below_drew1 | refine below_set ?_ GE297.out) | exact HB.out)⟩⟩
    case rest =>
      clear HC7
      try clear c1
      try clear c2
      try clear p2
      try clear c4
      try clear c5
      try clear c12
      try clear c12b0
      try clear c12b1
      try clear hcz9_0
      try clear hcz9_1
      try clear hcz9_2
      try clear hfz9_0
      try clear hfz9_1
      try clear hfz9_2
      obtain ⟨kq, x29_6, rfl, HA, HJ6, HO_8, BK297, HB⟩ := hcut
      cases kq with
      | zero => exact absurd HA.out (by simp [factotumref03_Read.j0])
      | succ kj6 =>
        have H := HA.out
        clear HA
        simp only [factotumref03_Read.j0] at H
        by_cases c14 : x29_6 = true
        · subst c14
          have H1 : (some (([] : List (S29)), 10)) = some (r1, r2) := by rw [if_pos rfl] at H; exact H
          clear H
          have H := H1
          clear H1
          simp only [Option.some.injEq, Prod.mk.injEq] at H
          obtain ⟨rfl, rfl⟩ := H
          go_wp2
          go_ret2
          exact ⟨_, by first | (with_reducible rfl) | (simp only [isEmpty_bne, Bool.not_not] <;> with_reducible rfl) | (simp [errW_none, errW_some] <;> with_reducible rfl) | (simp only [isEmpty_bne, Bool.not_not] <;> rfl) | rfl | (simp [errW_none, errW_some] <;> rfl) | (simp [*, errW_none, errW_some] <;> rfl), by first | exact Kd.R_nil _ _ _ _ _ | exact Kd.N_nil _ _ _ _ _ | exact Kd.V_nil _ _ _ _ _ | exact Kd.Q_nil _ _ _ _ _ | exact Kd.S_nil _ _ _ _ _, by repeat (first | (with_reducible first | exact HB.out | apply below_alloc | apply pw_below_drewN | apply below_drew1 | refine below_set ?_ GE297.out) | exact HB.out)⟩
        · replace c14 := Bool.eq_false_iff.mpr c14
          subst c14
          have H1 : (if 0 < (t299.length : Int) then (factotumref03_Read.l0 kj6 (([(⟨(rd_T29 t299 0).f0, (rd_T29 t299 0).f1, (rd_T29 t299 0).f2⟩ : S29)] : List (S29))) 1 l0_0 a0_1 a0_2 a2 0 0) else (none)) = some (r1, r2) := by rw [if_neg (show ¬ (false = true) by decide)] at H; exact H
          clear H
          have H := H1
          clear H1
          by_cases c15 : 0 < (t299.length : Int)
          · rw [if_pos c15] at H
            have c15b0 : decide (0 < (t299.length : Int)) = true := decide_eq_true c15
            have c15b1 : decide (0 < t299.length) = true := decide_eq_true (by omega)
            clear c15
            obtain ⟨y304, hy304⟩ : ∃ y_ : List (S29), y_ = (([(⟨(rd_T29 t299 0).f0, (rd_T29 t299 0).f1, (rd_T29 t299 0).f2⟩ : S29)] : List (S29))) := ⟨_, rfl⟩
            replace H : (factotumref03_Read.l0 kj6 y304 1 l0_0 a0_1 a0_2 a2 0 0) = some (r1, r2) := by first | (rw [hy304]; with_reducible exact H) | (have H2_ := (Option.bind_some _ _).symm.trans H; rw [hy304]; with_reducible exact H2_) | (have H2_ := (Option.bind_some _ _).symm.trans H; with_reducible exact H2_) | with_reducible exact H | (rw [hy304]; exact H) | exact H
            have Ny304 := Aside0.mk hy304
            clear hy304
            have H' := Aside0.mk H
            clear H
            obtain ⟨Ao16, co16, eo16⟩ := Kd.R_slice HO_8.out
            subst eo16
            have p303 : 0 ≤ (0 : Int) := (by omega)
            have q303 : 0 < (t299.length : Int) := of_decide_eq_true (by first | (with_reducible assumption) | assumption)
            obtain ⟨ad303, e303, hx303_0, hx303_1, hx303_2⟩ := at_T29 (Kd.R_reads' HO_8.out).2.2 0 p303 q303
            cases e303
            have qi303 : (0 < t299.length) = True := eq_true (by omega)
            (try rw [show ((0 : Int)).toNat = 0 from rfl] at hx303_0)
            (try rw [show 0 * 3 = 0 from rfl] at hx303_0)
            (try rw [Addr.add_zero'] at hx303_0)
            (try rw [show ((0 : Int)).toNat = 0 from rfl] at hx303_1)
            (try rw [show 0 * 3 = 0 from rfl] at hx303_1)
            (try rw [Addr.add_zero'] at hx303_1)
            (try rw [show ((0 : Int)).toNat = 0 from rfl] at hx303_2)
            (try rw [show 0 * 3 = 0 from rfl] at hx303_2)
            (try rw [Addr.add_zero'] at hx303_2)
            replace p303 := eq_true p303
            replace q303 := eq_true q303
            go_wp2_with (first | ((with_reducible refine gate_dst (N := 33) rfl ?_); (try (refine gate_guard (by rfl) ?_; dsimp only)); refine Kd.R_lit k29 _ 29 ?hg (N := 33) ?hd (xs := ([(⟨(rd_T29 t299 0).f0, (rd_T29 t299 0).f1, (rd_T29 t299 0).f2⟩ : S29)] : List (S29))) (inner := [.int .i64 ((rd_T29 t299 0).f0), .int .i64 ((rd_T29 t299 0).f1), .string ((rd_T29 t299 0).f2)]) (ok := fun _ => True) (okp := fun _ => True) ?hr ?hp (fun _ hk => hk) trivial (Below.refl _ _) (Nat.le_refl _) (by simp) ?_; (case hd => rfl); (case hg => rfl); (case hr => first | (go_simp; done) | (go_simp; rfl)); (case hp => exact (Reps.c3 (show Kd.M k29 _ _ _ (⟨(rd_T29 t299 0).f0, (rd_T29 t299 0).f1, (rd_T29 t299 0).f2⟩ : S29) [.int .i64 ((rd_T29 t299 0).f0), .int .i64 ((rd_T29 t299 0).f1), .string ((rd_T29 t299 0).f2)] from (k29_mkM _ _ _ (⟨(rd_T29 t299 0).f0, (rd_T29 t299 0).f1, (rd_T29 t299 0).f2⟩ : S29) )) (Reps.none _ _))); intro v305 w17 ho18 hb hg_ hnew_; clear hg_ hnew_; (first | rw [← Ny304.out] at ho18 | (simp only [Int.reduceToNat] at ho18; rw [← Ny304.out] at ho18)); have n0_ := Aside0.mk (Kd.R_elder' (by (with_reducible repeat (first | apply Kd.R_alloc | apply Kd.R_drewN | apply Kd.R_drew)); exact HO_8.out) (Kd.R_base ho18) hb); have n1_ := Aside0.mk (Kd.R_lower (Kd.R_new' ho18 (Kd.R_lt (by (with_reducible repeat (first | apply Kd.R_alloc | apply Kd.R_drewN | apply Kd.R_drew)); exact HO_8.out))) (below_size (by repeat (first | (with_reducible first | exact HB.out | apply below_alloc | apply pw_below_drewN | apply below_drew1 | refine below_set ?_ GE297.out) | exact HB.out)))); have n2_ := Aside0.mk (blk_below (g := gb297) (o := .cells #[.slice A0_0 l0_0.length c0_0, .int .i64 a0_1, .int .i64 a0_2] 24 (0, 0)) (by (with_reducible repeat (first | refine blk_drewN ?_ _ | refine blk_drew ?_ | refine blk_alloc ?_ _)); exact BK297.out) hb); have n3_ := Aside0.mk (below_step (by repeat (first | (with_reducible first | exact HB.out | apply below_alloc | apply pw_below_drewN | apply below_drew1 | refine below_set ?_ GE297.out) | exact HB.out)) hb); clear HO_8; clear BK297; clear HB; have HO_8 := n0_; have HO306 := n1_; have BK297 := n2_; have HB := n3_; clear n0_ n1_ n2_ n3_; clear hb ho18) | ((with_reducible refine gate_dst (N := 36) rfl ?_); (try (refine gate_guard (by rfl) ?_; dsimp only)); refine box_event ?hg (N := 36) ?hd (cs := #[.string a2, .int .i64 0, .int .i64 0]) (t := 73) ?hr ?_; (case hd => rfl); (case hg => rfl); (case hr => first | (go_simp; done) | (go_simp; rfl)); intro gb307 hg w19 hbox hb; have n0_ := Aside0.mk (Kd.R_below (by (with_reducible repeat (first | apply Kd.R_alloc | apply Kd.R_drewN | apply Kd.R_drew)); exact HO_8.out) hb); have n1_ := Aside0.mk (Kd.R_below (by (with_reducible repeat (first | apply Kd.R_alloc | apply Kd.R_drewN | apply Kd.R_drew)); exact HO306.out) hb); have n2_ := Aside0.mk (blk_below (g := gb297) (o := .cells #[.slice A0_0 l0_0.length c0_0, .int .i64 a0_1, .int .i64 a0_2] 24 (0, 0)) (by (with_reducible repeat (first | refine blk_drewN ?_ _ | refine blk_drew ?_ | refine blk_alloc ?_ _)); exact BK297.out) hb); have n3_ := Aside0.mk (below_step (by repeat (first | (with_reducible first | exact HB.out | apply below_alloc | apply pw_below_drewN | apply below_drew1 | refine below_set ?_ GE297.out) | exact HB.out)) hb); have n4_ := Aside0.mk ((show IsS73 w _ gb307 a2 0 0 from ⟨hbox, (by rw [hg]; exact (below_size (by repeat (first | (with_reducible first | exact HB.out | apply below_alloc | apply pw_below_drewN | apply below_drew1 | refine below_set ?_ GE297.out) | exact HB.out))) : w.heap.size ≤ gb307)⟩)); have n5_ := Aside0.mk ((by rw [hg]; exact (below_size (by repeat (first | (with_reducible first | exact HB.out | apply below_alloc | apply pw_below_drewN | apply below_drew1 | refine below_set ?_ GE297.out) | exact HB.out))) : w.heap.size ≤ gb307)); have n6_ := Aside0.mk ((by rw [hg]; exact (below_size (by repeat (first | (with_reducible first | exact HB.out | apply below_alloc | apply pw_below_drewN | apply below_drew1 | refine below_set ?_ GE297.out) | exact HB.out))) : w.heap.size ≤ gb307)); have n7_ := Aside0.mk ((by rw [hg]; exact Nat.ne_of_lt (blk_lt (g := gb297) (o := .cells #[.slice A0_0 l0_0.length c0_0, .int .i64 a0_1, .int .i64 a0_2] 24 (0, 0)) (by (with_reducible repeat (first | refine blk_drewN ?_ _ | refine blk_drew ?_ | refine blk_alloc ?_ _)); exact BK297.out)) : gb297 ≠ gb307)); have n8_ := Aside0.mk ((by rw [hg]; exact Nat.ne_of_gt (blk_lt (g := gb297) (o := .cells #[.slice A0_0 l0_0.length c0_0, .int .i64 a0_1, .int .i64 a0_2] 24 (0, 0)) (by (with_reducible repeat (first | refine blk_drewN ?_ _ | refine blk_drew ?_ | refine blk_alloc ?_ _)); exact BK297.out)) : gb307 ≠ gb297)); clear HO_8; clear HO306; clear BK297; clear HB; have HO_8 := n0_; have HO306 := n1_; have BK297 := n2_; have HB := n3_; have HI307 := n4_; have GW307 := n5_; have GE307 := n6_; have NB297_307 := n7_; have NB307_297 := n8_; clear n0_ n1_ n2_ n3_ n4_ n5_ n6_ n7_ n8_; clear hb hbox hg))
            go_loopg [10, 12] kj6 (fun kq v10 v12 w' => ∃ (x10_2 : List (S29)) (x12_2 : Int) (x308000_2 : ByteArray) (x308001_2 : Int) (x308002_2 : Int), v12 = .int .i64 x12_2 ∧ Aside0 (factotumref03_Read.l0 kq x10_2 x12_2 l0_0 a0_1 a0_2 x308000_2 x308001_2 x308002_2 = some (r1, r2)) ∧ Aside0 (kq ≤ kj6) ∧ Aside0 (Kd.R k29 29 w' w.heap.size (fun _ => True) v10 x10_2) ∧ Aside0 (w'.heap[gb297]? = some (.cells #[(.slice A0_0 l0_0.length c0_0), .int .i64 a0_1, .int .i64 a0_2] 24 (0, 0))) ∧ Aside0 (IsS73 w w' gb307 x308000_2 x308001_2 x308002_2) ∧ Aside0 (Below w.heap.size w w'))
            case atStart => exact ⟨(y304), (1), (a2), (0), (0), (by first | (with_reducible rfl) | (simp; done) | (simp [*]; done) | rfl), H', ⟨Nat.le_refl _⟩, ⟨by (with_reducible repeat (first | apply Kd.R_alloc | apply Kd.R_drewN | apply Kd.R_drew)); exact Kd.R_mono HO306.out (fun _ hk => trivial)⟩, ⟨by (with_reducible repeat (first | refine blk_drewN ?_ _ | refine blk_drew ?_ | refine blk_alloc ?_ _)); exact BK297.out⟩, ⟨by repeat (first | (with_reducible first | exact HI307.out | apply IsS73.alloc | apply IsS73.drewN | apply IsS73.drew | apply IsS73.set_0 | apply IsS73.set_1 | apply IsS73.set_2 | refine IsS73.far ?_ NB307_297.out _) | exact HI307.out)⟩, ⟨by repeat (first | (with_reducible first | exact HB.out | apply below_alloc | apply pw_below_drewN | apply below_drew1 | refine below_set ?_ (IsS73.ge HI307.out) | refine below_set ?_ GE297.out) | exact HB.out)⟩⟩
            case round =>
              clear H'
              try clear c1
              try clear c2
              try clear p2
              try clear c3
              try clear p3
              try clear q3
              try clear hx3
              try clear qi3
              try clear c4
              try clear c5
              try clear c12
              try clear c12b0
              try clear c12b1
              try clear c14
              try clear c15
              try clear c15b0
              try clear c15b1
              try clear hcz9_0
              try clear hcz9_1
              try clear hcz9_2
              try clear hfz9_0
              try clear hfz9_1
              try clear hfz9_2
              try clear hx303_0
              try clear hx303_1
              try clear hx303_2
              try clear p2
              try clear p303
              try clear q303
              obtain ⟨x10_2, x12_2, x308000_2, x308001_2, x308002_2, rfl, HA, HK2, HO_10, BK297, HI307, HB⟩ := hrel
              cases gk with
              | zero => exact absurd HA.out (by simp [factotumref03_Read.l0])
              | succ k2 =>
                have H := HA.out
                clear HA
                simp only [factotumref03_Read.l0] at H
                by_cases c20 : x12_2 < (l0_0.length : Int)
                · rw [if_pos c20] at H
                  have c20b0 : decide (x12_2 < (l0_0.length : Int)) = true := decide_eq_true c20
                  clear c20
                  by_cases c21 : 0 ≤ x12_2
                  · rw [if_pos c21] at H
                    have c21b0 : decide (0 ≤ x12_2) = true := decide_eq_true c21
                    clear c21
                    by_cases c22 : (rd l0_0 x12_2) = 1
                    · rw [if_pos c22] at H
                      have c22b0 : ((rd l0_0 x12_2) == 1) = true := beq_iff_eq.mpr c22
                      have c22b1 : ((rd l0_0 x12_2) != 1) = false := bne_eq_false_iff_eq.mpr c22
                      clear c22
                      replace H := Option.bind_eq_some_iff.mp H
                      obtain ⟨⟨t310, t311, t312, t313⟩, A230, H⟩ := H
                      replace H : (if x10_2.length < 4398046511104 then (factotumref03_Read.l0 k2 (x10_2 ++ [(⟨rd l0_0 x12_2, wrap64 (t310), (⟨#[]⟩ : ByteArray)⟩ : S29)]) (wrap64 (x12_2 + 1)) l0_0 a0_1 a0_2 t311 t312 t313) else (none)) = some (r1, r2) := H
                      have A23 := Aside0.mk A230
                      clear A230
                      by_cases c24 : x10_2.length < 4398046511104
                      · rw [if_pos c24] at H
                        have LMc24 := Aside0.mk c24
                        clear c24
                        obtain ⟨y314, hy314⟩ : ∃ y_ : List (S29), y_ = (x10_2 ++ [(⟨rd l0_0 x12_2, wrap64 (t310), (⟨#[]⟩ : ByteArray)⟩ : S29)]) := ⟨_, rfl⟩
                        replace H : (factotumref03_Read.l0 k2 y314 (wrap64 (x12_2 + 1)) l0_0 a0_1 a0_2 t311 t312 t313) = some (r1, r2) := by first | (rw [hy314]; with_reducible exact H) | (have H2_ := (Option.bind_some _ _).symm.trans H; rw [hy314]; with_reducible exact H2_) | (have H2_ := (Option.bind_some _ _).symm.trans H; with_reducible exact H2_) | with_reducible exact H | (rw [hy314]; exact H) | exact H
                        have Ny314 := Aside0.mk hy314
                        clear hy314
                        have H' := Aside0.mk H
                        clear H
                        have hnb25 := NB297_307.out
                        have hnc25 := NB307_297.out
                        have hcz26_0 : wr.cell? ⟨gb297, 0, none⟩ = some (.slice A0_0 l0_0.length c0_0) := (blk_cell BK297.out 0).trans rfl
                        have hcz26_1 : wr.cell? ⟨gb297, 1, none⟩ = some (.int .i64 a0_1) := (blk_cell BK297.out 1).trans rfl
                        have hcz26_2 : wr.cell? ⟨gb297, 2, none⟩ = some (.int .i64 a0_2) := (blk_cell BK297.out 2).trans rfl
                        have hfz26_0 := blk_frozen BK297.out 0
                        have hfz26_1 := blk_frozen BK297.out 1
                        have hfz26_2 := blk_frozen BK297.out 2
                        have p308 : 0 ≤ (x12_2 : Int) := of_decide_eq_true (by first | (with_reducible assumption) | assumption)
                        have q308 : x12_2 < (l0_0.length : Int) := of_decide_eq_true (by first | (with_reducible assumption) | assumption)
                        obtain ⟨ad308, e308, hx308_0⟩ := Kd.at_int HR0_0.out x12_2 p308 q308
                        cases e308
                        replace hx308_0 := (HB.out.cell (World.block_lt_of_cell? w _ hx308_0)).trans hx308_0
                        replace p308 := eq_true p308
                        replace q308 := eq_true q308
                        go_wp2_with (first | ((with_reducible refine gate_dst (N := 13) rfl ?_); (try (refine gate_guard (by rfl) ?_; dsimp only)); refine box_event ?hg (N := 13) ?hd (cs := #[.int .i64 0, .int .i64 0, .string (⟨#[]⟩ : ByteArray)]) (t := 29) ?hr ?_; (case hd => rfl); (case hg => rfl); (case hr => first | (go_simp; done) | (go_simp; rfl)); intro gb309 hg w27 hbox hb; have n0_ := Aside0.mk (Kd.R_below (Kd.R_elderB (by (with_reducible repeat (first | apply Kd.R_alloc | apply Kd.R_drewN | apply Kd.R_drew)); exact HO_10.out) gb309 (Nat.le_of_eq hg.symm)) hb); have n1_ := Aside0.mk (blk_below (g := gb297) (o := .cells #[.slice (some ad308) l0_0.length c0_0, .int .i64 a0_1, .int .i64 a0_2] 24 (0, 0)) (by (with_reducible repeat (first | refine blk_drewN ?_ _ | refine blk_drew ?_ | refine blk_alloc ?_ _)); exact BK297.out) hb); have n2_ := Aside0.mk (IsS73.below (by repeat (first | (with_reducible first | exact HI307.out | apply IsS73.alloc | apply IsS73.drewN | apply IsS73.drew | apply IsS73.set_0 | apply IsS73.set_1 | apply IsS73.set_2 | refine IsS73.far ?_ NB307_297.out _) | exact HI307.out)) hb); have n3_ := Aside0.mk (below_step (by repeat (first | (with_reducible first | exact HB.out | apply below_alloc | apply pw_below_drewN | apply below_drew1 | refine below_set ?_ (IsS73.ge HI307.out) | refine below_set ?_ GE297.out) | exact HB.out)) hb); have n4_ := Aside0.mk (hbox); have n5_ := Aside0.mk ((by rw [hg]; exact (below_size (by repeat (first | (with_reducible first | exact HB.out | apply below_alloc | apply pw_below_drewN | apply below_drew1 | refine below_set ?_ (IsS73.ge HI307.out) | refine below_set ?_ GE297.out) | exact HB.out))) : w.heap.size ≤ gb309)); have n6_ := Aside0.mk ((by rw [hg]; exact (below_size (by repeat (first | (with_reducible first | exact HB.out | apply below_alloc | apply pw_below_drewN | apply below_drew1 | refine below_set ?_ (IsS73.ge HI307.out) | refine below_set ?_ GE297.out) | exact HB.out))) : w.heap.size ≤ gb309)); have n7_ := Aside0.mk ((by rw [hg]; exact Nat.ne_of_lt (blk_lt (g := gb297) (o := .cells #[.slice (some ad308) l0_0.length c0_0, .int .i64 a0_1, .int .i64 a0_2] 24 (0, 0)) (by (with_reducible repeat (first | refine blk_drewN ?_ _ | refine blk_drew ?_ | refine blk_alloc ?_ _)); exact BK297.out)) : gb297 ≠ gb309)); have n8_ := Aside0.mk ((by rw [hg]; exact Nat.ne_of_gt (blk_lt (g := gb297) (o := .cells #[.slice (some ad308) l0_0.length c0_0, .int .i64 a0_1, .int .i64 a0_2] 24 (0, 0)) (by (with_reducible repeat (first | refine blk_drewN ?_ _ | refine blk_drew ?_ | refine blk_alloc ?_ _)); exact BK297.out)) : gb309 ≠ gb297)); have n9_ := Aside0.mk ((by rw [hg]; exact Nat.ne_of_lt (IsS73.lt (show IsS73 w _ gb307 x308000_2 x308001_2 x308002_2 from by repeat (first | (with_reducible first | exact HI307.out | apply IsS73.alloc | apply IsS73.drewN | apply IsS73.drew | apply IsS73.set_0 | apply IsS73.set_1 | apply IsS73.set_2 | refine IsS73.far ?_ NB307_297.out _) | exact HI307.out))) : gb307 ≠ gb309)); have n10_ := Aside0.mk ((by rw [hg]; exact Nat.ne_of_gt (IsS73.lt (show IsS73 w _ gb307 x308000_2 x308001_2 x308002_2 from by repeat (first | (with_reducible first | exact HI307.out | apply IsS73.alloc | apply IsS73.drewN | apply IsS73.drew | apply IsS73.set_0 | apply IsS73.set_1 | apply IsS73.set_2 | refine IsS73.far ?_ NB307_297.out _) | exact HI307.out))) : gb309 ≠ gb307)); clear HO_10; clear BK297; clear HI307; clear HB; have HO_10 := n0_; have BK297 := n1_; have HI307 := n2_; have HB := n3_; have BK309 := n4_; have GW309 := n5_; have GE309 := n6_; have NB297_309 := n7_; have NB309_297 := n8_; have NB307_309 := n9_; have NB309_307 := n10_; clear n0_ n1_ n2_ n3_ n4_ n5_ n6_ n7_ n8_ n9_ n10_; clear hb hbox hg; have hnb28 := NB309_297.out; have hnc28 := NB297_309.out; have hnb29 := NB309_307.out; have hnc29 := NB307_309.out; have hcz30_0 : w27.cell? ⟨gb309, 0, none⟩ = some (.int .i64 0) := (blk_cell BK309.out 0).trans rfl; have hcz30_1 : w27.cell? ⟨gb309, 1, none⟩ = some (.int .i64 0) := (blk_cell BK309.out 1).trans rfl; have hcz30_2 : w27.cell? ⟨gb309, 2, none⟩ = some (.string (⟨#[]⟩ : ByteArray)) := (blk_cell BK309.out 2).trans rfl; have hfz30_0 := blk_frozen BK309.out 0; have hfz30_1 := blk_frozen BK309.out 1; have hfz30_2 := blk_frozen BK309.out 2) | ((with_reducible refine gate_callee (f := 47) rfl ?_); refine goesL_ (some 54) rfl rfl Tryd.func47 (by kernel_rfl) rfl #[.pointer (some ⟨gb307, 0, none⟩), .int .i64 8] rfl (by (try simp only [List.map_toArray, List.map_cons, List.map_nil]); first | done | rfl | (simp only [List.length_drop, List.length_take]; rfl) | (simp (disch := omega) only [u64_in]; rfl)) ?_; (with_reducible refine (factotumref01_Reader_Num.calls k2 gb307 x308000_2 x308001_2 x308002_2 8 t310 t311 t312 t313 w _ ?side1 ?side2 A23.out).mono ?_); (case side1 => repeat (first | (with_reducible first | exact HI307.out | apply IsS73.alloc | apply IsS73.drewN | apply IsS73.drew | apply IsS73.set_0 | apply IsS73.set_1 | apply IsS73.set_2 | refine IsS73.far ?_ NB307_297.out _ | refine IsS73.far ?_ NB307_309.out _) | exact HI307.out)); (case side2 => repeat (first | (with_reducible first | exact HB.out | apply below_alloc | apply pw_below_drewN | apply below_drew1 | refine below_set ?_ (IsS73.ge HI307.out) | refine below_set ?_ GE297.out | refine below_set ?_ GE309.out) | exact HB.out)); rintro e w31 ⟨rfl, hi, hb, hk⟩; refine ⟨_, rfl, ?_⟩; have n0_ := Aside0.mk (Kd.R_mono (Kd.R_keep (IsS73.apart (show IsS73 w _ gb307 x308000_2 x308001_2 x308002_2 from by repeat (first | (with_reducible first | exact HI307.out | apply IsS73.alloc | apply IsS73.drewN | apply IsS73.drew | apply IsS73.set_0 | apply IsS73.set_1 | apply IsS73.set_2 | refine IsS73.far ?_ NB307_297.out _ | refine IsS73.far ?_ NB307_309.out _) | exact HI307.out)) (by (with_reducible repeat (first | apply Kd.R_alloc | apply Kd.R_drewN | apply Kd.R_drew)); exact (Kd.R_mono (Kd.R_far (p := ⟨gb309, 2, none⟩) (Kd.R_far (p := ⟨gb309, 1, none⟩) (Kd.R_far (p := ⟨gb309, 0, none⟩) (Kd.R_mono HO_10.out (fun k_ hk => (⟨hk, hk.2⟩ : _ ∧ k_ ≠ gb309))) (fun _ hk => hk.2) (.int .i64 (rd l0_0 x12_2))) (fun _ hk => hk.2) (.int .i64 0)) (fun _ hk => hk.2) (.string (⟨#[]⟩ : ByteArray))) (fun _ h_ => h_.1))) (by decide)) hk (fun _ h => h.2)) (fun _ h => h.1)); have n1_ := Aside0.mk (KeepBut.blk hk (g' := gb297) (o := .cells #[.slice (some ad308) l0_0.length c0_0, .int .i64 a0_1, .int .i64 a0_2] 24 (0, 0)) (by (with_reducible repeat (first | refine blk_drewN ?_ _ | refine blk_drew ?_ | refine blk_alloc ?_ _)); refine blk_far ?_ NB297_309.out _; (with_reducible repeat (first | refine blk_drewN ?_ _ | refine blk_drew ?_ | refine blk_alloc ?_ _)); refine blk_far ?_ NB297_309.out _; (with_reducible repeat (first | refine blk_drewN ?_ _ | refine blk_drew ?_ | refine blk_alloc ?_ _)); refine blk_far ?_ NB297_309.out _; (with_reducible repeat (first | refine blk_drewN ?_ _ | refine blk_drew ?_ | refine blk_alloc ?_ _)); exact BK297.out) NB297_307.out (by simp)); have n2_ := Aside0.mk (KeepBut.blk hk (g' := gb309) (o := .cells #[.int .i64 (rd l0_0 x12_2), .int .i64 0, .string (⟨#[]⟩ : ByteArray)] 29 (0, 0)) (by (with_reducible repeat (first | refine blk_drewN ?_ _ | refine blk_drew ?_ | refine blk_alloc ?_ _)); refine blk_put (cs := #[.int .i64 (rd l0_0 x12_2), .int .i64 0, .string (⟨#[]⟩ : ByteArray)]) ?_ 2 _ rfl; (with_reducible repeat (first | refine blk_drewN ?_ _ | refine blk_drew ?_ | refine blk_alloc ?_ _)); refine blk_put (cs := #[.int .i64 (rd l0_0 x12_2), .int .i64 0, .string (⟨#[]⟩ : ByteArray)]) ?_ 1 _ rfl; (with_reducible repeat (first | refine blk_drewN ?_ _ | refine blk_drew ?_ | refine blk_alloc ?_ _)); refine blk_put (cs := #[.int .i64 0, .int .i64 0, .string (⟨#[]⟩ : ByteArray)]) ?_ 0 _ rfl; (with_reducible repeat (first | refine blk_drewN ?_ _ | refine blk_drew ?_ | refine blk_alloc ?_ _)); exact BK309.out) NB309_307.out (by simp)); have n3_ := Aside0.mk (hb); have n4_ := Aside0.mk (hi); clear HO_10; clear BK297; clear BK309; clear HB; clear HI307; have HO_10 := n0_; have BK297 := n1_; have BK309 := n2_; have HB := n3_; have HI307 := n4_; clear n0_ n1_ n2_ n3_ n4_; (try clear hb); (try clear hb2); (try clear hk); (try clear hi); have hcz32_0 : w31.cell? ⟨gb309, 0, none⟩ = some (.int .i64 (rd l0_0 x12_2)) := (blk_cell BK309.out 0).trans rfl; have hcz32_1 : w31.cell? ⟨gb309, 1, none⟩ = some (.int .i64 0) := (blk_cell BK309.out 1).trans rfl; have hcz32_2 : w31.cell? ⟨gb309, 2, none⟩ = some (.string (⟨#[]⟩ : ByteArray)) := (blk_cell BK309.out 2).trans rfl; have hfz32_0 := blk_frozen BK309.out 0; have hfz32_1 := blk_frozen BK309.out 1; have hfz32_2 := blk_frozen BK309.out 2) | ((with_reducible refine gate_builtin (b := .append) (xs := #[.tmp 61, .tmp 63]) rfl ?_); (try (refine gate_guard (by rfl) ?_; dsimp only)); at_builtin; refine Kd.R_append k29 (w0 := w) w.heap.size rfl (.tmp 61) (.tmp 63) 26 29 (.agg #[(.int .i64 0), (.int .i64 0), (.string ⟨#[]⟩)]) 32 rfl Tryd.underlying26 info29 rfl (by decide) (by omega) u10 x10_2 (⟨rd l0_0 x12_2, wrap64 (t310), (⟨#[]⟩ : ByteArray)⟩ : S29) [.int .i64 (rd l0_0 x12_2), .int .i64 (wrap64 (t310)), .string (⟨#[]⟩ : ByteArray)] (fun k_ => k_ ≠ gb309) (fun _ => False) rfl (by first | (go_simp; done) | (go_simp; rfl)) ?aP (fun _ hk => hk.elim) ?aF ?aO ?aB ?aS ?aL ?_; (case aP => exact k29_mkM _ _ _ (⟨rd l0_0 x12_2, wrap64 (t310), (⟨#[]⟩ : ByteArray)⟩ : S29)); (case aB => exact (by repeat (first | (with_reducible first | exact HB.out | apply below_alloc | apply pw_below_drewN | apply below_drew1 | refine below_set ?_ (IsS73.ge HI307.out) | refine below_set ?_ GE297.out | refine below_set ?_ GE309.out) | exact HB.out))); (case aF => exact (fun k_ hk => Kd.freshB (g := gb309) (o := .cells #[.int .i64 (rd l0_0 x12_2), .int .i64 (wrap64 (t310)), .string (⟨#[]⟩ : ByteArray)] 29 (0, 0)) (by (with_reducible repeat (first | refine blk_drewN ?_ _ | refine blk_drew ?_ | refine blk_alloc ?_ _)); refine blk_put (cs := #[.int .i64 (rd l0_0 x12_2), .int .i64 0, .string (⟨#[]⟩ : ByteArray)]) ?_ 1 _ rfl; (with_reducible repeat (first | refine blk_drewN ?_ _ | refine blk_drew ?_ | refine blk_alloc ?_ _)); exact BK309.out) k_ hk)); (case aO => exact (by (with_reducible repeat (first | apply Kd.R_alloc | apply Kd.R_drewN | apply Kd.R_drew)); exact Kd.R_mono (Kd.R_far (p := ⟨gb309, 1, none⟩) (Kd.R_mono HO_10.out (fun k_ hk => (⟨hk, hk.2⟩ : _ ∧ k_ ≠ gb309))) (fun _ hk => hk.2) (.int .i64 (wrap64 (t310)))) (fun _ hk => hk.1.2))); (case aS => exact (below_size (by repeat (first | (with_reducible first | exact HB.out | apply below_alloc | apply pw_below_drewN | apply below_drew1 | refine below_set ?_ (IsS73.ge HI307.out) | refine below_set ?_ GE297.out | refine below_set ?_ GE309.out) | exact HB.out)))); (case aL => have := LMc24.out; omega); intro v315 w33 ho hb hg hat; rw [← Ny314.out] at ho; have n0_ := Aside0.mk (blk_grown (g := gb297) (o := .cells #[.slice (some ad308) l0_0.length c0_0, .int .i64 a0_1, .int .i64 a0_2] 24 (0, 0)) (by (with_reducible repeat (first | refine blk_drewN ?_ _ | refine blk_drew ?_ | refine blk_alloc ?_ _)); refine blk_far ?_ NB297_309.out _; (with_reducible repeat (first | refine blk_drewN ?_ _ | refine blk_drew ?_ | refine blk_alloc ?_ _)); exact BK297.out) hg (Kd.R_ne HO_10.out BK297.out (by decide))); have n1_ := Aside0.mk (IsS73.grown (show IsS73 w _ gb307 t311 t312 t313 from by repeat (first | (with_reducible first | exact HI307.out | apply IsS73.alloc | apply IsS73.drewN | apply IsS73.drew | apply IsS73.set_0 | apply IsS73.set_1 | apply IsS73.set_2 | refine IsS73.far ?_ NB307_297.out _ | refine IsS73.far ?_ NB307_309.out _) | exact HI307.out)) hg (IsS73.own_ne HI307.out HO_10.out (by decide))); have n2_ := Aside0.mk (blk_grown (g := gb309) (o := .cells #[.int .i64 (rd l0_0 x12_2), .int .i64 (wrap64 (t310)), .string (⟨#[]⟩ : ByteArray)] 29 (0, 0)) (by (with_reducible repeat (first | refine blk_drewN ?_ _ | refine blk_drew ?_ | refine blk_alloc ?_ _)); refine blk_put (cs := #[.int .i64 (rd l0_0 x12_2), .int .i64 0, .string (⟨#[]⟩ : ByteArray)]) ?_ 1 _ rfl; (with_reducible repeat (first | refine blk_drewN ?_ _ | refine blk_drew ?_ | refine blk_alloc ?_ _)); exact BK309.out) hg (Kd.R_away HO_10.out (fun _ hk => hk.2))); have n3_ := Aside0.mk (hb); have n4_ := Aside0.mk (ho); clear BK297; clear HI307; clear BK309; clear HB; clear HO_10; have BK297 := n0_; have HI307 := n1_; have BK309 := n2_; have HB := n3_; have HO316 := n4_; clear n0_ n1_ n2_ n3_ n4_; clear ho hb hg hat))
                        go_roundg k2
                        case measure => have := HJ6.out; have := HK2.out; omega
                        case rel => exact ⟨(y314), (wrap64 (x12_2 + 1)), (t311), (t312), (t313), (by first | (with_reducible rfl) | (simp; done) | (simp [*]; done) | rfl), H', ⟨by have := HJ6.out; have := HK2.out; omega⟩, ⟨by (with_reducible repeat (first | apply Kd.R_alloc | apply Kd.R_drewN | apply Kd.R_drew)); exact Kd.R_mono HO316.out (fun _ hk => trivial)⟩, ⟨by (with_reducible repeat (first | refine blk_drewN ?_ _ | refine blk_drew ?_ | refine blk_alloc ?_ _)); exact BK297.out⟩, ⟨by repeat (first | (with_reducible first | exact HI307.out | apply IsS73.alloc | apply IsS73.drewN | apply IsS73.drew | apply IsS73.set_0 | apply IsS73.set_1 | apply IsS73.set_2 | refine IsS73.far ?_ NB307_297.out _ | refine IsS73.far ?_ NB307_309.out _) | exact HI307.out)⟩, ⟨by repeat (first | (with_reducible first | exact HB.out | apply below_alloc | apply pw_below_drewN | apply below_drew1 | refine below_set ?_ (IsS73.ge HI307.out) | refine below_set ?_ GE297.out | refine below_set ?_ GE309.out) | exact HB.out)⟩⟩
                      · rw [if_neg c24] at H
                        exact absurd H (by simp)
                    · rw [if_neg c22] at H
                      have c22b0 : ((rd l0_0 x12_2) == 1) = false := beq_eq_false_iff_ne.mpr c22
                      have c22b1 : ((rd l0_0 x12_2) != 1) = true := bne_iff_ne.mpr c22
                      replace H := Option.bind_eq_some_iff.mp H
                      obtain ⟨⟨t317, t318, t319, t320⟩, A340, H⟩ := H
                      replace H : (if x10_2.length < 4398046511104 then (factotumref03_Read.l0 k2 (x10_2 ++ [(⟨rd l0_0 x12_2, 0, t317⟩ : S29)]) (wrap64 (x12_2 + 1)) l0_0 a0_1 a0_2 t318 t319 t320) else (none)) = some (r1, r2) := H
                      have A34 := Aside0.mk A340
                      clear A340
                      by_cases c35 : x10_2.length < 4398046511104
                      · rw [if_pos c35] at H
                        have LMc35 := Aside0.mk c35
                        clear c35
                        obtain ⟨y321, hy321⟩ : ∃ y_ : List (S29), y_ = (x10_2 ++ [(⟨rd l0_0 x12_2, 0, t317⟩ : S29)]) := ⟨_, rfl⟩
                        replace H : (factotumref03_Read.l0 k2 y321 (wrap64 (x12_2 + 1)) l0_0 a0_1 a0_2 t318 t319 t320) = some (r1, r2) := by first | (rw [hy321]; with_reducible exact H) | (have H2_ := (Option.bind_some _ _).symm.trans H; rw [hy321]; with_reducible exact H2_) | (have H2_ := (Option.bind_some _ _).symm.trans H; with_reducible exact H2_) | with_reducible exact H | (rw [hy321]; exact H) | exact H
                        have Ny321 := Aside0.mk hy321
                        clear hy321
                        have H' := Aside0.mk H
                        clear H
                        have hnb36 := NB297_307.out
                        have hnc36 := NB307_297.out
                        have hcz37_0 : wr.cell? ⟨gb297, 0, none⟩ = some (.slice A0_0 l0_0.length c0_0) := (blk_cell BK297.out 0).trans rfl
                        have hcz37_1 : wr.cell? ⟨gb297, 1, none⟩ = some (.int .i64 a0_1) := (blk_cell BK297.out 1).trans rfl
                        have hcz37_2 : wr.cell? ⟨gb297, 2, none⟩ = some (.int .i64 a0_2) := (blk_cell BK297.out 2).trans rfl
                        have hfz37_0 := blk_frozen BK297.out 0
                        have hfz37_1 := blk_frozen BK297.out 1
                        have hfz37_2 := blk_frozen BK297.out 2
                        have p308 : 0 ≤ (x12_2 : Int) := of_decide_eq_true (by first | (with_reducible assumption) | assumption)
                        have q308 : x12_2 < (l0_0.length : Int) := of_decide_eq_true (by first | (with_reducible assumption) | assumption)
                        obtain ⟨ad308, e308, hx308_0⟩ := Kd.at_int HR0_0.out x12_2 p308 q308
                        cases e308
                        replace hx308_0 := (HB.out.cell (World.block_lt_of_cell? w _ hx308_0)).trans hx308_0
                        replace p308 := eq_true p308
                        replace q308 := eq_true q308
                        go_wp2_with (first | ((with_reducible refine gate_dst (N := 13) rfl ?_); (try (refine gate_guard (by rfl) ?_; dsimp only)); refine box_event ?hg (N := 13) ?hd (cs := #[.int .i64 0, .int .i64 0, .string (⟨#[]⟩ : ByteArray)]) (t := 29) ?hr ?_; (case hd => rfl); (case hg => rfl); (case hr => first | (go_simp; done) | (go_simp; rfl)); intro gb309 hg w38 hbox hb; have n0_ := Aside0.mk (Kd.R_below (Kd.R_elderB (by (with_reducible repeat (first | apply Kd.R_alloc | apply Kd.R_drewN | apply Kd.R_drew)); exact HO_10.out) gb309 (Nat.le_of_eq hg.symm)) hb); have n1_ := Aside0.mk (blk_below (g := gb297) (o := .cells #[.slice (some ad308) l0_0.length c0_0, .int .i64 a0_1, .int .i64 a0_2] 24 (0, 0)) (by (with_reducible repeat (first | refine blk_drewN ?_ _ | refine blk_drew ?_ | refine blk_alloc ?_ _)); exact BK297.out) hb); have n2_ := Aside0.mk (IsS73.below (by repeat (first | (with_reducible first | exact HI307.out | apply IsS73.alloc | apply IsS73.drewN | apply IsS73.drew | apply IsS73.set_0 | apply IsS73.set_1 | apply IsS73.set_2 | refine IsS73.far ?_ NB307_297.out _) | exact HI307.out)) hb); have n3_ := Aside0.mk (below_step (by repeat (first | (with_reducible first | exact HB.out | apply below_alloc | apply pw_below_drewN | apply below_drew1 | refine below_set ?_ (IsS73.ge HI307.out) | refine below_set ?_ GE297.out) | exact HB.out)) hb); have n4_ := Aside0.mk (hbox); have n5_ := Aside0.mk ((by rw [hg]; exact (below_size (by repeat (first | (with_reducible first | exact HB.out | apply below_alloc | apply pw_below_drewN | apply below_drew1 | refine below_set ?_ (IsS73.ge HI307.out) | refine below_set ?_ GE297.out) | exact HB.out))) : w.heap.size ≤ gb309)); have n6_ := Aside0.mk ((by rw [hg]; exact (below_size (by repeat (first | (with_reducible first | exact HB.out | apply below_alloc | apply pw_below_drewN | apply below_drew1 | refine below_set ?_ (IsS73.ge HI307.out) | refine below_set ?_ GE297.out) | exact HB.out))) : w.heap.size ≤ gb309)); have n7_ := Aside0.mk ((by rw [hg]; exact Nat.ne_of_lt (blk_lt (g := gb297) (o := .cells #[.slice (some ad308) l0_0.length c0_0, .int .i64 a0_1, .int .i64 a0_2] 24 (0, 0)) (by (with_reducible repeat (first | refine blk_drewN ?_ _ | refine blk_drew ?_ | refine blk_alloc ?_ _)); exact BK297.out)) : gb297 ≠ gb309)); have n8_ := Aside0.mk ((by rw [hg]; exact Nat.ne_of_gt (blk_lt (g := gb297) (o := .cells #[.slice (some ad308) l0_0.length c0_0, .int .i64 a0_1, .int .i64 a0_2] 24 (0, 0)) (by (with_reducible repeat (first | refine blk_drewN ?_ _ | refine blk_drew ?_ | refine blk_alloc ?_ _)); exact BK297.out)) : gb309 ≠ gb297)); have n9_ := Aside0.mk ((by rw [hg]; exact Nat.ne_of_lt (IsS73.lt (show IsS73 w _ gb307 x308000_2 x308001_2 x308002_2 from by repeat (first | (with_reducible first | exact HI307.out | apply IsS73.alloc | apply IsS73.drewN | apply IsS73.drew | apply IsS73.set_0 | apply IsS73.set_1 | apply IsS73.set_2 | refine IsS73.far ?_ NB307_297.out _) | exact HI307.out))) : gb307 ≠ gb309)); have n10_ := Aside0.mk ((by rw [hg]; exact Nat.ne_of_gt (IsS73.lt (show IsS73 w _ gb307 x308000_2 x308001_2 x308002_2 from by repeat (first | (with_reducible first | exact HI307.out | apply IsS73.alloc | apply IsS73.drewN | apply IsS73.drew | apply IsS73.set_0 | apply IsS73.set_1 | apply IsS73.set_2 | refine IsS73.far ?_ NB307_297.out _) | exact HI307.out))) : gb309 ≠ gb307)); clear HO_10; clear BK297; clear HI307; clear HB; have HO_10 := n0_; have BK297 := n1_; have HI307 := n2_; have HB := n3_; have BK309 := n4_; have GW309 := n5_; have GE309 := n6_; have NB297_309 := n7_; have NB309_297 := n8_; have NB307_309 := n9_; have NB309_307 := n10_; clear n0_ n1_ n2_ n3_ n4_ n5_ n6_ n7_ n8_ n9_ n10_; clear hb hbox hg; have hnb39 := NB309_297.out; have hnc39 := NB297_309.out; have hnb40 := NB309_307.out; have hnc40 := NB307_309.out; have hcz41_0 : w38.cell? ⟨gb309, 0, none⟩ = some (.int .i64 0) := (blk_cell BK309.out 0).trans rfl; have hcz41_1 : w38.cell? ⟨gb309, 1, none⟩ = some (.int .i64 0) := (blk_cell BK309.out 1).trans rfl; have hcz41_2 : w38.cell? ⟨gb309, 2, none⟩ = some (.string (⟨#[]⟩ : ByteArray)) := (blk_cell BK309.out 2).trans rfl; have hfz41_0 := blk_frozen BK309.out 0; have hfz41_1 := blk_frozen BK309.out 1; have hfz41_2 := blk_frozen BK309.out 2) | ((with_reducible refine gate_callee (f := 48) rfl ?_); refine goesL_ (some 59) rfl rfl Tryd.func48 (by kernel_rfl) rfl #[.pointer (some ⟨gb307, 0, none⟩), .int .i64 10] rfl (by (try simp only [List.map_toArray, List.map_cons, List.map_nil]); first | done | rfl | (simp only [List.length_drop, List.length_take]; rfl) | (simp (disch := omega) only [u64_in]; rfl)) ?_; (with_reducible refine (factotumref01_Reader_Str.calls gb307 x308000_2 x308001_2 x308002_2 10 t317 t318 t319 t320 w _ ?side1 ?side2 A34.out).mono ?_); (case side1 => repeat (first | (with_reducible first | exact HI307.out | apply IsS73.alloc | apply IsS73.drewN | apply IsS73.drew | apply IsS73.set_0 | apply IsS73.set_1 | apply IsS73.set_2 | refine IsS73.far ?_ NB307_297.out _ | refine IsS73.far ?_ NB307_309.out _) | exact HI307.out)); (case side2 => repeat (first | (with_reducible first | exact HB.out | apply below_alloc | apply pw_below_drewN | apply below_drew1 | refine below_set ?_ (IsS73.ge HI307.out) | refine below_set ?_ GE297.out | refine below_set ?_ GE309.out) | exact HB.out)); rintro e w42 ⟨rfl, hi, hb, hk⟩; refine ⟨_, rfl, ?_⟩; have n0_ := Aside0.mk (Kd.R_mono (Kd.R_keep (IsS73.apart (show IsS73 w _ gb307 x308000_2 x308001_2 x308002_2 from by repeat (first | (with_reducible first | exact HI307.out | apply IsS73.alloc | apply IsS73.drewN | apply IsS73.drew | apply IsS73.set_0 | apply IsS73.set_1 | apply IsS73.set_2 | refine IsS73.far ?_ NB307_297.out _ | refine IsS73.far ?_ NB307_309.out _) | exact HI307.out)) (by (with_reducible repeat (first | apply Kd.R_alloc | apply Kd.R_drewN | apply Kd.R_drew)); exact (Kd.R_mono (Kd.R_far (p := ⟨gb309, 2, none⟩) (Kd.R_far (p := ⟨gb309, 1, none⟩) (Kd.R_far (p := ⟨gb309, 0, none⟩) (Kd.R_mono HO_10.out (fun k_ hk => (⟨hk, hk.2⟩ : _ ∧ k_ ≠ gb309))) (fun _ hk => hk.2) (.int .i64 (rd l0_0 x12_2))) (fun _ hk => hk.2) (.int .i64 0)) (fun _ hk => hk.2) (.string (⟨#[]⟩ : ByteArray))) (fun _ h_ => h_.1))) (by decide)) hk (fun _ h => h.2)) (fun _ h => h.1)); have n1_ := Aside0.mk (KeepBut.blk hk (g' := gb297) (o := .cells #[.slice (some ad308) l0_0.length c0_0, .int .i64 a0_1, .int .i64 a0_2] 24 (0, 0)) (by (with_reducible repeat (first | refine blk_drewN ?_ _ | refine blk_drew ?_ | refine blk_alloc ?_ _)); refine blk_far ?_ NB297_309.out _; (with_reducible repeat (first | refine blk_drewN ?_ _ | refine blk_drew ?_ | refine blk_alloc ?_ _)); refine blk_far ?_ NB297_309.out _; (with_reducible repeat (first | refine blk_drewN ?_ _ | refine blk_drew ?_ | refine blk_alloc ?_ _)); refine blk_far ?_ NB297_309.out _; (with_reducible repeat (first | refine blk_drewN ?_ _ | refine blk_drew ?_ | refine blk_alloc ?_ _)); exact BK297.out) NB297_307.out (by simp)); have n2_ := Aside0.mk (KeepBut.blk hk (g' := gb309) (o := .cells #[.int .i64 (rd l0_0 x12_2), .int .i64 0, .string (⟨#[]⟩ : ByteArray)] 29 (0, 0)) (by (with_reducible repeat (first | refine blk_drewN ?_ _ | refine blk_drew ?_ | refine blk_alloc ?_ _)); refine blk_put (cs := #[.int .i64 (rd l0_0 x12_2), .int .i64 0, .string (⟨#[]⟩ : ByteArray)]) ?_ 2 _ rfl; (with_reducible repeat (first | refine blk_drewN ?_ _ | refine blk_drew ?_ | refine blk_alloc ?_ _)); refine blk_put (cs := #[.int .i64 (rd l0_0 x12_2), .int .i64 0, .string (⟨#[]⟩ : ByteArray)]) ?_ 1 _ rfl; (with_reducible repeat (first | refine blk_drewN ?_ _ | refine blk_drew ?_ | refine blk_alloc ?_ _)); refine blk_put (cs := #[.int .i64 0, .int .i64 0, .string (⟨#[]⟩ : ByteArray)]) ?_ 0 _ rfl; (with_reducible repeat (first | refine blk_drewN ?_ _ | refine blk_drew ?_ | refine blk_alloc ?_ _)); exact BK309.out) NB309_307.out (by simp)); have n3_ := Aside0.mk (hb); have n4_ := Aside0.mk (hi); clear HO_10; clear BK297; clear BK309; clear HB; clear HI307; have HO_10 := n0_; have BK297 := n1_; have BK309 := n2_; have HB := n3_; have HI307 := n4_; clear n0_ n1_ n2_ n3_ n4_; (try clear hb); (try clear hb2); (try clear hk); (try clear hi); have hcz43_0 : w42.cell? ⟨gb309, 0, none⟩ = some (.int .i64 (rd l0_0 x12_2)) := (blk_cell BK309.out 0).trans rfl; have hcz43_1 : w42.cell? ⟨gb309, 1, none⟩ = some (.int .i64 0) := (blk_cell BK309.out 1).trans rfl; have hcz43_2 : w42.cell? ⟨gb309, 2, none⟩ = some (.string (⟨#[]⟩ : ByteArray)) := (blk_cell BK309.out 2).trans rfl; have hfz43_0 := blk_frozen BK309.out 0; have hfz43_1 := blk_frozen BK309.out 1; have hfz43_2 := blk_frozen BK309.out 2) | ((with_reducible refine gate_builtin (b := .append) (xs := #[.tmp 61, .tmp 63]) rfl ?_); (try (refine gate_guard (by rfl) ?_; dsimp only)); at_builtin; refine Kd.R_append k29 (w0 := w) w.heap.size rfl (.tmp 61) (.tmp 63) 26 29 (.agg #[(.int .i64 0), (.int .i64 0), (.string ⟨#[]⟩)]) 32 rfl Tryd.underlying26 info29 rfl (by decide) (by omega) u10 x10_2 (⟨rd l0_0 x12_2, 0, t317⟩ : S29) [.int .i64 (rd l0_0 x12_2), .int .i64 0, .string t317] (fun k_ => k_ ≠ gb309) (fun _ => False) rfl (by first | (go_simp; done) | (go_simp; rfl)) ?aP (fun _ hk => hk.elim) ?aF ?aO ?aB ?aS ?aL ?_; (case aP => exact k29_mkM _ _ _ (⟨rd l0_0 x12_2, 0, t317⟩ : S29)); (case aB => exact (by repeat (first | (with_reducible first | exact HB.out | apply below_alloc | apply pw_below_drewN | apply below_drew1 | refine below_set ?_ (IsS73.ge HI307.out) | refine below_set ?_ GE297.out | refine below_set ?_ GE309.out) | exact HB.out))); (case aF => exact (fun k_ hk => Kd.freshB (g := gb309) (o := .cells #[.int .i64 (rd l0_0 x12_2), .int .i64 0, .string t317] 29 (0, 0)) (by (with_reducible repeat (first | refine blk_drewN ?_ _ | refine blk_drew ?_ | refine blk_alloc ?_ _)); refine blk_put (cs := #[.int .i64 (rd l0_0 x12_2), .int .i64 0, .string (⟨#[]⟩ : ByteArray)]) ?_ 2 _ rfl; (with_reducible repeat (first | refine blk_drewN ?_ _ | refine blk_drew ?_ | refine blk_alloc ?_ _)); exact BK309.out) k_ hk)); (case aO => exact (by (with_reducible repeat (first | apply Kd.R_alloc | apply Kd.R_drewN | apply Kd.R_drew)); exact Kd.R_mono (Kd.R_far (p := ⟨gb309, 2, none⟩) (Kd.R_mono HO_10.out (fun k_ hk => (⟨hk, hk.2⟩ : _ ∧ k_ ≠ gb309))) (fun _ hk => hk.2) (.string t317)) (fun _ hk => hk.1.2))); (case aS => exact (below_size (by repeat (first | (with_reducible first | exact HB.out | apply below_alloc | apply pw_below_drewN | apply below_drew1 | refine below_set ?_ (IsS73.ge HI307.out) | refine below_set ?_ GE297.out | refine below_set ?_ GE309.out) | exact HB.out)))); (case aL => have := LMc35.out; omega); intro v322 w44 ho hb hg hat; rw [← Ny321.out] at ho; have n0_ := Aside0.mk (blk_grown (g := gb297) (o := .cells #[.slice (some ad308) l0_0.length c0_0, .int .i64 a0_1, .int .i64 a0_2] 24 (0, 0)) (by (with_reducible repeat (first | refine blk_drewN ?_ _ | refine blk_drew ?_ | refine blk_alloc ?_ _)); refine blk_far ?_ NB297_309.out _; (with_reducible repeat (first | refine blk_drewN ?_ _ | refine blk_drew ?_ | refine blk_alloc ?_ _)); exact BK297.out) hg (Kd.R_ne HO_10.out BK297.out (by decide))); have n1_ := Aside0.mk (IsS73.grown (show IsS73 w _ gb307 t318 t319 t320 from by repeat (first | (with_reducible first | exact HI307.out | apply IsS73.alloc | apply IsS73.drewN | apply IsS73.drew | apply IsS73.set_0 | apply IsS73.set_1 | apply IsS73.set_2 | refine IsS73.far ?_ NB307_297.out _ | refine IsS73.far ?_ NB307_309.out _) | exact HI307.out)) hg (IsS73.own_ne HI307.out HO_10.out (by decide))); have n2_ := Aside0.mk (blk_grown (g := gb309) (o := .cells #[.int .i64 (rd l0_0 x12_2), .int .i64 0, .string t317] 29 (0, 0)) (by (with_reducible repeat (first | refine blk_drewN ?_ _ | refine blk_drew ?_ | refine blk_alloc ?_ _)); refine blk_put (cs := #[.int .i64 (rd l0_0 x12_2), .int .i64 0, .string (⟨#[]⟩ : ByteArray)]) ?_ 2 _ rfl; (with_reducible repeat (first | refine blk_drewN ?_ _ | refine blk_drew ?_ | refine blk_alloc ?_ _)); exact BK309.out) hg (Kd.R_away HO_10.out (fun _ hk => hk.2))); have n3_ := Aside0.mk (hb); have n4_ := Aside0.mk (ho); clear BK297; clear HI307; clear BK309; clear HB; clear HO_10; have BK297 := n0_; have HI307 := n1_; have BK309 := n2_; have HB := n3_; have HO323 := n4_; clear n0_ n1_ n2_ n3_ n4_; clear ho hb hg hat))
                        go_roundg k2
                        case measure => have := HJ6.out; have := HK2.out; omega
                        case rel => exact ⟨(y321), (wrap64 (x12_2 + 1)), (t318), (t319), (t320), (by first | (with_reducible rfl) | (simp; done) | (simp [*]; done) | rfl), H', ⟨by have := HJ6.out; have := HK2.out; omega⟩, ⟨by (with_reducible repeat (first | apply Kd.R_alloc | apply Kd.R_drewN | apply Kd.R_drew)); exact Kd.R_mono HO323.out (fun _ hk => trivial)⟩, ⟨by (with_reducible repeat (first | refine blk_drewN ?_ _ | refine blk_drew ?_ | refine blk_alloc ?_ _)); exact BK297.out⟩, ⟨by repeat (first | (with_reducible first | exact HI307.out | apply IsS73.alloc | apply IsS73.drewN | apply IsS73.drew | apply IsS73.set_0 | apply IsS73.set_1 | apply IsS73.set_2 | refine IsS73.far ?_ NB307_297.out _ | refine IsS73.far ?_ NB307_309.out _) | exact HI307.out)⟩, ⟨by repeat (first | (with_reducible first | exact HB.out | apply below_alloc | apply pw_below_drewN | apply below_drew1 | refine below_set ?_ (IsS73.ge HI307.out) | refine below_set ?_ GE297.out | refine below_set ?_ GE309.out) | exact HB.out)⟩⟩
                      · rw [if_neg c35] at H
                        exact absurd H (by simp)
                  · rw [if_neg c21] at H
                    exact absurd H (by simp)
                · rw [if_neg c20] at H
                  have c20b0 : decide (x12_2 < (l0_0.length : Int)) = false := decide_eq_false c20
                  clear c20
                  replace H := Option.bind_eq_some_iff.mp H
                  obtain ⟨⟨t324, t325, t326, t327⟩, A450, H⟩ := H
                  replace H : (if t324 = 0 then ((factotumref03_Fits.f k2 l0_0 a0_1 a0_2 x10_2).bind fun t328 => (if t328 = 0 then (some (x10_2, 0)) else (some (([] : List (S29)), 10)))) else (some (([] : List (S29)), 10))) = some (r1, r2) := H
                  have A45 := Aside0.mk A450
                  clear A450
                  by_cases c46 : t324 = 0
                  · rw [if_pos c46] at H
                    have c46b0 : (t324 == 0) = true := beq_iff_eq.mpr c46
                    have c46b1 : (t324 != 0) = false := bne_eq_false_iff_eq.mpr c46
                    clear c46
                    replace H := Option.bind_eq_some_iff.mp H
                    obtain ⟨t328, A470, H⟩ := H
                    replace H : (if t328 = 0 then (some (x10_2, 0)) else (some (([] : List (S29)), 10))) = some (r1, r2) := H
                    have A47 := Aside0.mk A470
                    clear A470
                    by_cases c48 : t328 = 0
                    · rw [if_pos c48] at H
                      have c48b0 : (t328 == 0) = true := beq_iff_eq.mpr c48
                      have c48b1 : (t328 != 0) = false := bne_eq_false_iff_eq.mpr c48
                      clear c48
                      simp only [Option.some.injEq, Prod.mk.injEq] at H
                      obtain ⟨rfl, rfl⟩ := H
                      have hnb49 := NB297_307.out
                      have hnc49 := NB307_297.out
                      have hcz50_0 : wr.cell? ⟨gb297, 0, none⟩ = some (.slice A0_0 l0_0.length c0_0) := (blk_cell BK297.out 0).trans rfl
                      have hcz50_1 : wr.cell? ⟨gb297, 1, none⟩ = some (.int .i64 a0_1) := (blk_cell BK297.out 1).trans rfl
                      have hcz50_2 : wr.cell? ⟨gb297, 2, none⟩ = some (.int .i64 a0_2) := (blk_cell BK297.out 2).trans rfl
                      have hfz50_0 := blk_frozen BK297.out 0
                      have hfz50_1 := blk_frozen BK297.out 1
                      have hfz50_2 := blk_frozen BK297.out 2
                      go_wp2_with (first | ((with_reducible refine gate_callee (f := 49) rfl ?_); refine goesL_ (some 66) rfl rfl Tryd.func49 (by kernel_rfl) rfl #[.pointer (some ⟨gb307, 0, none⟩)] rfl (by (try simp only [List.map_toArray, List.map_cons, List.map_nil]); first | done | rfl | (simp only [List.length_drop, List.length_take]; rfl) | (simp (disch := omega) only [u64_in]; rfl)) ?_; (with_reducible refine (factotumref01_Reader_Done.calls gb307 x308000_2 x308001_2 x308002_2 t324 t325 t326 t327 w _ ?side1 ?side2 A45.out).mono ?_); (case side1 => repeat (first | (with_reducible first | exact HI307.out | apply IsS73.alloc | apply IsS73.drewN | apply IsS73.drew | apply IsS73.set_0 | apply IsS73.set_1 | apply IsS73.set_2 | refine IsS73.far ?_ NB307_297.out _) | exact HI307.out)); (case side2 => repeat (first | (with_reducible first | exact HB.out | apply below_alloc | apply pw_below_drewN | apply below_drew1 | refine below_set ?_ (IsS73.ge HI307.out) | refine below_set ?_ GE297.out) | exact HB.out)); rintro e w51 ⟨rfl, hi, hb, hk⟩; refine ⟨_, rfl, ?_⟩; have n0_ := Aside0.mk (Kd.R_mono (Kd.R_keep (IsS73.apart (show IsS73 w _ gb307 x308000_2 x308001_2 x308002_2 from by repeat (first | (with_reducible first | exact HI307.out | apply IsS73.alloc | apply IsS73.drewN | apply IsS73.drew | apply IsS73.set_0 | apply IsS73.set_1 | apply IsS73.set_2 | refine IsS73.far ?_ NB307_297.out _) | exact HI307.out)) (by (with_reducible repeat (first | apply Kd.R_alloc | apply Kd.R_drewN | apply Kd.R_drew)); exact HO_10.out) (by decide)) hk (fun _ h => h.2)) (fun _ h => h.1)); have n1_ := Aside0.mk (KeepBut.blk hk (g' := gb297) (o := .cells #[.slice A0_0 l0_0.length c0_0, .int .i64 a0_1, .int .i64 a0_2] 24 (0, 0)) (by (with_reducible repeat (first | refine blk_drewN ?_ _ | refine blk_drew ?_ | refine blk_alloc ?_ _)); exact BK297.out) NB297_307.out (by simp)); have n2_ := Aside0.mk (hb); have n3_ := Aside0.mk (hi); clear HO_10; clear BK297; clear HB; clear HI307; have HO_10 := n0_; have BK297 := n1_; have HB := n2_; have HI307 := n3_; clear n0_ n1_ n2_ n3_; (try clear hb); (try clear hb2); (try clear hk); (try clear hi); have hcz52_0 : w51.cell? ⟨gb297, 0, none⟩ = some (.slice A0_0 l0_0.length c0_0) := (blk_cell BK297.out 0).trans rfl; have hcz52_1 : w51.cell? ⟨gb297, 1, none⟩ = some (.int .i64 a0_1) := (blk_cell BK297.out 1).trans rfl; have hcz52_2 : w51.cell? ⟨gb297, 2, none⟩ = some (.int .i64 a0_2) := (blk_cell BK297.out 2).trans rfl; have hfz52_0 := blk_frozen BK297.out 0; have hfz52_1 := blk_frozen BK297.out 1; have hfz52_2 := blk_frozen BK297.out 2; obtain ⟨Ao53, co53, eo53⟩ := Kd.R_slice HO_10.out; subst eo53) | (go_at_call 16; (with_reducible refine (factotumref03_Fits.calls k2 _ _ l0_0 a0_1 a0_2 _ _ x10_2 t328 _ ?side1 ?side2 ?side3 ?side4 A47.out).mono ?_); (case side1 => repeat (first | exact (Kd.C_below HR0_0.out HB.out) | (with_reducible refine Kd.C_alloc ?_ _) | (with_reducible refine Kd.C_drewN ?_ _) | (with_reducible refine Kd.C_drew ?_))); (case side2 => exact HC0_0.out); (case side3 => repeat (first | exact (Kd.R_reads' HO_10.out).2.2 | (with_reducible refine Kd.C_alloc ?_ _) | (with_reducible refine Kd.C_drewN ?_ _) | (with_reducible refine Kd.C_drew ?_))); (case side4 => exact (Kd.R_reads' HO_10.out).2.1); rintro e w54 ⟨rfl, hb⟩; have n0_ := Aside0.mk (Kd.R_below (by (with_reducible repeat (first | apply Kd.R_alloc | apply Kd.R_drewN | apply Kd.R_drew)); exact HO_10.out) hb); have n1_ := Aside0.mk (blk_below (g := gb297) (o := .cells #[.slice A0_0 l0_0.length c0_0, .int .i64 a0_1, .int .i64 a0_2] 24 (0, 0)) (by (with_reducible repeat (first | refine blk_drewN ?_ _ | refine blk_drew ?_ | refine blk_alloc ?_ _)); exact BK297.out) hb); have n2_ := Aside0.mk (IsS73.below (by repeat (first | (with_reducible first | exact HI307.out | apply IsS73.alloc | apply IsS73.drewN | apply IsS73.drew | apply IsS73.set_0 | apply IsS73.set_1 | apply IsS73.set_2 | refine IsS73.far ?_ NB307_297.out _) | exact HI307.out)) hb); have n3_ := Aside0.mk (below_step (by repeat (first | (with_reducible first | exact HB.out | apply below_alloc | apply pw_below_drewN | apply below_drew1 | refine below_set ?_ (IsS73.ge HI307.out) | refine below_set ?_ GE297.out) | exact HB.out)) hb); clear HO_10; clear BK297; clear HI307; clear HB; have HO_10 := n0_; have BK297 := n1_; have HI307 := n2_; have HB := n3_; clear n0_ n1_ n2_ n3_; (try clear hb); (try clear hb2); (try clear hk); (try clear hi)))
                      go_ret2
                      exact ⟨_, by first | (with_reducible rfl) | (simp only [isEmpty_bne, Bool.not_not] <;> with_reducible rfl) | (simp [errW_none, errW_some] <;> with_reducible rfl) | (simp only [isEmpty_bne, Bool.not_not] <;> rfl) | rfl | (simp [errW_none, errW_some] <;> rfl) | (simp [*, errW_none, errW_some] <;> rfl), by (with_reducible repeat (first | apply Kd.R_alloc | apply Kd.R_drewN | apply Kd.R_drew)); exact HO_10.out, by repeat (first | (with_reducible first | exact HB.out | apply below_alloc | apply pw_below_drewN | apply below_drew1 | refine below_set ?_ (IsS73.ge HI307.out) | refine below_set ?_ GE297.out) | exact HB.out)⟩
                    · rw [if_neg c48] at H
                      have c48b0 : (t328 == 0) = false := beq_eq_false_iff_ne.mpr c48
                      have c48b1 : (t328 != 0) = true := bne_iff_ne.mpr c48
                      simp only [Option.some.injEq, Prod.mk.injEq] at H
                      obtain ⟨rfl, rfl⟩ := H
                      have hnb55 := NB297_307.out
                      have hnc55 := NB307_297.out
                      have hcz56_0 : wr.cell? ⟨gb297, 0, none⟩ = some (.slice A0_0 l0_0.length c0_0) := (blk_cell BK297.out 0).trans rfl
                      have hcz56_1 : wr.cell? ⟨gb297, 1, none⟩ = some (.int .i64 a0_1) := (blk_cell BK297.out 1).trans rfl
                      have hcz56_2 : wr.cell? ⟨gb297, 2, none⟩ = some (.int .i64 a0_2) := (blk_cell BK297.out 2).trans rfl
                      have hfz56_0 := blk_frozen BK297.out 0
                      have hfz56_1 := blk_frozen BK297.out 1
                      have hfz56_2 := blk_frozen BK297.out 2
                      go_wp2_with (first | ((with_reducible refine gate_callee (f := 49) rfl ?_); refine goesL_ (some 66) rfl rfl Tryd.func49 (by kernel_rfl) rfl #[.pointer (some ⟨gb307, 0, none⟩)] rfl (by (try simp only [List.map_toArray, List.map_cons, List.map_nil]); first | done | rfl | (simp only [List.length_drop, List.length_take]; rfl) | (simp (disch := omega) only [u64_in]; rfl)) ?_; (with_reducible refine (factotumref01_Reader_Done.calls gb307 x308000_2 x308001_2 x308002_2 t324 t325 t326 t327 w _ ?side1 ?side2 A45.out).mono ?_); (case side1 => repeat (first | (with_reducible first | exact HI307.out | apply IsS73.alloc | apply IsS73.drewN | apply IsS73.drew | apply IsS73.set_0 | apply IsS73.set_1 | apply IsS73.set_2 | refine IsS73.far ?_ NB307_297.out _) | exact HI307.out)); (case side2 => repeat (first | (with_reducible first | exact HB.out | apply below_alloc | apply pw_below_drewN | apply below_drew1 | refine below_set ?_ (IsS73.ge HI307.out) | refine below_set ?_ GE297.out) | exact HB.out)); rintro e w57 ⟨rfl, hi, hb, hk⟩; refine ⟨_, rfl, ?_⟩; have n0_ := Aside0.mk (Kd.R_mono (Kd.R_keep (IsS73.apart (show IsS73 w _ gb307 x308000_2 x308001_2 x308002_2 from by repeat (first | (with_reducible first | exact HI307.out | apply IsS73.alloc | apply IsS73.drewN | apply IsS73.drew | apply IsS73.set_0 | apply IsS73.set_1 | apply IsS73.set_2 | refine IsS73.far ?_ NB307_297.out _) | exact HI307.out)) (by (with_reducible repeat (first | apply Kd.R_alloc | apply Kd.R_drewN | apply Kd.R_drew)); exact HO_10.out) (by decide)) hk (fun _ h => h.2)) (fun _ h => h.1)); have n1_ := Aside0.mk (KeepBut.blk hk (g' := gb297) (o := .cells #[.slice A0_0 l0_0.length c0_0, .int .i64 a0_1, .int .i64 a0_2] 24 (0, 0)) (by (with_reducible repeat (first | refine blk_drewN ?_ _ | refine blk_drew ?_ | refine blk_alloc ?_ _)); exact BK297.out) NB297_307.out (by simp)); have n2_ := Aside0.mk (hb); have n3_ := Aside0.mk (hi); clear HO_10; clear BK297; clear HB; clear HI307; have HO_10 := n0_; have BK297 := n1_; have HB := n2_; have HI307 := n3_; clear n0_ n1_ n2_ n3_; (try clear hb); (try clear hb2); (try clear hk); (try clear hi); have hcz58_0 : w57.cell? ⟨gb297, 0, none⟩ = some (.slice A0_0 l0_0.length c0_0) := (blk_cell BK297.out 0).trans rfl; have hcz58_1 : w57.cell? ⟨gb297, 1, none⟩ = some (.int .i64 a0_1) := (blk_cell BK297.out 1).trans rfl; have hcz58_2 : w57.cell? ⟨gb297, 2, none⟩ = some (.int .i64 a0_2) := (blk_cell BK297.out 2).trans rfl; have hfz58_0 := blk_frozen BK297.out 0; have hfz58_1 := blk_frozen BK297.out 1; have hfz58_2 := blk_frozen BK297.out 2; obtain ⟨Ao59, co59, eo59⟩ := Kd.R_slice HO_10.out; subst eo59) | (go_at_call 16; (with_reducible refine (factotumref03_Fits.calls k2 _ _ l0_0 a0_1 a0_2 _ _ x10_2 t328 _ ?side1 ?side2 ?side3 ?side4 A47.out).mono ?_); (case side1 => repeat (first | exact (Kd.C_below HR0_0.out HB.out) | (with_reducible refine Kd.C_alloc ?_ _) | (with_reducible refine Kd.C_drewN ?_ _) | (with_reducible refine Kd.C_drew ?_))); (case side2 => exact HC0_0.out); (case side3 => repeat (first | exact (Kd.R_reads' HO_10.out).2.2 | (with_reducible refine Kd.C_alloc ?_ _) | (with_reducible refine Kd.C_drewN ?_ _) | (with_reducible refine Kd.C_drew ?_))); (case side4 => exact (Kd.R_reads' HO_10.out).2.1); rintro e w60 ⟨rfl, hb⟩; have n0_ := Aside0.mk (Kd.R_below (by (with_reducible repeat (first | apply Kd.R_alloc | apply Kd.R_drewN | apply Kd.R_drew)); exact HO_10.out) hb); have n1_ := Aside0.mk (blk_below (g := gb297) (o := .cells #[.slice A0_0 l0_0.length c0_0, .int .i64 a0_1, .int .i64 a0_2] 24 (0, 0)) (by (with_reducible repeat (first | refine blk_drewN ?_ _ | refine blk_drew ?_ | refine blk_alloc ?_ _)); exact BK297.out) hb); have n2_ := Aside0.mk (IsS73.below (by repeat (first | (with_reducible first | exact HI307.out | apply IsS73.alloc | apply IsS73.drewN | apply IsS73.drew | apply IsS73.set_0 | apply IsS73.set_1 | apply IsS73.set_2 | refine IsS73.far ?_ NB307_297.out _) | exact HI307.out)) hb); have n3_ := Aside0.mk (below_step (by repeat (first | (with_reducible first | exact HB.out | apply below_alloc | apply pw_below_drewN | apply below_drew1 | refine below_set ?_ (IsS73.ge HI307.out) | refine below_set ?_ GE297.out) | exact HB.out)) hb); clear HO_10; clear BK297; clear HI307; clear HB; have HO_10 := n0_; have BK297 := n1_; have HI307 := n2_; have HB := n3_; clear n0_ n1_ n2_ n3_; (try clear hb); (try clear hb2); (try clear hk); (try clear hi)))
                      go_ret2
                      exact ⟨_, by first | (with_reducible rfl) | (simp only [isEmpty_bne, Bool.not_not] <;> with_reducible rfl) | (simp [errW_none, errW_some] <;> with_reducible rfl) | (simp only [isEmpty_bne, Bool.not_not] <;> rfl) | rfl | (simp [errW_none, errW_some] <;> rfl) | (simp [*, errW_none, errW_some] <;> rfl), by first | exact Kd.R_nil _ _ _ _ _ | exact Kd.N_nil _ _ _ _ _ | exact Kd.V_nil _ _ _ _ _ | exact Kd.Q_nil _ _ _ _ _ | exact Kd.S_nil _ _ _ _ _, by repeat (first | (with_reducible first | exact HB.out | apply below_alloc | apply pw_below_drewN | apply below_drew1 | refine below_set ?_ (IsS73.ge HI307.out) | refine below_set ?_ GE297.out) | exact HB.out)⟩
                  · rw [if_neg c46] at H
                    have c46b0 : (t324 == 0) = false := beq_eq_false_iff_ne.mpr c46
                    have c46b1 : (t324 != 0) = true := bne_iff_ne.mpr c46
                    simp only [Option.some.injEq, Prod.mk.injEq] at H
                    obtain ⟨rfl, rfl⟩ := H
                    have hnb61 := NB297_307.out
                    have hnc61 := NB307_297.out
                    have hcz62_0 : wr.cell? ⟨gb297, 0, none⟩ = some (.slice A0_0 l0_0.length c0_0) := (blk_cell BK297.out 0).trans rfl
                    have hcz62_1 : wr.cell? ⟨gb297, 1, none⟩ = some (.int .i64 a0_1) := (blk_cell BK297.out 1).trans rfl
                    have hcz62_2 : wr.cell? ⟨gb297, 2, none⟩ = some (.int .i64 a0_2) := (blk_cell BK297.out 2).trans rfl
                    have hfz62_0 := blk_frozen BK297.out 0
                    have hfz62_1 := blk_frozen BK297.out 1
                    have hfz62_2 := blk_frozen BK297.out 2
                    go_wp2_with (first | ((with_reducible refine gate_callee (f := 49) rfl ?_); refine goesL_ (some 66) rfl rfl Tryd.func49 (by kernel_rfl) rfl #[.pointer (some ⟨gb307, 0, none⟩)] rfl (by (try simp only [List.map_toArray, List.map_cons, List.map_nil]); first | done | rfl | (simp only [List.length_drop, List.length_take]; rfl) | (simp (disch := omega) only [u64_in]; rfl)) ?_; (with_reducible refine (factotumref01_Reader_Done.calls gb307 x308000_2 x308001_2 x308002_2 t324 t325 t326 t327 w _ ?side1 ?side2 A45.out).mono ?_); (case side1 => repeat (first | (with_reducible first | exact HI307.out | apply IsS73.alloc | apply IsS73.drewN | apply IsS73.drew | apply IsS73.set_0 | apply IsS73.set_1 | apply IsS73.set_2 | refine IsS73.far ?_ NB307_297.out _) | exact HI307.out)); (case side2 => repeat (first | (with_reducible first | exact HB.out | apply below_alloc | apply pw_below_drewN | apply below_drew1 | refine below_set ?_ (IsS73.ge HI307.out) | refine below_set ?_ GE297.out) | exact HB.out)); rintro e w63 ⟨rfl, hi, hb, hk⟩; refine ⟨_, rfl, ?_⟩; have n0_ := Aside0.mk (Kd.R_mono (Kd.R_keep (IsS73.apart (show IsS73 w _ gb307 x308000_2 x308001_2 x308002_2 from by repeat (first | (with_reducible first | exact HI307.out | apply IsS73.alloc | apply IsS73.drewN | apply IsS73.drew | apply IsS73.set_0 | apply IsS73.set_1 | apply IsS73.set_2 | refine IsS73.far ?_ NB307_297.out _) | exact HI307.out)) (by (with_reducible repeat (first | apply Kd.R_alloc | apply Kd.R_drewN | apply Kd.R_drew)); exact HO_10.out) (by decide)) hk (fun _ h => h.2)) (fun _ h => h.1)); have n1_ := Aside0.mk (KeepBut.blk hk (g' := gb297) (o := .cells #[.slice A0_0 l0_0.length c0_0, .int .i64 a0_1, .int .i64 a0_2] 24 (0, 0)) (by (with_reducible repeat (first | refine blk_drewN ?_ _ | refine blk_drew ?_ | refine blk_alloc ?_ _)); exact BK297.out) NB297_307.out (by simp)); have n2_ := Aside0.mk (hb); have n3_ := Aside0.mk (hi); clear HO_10; clear BK297; clear HB; clear HI307; have HO_10 := n0_; have BK297 := n1_; have HB := n2_; have HI307 := n3_; clear n0_ n1_ n2_ n3_; (try clear hb); (try clear hb2); (try clear hk); (try clear hi)))
                    go_ret2
                    exact ⟨_, by first | (with_reducible rfl) | (simp only [isEmpty_bne, Bool.not_not] <;> with_reducible rfl) | (simp [errW_none, errW_some] <;> with_reducible rfl) | (simp only [isEmpty_bne, Bool.not_not] <;> rfl) | rfl | (simp [errW_none, errW_some] <;> rfl) | (simp [*, errW_none, errW_some] <;> rfl), by first | exact Kd.R_nil _ _ _ _ _ | exact Kd.N_nil _ _ _ _ _ | exact Kd.V_nil _ _ _ _ _ | exact Kd.Q_nil _ _ _ _ _ | exact Kd.S_nil _ _ _ _ _, by repeat (first | (with_reducible first | exact HB.out | apply below_alloc | apply pw_below_drewN | apply below_drew1 | refine below_set ?_ (IsS73.ge HI307.out) | refine below_set ?_ GE297.out) | exact HB.out)⟩
          · rw [if_neg c15] at H
            exact absurd H (by simp)
  · replace c5 := Bool.eq_false_iff.mpr c5
    subst c5
    have H1 : (some (([] : List (S29)), 4)) = some (r1, r2) := by rw [if_neg (show ¬ (false = true) by decide)] at H; exact H
    clear H
    have H := H1
    clear H1
    simp only [Option.some.injEq, Prod.mk.injEq] at H
    obtain ⟨rfl, rfl⟩ := H
    go_enter Tryd.func20, Tryd.ntmps20
    go_wp2_with (first | ((with_reducible refine gate_dst (N := 3) rfl ?_); (try (refine gate_guard (by rfl) ?_; dsimp only)); refine box_event ?hg (N := 3) ?hd (cs := #[.slice A0_0 l0_0.length c0_0, .int .i64 a0_1, .int .i64 a0_2]) (t := 24) ?hr ?_; (case hd => rfl); (case hg => rfl); (case hr => first | (go_simp; done) | (go_simp; rfl)); intro gb297 hg w64 hbox hb; have n0_ := Aside0.mk (below_step (by repeat (first | (with_reducible first | exact HB.out | apply below_alloc | apply pw_below_drewN | apply below_drew1) | exact HB.out)) hb); have n1_ := Aside0.mk (hbox); have n2_ := Aside0.mk ((by rw [hg]; exact (below_size (by repeat (first | (with_reducible first | exact HB.out | apply below_alloc | apply pw_below_drewN | apply below_drew1) | exact HB.out))) : w.heap.size ≤ gb297)); have n3_ := Aside0.mk ((by rw [hg]; exact (below_size (by repeat (first | (with_reducible first | exact HB.out | apply below_alloc | apply pw_below_drewN | apply below_drew1) | exact HB.out))) : w.heap.size ≤ gb297)); clear HB; have HB := n0_; have BK297 := n1_; have GW297 := n2_; have GE297 := n3_; clear n0_ n1_ n2_ n3_; clear hb hbox hg; have hcz65_0 : w64.cell? ⟨gb297, 0, none⟩ = some (.slice A0_0 l0_0.length c0_0) := (blk_cell BK297.out 0).trans rfl; have hcz65_1 : w64.cell? ⟨gb297, 1, none⟩ = some (.int .i64 a0_1) := (blk_cell BK297.out 1).trans rfl; have hcz65_2 : w64.cell? ⟨gb297, 2, none⟩ = some (.int .i64 a0_2) := (blk_cell BK297.out 2).trans rfl; have hfz65_0 := blk_frozen BK297.out 0; have hfz65_1 := blk_frozen BK297.out 1; have hfz65_2 := blk_frozen BK297.out 2) | ((with_reducible refine gate_callee (f := 14) rfl ?_); refine goesL_ (some 16) rfl rfl Tryd.func14 (by kernel_rfl) rfl #[.agg #[.slice A0_0 l0_0.length c0_0, .int .i64 a0_1, .int .i64 a0_2]] rfl (by (try simp only [List.map_toArray, List.map_cons, List.map_nil]); first | done | rfl | (simp only [List.length_drop, List.length_take]; rfl) | (simp (disch := omega) only [u64_in]; rfl)) ?_; (with_reducible refine (factotumref03_Right.calls k _ _ l0_0 a0_1 a0_2 false _ ?side1 ?side2 A4.out).mono ?_); (case side1 => repeat (first | exact (Kd.C_below HR0_0.out HB.out) | (with_reducible refine Kd.C_alloc ?_ _) | (with_reducible refine Kd.C_drewN ?_ _) | (with_reducible refine Kd.C_drew ?_))); (case side2 => exact HC0_0.out); rintro e w66 ⟨rfl, hb⟩; refine ⟨_, rfl, ?_⟩; have n0_ := Aside0.mk (blk_below (g := gb297) (o := .cells #[.slice A0_0 l0_0.length c0_0, .int .i64 a0_1, .int .i64 a0_2] 24 (0, 0)) (by (with_reducible repeat (first | refine blk_drewN ?_ _ | refine blk_drew ?_ | refine blk_alloc ?_ _)); exact BK297.out) hb); have n1_ := Aside0.mk (below_step (by repeat (first | (with_reducible first | exact HB.out | apply below_alloc | apply pw_below_drewN | apply below_drew1 | refine below_set ?_ GE297.out) | exact HB.out)) hb); clear BK297; clear HB; have BK297 := n0_; have HB := n1_; clear n0_ n1_; (try clear hb); (try clear hb2); (try clear hk); (try clear hi)))
    go_ret2
    exact ⟨_, by first | (with_reducible rfl) | (simp only [isEmpty_bne, Bool.not_not] <;> with_reducible rfl) | (simp [errW_none, errW_some] <;> with_reducible rfl) | (simp only [isEmpty_bne, Bool.not_not] <;> rfl) | rfl | (simp [errW_none, errW_some] <;> rfl) | (simp [*, errW_none, errW_some] <;> rfl), by first | exact Kd.R_nil _ _ _ _ _ | exact Kd.N_nil _ _ _ _ _ | exact Kd.V_nil _ _ _ _ _ | exact Kd.Q_nil _ _ _ _ _ | exact Kd.S_nil _ _ _ _ _, by repeat (first | (with_reducible first | exact HB.out | apply below_alloc | apply pw_below_drewN | apply below_drew1 | refine below_set ?_ GE297.out) | exact HB.out)⟩

end Go.Proofs.YtekaeddagaejiaaDoor.PAll
