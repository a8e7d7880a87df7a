/- Printed walks of the functions that the laws reach: each function, what it computes, and that it does. No conditions. -/
import Derived.Test.YtekaeddagaejiaaDoorPAllx0
import Derived.Test.YtekaeddagaejiaaDoorPAllx1
import Derived.Test.YtekaeddagaejiaaDoorPAllx3
import Derived.Test.YtekaeddagaejiaaDoorPAllx5
import Derived.Test.YtekaeddagaejiaaDoorPAllx6
import Derived.Test.YtekaeddagaejiaaDoorPAllx7
namespace Go.Proofs.YtekaeddagaejiaaDoor.PAll
open Go.RowKit Go.Proofs.YtekaeddagaejiaaDoor.XW Go.Proofs.YtekaeddagaejiaaDoor.XLib Go.Proofs.YtekaeddagaejiaaDoorW.PrintWords Go.Proofs.YtekaeddagaejiaaDoorW.PrintLast Go.Proofs.YtekaeddagaejiaaDoorW.PrintMore
attribute [local go_sem] max2_int min2_int max_two min_two max_three min_three max_four min_four   -- for this text's walks alone
set_option linter.unusedVariables false
set_option linter.unusedSimpArgs false

/-! ### rows_Read: function 19 -/
mutual
def rows_Read.j0 : Nat → ByteArray → List (S29) → Bool → List Int → Int → Int → Option ((List (S29)) × Int)
  | 0, _, _, _, _, _, _ => none
  | k + 1, x2, x8, x29, x201000, x201001, x201002 => if x29 = true then (some (([] : List (S29)), 10)) else ((pack_From.f x2).bind fun bt206 => (if 1 ≤ (x201000.length : Int) then ((some (x201000.drop 1 : List Int)).bind fun y209 => (rows_Read.l0 k x8 y209 (y209.length : Int) 0 x201000 x201001 x201002 bt206.1 bt206.2)) else (none)))
def rows_Read.l0 : Nat → List (S29) → List Int → Int → Int → List Int → Int → Int → ByteArray → Int → Option ((List (S29)) × Int)
  | 0, _, _, _, _, _, _, _, _, _ => none
  | k + 1, x10, x35, x36, x37, x201000, x201001, x201002, x209000, x209001 => if x37 < x36 then (if 0 ≤ x37 then (if x37 < (x35.length : Int) then (if (rd x35 x37) = 1 then ((pack_Reader_Num.f x209000 x209001 8).bind fun bt215 => (if x10.length < 4398046511104 then (rows_Read.l0 k (x10 ++ [(⟨rd x35 x37, wrap64 (bt215.1), (⟨#[]⟩ : ByteArray)⟩ : S29)]) x35 x36 (wrap64 (x37 + 1)) x201000 x201001 x201002 bt215.2.1 bt215.2.2) else (none))) else ((pack_Reader_Str.f x209000 x209001 10).bind fun bt221 => (if x10.length < 4398046511104 then (rows_Read.l0 k (x10 ++ [(⟨rd x35 x37, 0, bt221.1⟩ : S29)]) x35 x36 (wrap64 (x37 + 1)) x201000 x201001 x201002 bt221.2.1 bt221.2.2) else (none)))) else (none)) else (none)) else ((pack_Reader_Done.f x209000 x209001).bind fun bt227 => (if bt227.1 = 0 then ((rows_Fits.f k x201000 x201001 x201002 x10).bind fun t230 => (if t230 = 0 then (some (x10, 0)) else (some (([] : List (S29)), 10)))) else (some (([] : List (S29)), 10))))
end
def rows_Read.f (k : Nat) (l0_0 : List Int) (a0_1 : Int) (a0_2 : Int) (a1 : ByteArray) (a2 : ByteArray) : Option ((List (S29)) × Int) := (rows_Right.f k l0_0 a0_1 a0_2).bind fun t201 => (if t201 = true then ((keys_Read.f k a1).bind fun bt202 => (if bt202.2 = 0 then (rows_Read.j0 k a2 bt202.1 ((bt202.1.length : Int) != 1) l0_0 a0_1 a0_2) else (rows_Read.j0 k a2 bt202.1 true l0_0 a0_1 a0_2))) else (some (([] : List (S29)), 4)))
theorem rows_Read.mono_l : ∀ k, (∀ y0 y1 y2 y3 y4 y5, LeO (rows_Read.j0 k y0 y1 y2 y3 y4 y5) (rows_Read.j0 (k + 1) y0 y1 y2 y3 y4 y5)) ∧ (∀ y0 y1 y2 y3 y4 y5 y6 y7 y8, LeO (rows_Read.l0 k y0 y1 y2 y3 y4 y5 y6 y7 y8) (rows_Read.l0 (k + 1) y0 y1 y2 y3 y4 y5 y6 y7 y8))
  | 0 => ⟨fun _ _ _ _ _ _ r h => by simp [rows_Read.j0] at h, fun _ _ _ _ _ _ _ _ _ r h => by simp [rows_Read.l0] at h⟩
  | k + 1 => by
    obtain ⟨ih0, ih1⟩ := rows_Read.mono_l k
    refine ⟨?_, ?_⟩
    · intro y0 y1 y2 y3 y4 y5
      unfold rows_Read.j0
      repeat' first
      | (with_reducible exact ih0 _ _ _ _ _ _)
      | (with_reducible exact ih1 _ _ _ _ _ _ _ _ _)
      | (with_reducible exact keys_Read.mono _ _)
      | (with_reducible exact rows_Fits.mono _ _ _ _ _)
      | (with_reducible exact rows_Right.mono _ _ _ _)
      | (with_reducible exact LeO.refl _)
      | (with_reducible exact LeO.none _)
      | (with_reducible refine LeO.ite ?_ ?_)
      | (with_reducible refine LeO.bind ?_ (fun _ => ?_))
      | exact ih0 _ _ _ _ _ _
      | exact ih1 _ _ _ _ _ _ _ _ _
      | exact keys_Read.mono _ _
      | exact rows_Fits.mono _ _ _ _ _
      | exact rows_Right.mono _ _ _ _
      | exact LeO.none _
      | refine LeO.ite ?_ ?_
      | refine LeO.bind ?_ (fun _ => ?_)
    · intro y0 y1 y2 y3 y4 y5 y6 y7 y8
      unfold rows_Read.l0
      repeat' first
      | (with_reducible exact ih0 _ _ _ _ _ _)
      | (with_reducible exact ih1 _ _ _ _ _ _ _ _ _)
      | (with_reducible exact keys_Read.mono _ _)
      | (with_reducible exact rows_Fits.mono _ _ _ _ _)
      | (with_reducible exact rows_Right.mono _ _ _ _)
      | (with_reducible exact LeO.refl _)
      | (with_reducible exact LeO.none _)
      | (with_reducible refine LeO.ite ?_ ?_)
      | (with_reducible refine LeO.bind ?_ (fun _ => ?_))
      | exact ih0 _ _ _ _ _ _
      | exact ih1 _ _ _ _ _ _ _ _ _
      | exact keys_Read.mono _ _
      | exact rows_Fits.mono _ _ _ _ _
      | exact rows_Right.mono _ _ _ _
      | exact LeO.none _
      | refine LeO.ite ?_ ?_
      | refine LeO.bind ?_ (fun _ => ?_)
theorem rows_Read.mono : ∀ a0 a1 a2 a3 a4 k, LeO (rows_Read.f k a0 a1 a2 a3 a4) (rows_Read.f (k + 1) a0 a1 a2 a3 a4) := by
  intro a0 a1 a2 a3 a4 k
  obtain ⟨ih0, ih1⟩ := rows_Read.mono_l k
  unfold rows_Read.f
  repeat' first
      | (with_reducible exact ih0 _ _ _ _ _ _)
      | (with_reducible exact ih1 _ _ _ _ _ _ _ _ _)
      | (with_reducible exact keys_Read.mono _ _)
      | (with_reducible exact rows_Fits.mono _ _ _ _ _)
      | (with_reducible exact rows_Right.mono _ _ _ _)
      | (with_reducible exact LeO.refl _)
      | (with_reducible exact LeO.none _)
      | (with_reducible refine LeO.ite ?_ ?_)
      | (with_reducible refine LeO.bind ?_ (fun _ => ?_))
      | exact ih0 _ _ _ _ _ _
      | exact ih1 _ _ _ _ _ _ _ _ _
      | exact keys_Read.mono _ _
      | exact rows_Fits.mono _ _ _ _ _
      | exact rows_Right.mono _ _ _ _
      | exact LeO.none _
      | refine LeO.ite ?_ ?_
      | refine LeO.bind ?_ (fun _ => ?_)
set_option maxHeartbeats 8000000 in
set_option maxRecDepth 100000 in
theorem rows_Read.calls (k : Nat) (A0_0 : Option Addr) (c0_0 : Nat) (l0_0 : List Int) (a0_1 : Int) (a0_2 : Int) (a1 : ByteArray) (a2 : ByteArray) (r1 : List (S29)) (r2 : Int) (w : World) (hr0_0 : Kd.C (Kd.int .i64) w A0_0 l0_0.length l0_0) (hc0_0 : l0_0.length ≤ c0_0) (h : rows_Read.f k l0_0 a0_1 a0_2 a1 a2 = some (r1, r2)) :
    Calls Tryd.prog 19 #[.agg #[.slice A0_0 l0_0.length c0_0, .int .i64 a0_1, .int .i64 a0_2], .string a1, .string a2] w fun e w' => ∃ v0_ : Value, e = .returned (.tuple #[v0_, .int .i64 r2]) ∧ Kd.R k29 29 w' w.heap.size (fun _ => True) v0_ r1 ∧ Below w.heap.size w w' := by
  have hu24 := Tryd.underlying24
  have hu29 := Tryd.underlying29
  have HR0_0 := Aside0.mk hr0_0
  have HC0_0 := Aside0.mk hc0_0
  clear hr0_0 hc0_0
  have HB := Aside0.mk (Below.refl w.heap.size w)
  have H : ((rows_Right.f k l0_0 a0_1 a0_2).bind fun t201 => (if t201 = true then ((keys_Read.f k a1).bind fun bt202 => (if bt202.2 = 0 then (rows_Read.j0 k a2 bt202.1 ((bt202.1.length : Int) != 1) l0_0 a0_1 a0_2) else (rows_Read.j0 k a2 bt202.1 true l0_0 a0_1 a0_2))) else (some (([] : List (S29)), 4)))) = some (r1, r2) := h
  clear h
  replace H := Option.bind_eq_some_iff.mp H
  obtain ⟨t201, A40, H⟩ := H
  replace H : (if t201 = true then ((keys_Read.f k a1).bind fun bt202 => (if bt202.2 = 0 then (rows_Read.j0 k a2 bt202.1 ((bt202.1.length : Int) != 1) l0_0 a0_1 a0_2) else (rows_Read.j0 k a2 bt202.1 true l0_0 a0_1 a0_2))) else (some (([] : List (S29)), 4))) = some (r1, r2) := H
  have A4 := Aside0.mk A40
  clear A40
  by_cases c5 : t201 = true
  · subst c5
    have H1 : ((keys_Read.f k a1).bind fun bt202 => (if bt202.2 = 0 then (rows_Read.j0 k a2 bt202.1 ((bt202.1.length : Int) != 1) l0_0 a0_1 a0_2) else (rows_Read.j0 k a2 bt202.1 true l0_0 a0_1 a0_2))) = some (r1, r2) := by rw [if_pos rfl] at H; exact H
    clear H
    have H := H1
    clear H1
    replace H := Option.bind_eq_some_iff.mp H
    obtain ⟨⟨t202, t203⟩, A60, H⟩ := H
    replace H : (if t203 = 0 then (rows_Read.j0 k a2 t202 ((t202.length : Int) != 1) l0_0 a0_1 a0_2) else (rows_Read.j0 k a2 t202 true l0_0 a0_1 a0_2)) = some (r1, r2) := H
    have A6 := Aside0.mk A60
    clear A60
    have HC7 := Aside0.mk H
    clear H
    go_enter Tryd.func19, Tryd.ntmps19
    go_upto_region 4 with (first | ((with_reducible refine gate_dst (N := 3) rfl ?_); (try (refine gate_guard (by rfl) ?_; dsimp only)); refine box_event ?hg (N := 3) ?hd (cs := #[.slice A0_0 l0_0.length c0_0, .int .i64 a0_1, .int .i64 a0_2]) (t := 24) ?hr ?_; (case hd => rfl); (case hg => rfl); (case hr => first | (go_simp; done) | (go_simp; rfl)); intro gb200 hg w8 hbox hb; have n0_ := Aside0.mk (below_step (by repeat (first | (with_reducible first | exact HB.out | apply below_alloc | apply pw_below_drewN | apply below_drew1) | exact HB.out)) hb); have n1_ := Aside0.mk (hbox); have n2_ := Aside0.mk ((by rw [hg]; exact (below_size (by repeat (first | (with_reducible first | exact HB.out | apply below_alloc | apply pw_below_drewN | apply below_drew1) | exact HB.out))) : w.heap.size ≤ gb200)); have n3_ := Aside0.mk ((by rw [hg]; exact (below_size (by repeat (first | (with_reducible first | exact HB.out | apply below_alloc | apply pw_below_drewN | apply below_drew1) | exact HB.out))) : w.heap.size ≤ gb200)); clear HB; have HB := n0_; have BK200 := n1_; have GW200 := n2_; have GE200 := n3_; clear n0_ n1_ n2_ n3_; clear hb hbox hg; have hcz9_0 : w8.cell? ⟨gb200, 0, none⟩ = some (.slice A0_0 l0_0.length c0_0) := (blk_cell BK200.out 0).trans rfl; have hcz9_1 : w8.cell? ⟨gb200, 1, none⟩ = some (.int .i64 a0_1) := (blk_cell BK200.out 1).trans rfl; have hcz9_2 : w8.cell? ⟨gb200, 2, none⟩ = some (.int .i64 a0_2) := (blk_cell BK200.out 2).trans rfl; have hfz9_0 := blk_frozen BK200.out 0; have hfz9_1 := blk_frozen BK200.out 1; have hfz9_2 := blk_frozen BK200.out 2) | ((with_reducible refine gate_callee (f := 13) rfl ?_); refine goesL_ (some 16) rfl rfl Tryd.func13 (by kernel_rfl) rfl #[.agg #[.slice A0_0 l0_0.length c0_0, .int .i64 a0_1, .int .i64 a0_2]] rfl (by (try simp only [List.map_toArray, List.map_cons, List.map_nil]); first | done | rfl | (simp only [List.length_drop, List.length_take]; rfl) | (simp (disch := omega) only [u64_in]; rfl)) ?_; (with_reducible refine (rows_Right.calls k _ _ l0_0 a0_1 a0_2 true _ ?side1 ?side2 A4.out).mono ?_); (case side1 => repeat (first | exact (Kd.C_below HR0_0.out HB.out) | (with_reducible refine Kd.C_alloc ?_ _) | (with_reducible refine Kd.C_drewN ?_ _) | (with_reducible refine Kd.C_drew ?_))); (case side2 => exact HC0_0.out); rintro e w10 ⟨rfl, hb⟩; refine ⟨_, rfl, ?_⟩; have n0_ := Aside0.mk (blk_below (g := gb200) (o := .cells #[.slice A0_0 l0_0.length c0_0, .int .i64 a0_1, .int .i64 a0_2] 24 (0, 0)) (by (with_reducible repeat (first | refine blk_drewN ?_ _ | refine blk_drew ?_ | refine blk_alloc ?_ _)); exact BK200.out) hb); have n1_ := Aside0.mk (below_step (by repeat (first | (with_reducible first | exact HB.out | apply below_alloc | apply pw_below_drewN | apply below_drew1 | refine below_set ?_ GE200.out) | exact HB.out)) hb); clear BK200; clear HB; have BK200 := n0_; have HB := n1_; clear n0_ n1_; (try clear hb); (try clear hb2); (try clear hk); (try clear hi)) | ((with_reducible refine gate_callee (f := 41) rfl ?_); refine goesL_ (some 20) rfl rfl Tryd.func41 (by kernel_rfl) rfl #[.string a1] rfl (by (try simp only [List.map_toArray, List.map_cons, List.map_nil]); first | done | rfl | (simp only [List.length_drop, List.length_take]; rfl) | (simp (disch := omega) only [u64_in]; rfl)) ?_; (with_reducible refine (keys_Read.calls k a1 t202 t203 _ A6.out).mono ?_); rintro e w11 ⟨v204, rfl, ho0, hb⟩; refine ⟨_, rfl, ?_⟩; have n0_ := Aside0.mk (Kd.R_lower ho0 (below_size (by repeat (first | (with_reducible first | exact HB.out | apply below_alloc | apply pw_below_drewN | apply below_drew1 | refine below_set ?_ GE200.out) | exact HB.out)))); have n1_ := Aside0.mk (blk_below (g := gb200) (o := .cells #[.slice A0_0 l0_0.length c0_0, .int .i64 a0_1, .int .i64 a0_2] 24 (0, 0)) (by (with_reducible repeat (first | refine blk_drewN ?_ _ | refine blk_drew ?_ | refine blk_alloc ?_ _)); exact BK200.out) hb); have n2_ := Aside0.mk (below_step (by repeat (first | (with_reducible first | exact HB.out | apply below_alloc | apply pw_below_drewN | apply below_drew1 | refine below_set ?_ GE200.out) | exact HB.out)) hb); clear BK200; clear HB; have HO205 := n0_; have BK200 := n1_; have HB := n2_; clear n0_ n1_ n2_; (try clear hb); (try clear hb2); (try clear hk); (try clear hi); (try clear ho0)))
    (try simp only [Act.put, List.setIfInBounds_toArray, List.set_cons_zero, List.set_cons_succ])
    go_cut [29] (fun v29 wc => ∃ (kq : Nat) (x29_6 : Bool), v29 = .bool x29_6 ∧ Aside0 (rows_Read.j0 kq a2 t202 x29_6 l0_0 a0_1 a0_2 = some (r1, r2)) ∧ Aside0 (kq ≤ k) ∧ Aside0 (Kd.R k29 29 wc w.heap.size (fun _ => True) v204 t202) ∧ Aside0 (wc.heap[gb200]? = some (.cells #[(.slice A0_0 l0_0.length c0_0), .int .i64 a0_1, .int .i64 a0_2] 24 (0, 0))) ∧ Aside0 (Below w.heap.size w wc))
    case first =>
      have H := HC7.out
      clear HC7
      by_cases c12 : t203 = 0
      · rw [if_pos c12] at H
        have c12b0 : (t203 == 0) = true := beq_iff_eq.mpr c12
        have c12b1 : (t203 != 0) = false := bne_eq_false_iff_eq.mpr c12
        clear c12
        (first | rw [c12b0] | (simp only [i64_w, i32_w]; rw [c12b0]) | skip)
        have H' := Aside0.mk H
        clear H
        obtain ⟨Ao13, co13, eo13⟩ := Kd.R_slice HO205.out
        subst eo13
        go_wp2
        go_meet
        case rel => exact ⟨_, (((t202.length : Int) != 1)), (by first | (with_reducible rfl) | (simp; done) | (simp [*]; done) | rfl), H', ⟨by first | omega | exact Nat.le_refl _⟩, ⟨by (with_reducible repeat (first | apply Kd.R_alloc | apply Kd.R_drewN | apply Kd.R_drew)); exact HO205.out⟩, ⟨by (with_reducible repeat (first | refine blk_drewN ?_ _ | refine blk_drew ?_ | refine blk_alloc ?_ _)); exact BK200.out⟩, ⟨by repeat (first | (with_reducible first | exact HB.out | apply below_alloc | apply pw_below_drewN | apply below_drew1 | refine below_set ?_ GE200.out) | exact HB.out)⟩⟩
      · rw [if_neg c12] at H
        have c12b0 : (t203 == 0) = false := beq_eq_false_iff_ne.mpr c12
        have c12b1 : (t203 != 0) = true := bne_iff_ne.mpr c12
        (first | rw [c12b0] | (simp only [i64_w, i32_w]; rw [c12b0]) | skip)
        have H' := Aside0.mk H
        clear H
        go_wp2
        go_meet
        case rel => exact ⟨_, (true), (by first | (with_reducible rfl) | (simp; done) | (simp [*]; done) | rfl), H', ⟨by first | omega | exact Nat.le_refl _⟩, ⟨by (with_reducible repeat (first | apply Kd.R_alloc | apply Kd.R_drewN | apply Kd.R_drew)); exact HO205.out⟩, ⟨by (with_reducible repeat (first | refine blk_drewN ?_ _ | refine blk_drew ?_ | refine blk_alloc ?_ _)); exact BK200.out⟩, ⟨by repeat (first | (with_reducible first | exact HB.out | apply below_alloc | apply pw_below_drewN | apply below_drew1 | refine below_set ?_ GE200.out) | exact HB.out)⟩⟩
    case rest =>
      clear HC7
      try clear c1
      try clear p2
      try clear c4
      try clear c5
      try clear c12
      try clear c12b0
      try clear c12b1
      try clear c13
      try clear hcz9_0
      try clear hcz9_1
      try clear hcz9_2
      try clear hfz9_0
      try clear hfz9_1
      try clear hfz9_2
      obtain ⟨kq, x29_6, rfl, HA, HJ6, HO_8, BK200, HB⟩ := hcut
      cases kq with
      | zero => exact absurd HA.out (by simp [rows_Read.j0])
      | succ kj6 =>
        have H := HA.out
        clear HA
        simp only [rows_Read.j0] at H
        by_cases c14 : x29_6 = true
        · subst c14
          have H1 : (some (([] : List (S29)), 10)) = some (r1, r2) := by rw [if_pos rfl] at H; exact H
          clear H
          have H := H1
          clear H1
          simp only [Option.some.injEq, Prod.mk.injEq] at H
          obtain ⟨rfl, rfl⟩ := H
          go_wp2
          go_ret2
          exact ⟨_, by first | (with_reducible rfl) | (simp only [isEmpty_bne, Bool.not_not] <;> with_reducible rfl) | (simp [errW_none, errW_some] <;> with_reducible rfl) | (simp only [isEmpty_bne, Bool.not_not] <;> rfl) | rfl | (simp [errW_none, errW_some] <;> rfl) | (simp [*, errW_none, errW_some] <;> rfl), by first | exact Kd.R_nil _ _ _ _ _ | exact Kd.N_nil _ _ _ _ _ | exact Kd.V_nil _ _ _ _ _ | exact Kd.Q_nil _ _ _ _ _ | exact Kd.S_nil _ _ _ _ _, by repeat (first | (with_reducible first | exact HB.out | apply below_alloc | apply pw_below_drewN | apply below_drew1 | refine below_set ?_ GE200.out) | exact HB.out)⟩
        · replace c14 := Bool.eq_false_iff.mpr c14
          subst c14
          have H1 : ((pack_From.f a2).bind fun bt206 => (if 1 ≤ (l0_0.length : Int) then ((some (l0_0.drop 1 : List Int)).bind fun y209 => (rows_Read.l0 kj6 t202 y209 (y209.length : Int) 0 l0_0 a0_1 a0_2 bt206.1 bt206.2)) else (none))) = some (r1, r2) := by rw [if_neg (show ¬ (false = true) by decide)] at H; exact H
          clear H
          have H := H1
          clear H1
          replace H := Option.bind_eq_some_iff.mp H
          obtain ⟨⟨t206, t207⟩, A150, H⟩ := H
          replace H : (if 1 ≤ (l0_0.length : Int) then ((some (l0_0.drop 1 : List Int)).bind fun y209 => (rows_Read.l0 kj6 t202 y209 (y209.length : Int) 0 l0_0 a0_1 a0_2 t206 t207)) else (none)) = some (r1, r2) := H
          have A15 := Aside0.mk A150
          clear A150
          by_cases c16 : 1 ≤ (l0_0.length : Int)
          · rw [if_pos c16] at H
            have c16b0 := eq_true c16
            have c16b1 : decide (1 ≤ (l0_0.length : Int)) = true := decide_eq_true c16
            clear c16
            obtain ⟨y209, hy209⟩ : ∃ y_ : List Int, y_ = (l0_0.drop 1) := ⟨_, rfl⟩
            replace H : (rows_Read.l0 kj6 t202 y209 (y209.length : Int) 0 l0_0 a0_1 a0_2 t206 t207) = some (r1, r2) := by first | (rw [hy209]; with_reducible exact H) | (have H2_ := (Option.bind_some _ _).symm.trans H; rw [hy209]; with_reducible exact H2_) | (have H2_ := (Option.bind_some _ _).symm.trans H; with_reducible exact H2_) | with_reducible exact H | (rw [hy209]; exact H) | exact H
            have Ny209 := Aside0.mk hy209
            clear hy209
            have H' := Aside0.mk H
            clear H
            go_wp2_with (first | ((with_reducible refine gate_callee (f := 42) rfl ?_); refine goesL_ (some 32) rfl rfl Tryd.func42 (by kernel_rfl) rfl #[.string a2] rfl (by (try simp only [List.map_toArray, List.map_cons, List.map_nil]); first | done | rfl | (simp only [List.length_drop, List.length_take]; rfl) | (simp (disch := omega) only [u64_in]; rfl)) ?_; (with_reducible refine (pack_From.calls a2 t206 t207 w _ ?side1 A15.out).mono ?_); (case side1 => repeat (first | (with_reducible first | exact HB.out | apply below_alloc | apply pw_below_drewN | apply below_drew1 | refine below_set ?_ GE200.out) | exact HB.out)); rintro e w17 ⟨g208, rfl, hi, hb, hb2⟩; refine ⟨_, rfl, ?_⟩; have n0_ := Aside0.mk (Kd.R_below (by (with_reducible repeat (first | apply Kd.R_alloc | apply Kd.R_drewN | apply Kd.R_drew)); exact HO_8.out) hb2); have n1_ := Aside0.mk (blk_below (g := gb200) (o := .cells #[.slice A0_0 l0_0.length c0_0, .int .i64 a0_1, .int .i64 a0_2] 24 (0, 0)) (by (with_reducible repeat (first | refine blk_drewN ?_ _ | refine blk_drew ?_ | refine blk_alloc ?_ _)); exact BK200.out) hb2); have n2_ := Aside0.mk (hb); have n3_ := Aside0.mk (hi); have n4_ := Aside0.mk (IsS84.ne_blk hi (blk_below (g := gb200) (o := .cells #[.slice A0_0 l0_0.length c0_0, .int .i64 a0_1, .int .i64 a0_2] 24 (0, 0)) (by (with_reducible repeat (first | refine blk_drewN ?_ _ | refine blk_drew ?_ | refine blk_alloc ?_ _)); exact BK200.out) hb2) (by decide)); have n5_ := Aside0.mk (Ne.symm (IsS84.ne_blk hi (blk_below (g := gb200) (o := .cells #[.slice A0_0 l0_0.length c0_0, .int .i64 a0_1, .int .i64 a0_2] 24 (0, 0)) (by (with_reducible repeat (first | refine blk_drewN ?_ _ | refine blk_drew ?_ | refine blk_alloc ?_ _)); exact BK200.out) hb2) (by decide))); clear HO_8; clear BK200; clear HB; have HO_8 := n0_; have BK200 := n1_; have HB := n2_; have HI208 := n3_; have NB208_200 := n4_; have NB200_208 := n5_; clear n0_ n1_ n2_ n3_ n4_ n5_; (try clear hb); (try clear hb2); (try clear hk); (try clear hi); have hnb18 := NB200_208.out; have hnc18 := NB208_200.out; have hcz19_0 : w17.cell? ⟨gb200, 0, none⟩ = some (.slice A0_0 l0_0.length c0_0) := (blk_cell BK200.out 0).trans rfl; have hcz19_1 : w17.cell? ⟨gb200, 1, none⟩ = some (.int .i64 a0_1) := (blk_cell BK200.out 1).trans rfl; have hcz19_2 : w17.cell? ⟨gb200, 2, none⟩ = some (.int .i64 a0_2) := (blk_cell BK200.out 2).trans rfl; have hfz19_0 := blk_frozen BK200.out 0; have hfz19_1 := blk_frozen BK200.out 1; have hfz19_2 := blk_frozen BK200.out 2; have q20 : (1 : Int) ≤ ((l0_0.length : Int) : Int) := of_decide_eq_true (by first | (with_reducible assumption) | assumption); obtain ⟨i020, hi020, _, hsz20, _⟩ := info_parts info27; have hroom20 : l0_0.length ≤ c0_0 := HC0_0.out; have hC20 : Kd.C (Kd.int .i64) _ A0_0 l0_0.length l0_0 := HR0_0.out; have hcut20 := cut_from (P := Tryd.prog) 22 27 .i64 Tryd.underlying22 hi020 1 hsz20 A0_0 l0_0.length c0_0 1 (by omega) q20; have hr20 := Kd.C_drop (m := (1 : Int).toNat) (c := c0_0) hC20 (by omega) hroom20; obtain ⟨A20, hA20⟩ : ∃ A1, A1 = (if c0_0 = (1 : Int).toNat then A0_0 else (A0_0 : Option Addr).map (·.add ((1 : Int).toNat * 1))) := ⟨_, rfl⟩; obtain ⟨c20, hc20⟩ : ∃ c_, c_ = c0_0 - (1 : Int).toNat := ⟨_, rfl⟩; have hy20 : y209.length = l0_0.length - (1 : Int).toNat := (by rw [Ny209.out, List.length_drop] <;> omega); rw [show (l0_0).drop (1 : Int).toNat = y209 from Ny209.out.symm] at hr20; replace hr20 : Kd.C (Kd.int .i64) _ A20 y209.length y209 := (by rw [hA20]; exact hr20); rw [← hy20, ← hA20, ← hc20] at hcut20; have HR212 := Aside0.mk hr20; have HC212 := Aside0.mk (show y209.length ≤ c20 from by rw [hy20, hc20]; exact Nat.sub_le_sub_right hroom20 _); clear hr20 hC20 hroom20 hi020 hsz20 hc20; have KY20 := Aside0.mk hy20; have KA20 := Aside0.mk hA20; clear hy20 hA20; replace q20 := eq_true q20))
            go_loopg [10, 37] kj6 (fun kq v10 v37 w' => ∃ (x10_2 : List (S29)) (x37_2 : Int) (x209000_2 : ByteArray) (x209001_2 : Int), v37 = .int .i64 x37_2 ∧ Aside0 (rows_Read.l0 kq x10_2 y209 (y209.length : Int) x37_2 l0_0 a0_1 a0_2 x209000_2 x209001_2 = some (r1, r2)) ∧ Aside0 (kq ≤ kj6) ∧ Aside0 (Kd.R k29 29 w' w.heap.size (fun _ => True) v10 x10_2) ∧ Aside0 (w'.heap[gb200]? = some (.cells #[(.slice A0_0 l0_0.length c0_0), .int .i64 a0_1, .int .i64 a0_2] 24 (0, 0))) ∧ Aside0 (IsS84 w w' g208 x209000_2 x209001_2) ∧ Aside0 (Below w.heap.size w w'))
            case atStart => exact ⟨(t202), (0), (t206), (t207), (by first | (with_reducible rfl) | (simp; done) | (simp [*]; done) | rfl), H', ⟨Nat.le_refl _⟩, ⟨by (with_reducible repeat (first | apply Kd.R_alloc | apply Kd.R_drewN | apply Kd.R_drew)); exact HO_8.out⟩, ⟨by (with_reducible repeat (first | refine blk_drewN ?_ _ | refine blk_drew ?_ | refine blk_alloc ?_ _)); exact BK200.out⟩, ⟨by repeat (first | (with_reducible first | exact HI208.out | apply IsS84.alloc | apply IsS84.drewN | apply IsS84.drew | apply IsS84.set_0 | apply IsS84.set_1 | refine IsS84.far ?_ NB208_200.out _) | exact HI208.out)⟩, ⟨by repeat (first | (with_reducible first | exact HB.out | apply below_alloc | apply pw_below_drewN | apply below_drew1 | refine below_set ?_ (IsS84.ge HI208.out) | refine below_set ?_ GE200.out) | exact HB.out)⟩⟩
            case round =>
              clear H'
              try clear c1
              try clear c2
              try clear p2
              try clear q2
              try clear c4
              try clear c5
              try clear c12
              try clear c12b0
              try clear c12b1
              try clear c13
              try clear c14
              try clear c16
              try clear c16b0
              try clear c16b1
              try clear c18
              try clear c19
              try clear c20
              try clear q20
              try clear hcz19_0
              try clear hcz19_1
              try clear hcz19_2
              try clear hcz9_0
              try clear hcz9_1
              try clear hcz9_2
              try clear hfz19_0
              try clear hfz19_1
              try clear hfz19_2
              try clear hfz9_0
              try clear hfz9_1
              try clear hfz9_2
              try clear p2
              try clear q20
              obtain ⟨x10_2, x37_2, x209000_2, x209001_2, rfl, HA, HK2, HO_10, BK200, HI208, HB⟩ := hrel
              cases gk with
              | zero => exact absurd HA.out (by simp [rows_Read.l0])
              | succ k2 =>
                have H := HA.out
                clear HA
                simp only [rows_Read.l0] at H
                by_cases c21 : x37_2 < (y209.length : Int)
                · rw [if_pos c21] at H
                  have c21b0 : decide (x37_2 < (y209.length : Int)) = true := decide_eq_true c21
                  clear c21
                  by_cases c22 : 0 ≤ x37_2
                  · rw [if_pos c22] at H
                    have c22b0 : decide (0 ≤ x37_2) = true := decide_eq_true c22
                    clear c22
                    by_cases c23 : x37_2 < (y209.length : Int)
                    · rw [if_pos c23] at H
                      have c23b0 : decide (x37_2 < (y209.length : Int)) = true := decide_eq_true c23
                      clear c23
                      by_cases c24 : (rd y209 x37_2) = 1
                      · rw [if_pos c24] at H
                        have c24b0 : ((rd y209 x37_2) == 1) = true := beq_iff_eq.mpr c24
                        have c24b1 : ((rd y209 x37_2) != 1) = false := bne_eq_false_iff_eq.mpr c24
                        clear c24
                        replace H := Option.bind_eq_some_iff.mp H
                        obtain ⟨⟨t215, t216, t217⟩, A250, H⟩ := H
                        replace H : (if x10_2.length < 4398046511104 then (rows_Read.l0 k2 (x10_2 ++ [(⟨rd y209 x37_2, wrap64 (t215), (⟨#[]⟩ : ByteArray)⟩ : S29)]) y209 (y209.length : Int) (wrap64 (x37_2 + 1)) l0_0 a0_1 a0_2 t216 t217) else (none)) = some (r1, r2) := H
                        have A25 := Aside0.mk A250
                        clear A250
                        by_cases c26 : x10_2.length < 4398046511104
                        · rw [if_pos c26] at H
                          have LMc26 := Aside0.mk c26
                          clear c26
                          obtain ⟨y218, hy218⟩ : ∃ y_ : List (S29), y_ = (x10_2 ++ [(⟨rd y209 x37_2, wrap64 (t215), (⟨#[]⟩ : ByteArray)⟩ : S29)]) := ⟨_, rfl⟩
                          replace H : (rows_Read.l0 k2 y218 y209 (y209.length : Int) (wrap64 (x37_2 + 1)) l0_0 a0_1 a0_2 t216 t217) = some (r1, r2) := by first | (rw [hy218]; with_reducible exact H) | (have H2_ := (Option.bind_some _ _).symm.trans H; rw [hy218]; with_reducible exact H2_) | (have H2_ := (Option.bind_some _ _).symm.trans H; with_reducible exact H2_) | with_reducible exact H | (rw [hy218]; exact H) | exact H
                          have Ny218 := Aside0.mk hy218
                          clear hy218
                          have H' := Aside0.mk H
                          clear H
                          have p213 : 0 ≤ (x37_2 : Int) := of_decide_eq_true (by first | (with_reducible assumption) | assumption)
                          have q213 : x37_2 < (y209.length : Int) := of_decide_eq_true (by first | (with_reducible assumption) | assumption)
                          obtain ⟨ad213, e213, hx213_0⟩ := Kd.at_int HR212.out x37_2 p213 q213
                          cases e213
                          replace hx213_0 := (HB.out.cell (World.block_lt_of_cell? w _ hx213_0)).trans hx213_0
                          replace p213 := eq_true p213
                          replace q213 := eq_true q213
                          go_wp2_with (first | ((with_reducible refine gate_dst (N := 14) rfl ?_); (try (refine gate_guard (by rfl) ?_; dsimp only)); refine box_event ?hg (N := 14) ?hd (cs := #[.int .i64 0, .int .i64 0, .string (⟨#[]⟩ : ByteArray)]) (t := 29) ?hr ?_; (case hd => rfl); (case hg => rfl); (case hr => first | (go_simp; done) | (go_simp; rfl)); intro gb214 hg w27 hbox hb; have n0_ := Aside0.mk (Kd.R_below (Kd.R_elderB (by (with_reducible repeat (first | apply Kd.R_alloc | apply Kd.R_drewN | apply Kd.R_drew)); exact HO_10.out) gb214 (Nat.le_of_eq hg.symm)) hb); have n1_ := Aside0.mk (blk_below (g := gb200) (o := .cells #[.slice A0_0 l0_0.length c0_0, .int .i64 a0_1, .int .i64 a0_2] 24 (0, 0)) (by (with_reducible repeat (first | refine blk_drewN ?_ _ | refine blk_drew ?_ | refine blk_alloc ?_ _)); exact BK200.out) hb); have n2_ := Aside0.mk (IsS84.below (by repeat (first | (with_reducible first | exact HI208.out | apply IsS84.alloc | apply IsS84.drewN | apply IsS84.drew | apply IsS84.set_0 | apply IsS84.set_1 | refine IsS84.far ?_ NB208_200.out _) | exact HI208.out)) hb); have n3_ := Aside0.mk (below_step (by repeat (first | (with_reducible first | exact HB.out | apply below_alloc | apply pw_below_drewN | apply below_drew1 | refine below_set ?_ (IsS84.ge HI208.out) | refine below_set ?_ GE200.out) | exact HB.out)) hb); have n4_ := Aside0.mk (hbox); have n5_ := Aside0.mk ((by rw [hg]; exact (below_size (by repeat (first | (with_reducible first | exact HB.out | apply below_alloc | apply pw_below_drewN | apply below_drew1 | refine below_set ?_ (IsS84.ge HI208.out) | refine below_set ?_ GE200.out) | exact HB.out))) : w.heap.size ≤ gb214)); have n6_ := Aside0.mk ((by rw [hg]; exact (below_size (by repeat (first | (with_reducible first | exact HB.out | apply below_alloc | apply pw_below_drewN | apply below_drew1 | refine below_set ?_ (IsS84.ge HI208.out) | refine below_set ?_ GE200.out) | exact HB.out))) : w.heap.size ≤ gb214)); have n7_ := Aside0.mk ((by rw [hg]; exact Nat.ne_of_lt (blk_lt (g := gb200) (o := .cells #[.slice A0_0 l0_0.length c0_0, .int .i64 a0_1, .int .i64 a0_2] 24 (0, 0)) (by (with_reducible repeat (first | refine blk_drewN ?_ _ | refine blk_drew ?_ | refine blk_alloc ?_ _)); exact BK200.out)) : gb200 ≠ gb214)); have n8_ := Aside0.mk ((by rw [hg]; exact Nat.ne_of_gt (blk_lt (g := gb200) (o := .cells #[.slice A0_0 l0_0.length c0_0, .int .i64 a0_1, .int .i64 a0_2] 24 (0, 0)) (by (with_reducible repeat (first | refine blk_drewN ?_ _ | refine blk_drew ?_ | refine blk_alloc ?_ _)); exact BK200.out)) : gb214 ≠ gb200)); have n9_ := Aside0.mk ((by rw [hg]; exact Nat.ne_of_lt (IsS84.lt (show IsS84 w _ g208 x209000_2 x209001_2 from by repeat (first | (with_reducible first | exact HI208.out | apply IsS84.alloc | apply IsS84.drewN | apply IsS84.drew | apply IsS84.set_0 | apply IsS84.set_1 | refine IsS84.far ?_ NB208_200.out _) | exact HI208.out))) : g208 ≠ gb214)); have n10_ := Aside0.mk ((by rw [hg]; exact Nat.ne_of_gt (IsS84.lt (show IsS84 w _ g208 x209000_2 x209001_2 from by repeat (first | (with_reducible first | exact HI208.out | apply IsS84.alloc | apply IsS84.drewN | apply IsS84.drew | apply IsS84.set_0 | apply IsS84.set_1 | refine IsS84.far ?_ NB208_200.out _) | exact HI208.out))) : gb214 ≠ g208)); clear HO_10; clear BK200; clear HI208; clear HB; have HO_10 := n0_; have BK200 := n1_; have HI208 := n2_; have HB := n3_; have BK214 := n4_; have GW214 := n5_; have GE214 := n6_; have NB200_214 := n7_; have NB214_200 := n8_; have NB208_214 := n9_; have NB214_208 := n10_; clear n0_ n1_ n2_ n3_ n4_ n5_ n6_ n7_ n8_ n9_ n10_; clear hb hbox hg; have hnb28 := NB214_200.out; have hnc28 := NB200_214.out; have hnb29 := NB214_208.out; have hnc29 := NB208_214.out; have hcz30_0 : w27.cell? ⟨gb214, 0, none⟩ = some (.int .i64 0) := (blk_cell BK214.out 0).trans rfl; have hcz30_1 : w27.cell? ⟨gb214, 1, none⟩ = some (.int .i64 0) := (blk_cell BK214.out 1).trans rfl; have hcz30_2 : w27.cell? ⟨gb214, 2, none⟩ = some (.string (⟨#[]⟩ : ByteArray)) := (blk_cell BK214.out 2).trans rfl; have hfz30_0 := blk_frozen BK214.out 0; have hfz30_1 := blk_frozen BK214.out 1; have hfz30_2 := blk_frozen BK214.out 2) | ((with_reducible refine gate_callee (f := 43) rfl ?_); refine goesL_ (some 46) rfl rfl Tryd.func43 (by kernel_rfl) rfl #[.pointer (some ⟨g208, 0, none⟩), .int .i64 8] rfl (by (try simp only [List.map_toArray, List.map_cons, List.map_nil]); first | done | rfl | (simp only [List.length_drop, List.length_take]; rfl) | (simp (disch := omega) only [u64_in]; rfl)) ?_; (with_reducible refine (pack_Reader_Num.calls g208 x209000_2 x209001_2 8 t215 t216 t217 w _ ?side1 ?side2 A25.out).mono ?_); (case side1 => repeat (first | (with_reducible first | exact HI208.out | apply IsS84.alloc | apply IsS84.drewN | apply IsS84.drew | apply IsS84.set_0 | apply IsS84.set_1 | refine IsS84.far ?_ NB208_200.out _ | refine IsS84.far ?_ NB208_214.out _) | exact HI208.out)); (case side2 => repeat (first | (with_reducible first | exact HB.out | apply below_alloc | apply pw_below_drewN | apply below_drew1 | refine below_set ?_ (IsS84.ge HI208.out) | refine below_set ?_ GE200.out | refine below_set ?_ GE214.out) | exact HB.out)); rintro e w31 ⟨rfl, hi, hb, hk⟩; refine ⟨_, rfl, ?_⟩; have n0_ := Aside0.mk (Kd.R_mono (Kd.R_keep (IsS84.apart (show IsS84 w _ g208 x209000_2 x209001_2 from by repeat (first | (with_reducible first | exact HI208.out | apply IsS84.alloc | apply IsS84.drewN | apply IsS84.drew | apply IsS84.set_0 | apply IsS84.set_1 | refine IsS84.far ?_ NB208_200.out _ | refine IsS84.far ?_ NB208_214.out _) | exact HI208.out)) (by (with_reducible repeat (first | apply Kd.R_alloc | apply Kd.R_drewN | apply Kd.R_drew)); exact (Kd.R_mono (Kd.R_far (p := ⟨gb214, 2, none⟩) (Kd.R_far (p := ⟨gb214, 1, none⟩) (Kd.R_far (p := ⟨gb214, 0, none⟩) (Kd.R_mono HO_10.out (fun k_ hk => (⟨hk, hk.2⟩ : _ ∧ k_ ≠ gb214))) (fun _ hk => hk.2) (.int .i64 (rd y209 x37_2))) (fun _ hk => hk.2) (.int .i64 0)) (fun _ hk => hk.2) (.string (⟨#[]⟩ : ByteArray))) (fun _ h_ => h_.1))) (by decide)) hk (fun _ h => h.2)) (fun _ h => h.1)); have n1_ := Aside0.mk (KeepBut.blk hk (g' := gb200) (o := .cells #[.slice A0_0 l0_0.length c0_0, .int .i64 a0_1, .int .i64 a0_2] 24 (0, 0)) (by (with_reducible repeat (first | refine blk_drewN ?_ _ | refine blk_drew ?_ | refine blk_alloc ?_ _)); refine blk_far ?_ NB200_214.out _; (with_reducible repeat (first | refine blk_drewN ?_ _ | refine blk_drew ?_ | refine blk_alloc ?_ _)); refine blk_far ?_ NB200_214.out _; (with_reducible repeat (first | refine blk_drewN ?_ _ | refine blk_drew ?_ | refine blk_alloc ?_ _)); refine blk_far ?_ NB200_214.out _; (with_reducible repeat (first | refine blk_drewN ?_ _ | refine blk_drew ?_ | refine blk_alloc ?_ _)); exact BK200.out) NB200_208.out (by simp)); have n2_ := Aside0.mk (KeepBut.blk hk (g' := gb214) (o := .cells #[.int .i64 (rd y209 x37_2), .int .i64 0, .string (⟨#[]⟩ : ByteArray)] 29 (0, 0)) (by (with_reducible repeat (first | refine blk_drewN ?_ _ | refine blk_drew ?_ | refine blk_alloc ?_ _)); refine blk_put (cs := #[.int .i64 (rd y209 x37_2), .int .i64 0, .string (⟨#[]⟩ : ByteArray)]) ?_ 2 _ rfl; (with_reducible repeat (first | refine blk_drewN ?_ _ | refine blk_drew ?_ | refine blk_alloc ?_ _)); refine blk_put (cs := #[.int .i64 (rd y209 x37_2), .int .i64 0, .string (⟨#[]⟩ : ByteArray)]) ?_ 1 _ rfl; (with_reducible repeat (first | refine blk_drewN ?_ _ | refine blk_drew ?_ | refine blk_alloc ?_ _)); refine blk_put (cs := #[.int .i64 0, .int .i64 0, .string (⟨#[]⟩ : ByteArray)]) ?_ 0 _ rfl; (with_reducible repeat (first | refine blk_drewN ?_ _ | refine blk_drew ?_ | refine blk_alloc ?_ _)); exact BK214.out) NB214_208.out (by simp)); have n3_ := Aside0.mk (hb); have n4_ := Aside0.mk (hi); clear HO_10; clear BK200; clear BK214; clear HB; clear HI208; have HO_10 := n0_; have BK200 := n1_; have BK214 := n2_; have HB := n3_; have HI208 := n4_; clear n0_ n1_ n2_ n3_ n4_; (try clear hb); (try clear hb2); (try clear hk); (try clear hi); have hcz32_0 : w31.cell? ⟨gb214, 0, none⟩ = some (.int .i64 (rd y209 x37_2)) := (blk_cell BK214.out 0).trans rfl; have hcz32_1 : w31.cell? ⟨gb214, 1, none⟩ = some (.int .i64 0) := (blk_cell BK214.out 1).trans rfl; have hcz32_2 : w31.cell? ⟨gb214, 2, none⟩ = some (.string (⟨#[]⟩ : ByteArray)) := (blk_cell BK214.out 2).trans rfl; have hfz32_0 := blk_frozen BK214.out 0; have hfz32_1 := blk_frozen BK214.out 1; have hfz32_2 := blk_frozen BK214.out 2) | ((with_reducible refine gate_builtin (b := .append) (xs := #[.tmp 52, .tmp 54]) rfl ?_); (try (refine gate_guard (by rfl) ?_; dsimp only)); at_builtin; refine Kd.R_append k29 (w0 := w) w.heap.size rfl (.tmp 52) (.tmp 54) 26 29 (.agg #[(.int .i64 0), (.int .i64 0), (.string ⟨#[]⟩)]) 32 rfl Tryd.underlying26 info29 rfl (by decide) (by omega) u10 x10_2 (⟨rd y209 x37_2, wrap64 (t215), (⟨#[]⟩ : ByteArray)⟩ : S29) [.int .i64 (rd y209 x37_2), .int .i64 (wrap64 (t215)), .string (⟨#[]⟩ : ByteArray)] (fun k_ => k_ ≠ gb214) (fun _ => False) rfl (by first | (go_simp; done) | (go_simp; rfl)) ?aP (fun _ hk => hk.elim) ?aF ?aO ?aB ?aS ?aL ?_; (case aP => exact k29_mkM _ _ _ (⟨rd y209 x37_2, wrap64 (t215), (⟨#[]⟩ : ByteArray)⟩ : S29)); (case aB => exact (by repeat (first | (with_reducible first | exact HB.out | apply below_alloc | apply pw_below_drewN | apply below_drew1 | refine below_set ?_ (IsS84.ge HI208.out) | refine below_set ?_ GE200.out | refine below_set ?_ GE214.out) | exact HB.out))); (case aF => exact (fun k_ hk => Kd.freshB (g := gb214) (o := .cells #[.int .i64 (rd y209 x37_2), .int .i64 (wrap64 (t215)), .string (⟨#[]⟩ : ByteArray)] 29 (0, 0)) (by (with_reducible repeat (first | refine blk_drewN ?_ _ | refine blk_drew ?_ | refine blk_alloc ?_ _)); refine blk_put (cs := #[.int .i64 (rd y209 x37_2), .int .i64 0, .string (⟨#[]⟩ : ByteArray)]) ?_ 1 _ rfl; (with_reducible repeat (first | refine blk_drewN ?_ _ | refine blk_drew ?_ | refine blk_alloc ?_ _)); exact BK214.out) k_ hk)); (case aO => exact (by (with_reducible repeat (first | apply Kd.R_alloc | apply Kd.R_drewN | apply Kd.R_drew)); exact Kd.R_mono (Kd.R_far (p := ⟨gb214, 1, none⟩) (Kd.R_mono HO_10.out (fun k_ hk => (⟨hk, hk.2⟩ : _ ∧ k_ ≠ gb214))) (fun _ hk => hk.2) (.int .i64 (wrap64 (t215)))) (fun _ hk => hk.1.2))); (case aS => exact (below_size (by repeat (first | (with_reducible first | exact HB.out | apply below_alloc | apply pw_below_drewN | apply below_drew1 | refine below_set ?_ (IsS84.ge HI208.out) | refine below_set ?_ GE200.out | refine below_set ?_ GE214.out) | exact HB.out)))); (case aL => have := LMc26.out; omega); intro v219 w33 ho hb hg hat; rw [← Ny218.out] at ho; have n0_ := Aside0.mk (blk_grown (g := gb200) (o := .cells #[.slice A0_0 l0_0.length c0_0, .int .i64 a0_1, .int .i64 a0_2] 24 (0, 0)) (by (with_reducible repeat (first | refine blk_drewN ?_ _ | refine blk_drew ?_ | refine blk_alloc ?_ _)); refine blk_far ?_ NB200_214.out _; (with_reducible repeat (first | refine blk_drewN ?_ _ | refine blk_drew ?_ | refine blk_alloc ?_ _)); exact BK200.out) hg (Kd.R_ne HO_10.out BK200.out (by decide))); have n1_ := Aside0.mk (IsS84.grown (show IsS84 w _ g208 t216 t217 from by repeat (first | (with_reducible first | exact HI208.out | apply IsS84.alloc | apply IsS84.drewN | apply IsS84.drew | apply IsS84.set_0 | apply IsS84.set_1 | refine IsS84.far ?_ NB208_200.out _ | refine IsS84.far ?_ NB208_214.out _) | exact HI208.out)) hg (IsS84.own_ne HI208.out HO_10.out (by decide))); have n2_ := Aside0.mk (blk_grown (g := gb214) (o := .cells #[.int .i64 (rd y209 x37_2), .int .i64 (wrap64 (t215)), .string (⟨#[]⟩ : ByteArray)] 29 (0, 0)) (by (with_reducible repeat (first | refine blk_drewN ?_ _ | refine blk_drew ?_ | refine blk_alloc ?_ _)); refine blk_put (cs := #[.int .i64 (rd y209 x37_2), .int .i64 0, .string (⟨#[]⟩ : ByteArray)]) ?_ 1 _ rfl; (with_reducible repeat (first | refine blk_drewN ?_ _ | refine blk_drew ?_ | refine blk_alloc ?_ _)); exact BK214.out) hg (Kd.R_away HO_10.out (fun _ hk => hk.2))); have n3_ := Aside0.mk (hb); have n4_ := Aside0.mk (ho); clear BK200; clear HI208; clear BK214; clear HB; clear HO_10; have BK200 := n0_; have HI208 := n1_; have BK214 := n2_; have HB := n3_; have HO220 := n4_; clear n0_ n1_ n2_ n3_ n4_; clear ho hb hg hat))
                          go_roundg k2
                          case measure => have := HJ6.out; have := HK2.out; omega
                          case rel => exact ⟨(y218), (wrap64 (x37_2 + 1)), (t216), (t217), (by first | (with_reducible rfl) | (simp; done) | (simp [*]; done) | rfl), H', ⟨by have := HJ6.out; have := HK2.out; omega⟩, ⟨by (with_reducible repeat (first | apply Kd.R_alloc | apply Kd.R_drewN | apply Kd.R_drew)); exact Kd.R_mono HO220.out (fun _ hk => trivial)⟩, ⟨by (with_reducible repeat (first | refine blk_drewN ?_ _ | refine blk_drew ?_ | refine blk_alloc ?_ _)); exact BK200.out⟩, ⟨by repeat (first | (with_reducible first | exact HI208.out | apply IsS84.alloc | apply IsS84.drewN | apply IsS84.drew | apply IsS84.set_0 | apply IsS84.set_1 | refine IsS84.far ?_ NB208_200.out _ | refine IsS84.far ?_ NB208_214.out _) | exact HI208.out)⟩, ⟨by repeat (first | (with_reducible first | exact HB.out | apply below_alloc | apply pw_below_drewN | apply below_drew1 | refine below_set ?_ (IsS84.ge HI208.out) | refine below_set ?_ GE200.out | refine below_set ?_ GE214.out) | exact HB.out)⟩⟩
                        · rw [if_neg c26] at H
                          exact absurd H (by simp)
                      · rw [if_neg c24] at H
                        have c24b0 : ((rd y209 x37_2) == 1) = false := beq_eq_false_iff_ne.mpr c24
                        have c24b1 : ((rd y209 x37_2) != 1) = true := bne_iff_ne.mpr c24
                        replace H := Option.bind_eq_some_iff.mp H
                        obtain ⟨⟨t221, t222, t223⟩, A340, H⟩ := H
                        replace H : (if x10_2.length < 4398046511104 then (rows_Read.l0 k2 (x10_2 ++ [(⟨rd y209 x37_2, 0, t221⟩ : S29)]) y209 (y209.length : Int) (wrap64 (x37_2 + 1)) l0_0 a0_1 a0_2 t222 t223) else (none)) = some (r1, r2) := H
                        have A34 := Aside0.mk A340
                        clear A340
                        by_cases c35 : x10_2.length < 4398046511104
                        · rw [if_pos c35] at H
                          have LMc35 := Aside0.mk c35
                          clear c35
                          obtain ⟨y224, hy224⟩ : ∃ y_ : List (S29), y_ = (x10_2 ++ [(⟨rd y209 x37_2, 0, t221⟩ : S29)]) := ⟨_, rfl⟩
                          replace H : (rows_Read.l0 k2 y224 y209 (y209.length : Int) (wrap64 (x37_2 + 1)) l0_0 a0_1 a0_2 t222 t223) = some (r1, r2) := by first | (rw [hy224]; with_reducible exact H) | (have H2_ := (Option.bind_some _ _).symm.trans H; rw [hy224]; with_reducible exact H2_) | (have H2_ := (Option.bind_some _ _).symm.trans H; with_reducible exact H2_) | with_reducible exact H | (rw [hy224]; exact H) | exact H
                          have Ny224 := Aside0.mk hy224
                          clear hy224
                          have H' := Aside0.mk H
                          clear H
                          have p213 : 0 ≤ (x37_2 : Int) := of_decide_eq_true (by first | (with_reducible assumption) | assumption)
                          have q213 : x37_2 < (y209.length : Int) := of_decide_eq_true (by first | (with_reducible assumption) | assumption)
                          obtain ⟨ad213, e213, hx213_0⟩ := Kd.at_int HR212.out x37_2 p213 q213
                          cases e213
                          replace hx213_0 := (HB.out.cell (World.block_lt_of_cell? w _ hx213_0)).trans hx213_0
                          replace p213 := eq_true p213
                          replace q213 := eq_true q213
                          go_wp2_with (first | ((with_reducible refine gate_dst (N := 14) rfl ?_); (try (refine gate_guard (by rfl) ?_; dsimp only)); refine box_event ?hg (N := 14) ?hd (cs := #[.int .i64 0, .int .i64 0, .string (⟨#[]⟩ : ByteArray)]) (t := 29) ?hr ?_; (case hd => rfl); (case hg => rfl); (case hr => first | (go_simp; done) | (go_simp; rfl)); intro gb214 hg w36 hbox hb; have n0_ := Aside0.mk (Kd.R_below (Kd.R_elderB (by (with_reducible repeat (first | apply Kd.R_alloc | apply Kd.R_drewN | apply Kd.R_drew)); exact HO_10.out) gb214 (Nat.le_of_eq hg.symm)) hb); have n1_ := Aside0.mk (blk_below (g := gb200) (o := .cells #[.slice A0_0 l0_0.length c0_0, .int .i64 a0_1, .int .i64 a0_2] 24 (0, 0)) (by (with_reducible repeat (first | refine blk_drewN ?_ _ | refine blk_drew ?_ | refine blk_alloc ?_ _)); exact BK200.out) hb); have n2_ := Aside0.mk (IsS84.below (by repeat (first | (with_reducible first | exact HI208.out | apply IsS84.alloc | apply IsS84.drewN | apply IsS84.drew | apply IsS84.set_0 | apply IsS84.set_1 | refine IsS84.far ?_ NB208_200.out _) | exact HI208.out)) hb); have n3_ := Aside0.mk (below_step (by repeat (first | (with_reducible first | exact HB.out | apply below_alloc | apply pw_below_drewN | apply below_drew1 | refine below_set ?_ (IsS84.ge HI208.out) | refine below_set ?_ GE200.out) | exact HB.out)) hb); have n4_ := Aside0.mk (hbox); have n5_ := Aside0.mk ((by rw [hg]; exact (below_size (by repeat (first | (with_reducible first | exact HB.out | apply below_alloc | apply pw_below_drewN | apply below_drew1 | refine below_set ?_ (IsS84.ge HI208.out) | refine below_set ?_ GE200.out) | exact HB.out))) : w.heap.size ≤ gb214)); have n6_ := Aside0.mk ((by rw [hg]; exact (below_size (by repeat (first | (with_reducible first | exact HB.out | apply below_alloc | apply pw_below_drewN | apply below_drew1 | refine below_set ?_ (IsS84.ge HI208.out) | refine below_set ?_ GE200.out) | exact HB.out))) : w.heap.size ≤ gb214)); have n7_ := Aside0.mk ((by rw [hg]; exact Nat.ne_of_lt (blk_lt (g := gb200) (o := .cells #[.slice A0_0 l0_0.length c0_0, .int .i64 a0_1, .int .i64 a0_2] 24 (0, 0)) (by (with_reducible repeat (first | refine blk_drewN ?_ _ | refine blk_drew ?_ | refine blk_alloc ?_ _)); exact BK200.out)) : gb200 ≠ gb214)); have n8_ := Aside0.mk ((by rw [hg]; exact Nat.ne_of_gt (blk_lt (g := gb200) (o := .cells #[.slice A0_0 l0_0.length c0_0, .int .i64 a0_1, .int .i64 a0_2] 24 (0, 0)) (by (with_reducible repeat (first | refine blk_drewN ?_ _ | refine blk_drew ?_ | refine blk_alloc ?_ _)); exact BK200.out)) : gb214 ≠ gb200)); have n9_ := Aside0.mk ((by rw [hg]; exact Nat.ne_of_lt (IsS84.lt (show IsS84 w _ g208 x209000_2 x209001_2 from by repeat (first | (with_reducible first | exact HI208.out | apply IsS84.alloc | apply IsS84.drewN | apply IsS84.drew | apply IsS84.set_0 | apply IsS84.set_1 | refine IsS84.far ?_ NB208_200.out _) | exact HI208.out))) : g208 ≠ gb214)); have n10_ := Aside0.mk ((by rw [hg]; exact Nat.ne_of_gt (IsS84.lt (show IsS84 w _ g208 x209000_2 x209001_2 from by repeat (first | (with_reducible first | exact HI208.out | apply IsS84.alloc | apply IsS84.drewN | apply IsS84.drew | apply IsS84.set_0 | apply IsS84.set_1 | refine IsS84.far ?_ NB208_200.out _) | exact HI208.out))) : gb214 ≠ g208)); clear HO_10; clear BK200; clear HI208; clear HB; have HO_10 := n0_; have BK200 := n1_; have HI208 := n2_; have HB := n3_; have BK214 := n4_; have GW214 := n5_; have GE214 := n6_; have NB200_214 := n7_; have NB214_200 := n8_; have NB208_214 := n9_; have NB214_208 := n10_; clear n0_ n1_ n2_ n3_ n4_ n5_ n6_ n7_ n8_ n9_ n10_; clear hb hbox hg; have hnb37 := NB214_200.out; have hnc37 := NB200_214.out; have hnb38 := NB214_208.out; have hnc38 := NB208_214.out; have hcz39_0 : w36.cell? ⟨gb214, 0, none⟩ = some (.int .i64 0) := (blk_cell BK214.out 0).trans rfl; have hcz39_1 : w36.cell? ⟨gb214, 1, none⟩ = some (.int .i64 0) := (blk_cell BK214.out 1).trans rfl; have hcz39_2 : w36.cell? ⟨gb214, 2, none⟩ = some (.string (⟨#[]⟩ : ByteArray)) := (blk_cell BK214.out 2).trans rfl; have hfz39_0 := blk_frozen BK214.out 0; have hfz39_1 := blk_frozen BK214.out 1; have hfz39_2 := blk_frozen BK214.out 2) | ((with_reducible refine gate_callee (f := 44) rfl ?_); refine goesL_ (some 50) rfl rfl Tryd.func44 (by kernel_rfl) rfl #[.pointer (some ⟨g208, 0, none⟩), .int .i64 10] rfl (by (try simp only [List.map_toArray, List.map_cons, List.map_nil]); first | done | rfl | (simp only [List.length_drop, List.length_take]; rfl) | (simp (disch := omega) only [u64_in]; rfl)) ?_; (with_reducible refine (pack_Reader_Str.calls g208 x209000_2 x209001_2 10 t221 t222 t223 w _ ?side1 ?side2 A34.out).mono ?_); (case side1 => repeat (first | (with_reducible first | exact HI208.out | apply IsS84.alloc | apply IsS84.drewN | apply IsS84.drew | apply IsS84.set_0 | apply IsS84.set_1 | refine IsS84.far ?_ NB208_200.out _ | refine IsS84.far ?_ NB208_214.out _) | exact HI208.out)); (case side2 => repeat (first | (with_reducible first | exact HB.out | apply below_alloc | apply pw_below_drewN | apply below_drew1 | refine below_set ?_ (IsS84.ge HI208.out) | refine below_set ?_ GE200.out | refine below_set ?_ GE214.out) | exact HB.out)); rintro e w40 ⟨rfl, hi, hb, hk⟩; refine ⟨_, rfl, ?_⟩; have n0_ := Aside0.mk (Kd.R_mono (Kd.R_keep (IsS84.apart (show IsS84 w _ g208 x209000_2 x209001_2 from by repeat (first | (with_reducible first | exact HI208.out | apply IsS84.alloc | apply IsS84.drewN | apply IsS84.drew | apply IsS84.set_0 | apply IsS84.set_1 | refine IsS84.far ?_ NB208_200.out _ | refine IsS84.far ?_ NB208_214.out _) | exact HI208.out)) (by (with_reducible repeat (first | apply Kd.R_alloc | apply Kd.R_drewN | apply Kd.R_drew)); exact (Kd.R_mono (Kd.R_far (p := ⟨gb214, 2, none⟩) (Kd.R_far (p := ⟨gb214, 1, none⟩) (Kd.R_far (p := ⟨gb214, 0, none⟩) (Kd.R_mono HO_10.out (fun k_ hk => (⟨hk, hk.2⟩ : _ ∧ k_ ≠ gb214))) (fun _ hk => hk.2) (.int .i64 (rd y209 x37_2))) (fun _ hk => hk.2) (.int .i64 0)) (fun _ hk => hk.2) (.string (⟨#[]⟩ : ByteArray))) (fun _ h_ => h_.1))) (by decide)) hk (fun _ h => h.2)) (fun _ h => h.1)); have n1_ := Aside0.mk (KeepBut.blk hk (g' := gb200) (o := .cells #[.slice A0_0 l0_0.length c0_0, .int .i64 a0_1, .int .i64 a0_2] 24 (0, 0)) (by (with_reducible repeat (first | refine blk_drewN ?_ _ | refine blk_drew ?_ | refine blk_alloc ?_ _)); refine blk_far ?_ NB200_214.out _; (with_reducible repeat (first | refine blk_drewN ?_ _ | refine blk_drew ?_ | refine blk_alloc ?_ _)); refine blk_far ?_ NB200_214.out _; (with_reducible repeat (first | refine blk_drewN ?_ _ | refine blk_drew ?_ | refine blk_alloc ?_ _)); refine blk_far ?_ NB200_214.out _; (with_reducible repeat (first | refine blk_drewN ?_ _ | refine blk_drew ?_ | refine blk_alloc ?_ _)); exact BK200.out) NB200_208.out (by simp)); have n2_ := Aside0.mk (KeepBut.blk hk (g' := gb214) (o := .cells #[.int .i64 (rd y209 x37_2), .int .i64 0, .string (⟨#[]⟩ : ByteArray)] 29 (0, 0)) (by (with_reducible repeat (first | refine blk_drewN ?_ _ | refine blk_drew ?_ | refine blk_alloc ?_ _)); refine blk_put (cs := #[.int .i64 (rd y209 x37_2), .int .i64 0, .string (⟨#[]⟩ : ByteArray)]) ?_ 2 _ rfl; (with_reducible repeat (first | refine blk_drewN ?_ _ | refine blk_drew ?_ | refine blk_alloc ?_ _)); refine blk_put (cs := #[.int .i64 (rd y209 x37_2), .int .i64 0, .string (⟨#[]⟩ : ByteArray)]) ?_ 1 _ rfl; (with_reducible repeat (first | refine blk_drewN ?_ _ | refine blk_drew ?_ | refine blk_alloc ?_ _)); refine blk_put (cs := #[.int .i64 0, .int .i64 0, .string (⟨#[]⟩ : ByteArray)]) ?_ 0 _ rfl; (with_reducible repeat (first | refine blk_drewN ?_ _ | refine blk_drew ?_ | refine blk_alloc ?_ _)); exact BK214.out) NB214_208.out (by simp)); have n3_ := Aside0.mk (hb); have n4_ := Aside0.mk (hi); clear HO_10; clear BK200; clear BK214; clear HB; clear HI208; have HO_10 := n0_; have BK200 := n1_; have BK214 := n2_; have HB := n3_; have HI208 := n4_; clear n0_ n1_ n2_ n3_ n4_; (try clear hb); (try clear hb2); (try clear hk); (try clear hi); have hcz41_0 : w40.cell? ⟨gb214, 0, none⟩ = some (.int .i64 (rd y209 x37_2)) := (blk_cell BK214.out 0).trans rfl; have hcz41_1 : w40.cell? ⟨gb214, 1, none⟩ = some (.int .i64 0) := (blk_cell BK214.out 1).trans rfl; have hcz41_2 : w40.cell? ⟨gb214, 2, none⟩ = some (.string (⟨#[]⟩ : ByteArray)) := (blk_cell BK214.out 2).trans rfl; have hfz41_0 := blk_frozen BK214.out 0; have hfz41_1 := blk_frozen BK214.out 1; have hfz41_2 := blk_frozen BK214.out 2) | ((with_reducible refine gate_builtin (b := .append) (xs := #[.tmp 52, .tmp 54]) rfl ?_); (try (refine gate_guard (by rfl) ?_; dsimp only)); at_builtin; refine Kd.R_append k29 (w0 := w) w.heap.size rfl (.tmp 52) (.tmp 54) 26 29 (.agg #[(.int .i64 0), (.int .i64 0), (.string ⟨#[]⟩)]) 32 rfl Tryd.underlying26 info29 rfl (by decide) (by omega) u10 x10_2 (⟨rd y209 x37_2, 0, t221⟩ : S29) [.int .i64 (rd y209 x37_2), .int .i64 0, .string t221] (fun k_ => k_ ≠ gb214) (fun _ => False) rfl (by first | (go_simp; done) | (go_simp; rfl)) ?aP (fun _ hk => hk.elim) ?aF ?aO ?aB ?aS ?aL ?_; (case aP => exact k29_mkM _ _ _ (⟨rd y209 x37_2, 0, t221⟩ : S29)); (case aB => exact (by repeat (first | (with_reducible first | exact HB.out | apply below_alloc | apply pw_below_drewN | apply below_drew1 | refine below_set ?_ (IsS84.ge HI208.out) | refine below_set ?_ GE200.out | refine below_set ?_ GE214.out) | exact HB.out))); (case aF => exact (fun k_ hk => Kd.freshB (g := gb214) (o := .cells #[.int .i64 (rd y209 x37_2), .int .i64 0, .string t221] 29 (0, 0)) (by (with_reducible repeat (first | refine blk_drewN ?_ _ | refine blk_drew ?_ | refine blk_alloc ?_ _)); refine blk_put (cs := #[.int .i64 (rd y209 x37_2), .int .i64 0, .string (⟨#[]⟩ : ByteArray)]) ?_ 2 _ rfl; (with_reducible repeat (first | refine blk_drewN ?_ _ | refine blk_drew ?_ | refine blk_alloc ?_ _)); exact BK214.out) k_ hk)); (case aO => exact (by (with_reducible repeat (first | apply Kd.R_alloc | apply Kd.R_drewN | apply Kd.R_drew)); exact Kd.R_mono (Kd.R_far (p := ⟨gb214, 2, none⟩) (Kd.R_mono HO_10.out (fun k_ hk => (⟨hk, hk.2⟩ : _ ∧ k_ ≠ gb214))) (fun _ hk => hk.2) (.string t221)) (fun _ hk => hk.1.2))); (case aS => exact (below_size (by repeat (first | (with_reducible first | exact HB.out | apply below_alloc | apply pw_below_drewN | apply below_drew1 | refine below_set ?_ (IsS84.ge HI208.out) | refine below_set ?_ GE200.out | refine below_set ?_ GE214.out) | exact HB.out)))); (case aL => have := LMc35.out; omega); intro v225 w42 ho hb hg hat; rw [← Ny224.out] at ho; have n0_ := Aside0.mk (blk_grown (g := gb200) (o := .cells #[.slice A0_0 l0_0.length c0_0, .int .i64 a0_1, .int .i64 a0_2] 24 (0, 0)) (by (with_reducible repeat (first | refine blk_drewN ?_ _ | refine blk_drew ?_ | refine blk_alloc ?_ _)); refine blk_far ?_ NB200_214.out _; (with_reducible repeat (first | refine blk_drewN ?_ _ | refine blk_drew ?_ | refine blk_alloc ?_ _)); exact BK200.out) hg (Kd.R_ne HO_10.out BK200.out (by decide))); have n1_ := Aside0.mk (IsS84.grown (show IsS84 w _ g208 t222 t223 from by repeat (first | (with_reducible first | exact HI208.out | apply IsS84.alloc | apply IsS84.drewN | apply IsS84.drew | apply IsS84.set_0 | apply IsS84.set_1 | refine IsS84.far ?_ NB208_200.out _ | refine IsS84.far ?_ NB208_214.out _) | exact HI208.out)) hg (IsS84.own_ne HI208.out HO_10.out (by decide))); have n2_ := Aside0.mk (blk_grown (g := gb214) (o := .cells #[.int .i64 (rd y209 x37_2), .int .i64 0, .string t221] 29 (0, 0)) (by (with_reducible repeat (first | refine blk_drewN ?_ _ | refine blk_drew ?_ | refine blk_alloc ?_ _)); refine blk_put (cs := #[.int .i64 (rd y209 x37_2), .int .i64 0, .string (⟨#[]⟩ : ByteArray)]) ?_ 2 _ rfl; (with_reducible repeat (first | refine blk_drewN ?_ _ | refine blk_drew ?_ | refine blk_alloc ?_ _)); exact BK214.out) hg (Kd.R_away HO_10.out (fun _ hk => hk.2))); have n3_ := Aside0.mk (hb); have n4_ := Aside0.mk (ho); clear BK200; clear HI208; clear BK214; clear HB; clear HO_10; have BK200 := n0_; have HI208 := n1_; have BK214 := n2_; have HB := n3_; have HO226 := n4_; clear n0_ n1_ n2_ n3_ n4_; clear ho hb hg hat))
                          go_roundg k2
                          case measure => have := HJ6.out; have := HK2.out; omega
                          case rel => exact ⟨(y224), (wrap64 (x37_2 + 1)), (t222), (t223), (by first | (with_reducible rfl) | (simp; done) | (simp [*]; done) | rfl), H', ⟨by have := HJ6.out; have := HK2.out; omega⟩, ⟨by (with_reducible repeat (first | apply Kd.R_alloc | apply Kd.R_drewN | apply Kd.R_drew)); exact Kd.R_mono HO226.out (fun _ hk => trivial)⟩, ⟨by (with_reducible repeat (first | refine blk_drewN ?_ _ | refine blk_drew ?_ | refine blk_alloc ?_ _)); exact BK200.out⟩, ⟨by repeat (first | (with_reducible first | exact HI208.out | apply IsS84.alloc | apply IsS84.drewN | apply IsS84.drew | apply IsS84.set_0 | apply IsS84.set_1 | refine IsS84.far ?_ NB208_200.out _ | refine IsS84.far ?_ NB208_214.out _) | exact HI208.out)⟩, ⟨by repeat (first | (with_reducible first | exact HB.out | apply below_alloc | apply pw_below_drewN | apply below_drew1 | refine below_set ?_ (IsS84.ge HI208.out) | refine below_set ?_ GE200.out | refine below_set ?_ GE214.out) | exact HB.out)⟩⟩
                        · rw [if_neg c35] at H
                          exact absurd H (by simp)
                    · rw [if_neg c23] at H
                      exact absurd H (by simp)
                  · rw [if_neg c22] at H
                    exact absurd H (by simp)
                · rw [if_neg c21] at H
                  have c21b0 : decide (x37_2 < (y209.length : Int)) = false := decide_eq_false c21
                  clear c21
                  replace H := Option.bind_eq_some_iff.mp H
                  obtain ⟨⟨t227, t228, t229⟩, A430, H⟩ := H
                  replace H : (if t227 = 0 then ((rows_Fits.f k2 l0_0 a0_1 a0_2 x10_2).bind fun t230 => (if t230 = 0 then (some (x10_2, 0)) else (some (([] : List (S29)), 10)))) else (some (([] : List (S29)), 10))) = some (r1, r2) := H
                  have A43 := Aside0.mk A430
                  clear A430
                  by_cases c44 : t227 = 0
                  · rw [if_pos c44] at H
                    have c44b0 : (t227 == 0) = true := beq_iff_eq.mpr c44
                    have c44b1 : (t227 != 0) = false := bne_eq_false_iff_eq.mpr c44
                    clear c44
                    replace H := Option.bind_eq_some_iff.mp H
                    obtain ⟨t230, A450, H⟩ := H
                    replace H : (if t230 = 0 then (some (x10_2, 0)) else (some (([] : List (S29)), 10))) = some (r1, r2) := H
                    have A45 := Aside0.mk A450
                    clear A450
                    by_cases c46 : t230 = 0
                    · rw [if_pos c46] at H
                      have c46b0 : (t230 == 0) = true := beq_iff_eq.mpr c46
                      have c46b1 : (t230 != 0) = false := bne_eq_false_iff_eq.mpr c46
                      clear c46
                      simp only [Option.some.injEq, Prod.mk.injEq] at H
                      obtain ⟨rfl, rfl⟩ := H
                      go_wp2_with (first | ((with_reducible refine gate_callee (f := 45) rfl ?_); refine goesL_ (some 58) rfl rfl Tryd.func45 (by kernel_rfl) rfl #[.pointer (some ⟨g208, 0, none⟩)] rfl (by (try simp only [List.map_toArray, List.map_cons, List.map_nil]); first | done | rfl | (simp only [List.length_drop, List.length_take]; rfl) | (simp (disch := omega) only [u64_in]; rfl)) ?_; (with_reducible refine (pack_Reader_Done.calls g208 x209000_2 x209001_2 t227 t228 t229 w _ ?side1 ?side2 A43.out).mono ?_); (case side1 => repeat (first | (with_reducible first | exact HI208.out | apply IsS84.alloc | apply IsS84.drewN | apply IsS84.drew | apply IsS84.set_0 | apply IsS84.set_1 | refine IsS84.far ?_ NB208_200.out _) | exact HI208.out)); (case side2 => repeat (first | (with_reducible first | exact HB.out | apply below_alloc | apply pw_below_drewN | apply below_drew1 | refine below_set ?_ (IsS84.ge HI208.out) | refine below_set ?_ GE200.out) | exact HB.out)); rintro e w47 ⟨rfl, hi, hb, hk⟩; refine ⟨_, rfl, ?_⟩; have n0_ := Aside0.mk (Kd.R_mono (Kd.R_keep (IsS84.apart (show IsS84 w _ g208 x209000_2 x209001_2 from by repeat (first | (with_reducible first | exact HI208.out | apply IsS84.alloc | apply IsS84.drewN | apply IsS84.drew | apply IsS84.set_0 | apply IsS84.set_1 | refine IsS84.far ?_ NB208_200.out _) | exact HI208.out)) (by (with_reducible repeat (first | apply Kd.R_alloc | apply Kd.R_drewN | apply Kd.R_drew)); exact HO_10.out) (by decide)) hk (fun _ h => h.2)) (fun _ h => h.1)); have n1_ := Aside0.mk (KeepBut.blk hk (g' := gb200) (o := .cells #[.slice A0_0 l0_0.length c0_0, .int .i64 a0_1, .int .i64 a0_2] 24 (0, 0)) (by (with_reducible repeat (first | refine blk_drewN ?_ _ | refine blk_drew ?_ | refine blk_alloc ?_ _)); exact BK200.out) NB200_208.out (by simp)); have n2_ := Aside0.mk (hb); have n3_ := Aside0.mk (hi); clear HO_10; clear BK200; clear HB; clear HI208; have HO_10 := n0_; have BK200 := n1_; have HB := n2_; have HI208 := n3_; clear n0_ n1_ n2_ n3_; (try clear hb); (try clear hb2); (try clear hk); (try clear hi); have hnb48 := NB200_208.out; have hnc48 := NB208_200.out; have hcz49_0 : w47.cell? ⟨gb200, 0, none⟩ = some (.slice A0_0 l0_0.length c0_0) := (blk_cell BK200.out 0).trans rfl; have hcz49_1 : w47.cell? ⟨gb200, 1, none⟩ = some (.int .i64 a0_1) := (blk_cell BK200.out 1).trans rfl; have hcz49_2 : w47.cell? ⟨gb200, 2, none⟩ = some (.int .i64 a0_2) := (blk_cell BK200.out 2).trans rfl; have hfz49_0 := blk_frozen BK200.out 0; have hfz49_1 := blk_frozen BK200.out 1; have hfz49_2 := blk_frozen BK200.out 2; obtain ⟨Ao50, co50, eo50⟩ := Kd.R_slice HO_10.out; subst eo50) | (go_at_call 15; (with_reducible refine (rows_Fits.calls k2 _ _ l0_0 a0_1 a0_2 _ _ x10_2 t230 _ ?side1 ?side2 ?side3 ?side4 A45.out).mono ?_); (case side1 => repeat (first | exact (Kd.C_below HR0_0.out HB.out) | (with_reducible refine Kd.C_alloc ?_ _) | (with_reducible refine Kd.C_drewN ?_ _) | (with_reducible refine Kd.C_drew ?_))); (case side2 => exact HC0_0.out); (case side3 => repeat (first | exact (Kd.R_reads' HO_10.out).2.2 | (with_reducible refine Kd.C_alloc ?_ _) | (with_reducible refine Kd.C_drewN ?_ _) | (with_reducible refine Kd.C_drew ?_))); (case side4 => exact (Kd.R_reads' HO_10.out).2.1); rintro e w51 ⟨rfl, hb⟩; have n0_ := Aside0.mk (Kd.R_below (by (with_reducible repeat (first | apply Kd.R_alloc | apply Kd.R_drewN | apply Kd.R_drew)); exact HO_10.out) hb); have n1_ := Aside0.mk (blk_below (g := gb200) (o := .cells #[.slice A0_0 l0_0.length c0_0, .int .i64 a0_1, .int .i64 a0_2] 24 (0, 0)) (by (with_reducible repeat (first | refine blk_drewN ?_ _ | refine blk_drew ?_ | refine blk_alloc ?_ _)); exact BK200.out) hb); have n2_ := Aside0.mk (IsS84.below (by repeat (first | (with_reducible first | exact HI208.out | apply IsS84.alloc | apply IsS84.drewN | apply IsS84.drew | apply IsS84.set_0 | apply IsS84.set_1 | refine IsS84.far ?_ NB208_200.out _) | exact HI208.out)) hb); have n3_ := Aside0.mk (below_step (by repeat (first | (with_reducible first | exact HB.out | apply below_alloc | apply pw_below_drewN | apply below_drew1 | refine below_set ?_ (IsS84.ge HI208.out) | refine below_set ?_ GE200.out) | exact HB.out)) hb); clear HO_10; clear BK200; clear HI208; clear HB; have HO_10 := n0_; have BK200 := n1_; have HI208 := n2_; have HB := n3_; clear n0_ n1_ n2_ n3_; (try clear hb); (try clear hb2); (try clear hk); (try clear hi)))
                      go_ret2
                      exact ⟨_, by first | (with_reducible rfl) | (simp only [isEmpty_bne, Bool.not_not] <;> with_reducible rfl) | (simp [errW_none, errW_some] <;> with_reducible rfl) | (simp only [isEmpty_bne, Bool.not_not] <;> rfl) | rfl | (simp [errW_none, errW_some] <;> rfl) | (simp [*, errW_none, errW_some] <;> rfl), by (with_reducible repeat (first | apply Kd.R_alloc | apply Kd.R_drewN | apply Kd.R_drew)); exact HO_10.out, by repeat (first | (with_reducible first | exact HB.out | apply below_alloc | apply pw_below_drewN | apply below_drew1 | refine below_set ?_ (IsS84.ge HI208.out) | refine below_set ?_ GE200.out) | exact HB.out)⟩
                    · rw [if_neg c46] at H
                      have c46b0 : (t230 == 0) = false := beq_eq_false_iff_ne.mpr c46
                      have c46b1 : (t230 != 0) = true := bne_iff_ne.mpr c46
                      simp only [Option.some.injEq, Prod.mk.injEq] at H
                      obtain ⟨rfl, rfl⟩ := H
                      go_wp2_with (first | ((with_reducible refine gate_callee (f := 45) rfl ?_); refine goesL_ (some 58) rfl rfl Tryd.func45 (by kernel_rfl) rfl #[.pointer (some ⟨g208, 0, none⟩)] rfl (by (try simp only [List.map_toArray, List.map_cons, List.map_nil]); first | done | rfl | (simp only [List.length_drop, List.length_take]; rfl) | (simp (disch := omega) only [u64_in]; rfl)) ?_; (with_reducible refine (pack_Reader_Done.calls g208 x209000_2 x209001_2 t227 t228 t229 w _ ?side1 ?side2 A43.out).mono ?_); (case side1 => repeat (first | (with_reducible first | exact HI208.out | apply IsS84.alloc | apply IsS84.drewN | apply IsS84.drew | apply IsS84.set_0 | apply IsS84.set_1 | refine IsS84.far ?_ NB208_200.out _) | exact HI208.out)); (case side2 => repeat (first | (with_reducible first | exact HB.out | apply below_alloc | apply pw_below_drewN | apply below_drew1 | refine below_set ?_ (IsS84.ge HI208.out) | refine below_set ?_ GE200.out) | exact HB.out)); rintro e w52 ⟨rfl, hi, hb, hk⟩; refine ⟨_, rfl, ?_⟩; have n0_ := Aside0.mk (Kd.R_mono (Kd.R_keep (IsS84.apart (show IsS84 w _ g208 x209000_2 x209001_2 from by repeat (first | (with_reducible first | exact HI208.out | apply IsS84.alloc | apply IsS84.drewN | apply IsS84.drew | apply IsS84.set_0 | apply IsS84.set_1 | refine IsS84.far ?_ NB208_200.out _) | exact HI208.out)) (by (with_reducible repeat (first | apply Kd.R_alloc | apply Kd.R_drewN | apply Kd.R_drew)); exact HO_10.out) (by decide)) hk (fun _ h => h.2)) (fun _ h => h.1)); have n1_ := Aside0.mk (KeepBut.blk hk (g' := gb200) (o := .cells #[.slice A0_0 l0_0.length c0_0, .int .i64 a0_1, .int .i64 a0_2] 24 (0, 0)) (by (with_reducible repeat (first | refine blk_drewN ?_ _ | refine blk_drew ?_ | refine blk_alloc ?_ _)); exact BK200.out) NB200_208.out (by simp)); have n2_ := Aside0.mk (hb); have n3_ := Aside0.mk (hi); clear HO_10; clear BK200; clear HB; clear HI208; have HO_10 := n0_; have BK200 := n1_; have HB := n2_; have HI208 := n3_; clear n0_ n1_ n2_ n3_; (try clear hb); (try clear hb2); (try clear hk); (try clear hi); have hnb53 := NB200_208.out; have hnc53 := NB208_200.out; have hcz54_0 : w52.cell? ⟨gb200, 0, none⟩ = some (.slice A0_0 l0_0.length c0_0) := (blk_cell BK200.out 0).trans rfl; have hcz54_1 : w52.cell? ⟨gb200, 1, none⟩ = some (.int .i64 a0_1) := (blk_cell BK200.out 1).trans rfl; have hcz54_2 : w52.cell? ⟨gb200, 2, none⟩ = some (.int .i64 a0_2) := (blk_cell BK200.out 2).trans rfl; have hfz54_0 := blk_frozen BK200.out 0; have hfz54_1 := blk_frozen BK200.out 1; have hfz54_2 := blk_frozen BK200.out 2; obtain ⟨Ao55, co55, eo55⟩ := Kd.R_slice HO_10.out; subst eo55) | (go_at_call 15; (with_reducible refine (rows_Fits.calls k2 _ _ l0_0 a0_1 a0_2 _ _ x10_2 t230 _ ?side1 ?side2 ?side3 ?side4 A45.out).mono ?_); (case side1 => repeat (first | exact (Kd.C_below HR0_0.out HB.out) | (with_reducible refine Kd.C_alloc ?_ _) | (with_reducible refine Kd.C_drewN ?_ _) | (with_reducible refine Kd.C_drew ?_))); (case side2 => exact HC0_0.out); (case side3 => repeat (first | exact (Kd.R_reads' HO_10.out).2.2 | (with_reducible refine Kd.C_alloc ?_ _) | (with_reducible refine Kd.C_drewN ?_ _) | (with_reducible refine Kd.C_drew ?_))); (case side4 => exact (Kd.R_reads' HO_10.out).2.1); rintro e w56 ⟨rfl, hb⟩; have n0_ := Aside0.mk (Kd.R_below (by (with_reducible repeat (first | apply Kd.R_alloc | apply Kd.R_drewN | apply Kd.R_drew)); exact HO_10.out) hb); have n1_ := Aside0.mk (blk_below (g := gb200) (o := .cells #[.slice A0_0 l0_0.length c0_0, .int .i64 a0_1, .int .i64 a0_2] 24 (0, 0)) (by (with_reducible repeat (first | refine blk_drewN ?_ _ | refine blk_drew ?_ | refine blk_alloc ?_ _)); exact BK200.out) hb); have n2_ := Aside0.mk (IsS84.below (by repeat (first | (with_reducible first | exact HI208.out | apply IsS84.alloc | apply IsS84.drewN | apply IsS84.drew | apply IsS84.set_0 | apply IsS84.set_1 | refine IsS84.far ?_ NB208_200.out _) | exact HI208.out)) hb); have n3_ := Aside0.mk (below_step (by repeat (first | (with_reducible first | exact HB.out | apply below_alloc | apply pw_below_drewN | apply below_drew1 | refine below_set ?_ (IsS84.ge HI208.out) | refine below_set ?_ GE200.out) | exact HB.out)) hb); clear HO_10; clear BK200; clear HI208; clear HB; have HO_10 := n0_; have BK200 := n1_; have HI208 := n2_; have HB := n3_; clear n0_ n1_ n2_ n3_; (try clear hb); (try clear hb2); (try clear hk); (try clear hi)))
                      go_ret2
                      exact ⟨_, by first | (with_reducible rfl) | (simp only [isEmpty_bne, Bool.not_not] <;> with_reducible rfl) | (simp [errW_none, errW_some] <;> with_reducible rfl) | (simp only [isEmpty_bne, Bool.not_not] <;> rfl) | rfl | (simp [errW_none, errW_some] <;> rfl) | (simp [*, errW_none, errW_some] <;> rfl), by first | exact Kd.R_nil _ _ _ _ _ | exact Kd.N_nil _ _ _ _ _ | exact Kd.V_nil _ _ _ _ _ | exact Kd.Q_nil _ _ _ _ _ | exact Kd.S_nil _ _ _ _ _, by repeat (first | (with_reducible first | exact HB.out | apply below_alloc | apply pw_below_drewN | apply below_drew1 | refine below_set ?_ (IsS84.ge HI208.out) | refine below_set ?_ GE200.out) | exact HB.out)⟩
                  · rw [if_neg c44] at H
                    have c44b0 : (t227 == 0) = false := beq_eq_false_iff_ne.mpr c44
                    have c44b1 : (t227 != 0) = true := bne_iff_ne.mpr c44
                    simp only [Option.some.injEq, Prod.mk.injEq] at H
                    obtain ⟨rfl, rfl⟩ := H
                    go_wp2_with (first | ((with_reducible refine gate_callee (f := 45) rfl ?_); refine goesL_ (some 58) rfl rfl Tryd.func45 (by kernel_rfl) rfl #[.pointer (some ⟨g208, 0, none⟩)] rfl (by (try simp only [List.map_toArray, List.map_cons, List.map_nil]); first | done | rfl | (simp only [List.length_drop, List.length_take]; rfl) | (simp (disch := omega) only [u64_in]; rfl)) ?_; (with_reducible refine (pack_Reader_Done.calls g208 x209000_2 x209001_2 t227 t228 t229 w _ ?side1 ?side2 A43.out).mono ?_); (case side1 => repeat (first | (with_reducible first | exact HI208.out | apply IsS84.alloc | apply IsS84.drewN | apply IsS84.drew | apply IsS84.set_0 | apply IsS84.set_1 | refine IsS84.far ?_ NB208_200.out _) | exact HI208.out)); (case side2 => repeat (first | (with_reducible first | exact HB.out | apply below_alloc | apply pw_below_drewN | apply below_drew1 | refine below_set ?_ (IsS84.ge HI208.out) | refine below_set ?_ GE200.out) | exact HB.out)); rintro e w57 ⟨rfl, hi, hb, hk⟩; refine ⟨_, rfl, ?_⟩; have n0_ := Aside0.mk (Kd.R_mono (Kd.R_keep (IsS84.apart (show IsS84 w _ g208 x209000_2 x209001_2 from by repeat (first | (with_reducible first | exact HI208.out | apply IsS84.alloc | apply IsS84.drewN | apply IsS84.drew | apply IsS84.set_0 | apply IsS84.set_1 | refine IsS84.far ?_ NB208_200.out _) | exact HI208.out)) (by (with_reducible repeat (first | apply Kd.R_alloc | apply Kd.R_drewN | apply Kd.R_drew)); exact HO_10.out) (by decide)) hk (fun _ h => h.2)) (fun _ h => h.1)); have n1_ := Aside0.mk (KeepBut.blk hk (g' := gb200) (o := .cells #[.slice A0_0 l0_0.length c0_0, .int .i64 a0_1, .int .i64 a0_2] 24 (0, 0)) (by (with_reducible repeat (first | refine blk_drewN ?_ _ | refine blk_drew ?_ | refine blk_alloc ?_ _)); exact BK200.out) NB200_208.out (by simp)); have n2_ := Aside0.mk (hb); have n3_ := Aside0.mk (hi); clear HO_10; clear BK200; clear HB; clear HI208; have HO_10 := n0_; have BK200 := n1_; have HB := n2_; have HI208 := n3_; clear n0_ n1_ n2_ n3_; (try clear hb); (try clear hb2); (try clear hk); (try clear hi)))
                    go_ret2
                    exact ⟨_, by first | (with_reducible rfl) | (simp only [isEmpty_bne, Bool.not_not] <;> with_reducible rfl) | (simp [errW_none, errW_some] <;> with_reducible rfl) | (simp only [isEmpty_bne, Bool.not_not] <;> rfl) | rfl | (simp [errW_none, errW_some] <;> rfl) | (simp [*, errW_none, errW_some] <;> rfl), by first | exact Kd.R_nil _ _ _ _ _ | exact Kd.N_nil _ _ _ _ _ | exact Kd.V_nil _ _ _ _ _ | exact Kd.Q_nil _ _ _ _ _ | exact Kd.S_nil _ _ _ _ _, by repeat (first | (with_reducible first | exact HB.out | apply below_alloc | apply pw_below_drewN | apply below_drew1 | refine below_set ?_ (IsS84.ge HI208.out) | refine below_set ?_ GE200.out) | exact HB.out)⟩
          · rw [if_neg c16] at H
            exact absurd H (by simp)
  · replace c5 := Bool.eq_false_iff.mpr c5
    subst c5
    have H1 : (some (([] : List (S29)), 4)) = some (r1, r2) := by rw [if_neg (show ¬ (false = true) by decide)] at H; exact H
    clear H
    have H := H1
    clear H1
    simp only [Option.some.injEq, Prod.mk.injEq] at H
    obtain ⟨rfl, rfl⟩ := H
    go_enter Tryd.func19, Tryd.ntmps19
    go_wp2_with (first | ((with_reducible refine gate_dst (N := 3) rfl ?_); (try (refine gate_guard (by rfl) ?_; dsimp only)); refine box_event ?hg (N := 3) ?hd (cs := #[.slice A0_0 l0_0.length c0_0, .int .i64 a0_1, .int .i64 a0_2]) (t := 24) ?hr ?_; (case hd => rfl); (case hg => rfl); (case hr => first | (go_simp; done) | (go_simp; rfl)); intro gb200 hg w58 hbox hb; have n0_ := Aside0.mk (below_step (by repeat (first | (with_reducible first | exact HB.out | apply below_alloc | apply pw_below_drewN | apply below_drew1) | exact HB.out)) hb); have n1_ := Aside0.mk (hbox); have n2_ := Aside0.mk ((by rw [hg]; exact (below_size (by repeat (first | (with_reducible first | exact HB.out | apply below_alloc | apply pw_below_drewN | apply below_drew1) | exact HB.out))) : w.heap.size ≤ gb200)); have n3_ := Aside0.mk ((by rw [hg]; exact (below_size (by repeat (first | (with_reducible first | exact HB.out | apply below_alloc | apply pw_below_drewN | apply below_drew1) | exact HB.out))) : w.heap.size ≤ gb200)); clear HB; have HB := n0_; have BK200 := n1_; have GW200 := n2_; have GE200 := n3_; clear n0_ n1_ n2_ n3_; clear hb hbox hg; have hcz59_0 : w58.cell? ⟨gb200, 0, none⟩ = some (.slice A0_0 l0_0.length c0_0) := (blk_cell BK200.out 0).trans rfl; have hcz59_1 : w58.cell? ⟨gb200, 1, none⟩ = some (.int .i64 a0_1) := (blk_cell BK200.out 1).trans rfl; have hcz59_2 : w58.cell? ⟨gb200, 2, none⟩ = some (.int .i64 a0_2) := (blk_cell BK200.out 2).trans rfl; have hfz59_0 := blk_frozen BK200.out 0; have hfz59_1 := blk_frozen BK200.out 1; have hfz59_2 := blk_frozen BK200.out 2) | ((with_reducible refine gate_callee (f := 13) rfl ?_); refine goesL_ (some 16) rfl rfl Tryd.func13 (by kernel_rfl) rfl #[.agg #[.slice A0_0 l0_0.length c0_0, .int .i64 a0_1, .int .i64 a0_2]] rfl (by (try simp only [List.map_toArray, List.map_cons, List.map_nil]); first | done | rfl | (simp only [List.length_drop, List.length_take]; rfl) | (simp (disch := omega) only [u64_in]; rfl)) ?_; (with_reducible refine (rows_Right.calls k _ _ l0_0 a0_1 a0_2 false _ ?side1 ?side2 A4.out).mono ?_); (case side1 => repeat (first | exact (Kd.C_below HR0_0.out HB.out) | (with_reducible refine Kd.C_alloc ?_ _) | (with_reducible refine Kd.C_drewN ?_ _) | (with_reducible refine Kd.C_drew ?_))); (case side2 => exact HC0_0.out); rintro e w60 ⟨rfl, hb⟩; refine ⟨_, rfl, ?_⟩; have n0_ := Aside0.mk (blk_below (g := gb200) (o := .cells #[.slice A0_0 l0_0.length c0_0, .int .i64 a0_1, .int .i64 a0_2] 24 (0, 0)) (by (with_reducible repeat (first | refine blk_drewN ?_ _ | refine blk_drew ?_ | refine blk_alloc ?_ _)); exact BK200.out) hb); have n1_ := Aside0.mk (below_step (by repeat (first | (with_reducible first | exact HB.out | apply below_alloc | apply pw_below_drewN | apply below_drew1 | refine below_set ?_ GE200.out) | exact HB.out)) hb); clear BK200; clear HB; have BK200 := n0_; have HB := n1_; clear n0_ n1_; (try clear hb); (try clear hb2); (try clear hk); (try clear hi)))
    go_ret2
    exact ⟨_, by first | (with_reducible rfl) | (simp only [isEmpty_bne, Bool.not_not] <;> with_reducible rfl) | (simp [errW_none, errW_some] <;> with_reducible rfl) | (simp only [isEmpty_bne, Bool.not_not] <;> rfl) | rfl | (simp [errW_none, errW_some] <;> rfl) | (simp [*, errW_none, errW_some] <;> rfl), by first | exact Kd.R_nil _ _ _ _ _ | exact Kd.N_nil _ _ _ _ _ | exact Kd.V_nil _ _ _ _ _ | exact Kd.Q_nil _ _ _ _ _ | exact Kd.S_nil _ _ _ _ _, by repeat (first | (with_reducible first | exact HB.out | apply below_alloc | apply pw_below_drewN | apply below_drew1 | refine below_set ?_ GE200.out) | exact HB.out)⟩

/-! ### factotumlaw03_lives: function 10 -/
def factotumlaw03_lives.f (k : Nat)  : Option (Bool) := (factotumlaw03_Schema.f).bind fun bt231 => ((rows_Write.f k bt231.1 bt231.2.1 bt231.2.2 (([(⟨1, 7, (⟨#[]⟩ : ByteArray)⟩ : S29), (⟨2, 0, (⟨#[97]⟩ : ByteArray)⟩ : S29)] : List (S29)))).bind fun bt239 => ((factotumlaw03_Schema.f).bind fun bt242 => ((rows_Read.f k bt242.1 bt242.2.1 bt242.2.2 (⟨#[1, 128, 0, 0, 0, 0, 0, 0, 7]⟩ : ByteArray) (⟨#[1, 97]⟩ : ByteArray)).bind fun bt247 => (if bt239.2.2 = 0 then (if bt239.1.toList = ([1, 128, 0, 0, 0, 0, 0, 0, 7] : List UInt8) then (if bt239.2.1.toList = ([1, 97] : List UInt8) then (if bt247.2 = 0 then (if (bt247.1.length : Int) = 2 then (if 1 < (bt247.1.length : Int) then (if ((rd_T29 bt247.1 1).f2).toList = ([97] : List UInt8) then ((factotumlaw03_Schema.f).bind fun bt252 => ((rows_Right.f k bt252.1 bt252.2.1 bt252.2.2).bind fun t257 => (some t257))) else (none)) else (none)) else (none)) else (none)) else (none)) else (none)) else (none)))))
theorem factotumlaw03_lives.mono : ∀ k, LeO (factotumlaw03_lives.f k ) (factotumlaw03_lives.f (k + 1) ) := by
  intro  k
  unfold factotumlaw03_lives.f
  repeat' first
      | (with_reducible exact rows_Read.mono _ _ _ _ _ _)
      | (with_reducible exact rows_Right.mono _ _ _ _)
      | (with_reducible exact rows_Write.mono _ _ _ _ _)
      | (with_reducible exact LeO.refl _)
      | (with_reducible exact LeO.none _)
      | (with_reducible refine LeO.ite ?_ ?_)
      | (with_reducible refine LeO.bind ?_ (fun _ => ?_))
      | exact rows_Read.mono _ _ _ _ _ _
      | exact rows_Right.mono _ _ _ _
      | exact rows_Write.mono _ _ _ _ _
      | exact LeO.none _
      | refine LeO.ite ?_ ?_
      | refine LeO.bind ?_ (fun _ => ?_)
set_option maxHeartbeats 8000000 in
set_option maxRecDepth 100000 in
theorem factotumlaw03_lives.calls (k : Nat)  (r : Bool) (w : World) (h : factotumlaw03_lives.f k  = some r) :
    Calls Tryd.prog 10 #[] w fun e w' => e = .returned (.bool r) ∧ Below w.heap.size w w' := by
  have hu29 := Tryd.underlying29
  have HB := Aside0.mk (Below.refl w.heap.size w)
  have H : ((factotumlaw03_Schema.f).bind fun bt231 => ((rows_Write.f k bt231.1 bt231.2.1 bt231.2.2 (([(⟨1, 7, (⟨#[]⟩ : ByteArray)⟩ : S29), (⟨2, 0, (⟨#[97]⟩ : ByteArray)⟩ : S29)] : List (S29)))).bind fun bt239 => ((factotumlaw03_Schema.f).bind fun bt242 => ((rows_Read.f k bt242.1 bt242.2.1 bt242.2.2 (⟨#[1, 128, 0, 0, 0, 0, 0, 0, 7]⟩ : ByteArray) (⟨#[1, 97]⟩ : ByteArray)).bind fun bt247 => (if bt239.2.2 = 0 then (if bt239.1.toList = ([1, 128, 0, 0, 0, 0, 0, 0, 7] : List UInt8) then (if bt239.2.1.toList = ([1, 97] : List UInt8) then (if bt247.2 = 0 then (if (bt247.1.length : Int) = 2 then (if 1 < (bt247.1.length : Int) then (if ((rd_T29 bt247.1 1).f2).toList = ([97] : List UInt8) then ((factotumlaw03_Schema.f).bind fun bt252 => ((rows_Right.f k bt252.1 bt252.2.1 bt252.2.2).bind fun t257 => (some t257))) else (none)) else (none)) else (none)) else (none)) else (none)) else (none)) else (none)))))) = some r := h
  clear h
  replace H := Option.bind_eq_some_iff.mp H
  obtain ⟨⟨t231, t234, t235⟩, A10, H⟩ := H
  replace H : ((rows_Write.f k t231 t234 t235 (([(⟨1, 7, (⟨#[]⟩ : ByteArray)⟩ : S29), (⟨2, 0, (⟨#[97]⟩ : ByteArray)⟩ : S29)] : List (S29)))).bind fun bt239 => ((factotumlaw03_Schema.f).bind fun bt242 => ((rows_Read.f k bt242.1 bt242.2.1 bt242.2.2 (⟨#[1, 128, 0, 0, 0, 0, 0, 0, 7]⟩ : ByteArray) (⟨#[1, 97]⟩ : ByteArray)).bind fun bt247 => (if bt239.2.2 = 0 then (if bt239.1.toList = ([1, 128, 0, 0, 0, 0, 0, 0, 7] : List UInt8) then (if bt239.2.1.toList = ([1, 97] : List UInt8) then (if bt247.2 = 0 then (if (bt247.1.length : Int) = 2 then (if 1 < (bt247.1.length : Int) then (if ((rd_T29 bt247.1 1).f2).toList = ([97] : List UInt8) then ((factotumlaw03_Schema.f).bind fun bt252 => ((rows_Right.f k bt252.1 bt252.2.1 bt252.2.2).bind fun t257 => (some t257))) else (none)) else (none)) else (none)) else (none)) else (none)) else (none)) else (none))))) = some r := H
  have A1 := Aside0.mk A10
  clear A10
  obtain ⟨y236, hy236⟩ : ∃ y_ : List (S29), y_ = (([(⟨1, 7, (⟨#[]⟩ : ByteArray)⟩ : S29), (⟨2, 0, (⟨#[97]⟩ : ByteArray)⟩ : S29)] : List (S29))) := ⟨_, rfl⟩
  replace H : ((rows_Write.f k t231 t234 t235 y236).bind fun bt239 => ((factotumlaw03_Schema.f).bind fun bt242 => ((rows_Read.f k bt242.1 bt242.2.1 bt242.2.2 (⟨#[1, 128, 0, 0, 0, 0, 0, 0, 7]⟩ : ByteArray) (⟨#[1, 97]⟩ : ByteArray)).bind fun bt247 => (if bt239.2.2 = 0 then (if bt239.1.toList = ([1, 128, 0, 0, 0, 0, 0, 0, 7] : List UInt8) then (if bt239.2.1.toList = ([1, 97] : List UInt8) then (if bt247.2 = 0 then (if (bt247.1.length : Int) = 2 then (if 1 < (bt247.1.length : Int) then (if ((rd_T29 bt247.1 1).f2).toList = ([97] : List UInt8) then ((factotumlaw03_Schema.f).bind fun bt252 => ((rows_Right.f k bt252.1 bt252.2.1 bt252.2.2).bind fun t257 => (some t257))) else (none)) else (none)) else (none)) else (none)) else (none)) else (none)) else (none))))) = some r := by first | (rw [hy236]; with_reducible exact H) | (have H2_ := (Option.bind_some _ _).symm.trans H; rw [hy236]; with_reducible exact H2_) | (have H2_ := (Option.bind_some _ _).symm.trans H; with_reducible exact H2_) | with_reducible exact H | (rw [hy236]; exact H) | exact H
  have Ny236 := Aside0.mk hy236
  clear hy236
  replace H := Option.bind_eq_some_iff.mp H
  obtain ⟨⟨t239, t240, t241⟩, A20, H⟩ := H
  replace H : ((factotumlaw03_Schema.f).bind fun bt242 => ((rows_Read.f k bt242.1 bt242.2.1 bt242.2.2 (⟨#[1, 128, 0, 0, 0, 0, 0, 0, 7]⟩ : ByteArray) (⟨#[1, 97]⟩ : ByteArray)).bind fun bt247 => (if t241 = 0 then (if t239.toList = ([1, 128, 0, 0, 0, 0, 0, 0, 7] : List UInt8) then (if t240.toList = ([1, 97] : List UInt8) then (if bt247.2 = 0 then (if (bt247.1.length : Int) = 2 then (if 1 < (bt247.1.length : Int) then (if ((rd_T29 bt247.1 1).f2).toList = ([97] : List UInt8) then ((factotumlaw03_Schema.f).bind fun bt252 => ((rows_Right.f k bt252.1 bt252.2.1 bt252.2.2).bind fun t257 => (some t257))) else (none)) else (none)) else (none)) else (none)) else (none)) else (none)) else (none)))) = some r := H
  have A2 := Aside0.mk A20
  clear A20
  replace H := Option.bind_eq_some_iff.mp H
  obtain ⟨⟨t242, t245, t246⟩, A30, H⟩ := H
  replace H : ((rows_Read.f k t242 t245 t246 (⟨#[1, 128, 0, 0, 0, 0, 0, 0, 7]⟩ : ByteArray) (⟨#[1, 97]⟩ : ByteArray)).bind fun bt247 => (if t241 = 0 then (if t239.toList = ([1, 128, 0, 0, 0, 0, 0, 0, 7] : List UInt8) then (if t240.toList = ([1, 97] : List UInt8) then (if bt247.2 = 0 then (if (bt247.1.length : Int) = 2 then (if 1 < (bt247.1.length : Int) then (if ((rd_T29 bt247.1 1).f2).toList = ([97] : List UInt8) then ((factotumlaw03_Schema.f).bind fun bt252 => ((rows_Right.f k bt252.1 bt252.2.1 bt252.2.2).bind fun t257 => (some t257))) else (none)) else (none)) else (none)) else (none)) else (none)) else (none)) else (none))) = some r := H
  have A3 := Aside0.mk A30
  clear A30
  replace H := Option.bind_eq_some_iff.mp H
  obtain ⟨⟨t247, t250⟩, A40, H⟩ := H
  replace H : (if t241 = 0 then (if t239.toList = ([1, 128, 0, 0, 0, 0, 0, 0, 7] : List UInt8) then (if t240.toList = ([1, 97] : List UInt8) then (if t250 = 0 then (if (t247.length : Int) = 2 then (if 1 < (t247.length : Int) then (if ((rd_T29 t247 1).f2).toList = ([97] : List UInt8) then ((factotumlaw03_Schema.f).bind fun bt252 => ((rows_Right.f k bt252.1 bt252.2.1 bt252.2.2).bind fun t257 => (some t257))) else (none)) else (none)) else (none)) else (none)) else (none)) else (none)) else (none)) = some r := H
  have A4 := Aside0.mk A40
  clear A40
  by_cases c5 : t241 = 0
  · rw [if_pos c5] at H
    have c5b0 : (t241 == 0) = true := beq_iff_eq.mpr c5
    have c5b1 : (t241 != 0) = false := bne_eq_false_iff_eq.mpr c5
    clear c5
    by_cases c6 : t239.toList = ([1, 128, 0, 0, 0, 0, 0, 0, 7] : List UInt8)
    · rw [if_pos c6] at H
      have c6b0 : (t239.toList == ([1, 128, 0, 0, 0, 0, 0, 0, 7] : List UInt8)) = true := beq_iff_eq.mpr c6
      have c6b1 : (t239.toList != ([1, 128, 0, 0, 0, 0, 0, 0, 7] : List UInt8)) = false := bne_eq_false_iff_eq.mpr c6
      clear c6
      by_cases c7 : t240.toList = ([1, 97] : List UInt8)
      · rw [if_pos c7] at H
        have c7b0 : (t240.toList == ([1, 97] : List UInt8)) = true := beq_iff_eq.mpr c7
        have c7b1 : (t240.toList != ([1, 97] : List UInt8)) = false := bne_eq_false_iff_eq.mpr c7
        clear c7
        by_cases c8 : t250 = 0
        · rw [if_pos c8] at H
          have c8b0 : (t250 == 0) = true := beq_iff_eq.mpr c8
          have c8b1 : (t250 != 0) = false := bne_eq_false_iff_eq.mpr c8
          clear c8
          by_cases c9 : (t247.length : Int) = 2
          · rw [if_pos c9] at H
            have c9b0 : ((t247.length : Int) == 2) = true := beq_iff_eq.mpr c9
            have c9b1 : ((t247.length : Int) != 2) = false := bne_eq_false_iff_eq.mpr c9
            clear c9
            by_cases c10 : 1 < (t247.length : Int)
            · rw [if_pos c10] at H
              have c10b0 : decide (1 < (t247.length : Int)) = true := decide_eq_true c10
              have c10b1 : decide (1 < t247.length) = true := decide_eq_true (by omega)
              clear c10
              by_cases c11 : ((rd_T29 t247 1).f2).toList = ([97] : List UInt8)
              · rw [if_pos c11] at H
                have c11b0 : (((rd_T29 t247 1).f2).toList == ([97] : List UInt8)) = true := beq_iff_eq.mpr c11
                have c11b1 : (((rd_T29 t247 1).f2).toList != ([97] : List UInt8)) = false := bne_eq_false_iff_eq.mpr c11
                clear c11
                replace H := Option.bind_eq_some_iff.mp H
                obtain ⟨⟨t252, t255, t256⟩, A120, H⟩ := H
                replace H : ((rows_Right.f k t252 t255 t256).bind fun t257 => (some t257)) = some r := H
                have A12 := Aside0.mk A120
                clear A120
                replace H := Option.bind_eq_some_iff.mp H
                obtain ⟨t257, A130, H⟩ := H
                replace H : (some t257) = some r := H
                have A13 := Aside0.mk A130
                clear A130
                obtain rfl := Option.some.inj H
                go_enter Tryd.func10, Tryd.ntmps10
                go_wp2_with (first | ((with_reducible refine gate_callee (f := 28) rfl ?_); refine goesL_ (some 7) rfl rfl Tryd.func28 (by kernel_rfl) rfl #[] rfl (by (try simp only [List.map_toArray, List.map_cons, List.map_nil]); first | done | rfl | (simp only [List.length_drop, List.length_take]; rfl) | (simp (disch := omega) only [u64_in]; rfl)) ?_; (with_reducible refine (factotumlaw03_Schema.calls  t231 t234 t235 _ A1.out).mono ?_); rintro e w14 ⟨v232, rfl, ho0, hb⟩; refine ⟨_, rfl, ?_⟩; have n0_ := Aside0.mk (Kd.R_lower ho0 (below_size (by repeat (first | (with_reducible first | exact HB.out | apply below_alloc | apply pw_below_drewN | apply below_drew1) | exact HB.out)))); have n1_ := Aside0.mk (below_step (by repeat (first | (with_reducible first | exact HB.out | apply below_alloc | apply pw_below_drewN | apply below_drew1) | exact HB.out)) hb); clear HB; have HO233 := n0_; have HB := n1_; clear n0_ n1_; (try clear hb); (try clear hb2); (try clear hk); (try clear hi); (try clear ho0)) | ((with_reducible refine gate_dst (N := 10) rfl ?_); (try (refine gate_guard (by rfl) ?_; dsimp only)); refine Kd.R_lit k29 _ 29 ?hg (N := 10) ?hd (xs := ([(⟨1, 7, (⟨#[]⟩ : ByteArray)⟩ : S29), (⟨2, 0, (⟨#[97]⟩ : ByteArray)⟩ : S29)] : List (S29))) (inner := [.int .i64 1, .int .i64 7, .string (⟨#[]⟩ : ByteArray), .int .i64 2, .int .i64 0, .string (⟨#[97]⟩ : ByteArray)]) (ok := fun _ => True) (okp := fun _ => True) ?hr ?hp (fun _ hk => hk) trivial (Below.refl _ _) (Nat.le_refl _) (by simp) ?_; (case hd => rfl); (case hg => rfl); (case hr => first | (go_simp; done) | (go_simp; rfl)); (case hp => exact (Reps.c3 (show Kd.M k29 _ _ _ (⟨1, 7, (⟨#[]⟩ : ByteArray)⟩ : S29) [.int .i64 1, .int .i64 7, .string (⟨#[]⟩ : ByteArray)] from (k29_mkM _ _ _ (⟨1, 7, (⟨#[]⟩ : ByteArray)⟩ : S29) )) (Reps.c3 (show Kd.M k29 _ _ _ (⟨2, 0, (⟨#[97]⟩ : ByteArray)⟩ : S29) [.int .i64 2, .int .i64 0, .string (⟨#[97]⟩ : ByteArray)] from (k29_mkM _ _ _ (⟨2, 0, (⟨#[97]⟩ : ByteArray)⟩ : S29) )) (Reps.none _ _)))); intro v237 w15 ho16 hb hg_ hnew_; clear hg_ hnew_; (first | rw [← Ny236.out] at ho16 | (simp only [Int.reduceToNat] at ho16; rw [← Ny236.out] at ho16)); have n0_ := Aside0.mk (Kd.R_below (by (with_reducible repeat (first | apply Kd.R_alloc | apply Kd.R_drewN | apply Kd.R_drew)); exact HO233.out) hb); have n1_ := Aside0.mk (Kd.R_lower ho16 (below_size (by repeat (first | (with_reducible first | exact HB.out | apply below_alloc | apply pw_below_drewN | apply below_drew1) | exact HB.out)))); have n2_ := Aside0.mk (below_step (by repeat (first | (with_reducible first | exact HB.out | apply below_alloc | apply pw_below_drewN | apply below_drew1) | exact HB.out)) hb); clear HO233; clear HB; have HO233 := n0_; have HO238 := n1_; have HB := n2_; clear n0_ n1_ n2_; clear hb ho16; obtain ⟨Ao17, co17, eo17⟩ := Kd.R_slice HO233.out; subst eo17; obtain ⟨Ao18, co18, eo18⟩ := Kd.R_slice HO238.out; subst eo18) | ((with_reducible refine gate_callee (f := 17) rfl ?_); refine goesL_ (some 11) rfl rfl Tryd.func17 (by kernel_rfl) rfl #[.agg #[.slice Ao17 t231.length co17, .int .i64 t234, .int .i64 t235], .slice Ao18 y236.length co18] rfl (by (try simp only [List.map_toArray, List.map_cons, List.map_nil]); first | done | rfl | (simp only [List.length_drop, List.length_take]; rfl) | (simp (disch := omega) only [u64_in]; rfl)) ?_; (with_reducible refine (rows_Write.calls k _ _ t231 t234 t235 _ _ y236 t239 t240 t241 _ ?side1 ?side2 ?side3 ?side4 A2.out).mono ?_); (case side1 => repeat (first | exact (Kd.R_reads' HO233.out).2.2 | (with_reducible refine Kd.C_alloc ?_ _) | (with_reducible refine Kd.C_drewN ?_ _) | (with_reducible refine Kd.C_drew ?_))); (case side2 => exact (Kd.R_reads' HO233.out).2.1); (case side3 => repeat (first | exact (Kd.R_reads' HO238.out).2.2 | (with_reducible refine Kd.C_alloc ?_ _) | (with_reducible refine Kd.C_drewN ?_ _) | (with_reducible refine Kd.C_drew ?_))); (case side4 => exact (Kd.R_reads' HO238.out).2.1); rintro e w19 ⟨rfl, hb⟩; refine ⟨_, rfl, ?_⟩; have n0_ := Aside0.mk (Kd.R_below (by (with_reducible repeat (first | apply Kd.R_alloc | apply Kd.R_drewN | apply Kd.R_drew)); exact HO233.out) hb); have n1_ := Aside0.mk (Kd.R_below (by (with_reducible repeat (first | apply Kd.R_alloc | apply Kd.R_drewN | apply Kd.R_drew)); exact HO238.out) hb); have n2_ := Aside0.mk (below_step (by repeat (first | (with_reducible first | exact HB.out | apply below_alloc | apply pw_below_drewN | apply below_drew1) | exact HB.out)) hb); clear HO233; clear HO238; clear HB; have HO233 := n0_; have HO238 := n1_; have HB := n2_; clear n0_ n1_ n2_; (try clear hb); (try clear hb2); (try clear hk); (try clear hi)) | ((with_reducible refine gate_callee (f := 28) rfl ?_); refine goesL_ (some 16) rfl rfl Tryd.func28 (by kernel_rfl) rfl #[] rfl (by (try simp only [List.map_toArray, List.map_cons, List.map_nil]); first | done | rfl | (simp only [List.length_drop, List.length_take]; rfl) | (simp (disch := omega) only [u64_in]; rfl)) ?_; (with_reducible refine (factotumlaw03_Schema.calls  t242 t245 t246 _ A3.out).mono ?_); rintro e w20 ⟨v243, rfl, ho0, hb⟩; refine ⟨_, rfl, ?_⟩; have n0_ := Aside0.mk (Kd.R_elder' (by (with_reducible repeat (first | apply Kd.R_alloc | apply Kd.R_drewN | apply Kd.R_drew)); exact HO233.out) (Kd.R_base ho0) hb); have n1_ := Aside0.mk (Kd.R_below (by (with_reducible repeat (first | apply Kd.R_alloc | apply Kd.R_drewN | apply Kd.R_drew)); exact HO238.out) hb); have n2_ := Aside0.mk (Kd.R_lower (Kd.R_new' ho0 (Kd.R_lt (by (with_reducible repeat (first | apply Kd.R_alloc | apply Kd.R_drewN | apply Kd.R_drew)); exact HO233.out))) (below_size (by repeat (first | (with_reducible first | exact HB.out | apply below_alloc | apply pw_below_drewN | apply below_drew1) | exact HB.out)))); have n3_ := Aside0.mk (below_step (by repeat (first | (with_reducible first | exact HB.out | apply below_alloc | apply pw_below_drewN | apply below_drew1) | exact HB.out)) hb); clear HO233; clear HO238; clear HB; have HO233 := n0_; have HO238 := n1_; have HO244 := n2_; have HB := n3_; clear n0_ n1_ n2_ n3_; (try clear hb); (try clear hb2); (try clear hk); (try clear hi); (try clear ho0); obtain ⟨Ao21, co21, eo21⟩ := Kd.R_slice HO244.out; subst eo21) | ((with_reducible refine gate_callee (f := 19) rfl ?_); refine goesL_ (some 17) rfl rfl Tryd.func19 (by kernel_rfl) rfl #[.agg #[.slice Ao21 t242.length co21, .int .i64 t245, .int .i64 t246], .string (⟨#[1, 128, 0, 0, 0, 0, 0, 0, 7]⟩ : ByteArray), .string (⟨#[1, 97]⟩ : ByteArray)] rfl (by (try simp only [List.map_toArray, List.map_cons, List.map_nil]); first | done | rfl | (simp only [List.length_drop, List.length_take]; rfl) | (simp (disch := omega) only [u64_in]; rfl)) ?_; (with_reducible refine (rows_Read.calls k _ _ t242 t245 t246 (⟨#[1, 128, 0, 0, 0, 0, 0, 0, 7]⟩ : ByteArray) (⟨#[1, 97]⟩ : ByteArray) t247 t250 _ ?side1 ?side2 A4.out).mono ?_); (case side1 => repeat (first | exact (Kd.R_reads' HO244.out).2.2 | (with_reducible refine Kd.C_alloc ?_ _) | (with_reducible refine Kd.C_drewN ?_ _) | (with_reducible refine Kd.C_drew ?_))); (case side2 => exact (Kd.R_reads' HO244.out).2.1); rintro e w22 ⟨v248, rfl, ho0, hb⟩; refine ⟨_, rfl, ?_⟩; have n0_ := Aside0.mk (Kd.R_below (by (with_reducible repeat (first | apply Kd.R_alloc | apply Kd.R_drewN | apply Kd.R_drew)); exact HO233.out) hb); have n1_ := Aside0.mk (Kd.R_elder' (by (with_reducible repeat (first | apply Kd.R_alloc | apply Kd.R_drewN | apply Kd.R_drew)); exact HO238.out) (Kd.R_base ho0) hb); have n2_ := Aside0.mk (Kd.R_below (by (with_reducible repeat (first | apply Kd.R_alloc | apply Kd.R_drewN | apply Kd.R_drew)); exact HO244.out) hb); have n3_ := Aside0.mk (Kd.R_lower (Kd.R_new' ho0 (Kd.R_lt (by (with_reducible repeat (first | apply Kd.R_alloc | apply Kd.R_drewN | apply Kd.R_drew)); exact HO238.out))) (below_size (by repeat (first | (with_reducible first | exact HB.out | apply below_alloc | apply pw_below_drewN | apply below_drew1) | exact HB.out)))); have n4_ := Aside0.mk (below_step (by repeat (first | (with_reducible first | exact HB.out | apply below_alloc | apply pw_below_drewN | apply below_drew1) | exact HB.out)) hb); clear HO233; clear HO238; clear HO244; clear HB; have HO233 := n0_; have HO238 := n1_; have HO244 := n2_; have HO249 := n3_; have HB := n4_; clear n0_ n1_ n2_ n3_ n4_; (try clear hb); (try clear hb2); (try clear hk); (try clear hi); (try clear ho0); obtain ⟨Ao23, co23, eo23⟩ := Kd.R_slice HO249.out; subst eo23; have p251 : 0 ≤ (1 : Int) := (by omega); have q251 : 1 < (t247.length : Int) := of_decide_eq_true (by first | (with_reducible assumption) | assumption); obtain ⟨ad251, e251, hx251_0, hx251_1, hx251_2⟩ := at_T29 (Kd.R_reads' HO249.out).2.2 1 p251 q251; cases e251; (try simp only [show (1 : Int).toNat = 1 from rfl, Nat.reduceMul, Nat.reduceEqDiff, Go.Addr.add, ↓reduceIte] at hx251_0); (try simp only [show (1 : Int).toNat = 1 from rfl, Nat.reduceMul, Nat.reduceEqDiff, Go.Addr.add, ↓reduceIte] at hx251_1); (try simp only [show (1 : Int).toNat = 1 from rfl, Nat.reduceMul, Nat.reduceEqDiff, Go.Addr.add, ↓reduceIte] at hx251_2); have qi251 : (1 < t247.length) = True := eq_true (by omega); (try rw [show ((1 : Int)).toNat = 1 from rfl] at hx251_0); (try rw [show 1 * 3 = 3 from rfl] at hx251_0); (try rw [show ((1 : Int)).toNat = 1 from rfl] at hx251_1); (try rw [show 1 * 3 = 3 from rfl] at hx251_1); (try rw [show ((1 : Int)).toNat = 1 from rfl] at hx251_2); (try rw [show 1 * 3 = 3 from rfl] at hx251_2); replace p251 := eq_true p251; replace q251 := eq_true q251) | (go_at_call 28; (with_reducible refine (factotumlaw03_Schema.calls  t252 t255 t256 _ A12.out).mono ?_); rintro e w24 ⟨v253, rfl, ho0, hb⟩; have n0_ := Aside0.mk (Kd.R_elder' (by (with_reducible repeat (first | apply Kd.R_alloc | apply Kd.R_drewN | apply Kd.R_drew)); exact HO233.out) (Kd.R_base ho0) hb); have n1_ := Aside0.mk (Kd.R_below (by (with_reducible repeat (first | apply Kd.R_alloc | apply Kd.R_drewN | apply Kd.R_drew)); exact HO238.out) hb); have n2_ := Aside0.mk (Kd.R_elder' (by (with_reducible repeat (first | apply Kd.R_alloc | apply Kd.R_drewN | apply Kd.R_drew)); exact HO244.out) (Kd.R_base ho0) hb); have n3_ := Aside0.mk (Kd.R_below (by (with_reducible repeat (first | apply Kd.R_alloc | apply Kd.R_drewN | apply Kd.R_drew)); exact HO249.out) hb); have n4_ := Aside0.mk (Kd.R_lower (Kd.R_new' (Kd.R_new' ho0 (Kd.R_lt (by (with_reducible repeat (first | apply Kd.R_alloc | apply Kd.R_drewN | apply Kd.R_drew)); exact HO233.out))) (Kd.R_lt (by (with_reducible repeat (first | apply Kd.R_alloc | apply Kd.R_drewN | apply Kd.R_drew)); exact HO244.out))) (below_size (by repeat (first | (with_reducible first | exact HB.out | apply below_alloc | apply pw_below_drewN | apply below_drew1) | exact HB.out)))); have n5_ := Aside0.mk (below_step (by repeat (first | (with_reducible first | exact HB.out | apply below_alloc | apply pw_below_drewN | apply below_drew1) | exact HB.out)) hb); clear HO233; clear HO238; clear HO244; clear HO249; clear HB; have HO233 := n0_; have HO238 := n1_; have HO244 := n2_; have HO249 := n3_; have HO254 := n4_; have HB := n5_; clear n0_ n1_ n2_ n3_ n4_ n5_; (try clear hb); (try clear hb2); (try clear hk); (try clear hi); (try clear ho0); obtain ⟨Ao25, co25, eo25⟩ := Kd.R_slice HO254.out; subst eo25) | (go_at_call 13; (with_reducible refine (rows_Right.calls k _ _ t252 t255 t256 t257 _ ?side1 ?side2 A13.out).mono ?_); (case side1 => repeat (first | exact (Kd.R_reads' HO254.out).2.2 | (with_reducible refine Kd.C_alloc ?_ _) | (with_reducible refine Kd.C_drewN ?_ _) | (with_reducible refine Kd.C_drew ?_))); (case side2 => exact (Kd.R_reads' HO254.out).2.1); rintro e w26 ⟨rfl, hb⟩; have n0_ := Aside0.mk (Kd.R_below (by (with_reducible repeat (first | apply Kd.R_alloc | apply Kd.R_drewN | apply Kd.R_drew)); exact HO233.out) hb); have n1_ := Aside0.mk (Kd.R_below (by (with_reducible repeat (first | apply Kd.R_alloc | apply Kd.R_drewN | apply Kd.R_drew)); exact HO238.out) hb); have n2_ := Aside0.mk (Kd.R_below (by (with_reducible repeat (first | apply Kd.R_alloc | apply Kd.R_drewN | apply Kd.R_drew)); exact HO244.out) hb); have n3_ := Aside0.mk (Kd.R_below (by (with_reducible repeat (first | apply Kd.R_alloc | apply Kd.R_drewN | apply Kd.R_drew)); exact HO249.out) hb); have n4_ := Aside0.mk (Kd.R_below (by (with_reducible repeat (first | apply Kd.R_alloc | apply Kd.R_drewN | apply Kd.R_drew)); exact HO254.out) hb); have n5_ := Aside0.mk (below_step (by repeat (first | (with_reducible first | exact HB.out | apply below_alloc | apply pw_below_drewN | apply below_drew1) | exact HB.out)) hb); clear HO233; clear HO238; clear HO244; clear HO249; clear HO254; clear HB; have HO233 := n0_; have HO238 := n1_; have HO244 := n2_; have HO249 := n3_; have HO254 := n4_; have HB := n5_; clear n0_ n1_ n2_ n3_ n4_ n5_; (try clear hb); (try clear hb2); (try clear hk); (try clear hi)))
                go_ret
                exact ⟨by first | (with_reducible rfl) | (simp only [isEmpty_bne, Bool.not_not] <;> with_reducible rfl) | (simp [errW_none, errW_some] <;> with_reducible rfl) | (simp only [isEmpty_bne, Bool.not_not] <;> rfl) | rfl | (simp [errW_none, errW_some] <;> rfl) | (simp [*, errW_none, errW_some] <;> rfl), by repeat (first | (with_reducible first | exact HB.out | apply below_alloc | apply pw_below_drewN | apply below_drew1) | exact HB.out)⟩
              · rw [if_neg c11] at H
                exact absurd H (by simp)
            · rw [if_neg c10] at H
              exact absurd H (by simp)
          · rw [if_neg c9] at H
            exact absurd H (by simp)
        · rw [if_neg c8] at H
          exact absurd H (by simp)
      · rw [if_neg c7] at H
        exact absurd H (by simp)
    · rw [if_neg c6] at H
      exact absurd H (by simp)
  · rw [if_neg c5] at H
    exact absurd H (by simp)

end Go.Proofs.YtekaeddagaejiaaDoor.PAll
