/- Printed walks of the functions that the laws reach: each function, what it computes, and that it does. No conditions. -/
import Derived.Test.YtjkjkebblkmpkaaDoorPAllx0
import Derived.Test.YtjkjkebblkmpkaaDoorPAllx8
import Derived.Test.YtjkjkebblkmpkaaDoorPAllx9
namespace Go.Proofs.YtjkjkebblkmpkaaDoor.PAll
open Go.RowKit Go.Proofs.YtjkjkebblkmpkaaDoor.XW Go.Proofs.YtjkjkebblkmpkaaDoor.XLib Go.Proofs.YtjkjkebblkmpkaaDoorW.PrintWords Go.Proofs.YtjkjkebblkmpkaaDoorW.PrintLast Go.Proofs.YtjkjkebblkmpkaaDoorW.PrintMore
attribute [local go_sem] max2_int min2_int max_two min_two max_three min_three max_four min_four   -- for this text's walks alone
set_option linter.unusedVariables false
set_option linter.unusedSimpArgs false

/-! ### factotumref17_Write: function 15 -/
def factotumref17_Write.j0 : Nat → ByteArray → Int → Int → Int → ByteArray → Int → Int → Int → Int → Option (ByteArray × Int)
  | 0, _, _, _, _, _, _, _, _, _ => none
  | k + 1, x4, x257000, x257001, x257002, x257003, x257004, x257005, x257006, x257007 => (factotumref01_Num.f k (IntKind.u64.wrap (x257004)) 4).bind fun t263 => (if x4.size + t263.size ≤ 9223372036854775807 then ((factotumref01_Num.f k (IntKind.u64.wrap (x257005)) 1).bind fun t264 => (if (x4 ++ t263).size + t264.size ≤ 9223372036854775807 then ((factotumref01_Num.f k (IntKind.u64.wrap (x257006)) 1).bind fun t265 => (if ((x4 ++ t263) ++ t264).size + t265.size ≤ 9223372036854775807 then ((factotumref01_Num.f k (IntKind.u64.wrap (x257007)) 1).bind fun t266 => (if (((x4 ++ t263) ++ t264) ++ t265).size + t266.size ≤ 9223372036854775807 then (some ((((x4 ++ t263) ++ t264) ++ t265) ++ t266, 0)) else (none))) else (none))) else (none))) else (none))
def factotumref17_Write.f (k : Nat) (a0_0 : Int) (a0_1 : Int) (a0_2 : Int) (a0_3 : ByteArray) (a0_4 : Int) (a0_5 : Int) (a0_6 : Int) (a0_7 : Int) : Option (ByteArray × Int) := (factotumref17_Right.f a0_0 a0_1 a0_2 a0_3 a0_4 a0_5 a0_6 a0_7).bind fun t257 => (if t257 = true then ((factotumref01_Num.f k (IntKind.u64.wrap (a0_0)) 1).bind fun t258 => (if a0_1 = 0 then ((factotumref01_Num.f k 0 1).bind fun t259 => (if t258.size + t259.size ≤ 9223372036854775807 then (factotumref17_Write.j0 k (t258 ++ t259) a0_0 a0_1 a0_2 a0_3 a0_4 a0_5 a0_6 a0_7) else (none))) else ((factotumref17_Value.f k a0_1 a0_2 a0_3).bind fun bt260 => ((factotumref01_Num.f k 1 1).bind fun t262 => (if t262.size + bt260.1.size ≤ 9223372036854775807 then (if t258.size + (t262 ++ bt260.1).size ≤ 9223372036854775807 then (factotumref17_Write.j0 k (t258 ++ (t262 ++ bt260.1)) a0_0 a0_1 a0_2 a0_3 a0_4 a0_5 a0_6 a0_7) else (none)) else (none)))))) else (some ((⟨#[]⟩ : ByteArray), 4)))
theorem factotumref17_Write.mono_l : ∀ k, (∀ y0 y1 y2 y3 y4 y5 y6 y7 y8, LeO (factotumref17_Write.j0 k y0 y1 y2 y3 y4 y5 y6 y7 y8) (factotumref17_Write.j0 (k + 1) y0 y1 y2 y3 y4 y5 y6 y7 y8))
  | 0 => fun _ _ _ _ _ _ _ _ _ r h => by simp [factotumref17_Write.j0] at h
  | k + 1 => by
    have ih0 := factotumref17_Write.mono_l k
    · intro y0 y1 y2 y3 y4 y5 y6 y7 y8
      unfold factotumref17_Write.j0
      repeat' first
      | (with_reducible exact ih0 _ _ _ _ _ _ _ _ _)
      | (with_reducible exact factotumref01_Num.mono _ _ _)
      | (with_reducible exact factotumref17_Value.mono _ _ _ _)
      | (with_reducible exact LeO.refl _)
      | (with_reducible exact LeO.none _)
      | (with_reducible refine LeO.ite ?_ ?_)
      | (with_reducible refine LeO.bind ?_ (fun _ => ?_))
      | exact ih0 _ _ _ _ _ _ _ _ _
      | exact factotumref01_Num.mono _ _ _
      | exact factotumref17_Value.mono _ _ _ _
      | exact LeO.none _
      | refine LeO.ite ?_ ?_
      | refine LeO.bind ?_ (fun _ => ?_)
theorem factotumref17_Write.mono : ∀ a0 a1 a2 a3 a4 a5 a6 a7 k, LeO (factotumref17_Write.f k a0 a1 a2 a3 a4 a5 a6 a7) (factotumref17_Write.f (k + 1) a0 a1 a2 a3 a4 a5 a6 a7) := by
  intro a0 a1 a2 a3 a4 a5 a6 a7 k
  have ih0 := factotumref17_Write.mono_l k
  unfold factotumref17_Write.f
  repeat' first
      | (with_reducible exact ih0 _ _ _ _ _ _ _ _ _)
      | (with_reducible exact factotumref01_Num.mono _ _ _)
      | (with_reducible exact factotumref17_Value.mono _ _ _ _)
      | (with_reducible exact LeO.refl _)
      | (with_reducible exact LeO.none _)
      | (with_reducible refine LeO.ite ?_ ?_)
      | (with_reducible refine LeO.bind ?_ (fun _ => ?_))
      | exact ih0 _ _ _ _ _ _ _ _ _
      | exact factotumref01_Num.mono _ _ _
      | exact factotumref17_Value.mono _ _ _ _
      | exact LeO.none _
      | refine LeO.ite ?_ ?_
      | refine LeO.bind ?_ (fun _ => ?_)
def factotumref17_Write.T8 : Bool × List (List Nat × List Nat) := (true, [([], []), ([], []), ([1], [1]), ([2], [2]), ([3], [3]), ([0, 4], [0, 4]), ([], []), ([6], [6]), ([7], [7]), ([8, 4], [8]), ([5, 9], [5, 9]), ([], []), ([11], [11]), ([12], [12]), ([13, 9], [13]), ([10, 14], [10, 14]), ([], []), ([16], [16]), ([17], [17]), ([18, 14], [18]), ([15, 19], [15, 19]), ([20, 19, 0, 1, 2, 3, 4, 5, 6, 7, 8, 9, 10, 11, 12, 13, 14, 15, 16, 17, 18, 19, 20], [20]), ([21, 0, 1, 2, 3, 4, 5, 6, 7, 8, 9, 10, 11, 12, 13, 14, 15, 16, 17, 18, 19, 20, 21], [])])
def factotumref17_Write.B8 : List Nat := [0, 0, 2, 6, 14, 31, 0, 64, 192, 478, 1023, 0, 2048, 6144, 15326, 32767, 0, 65536, 196608, 490462, 1048575, 2097151, 4194303]
theorem factotumref17_Write.tab8 : rtab .any (opsOf Tryd.f15 8) = factotumref17_Write.T8 := by kernel_rfl
theorem factotumref17_Write.bits8 : waitsOk factotumref17_Write.T8.2 factotumref17_Write.B8 = true := by kernel_rfl
set_option maxHeartbeats 8000000 in
set_option maxRecDepth 100000 in
theorem factotumref17_Write.calls (k : Nat) (a0_0 : Int) (a0_1 : Int) (a0_2 : Int) (a0_3 : ByteArray) (a0_4 : Int) (a0_5 : Int) (a0_6 : Int) (a0_7 : Int) (r1 : ByteArray) (r2 : Int) (w : World) (h : factotumref17_Write.f k a0_0 a0_1 a0_2 a0_3 a0_4 a0_5 a0_6 a0_7 = some (r1, r2)) :
    Calls Tryd.prog 15 #[.agg #[.int .i64 a0_0, .int .i64 a0_1, .int .i64 a0_2, .string a0_3, .int .i64 a0_4, .int .i64 a0_5, .int .i64 a0_6, .int .i64 a0_7]] w fun e w' => e = .returned (.tuple #[.string r1, .int .i64 r2]) ∧ Below w.heap.size w w' := by
  have hu33 := Tryd.underlying33
  have hu24 := Tryd.underlying24
  have HB := Aside0.mk (Below.refl w.heap.size w)
  have H : ((factotumref17_Right.f a0_0 a0_1 a0_2 a0_3 a0_4 a0_5 a0_6 a0_7).bind fun t257 => (if t257 = true then ((factotumref01_Num.f k (IntKind.u64.wrap (a0_0)) 1).bind fun t258 => (if a0_1 = 0 then ((factotumref01_Num.f k 0 1).bind fun t259 => (if t258.size + t259.size ≤ 9223372036854775807 then (factotumref17_Write.j0 k (t258 ++ t259) a0_0 a0_1 a0_2 a0_3 a0_4 a0_5 a0_6 a0_7) else (none))) else ((factotumref17_Value.f k a0_1 a0_2 a0_3).bind fun bt260 => ((factotumref01_Num.f k 1 1).bind fun t262 => (if t262.size + bt260.1.size ≤ 9223372036854775807 then (if t258.size + (t262 ++ bt260.1).size ≤ 9223372036854775807 then (factotumref17_Write.j0 k (t258 ++ (t262 ++ bt260.1)) a0_0 a0_1 a0_2 a0_3 a0_4 a0_5 a0_6 a0_7) else (none)) else (none)))))) else (some ((⟨#[]⟩ : ByteArray), 4)))) = some (r1, r2) := h
  clear h
  replace H := Option.bind_eq_some_iff.mp H
  obtain ⟨t257, A20, H⟩ := H
  replace H : (if t257 = true then ((factotumref01_Num.f k (IntKind.u64.wrap (a0_0)) 1).bind fun t258 => (if a0_1 = 0 then ((factotumref01_Num.f k 0 1).bind fun t259 => (if t258.size + t259.size ≤ 9223372036854775807 then (factotumref17_Write.j0 k (t258 ++ t259) a0_0 a0_1 a0_2 a0_3 a0_4 a0_5 a0_6 a0_7) else (none))) else ((factotumref17_Value.f k a0_1 a0_2 a0_3).bind fun bt260 => ((factotumref01_Num.f k 1 1).bind fun t262 => (if t262.size + bt260.1.size ≤ 9223372036854775807 then (if t258.size + (t262 ++ bt260.1).size ≤ 9223372036854775807 then (factotumref17_Write.j0 k (t258 ++ (t262 ++ bt260.1)) a0_0 a0_1 a0_2 a0_3 a0_4 a0_5 a0_6 a0_7) else (none)) else (none)))))) else (some ((⟨#[]⟩ : ByteArray), 4))) = some (r1, r2) := H
  have A2 := Aside0.mk A20
  clear A20
  by_cases c3 : t257 = true
  · subst c3
    have H1 : ((factotumref01_Num.f k (IntKind.u64.wrap (a0_0)) 1).bind fun t258 => (if a0_1 = 0 then ((factotumref01_Num.f k 0 1).bind fun t259 => (if t258.size + t259.size ≤ 9223372036854775807 then (factotumref17_Write.j0 k (t258 ++ t259) a0_0 a0_1 a0_2 a0_3 a0_4 a0_5 a0_6 a0_7) else (none))) else ((factotumref17_Value.f k a0_1 a0_2 a0_3).bind fun bt260 => ((factotumref01_Num.f k 1 1).bind fun t262 => (if t262.size + bt260.1.size ≤ 9223372036854775807 then (if t258.size + (t262 ++ bt260.1).size ≤ 9223372036854775807 then (factotumref17_Write.j0 k (t258 ++ (t262 ++ bt260.1)) a0_0 a0_1 a0_2 a0_3 a0_4 a0_5 a0_6 a0_7) else (none)) else (none)))))) = some (r1, r2) := by rw [if_pos rfl] at H; exact H
    clear H
    have H := H1
    clear H1
    replace H := Option.bind_eq_some_iff.mp H
    obtain ⟨t258, A40, H⟩ := H
    replace H : (if a0_1 = 0 then ((factotumref01_Num.f k 0 1).bind fun t259 => (if t258.size + t259.size ≤ 9223372036854775807 then (factotumref17_Write.j0 k (t258 ++ t259) a0_0 a0_1 a0_2 a0_3 a0_4 a0_5 a0_6 a0_7) else (none))) else ((factotumref17_Value.f k a0_1 a0_2 a0_3).bind fun bt260 => ((factotumref01_Num.f k 1 1).bind fun t262 => (if t262.size + bt260.1.size ≤ 9223372036854775807 then (if t258.size + (t262 ++ bt260.1).size ≤ 9223372036854775807 then (factotumref17_Write.j0 k (t258 ++ (t262 ++ bt260.1)) a0_0 a0_1 a0_2 a0_3 a0_4 a0_5 a0_6 a0_7) else (none)) else (none))))) = some (r1, r2) := H
    have A4 := Aside0.mk A40
    clear A40
    have HC5 := Aside0.mk H
    clear H
    go_enter Tryd.func15, Tryd.ntmps15
    go_upto_if 17 with (first | ((with_reducible refine gate_dst (N := 1) rfl ?_); refine box_event ?hg (N := 1) ?hd (cs := #[.int .i64 a0_0, .int .i64 a0_1, .int .i64 a0_2, .string a0_3, .int .i64 a0_4, .int .i64 a0_5, .int .i64 a0_6, .int .i64 a0_7]) (t := 33) ?hr ?_; (case hd => rfl); (case hg => rfl); (case hr => first | (go_simp; done) | (go_simp; rfl)); intro gb256 hg w6 hbox hb; have n0_ := Aside0.mk (below_step (by repeat (first | (with_reducible first | exact HB.out | apply below_alloc | apply pw_below_drewN | apply below_drew1) | exact HB.out)) hb); have n1_ := Aside0.mk (hbox); have n2_ := Aside0.mk ((by rw [hg]; exact (below_size (by repeat (first | (with_reducible first | exact HB.out | apply below_alloc | apply pw_below_drewN | apply below_drew1) | exact HB.out))) : w.heap.size ≤ gb256)); have n3_ := Aside0.mk ((by rw [hg]; exact (below_size (by repeat (first | (with_reducible first | exact HB.out | apply below_alloc | apply pw_below_drewN | apply below_drew1) | exact HB.out))) : w.heap.size ≤ gb256)); clear HB; have HB := n0_; have BK256 := n1_; have GW256 := n2_; have GE256 := n3_; clear n0_ n1_ n2_ n3_; clear hb hbox hg; have hcz7_0 : w6.cell? ⟨gb256, 0, none⟩ = some (.int .i64 a0_0) := (blk_cell BK256.out 0).trans rfl; have hcz7_1 : w6.cell? ⟨gb256, 1, none⟩ = some (.int .i64 a0_1) := (blk_cell BK256.out 1).trans rfl; have hcz7_2 : w6.cell? ⟨gb256, 2, none⟩ = some (.int .i64 a0_2) := (blk_cell BK256.out 2).trans rfl; have hcz7_3 : w6.cell? ⟨gb256, 3, none⟩ = some (.string a0_3) := (blk_cell BK256.out 3).trans rfl; have hcz7_4 : w6.cell? ⟨gb256, 4, none⟩ = some (.int .i64 a0_4) := (blk_cell BK256.out 4).trans rfl; have hcz7_5 : w6.cell? ⟨gb256, 5, none⟩ = some (.int .i64 a0_5) := (blk_cell BK256.out 5).trans rfl; have hcz7_6 : w6.cell? ⟨gb256, 6, none⟩ = some (.int .i64 a0_6) := (blk_cell BK256.out 6).trans rfl; have hcz7_7 : w6.cell? ⟨gb256, 7, none⟩ = some (.int .i64 a0_7) := (blk_cell BK256.out 7).trans rfl; have hfz7_0 := blk_frozen BK256.out 0; have hfz7_1 := blk_frozen BK256.out 1; have hfz7_2 := blk_frozen BK256.out 2; have hfz7_3 := blk_frozen BK256.out 3; have hfz7_4 := blk_frozen BK256.out 4; have hfz7_5 := blk_frozen BK256.out 5; have hfz7_6 := blk_frozen BK256.out 6; have hfz7_7 := blk_frozen BK256.out 7) | ((with_reducible refine gate_callee (f := 36) rfl ?_); refine goesL_ (some 8) rfl rfl Tryd.func36 (by kernel_rfl) rfl #[.agg #[.int .i64 a0_0, .int .i64 a0_1, .int .i64 a0_2, .string a0_3, .int .i64 a0_4, .int .i64 a0_5, .int .i64 a0_6, .int .i64 a0_7]] rfl (by (try simp only [List.map_toArray, List.map_cons, List.map_nil]); first | done | rfl | (simp only [List.length_drop, List.length_take]; rfl) | (simp (disch := omega) only [u64_in]; rfl)) ?_; (with_reducible refine (factotumref17_Right.calls a0_0 a0_1 a0_2 a0_3 a0_4 a0_5 a0_6 a0_7 true _ A2.out).mono ?_); rintro e w8 ⟨rfl, hb⟩; refine ⟨_, rfl, ?_⟩; have n0_ := Aside0.mk (blk_below (g := gb256) (o := .cells #[.int .i64 a0_0, .int .i64 a0_1, .int .i64 a0_2, .string a0_3, .int .i64 a0_4, .int .i64 a0_5, .int .i64 a0_6, .int .i64 a0_7] 33 (0, 0)) (by (with_reducible repeat (first | refine blk_drewN ?_ _ | refine blk_drew ?_ | refine blk_alloc ?_ _)); exact BK256.out) hb); have n1_ := Aside0.mk (below_step (by repeat (first | (with_reducible first | exact HB.out | apply below_alloc | apply pw_below_drewN | apply below_drew1 | refine below_set ?_ GE256.out) | exact HB.out)) hb); clear BK256; clear HB; have BK256 := n0_; have HB := n1_; clear n0_ n1_; (try clear hb); (try clear hb2); (try clear hk); (try clear hi); have hcz9_0 : w8.cell? ⟨gb256, 0, none⟩ = some (.int .i64 a0_0) := (blk_cell BK256.out 0).trans rfl; have hcz9_1 : w8.cell? ⟨gb256, 1, none⟩ = some (.int .i64 a0_1) := (blk_cell BK256.out 1).trans rfl; have hcz9_2 : w8.cell? ⟨gb256, 2, none⟩ = some (.int .i64 a0_2) := (blk_cell BK256.out 2).trans rfl; have hcz9_3 : w8.cell? ⟨gb256, 3, none⟩ = some (.string a0_3) := (blk_cell BK256.out 3).trans rfl; have hcz9_4 : w8.cell? ⟨gb256, 4, none⟩ = some (.int .i64 a0_4) := (blk_cell BK256.out 4).trans rfl; have hcz9_5 : w8.cell? ⟨gb256, 5, none⟩ = some (.int .i64 a0_5) := (blk_cell BK256.out 5).trans rfl; have hcz9_6 : w8.cell? ⟨gb256, 6, none⟩ = some (.int .i64 a0_6) := (blk_cell BK256.out 6).trans rfl; have hcz9_7 : w8.cell? ⟨gb256, 7, none⟩ = some (.int .i64 a0_7) := (blk_cell BK256.out 7).trans rfl; have hfz9_0 := blk_frozen BK256.out 0; have hfz9_1 := blk_frozen BK256.out 1; have hfz9_2 := blk_frozen BK256.out 2; have hfz9_3 := blk_frozen BK256.out 3; have hfz9_4 := blk_frozen BK256.out 4; have hfz9_5 := blk_frozen BK256.out 5; have hfz9_6 := blk_frozen BK256.out 6; have hfz9_7 := blk_frozen BK256.out 7) | ((with_reducible refine gate_callee (f := 27) rfl ?_); refine goesL_ (some 13) rfl rfl Tryd.func27 (by kernel_rfl) rfl #[.int .u64 (IntKind.u64.wrap (a0_0)), .int .i64 1] rfl (by (try simp only [List.map_toArray, List.map_cons, List.map_nil]); first | done | rfl | (simp only [List.length_drop, List.length_take]; rfl) | (simp (disch := omega) only [u64_in]; rfl)) ?_; (with_reducible refine (factotumref01_Num.calls k (IntKind.u64.wrap (a0_0)) 1 t258 _ A4.out).mono ?_); rintro e w10 ⟨rfl, hb⟩; refine ⟨_, rfl, ?_⟩; have n0_ := Aside0.mk (blk_below (g := gb256) (o := .cells #[.int .i64 a0_0, .int .i64 a0_1, .int .i64 a0_2, .string a0_3, .int .i64 a0_4, .int .i64 a0_5, .int .i64 a0_6, .int .i64 a0_7] 33 (0, 0)) (by (with_reducible repeat (first | refine blk_drewN ?_ _ | refine blk_drew ?_ | refine blk_alloc ?_ _)); exact BK256.out) hb); have n1_ := Aside0.mk (below_step (by repeat (first | (with_reducible first | exact HB.out | apply below_alloc | apply pw_below_drewN | apply below_drew1 | refine below_set ?_ GE256.out) | exact HB.out)) hb); clear BK256; clear HB; have BK256 := n0_; have HB := n1_; clear n0_ n1_; (try clear hb); (try clear hb2); (try clear hk); (try clear hi); have hcz11_0 : w10.cell? ⟨gb256, 0, none⟩ = some (.int .i64 a0_0) := (blk_cell BK256.out 0).trans rfl; have hcz11_1 : w10.cell? ⟨gb256, 1, none⟩ = some (.int .i64 a0_1) := (blk_cell BK256.out 1).trans rfl; have hcz11_2 : w10.cell? ⟨gb256, 2, none⟩ = some (.int .i64 a0_2) := (blk_cell BK256.out 2).trans rfl; have hcz11_3 : w10.cell? ⟨gb256, 3, none⟩ = some (.string a0_3) := (blk_cell BK256.out 3).trans rfl; have hcz11_4 : w10.cell? ⟨gb256, 4, none⟩ = some (.int .i64 a0_4) := (blk_cell BK256.out 4).trans rfl; have hcz11_5 : w10.cell? ⟨gb256, 5, none⟩ = some (.int .i64 a0_5) := (blk_cell BK256.out 5).trans rfl; have hcz11_6 : w10.cell? ⟨gb256, 6, none⟩ = some (.int .i64 a0_6) := (blk_cell BK256.out 6).trans rfl; have hcz11_7 : w10.cell? ⟨gb256, 7, none⟩ = some (.int .i64 a0_7) := (blk_cell BK256.out 7).trans rfl; have hfz11_0 := blk_frozen BK256.out 0; have hfz11_1 := blk_frozen BK256.out 1; have hfz11_2 := blk_frozen BK256.out 2; have hfz11_3 := blk_frozen BK256.out 3; have hfz11_4 := blk_frozen BK256.out 4; have hfz11_5 := blk_frozen BK256.out 5; have hfz11_6 := blk_frozen BK256.out 6; have hfz11_7 := blk_frozen BK256.out 7))
    (try simp only [Act.put, List.setIfInBounds_toArray, List.set_cons_zero, List.set_cons_succ])
    go_cut [4] (fun v4 wc => ∃ (kq : Nat) (x4_4 : ByteArray), v4 = .string x4_4 ∧ Aside0 (factotumref17_Write.j0 kq x4_4 a0_0 a0_1 a0_2 a0_3 a0_4 a0_5 a0_6 a0_7 = some (r1, r2)) ∧ Aside0 (kq ≤ k) ∧ Aside0 (wc.heap[gb256]? = some (.cells #[.int .i64 a0_0, .int .i64 a0_1, .int .i64 a0_2, .string a0_3, .int .i64 a0_4, .int .i64 a0_5, .int .i64 a0_6, .int .i64 a0_7] 33 (0, 0))) ∧ Aside0 (Below w.heap.size w wc))
    case first =>
      have H := HC5.out
      clear HC5
      by_cases c12 : a0_1 = 0
      · rw [if_pos c12] at H
        have c12b0 : (a0_1 == 0) = true := beq_iff_eq.mpr c12
        have c12b1 : (a0_1 != 0) = false := bne_eq_false_iff_eq.mpr c12
        clear c12
        (first | rw [c12b0] | (simp only [i64_w, i32_w]; rw [c12b0]) | skip)
        replace H := Option.bind_eq_some_iff.mp H
        obtain ⟨t259, A130, H⟩ := H
        replace H : (if t258.size + t259.size ≤ 9223372036854775807 then (factotumref17_Write.j0 k (t258 ++ t259) a0_0 a0_1 a0_2 a0_3 a0_4 a0_5 a0_6 a0_7) else (none)) = some (r1, r2) := H
        have A13 := Aside0.mk A130
        clear A130
        by_cases c14 : t258.size + t259.size ≤ 9223372036854775807
        · rw [if_pos c14] at H
          have c14b0 := eq_true c14
          have c14b1 : decide (t258.size + t259.size ≤ 9223372036854775807) = true := decide_eq_true c14
          try have c14b2 : (9223372036854775807 < t258.size + t259.size) = False := eq_false (Nat.not_lt.2 c14)
          have H' := Aside0.mk H
          clear H
          go_wp2_with (first | ((with_reducible refine gate_callee (f := 27) rfl ?_); refine goesL_ (some 19) rfl rfl Tryd.func27 (by kernel_rfl) rfl #[.int .u64 0, .int .i64 1] rfl (by (try simp only [List.map_toArray, List.map_cons, List.map_nil]); first | done | rfl | (simp only [List.length_drop, List.length_take]; rfl) | (simp (disch := omega) only [u64_in]; rfl)) ?_; (with_reducible refine (factotumref01_Num.calls k 0 1 t259 _ A13.out).mono ?_); rintro e w15 ⟨rfl, hb⟩; refine ⟨_, rfl, ?_⟩; have n0_ := Aside0.mk (blk_below (g := gb256) (o := .cells #[.int .i64 a0_0, .int .i64 a0_1, .int .i64 a0_2, .string a0_3, .int .i64 a0_4, .int .i64 a0_5, .int .i64 a0_6, .int .i64 a0_7] 33 (0, 0)) (by (with_reducible repeat (first | refine blk_drewN ?_ _ | refine blk_drew ?_ | refine blk_alloc ?_ _)); exact BK256.out) hb); have n1_ := Aside0.mk (below_step (by repeat (first | (with_reducible first | exact HB.out | apply below_alloc | apply pw_below_drewN | apply below_drew1 | refine below_set ?_ GE256.out) | exact HB.out)) hb); clear BK256; clear HB; have BK256 := n0_; have HB := n1_; clear n0_ n1_; (try clear hb); (try clear hb2); (try clear hk); (try clear hi)))
          go_meet
          case rel => exact ⟨_, (t258 ++ t259), (by first | (with_reducible rfl) | (simp; done) | (simp [*]; done) | rfl), H', ⟨by first | omega | exact Nat.le_refl _⟩, ⟨by (with_reducible repeat (first | refine blk_drewN ?_ _ | refine blk_drew ?_ | refine blk_alloc ?_ _)); exact BK256.out⟩, ⟨by repeat (first | (with_reducible first | exact HB.out | apply below_alloc | apply pw_below_drewN | apply below_drew1 | refine below_set ?_ GE256.out) | exact HB.out)⟩⟩
        · rw [if_neg c14] at H
          exact absurd H (by simp)
      · rw [if_neg c12] at H
        have c12b0 : (a0_1 == 0) = false := beq_eq_false_iff_ne.mpr c12
        have c12b1 : (a0_1 != 0) = true := bne_iff_ne.mpr c12
        (first | rw [c12b0] | (simp only [i64_w, i32_w]; rw [c12b0]) | skip)
        replace H := Option.bind_eq_some_iff.mp H
        obtain ⟨⟨t260, t261⟩, A160, H⟩ := H
        replace H : ((factotumref01_Num.f k 1 1).bind fun t262 => (if t262.size + t260.size ≤ 9223372036854775807 then (if t258.size + (t262 ++ t260).size ≤ 9223372036854775807 then (factotumref17_Write.j0 k (t258 ++ (t262 ++ t260)) a0_0 a0_1 a0_2 a0_3 a0_4 a0_5 a0_6 a0_7) else (none)) else (none))) = some (r1, r2) := H
        have A16 := Aside0.mk A160
        clear A160
        replace H := Option.bind_eq_some_iff.mp H
        obtain ⟨t262, A170, H⟩ := H
        replace H : (if t262.size + t260.size ≤ 9223372036854775807 then (if t258.size + (t262 ++ t260).size ≤ 9223372036854775807 then (factotumref17_Write.j0 k (t258 ++ (t262 ++ t260)) a0_0 a0_1 a0_2 a0_3 a0_4 a0_5 a0_6 a0_7) else (none)) else (none)) = some (r1, r2) := H
        have A17 := Aside0.mk A170
        clear A170
        by_cases c18 : t262.size + t260.size ≤ 9223372036854775807
        · rw [if_pos c18] at H
          have c18b0 := eq_true c18
          have c18b1 : decide (t262.size + t260.size ≤ 9223372036854775807) = true := decide_eq_true c18
          try have c18b2 : (9223372036854775807 < t262.size + t260.size) = False := eq_false (Nat.not_lt.2 c18)
          by_cases c19 : t258.size + (t262 ++ t260).size ≤ 9223372036854775807
          · rw [if_pos c19] at H
            have c19b0 := eq_true c19
            have c19b1 : decide (t258.size + (t262 ++ t260).size ≤ 9223372036854775807) = true := decide_eq_true c19
            (try (have c19x := c19; simp at c19x))
            try have c19b2 : (9223372036854775807 < t258.size + (t262 ++ t260).size) = False := eq_false (Nat.not_lt.2 c19)
            (try have c19b3 := c19b2)
            (try simp only [ByteArray.size_append, ByteArray.size_extract] at c19b3)
            (try rw [Nat.min_eq_left (by omega)] at c19b3)
            have H' := Aside0.mk H
            clear H
            have hcz20_0 : w10.cell? ⟨gb256, 0, none⟩ = some (.int .i64 a0_0) := (blk_cell BK256.out 0).trans rfl
            have hcz20_1 : w10.cell? ⟨gb256, 1, none⟩ = some (.int .i64 a0_1) := (blk_cell BK256.out 1).trans rfl
            have hcz20_2 : w10.cell? ⟨gb256, 2, none⟩ = some (.int .i64 a0_2) := (blk_cell BK256.out 2).trans rfl
            have hcz20_3 : w10.cell? ⟨gb256, 3, none⟩ = some (.string a0_3) := (blk_cell BK256.out 3).trans rfl
            have hcz20_4 : w10.cell? ⟨gb256, 4, none⟩ = some (.int .i64 a0_4) := (blk_cell BK256.out 4).trans rfl
            have hcz20_5 : w10.cell? ⟨gb256, 5, none⟩ = some (.int .i64 a0_5) := (blk_cell BK256.out 5).trans rfl
            have hcz20_6 : w10.cell? ⟨gb256, 6, none⟩ = some (.int .i64 a0_6) := (blk_cell BK256.out 6).trans rfl
            have hcz20_7 : w10.cell? ⟨gb256, 7, none⟩ = some (.int .i64 a0_7) := (blk_cell BK256.out 7).trans rfl
            have hfz20_0 := blk_frozen BK256.out 0
            have hfz20_1 := blk_frozen BK256.out 1
            have hfz20_2 := blk_frozen BK256.out 2
            have hfz20_3 := blk_frozen BK256.out 3
            have hfz20_4 := blk_frozen BK256.out 4
            have hfz20_5 := blk_frozen BK256.out 5
            have hfz20_6 := blk_frozen BK256.out 6
            have hfz20_7 := blk_frozen BK256.out 7
            go_wp2_with (first | ((with_reducible refine gate_callee (f := 10) rfl ?_); refine goesL_ (some 24) rfl rfl Tryd.func10 (by kernel_rfl) rfl #[.agg #[.int .i64 a0_1, .int .i64 a0_2, .string a0_3]] rfl (by (try simp only [List.map_toArray, List.map_cons, List.map_nil]); first | done | rfl | (simp only [List.length_drop, List.length_take]; rfl) | (simp (disch := omega) only [u64_in]; rfl)) ?_; (with_reducible refine (factotumref17_Value.calls k a0_1 a0_2 a0_3 t260 t261 _ A16.out).mono ?_); rintro e w21 ⟨rfl, hb⟩; refine ⟨_, rfl, ?_⟩; have n0_ := Aside0.mk (blk_below (g := gb256) (o := .cells #[.int .i64 a0_0, .int .i64 a0_1, .int .i64 a0_2, .string a0_3, .int .i64 a0_4, .int .i64 a0_5, .int .i64 a0_6, .int .i64 a0_7] 33 (0, 0)) (by (with_reducible repeat (first | refine blk_drewN ?_ _ | refine blk_drew ?_ | refine blk_alloc ?_ _)); exact BK256.out) hb); have n1_ := Aside0.mk (below_step (by repeat (first | (with_reducible first | exact HB.out | apply below_alloc | apply pw_below_drewN | apply below_drew1 | refine below_set ?_ GE256.out) | exact HB.out)) hb); clear BK256; clear HB; have BK256 := n0_; have HB := n1_; clear n0_ n1_; (try clear hb); (try clear hb2); (try clear hk); (try clear hi)) | ((with_reducible refine gate_callee (f := 27) rfl ?_); refine goesL_ (some 28) rfl rfl Tryd.func27 (by kernel_rfl) rfl #[.int .u64 1, .int .i64 1] rfl (by (try simp only [List.map_toArray, List.map_cons, List.map_nil]); first | done | rfl | (simp only [List.length_drop, List.length_take]; rfl) | (simp (disch := omega) only [u64_in]; rfl)) ?_; (with_reducible refine (factotumref01_Num.calls k 1 1 t262 _ A17.out).mono ?_); rintro e w22 ⟨rfl, hb⟩; refine ⟨_, rfl, ?_⟩; have n0_ := Aside0.mk (blk_below (g := gb256) (o := .cells #[.int .i64 a0_0, .int .i64 a0_1, .int .i64 a0_2, .string a0_3, .int .i64 a0_4, .int .i64 a0_5, .int .i64 a0_6, .int .i64 a0_7] 33 (0, 0)) (by (with_reducible repeat (first | refine blk_drewN ?_ _ | refine blk_drew ?_ | refine blk_alloc ?_ _)); exact BK256.out) hb); have n1_ := Aside0.mk (below_step (by repeat (first | (with_reducible first | exact HB.out | apply below_alloc | apply pw_below_drewN | apply below_drew1 | refine below_set ?_ GE256.out) | exact HB.out)) hb); clear BK256; clear HB; have BK256 := n0_; have HB := n1_; clear n0_ n1_; (try clear hb); (try clear hb2); (try clear hk); (try clear hi)))
            go_meet
            case rel => exact ⟨_, (t258 ++ (t262 ++ t260)), (by first | (with_reducible rfl) | (simp; done) | (simp [*]; done) | rfl), H', ⟨by first | omega | exact Nat.le_refl _⟩, ⟨by (with_reducible repeat (first | refine blk_drewN ?_ _ | refine blk_drew ?_ | refine blk_alloc ?_ _)); exact BK256.out⟩, ⟨by repeat (first | (with_reducible first | exact HB.out | apply below_alloc | apply pw_below_drewN | apply below_drew1 | refine below_set ?_ GE256.out) | exact HB.out)⟩⟩
          · rw [if_neg c19] at H
            exact absurd H (by simp)
        · rw [if_neg c18] at H
          exact absurd H (by simp)
    case rest =>
      clear HC5
      try clear c1
      try clear c2
      try clear p2
      try clear c3
      try clear c10
      try clear c12
      try clear c12b0
      try clear c12b1
      try clear c14
      try clear c14b0
      try clear c14b1
      try clear c14b2
      try clear c15
      try clear c18
      try clear c18b0
      try clear c18b1
      try clear c18b2
      try clear c19
      try clear c19b0
      try clear c19b1
      try clear c19b2
      try clear hcz11_0
      try clear hcz11_1
      try clear hcz11_2
      try clear hcz11_3
      try clear hcz11_4
      try clear hcz11_5
      try clear hcz11_6
      try clear hcz11_7
      try clear hcz20_0
      try clear hcz20_1
      try clear hcz20_2
      try clear hcz20_3
      try clear hcz20_4
      try clear hcz20_5
      try clear hcz20_6
      try clear hcz20_7
      try clear hcz7_0
      try clear hcz7_1
      try clear hcz7_2
      try clear hcz7_3
      try clear hcz7_4
      try clear hcz7_5
      try clear hcz7_6
      try clear hcz7_7
      try clear hcz9_0
      try clear hcz9_1
      try clear hcz9_2
      try clear hcz9_3
      try clear hcz9_4
      try clear hcz9_5
      try clear hcz9_6
      try clear hcz9_7
      try clear hfz11_0
      try clear hfz11_1
      try clear hfz11_2
      try clear hfz11_3
      try clear hfz11_4
      try clear hfz11_5
      try clear hfz11_6
      try clear hfz11_7
      try clear hfz20_0
      try clear hfz20_1
      try clear hfz20_2
      try clear hfz20_3
      try clear hfz20_4
      try clear hfz20_5
      try clear hfz20_6
      try clear hfz20_7
      try clear hfz7_0
      try clear hfz7_1
      try clear hfz7_2
      try clear hfz7_3
      try clear hfz7_4
      try clear hfz7_5
      try clear hfz7_6
      try clear hfz7_7
      try clear hfz9_0
      try clear hfz9_1
      try clear hfz9_2
      try clear hfz9_3
      try clear hfz9_4
      try clear hfz9_5
      try clear hfz9_6
      try clear hfz9_7
      obtain ⟨kq, x4_4, rfl, HA, HJ4, BK256, HB⟩ := hcut
      cases kq with
      | zero => exact absurd HA.out (by simp [factotumref17_Write.j0])
      | succ kj4 =>
        have H := HA.out
        clear HA
        simp only [factotumref17_Write.j0] at H
        replace H := Option.bind_eq_some_iff.mp H
        obtain ⟨t263, A230, H⟩ := H
        replace H : (if x4_4.size + t263.size ≤ 9223372036854775807 then ((factotumref01_Num.f kj4 (IntKind.u64.wrap (a0_5)) 1).bind fun t264 => (if (x4_4 ++ t263).size + t264.size ≤ 9223372036854775807 then ((factotumref01_Num.f kj4 (IntKind.u64.wrap (a0_6)) 1).bind fun t265 => (if ((x4_4 ++ t263) ++ t264).size + t265.size ≤ 9223372036854775807 then ((factotumref01_Num.f kj4 (IntKind.u64.wrap (a0_7)) 1).bind fun t266 => (if (((x4_4 ++ t263) ++ t264) ++ t265).size + t266.size ≤ 9223372036854775807 then (some ((((x4_4 ++ t263) ++ t264) ++ t265) ++ t266, 0)) else (none))) else (none))) else (none))) else (none)) = some (r1, r2) := H
        have A23 := Aside0.mk A230
        clear A230
        by_cases c24 : x4_4.size + t263.size ≤ 9223372036854775807
        · rw [if_pos c24] at H
          have c24b0 := eq_true c24
          have c24b1 : decide (x4_4.size + t263.size ≤ 9223372036854775807) = true := decide_eq_true c24
          try have c24b2 : (9223372036854775807 < x4_4.size + t263.size) = False := eq_false (Nat.not_lt.2 c24)
          replace H := Option.bind_eq_some_iff.mp H
          obtain ⟨t264, A250, H⟩ := H
          replace H : (if (x4_4 ++ t263).size + t264.size ≤ 9223372036854775807 then ((factotumref01_Num.f kj4 (IntKind.u64.wrap (a0_6)) 1).bind fun t265 => (if ((x4_4 ++ t263) ++ t264).size + t265.size ≤ 9223372036854775807 then ((factotumref01_Num.f kj4 (IntKind.u64.wrap (a0_7)) 1).bind fun t266 => (if (((x4_4 ++ t263) ++ t264) ++ t265).size + t266.size ≤ 9223372036854775807 then (some ((((x4_4 ++ t263) ++ t264) ++ t265) ++ t266, 0)) else (none))) else (none))) else (none)) = some (r1, r2) := H
          have A25 := Aside0.mk A250
          clear A250
          by_cases c26 : (x4_4 ++ t263).size + t264.size ≤ 9223372036854775807
          · rw [if_pos c26] at H
            have c26b0 := eq_true c26
            have c26b1 : decide ((x4_4 ++ t263).size + t264.size ≤ 9223372036854775807) = true := decide_eq_true c26
            (try (have c26x := c26; simp at c26x))
            try have c26b2 : (9223372036854775807 < (x4_4 ++ t263).size + t264.size) = False := eq_false (Nat.not_lt.2 c26)
            (try have c26b3 := c26b2)
            (try simp only [ByteArray.size_append, ByteArray.size_extract] at c26b3)
            (try rw [Nat.min_eq_left (by omega)] at c26b3)
            replace H := Option.bind_eq_some_iff.mp H
            obtain ⟨t265, A270, H⟩ := H
            replace H : (if ((x4_4 ++ t263) ++ t264).size + t265.size ≤ 9223372036854775807 then ((factotumref01_Num.f kj4 (IntKind.u64.wrap (a0_7)) 1).bind fun t266 => (if (((x4_4 ++ t263) ++ t264) ++ t265).size + t266.size ≤ 9223372036854775807 then (some ((((x4_4 ++ t263) ++ t264) ++ t265) ++ t266, 0)) else (none))) else (none)) = some (r1, r2) := H
            have A27 := Aside0.mk A270
            clear A270
            by_cases c28 : ((x4_4 ++ t263) ++ t264).size + t265.size ≤ 9223372036854775807
            · rw [if_pos c28] at H
              have c28b0 := eq_true c28
              have c28b1 : decide (((x4_4 ++ t263) ++ t264).size + t265.size ≤ 9223372036854775807) = true := decide_eq_true c28
              (try (have c28x := c28; simp at c28x))
              try have c28b2 : (9223372036854775807 < ((x4_4 ++ t263) ++ t264).size + t265.size) = False := eq_false (Nat.not_lt.2 c28)
              (try have c28b3 := c28b2)
              (try simp only [ByteArray.size_append, ByteArray.size_extract] at c28b3)
              (try rw [Nat.min_eq_left (by omega)] at c28b3)
              replace H := Option.bind_eq_some_iff.mp H
              obtain ⟨t266, A290, H⟩ := H
              replace H : (if (((x4_4 ++ t263) ++ t264) ++ t265).size + t266.size ≤ 9223372036854775807 then (some ((((x4_4 ++ t263) ++ t264) ++ t265) ++ t266, 0)) else (none)) = some (r1, r2) := H
              have A29 := Aside0.mk A290
              clear A290
              by_cases c30 : (((x4_4 ++ t263) ++ t264) ++ t265).size + t266.size ≤ 9223372036854775807
              · rw [if_pos c30] at H
                have c30b0 := eq_true c30
                have c30b1 : decide ((((x4_4 ++ t263) ++ t264) ++ t265).size + t266.size ≤ 9223372036854775807) = true := decide_eq_true c30
                (try (have c30x := c30; simp at c30x))
                try have c30b2 : (9223372036854775807 < (((x4_4 ++ t263) ++ t264) ++ t265).size + t266.size) = False := eq_false (Nat.not_lt.2 c30)
                (try have c30b3 := c30b2)
                (try simp only [ByteArray.size_append, ByteArray.size_extract] at c30b3)
                (try rw [Nat.min_eq_left (by omega)] at c30b3)
                simp only [Option.some.injEq, Prod.mk.injEq] at H
                obtain ⟨rfl, rfl⟩ := H
                try go_wp2
                have n0_ := Aside0.mk (blk_drew BK256.out)
                have n1_ := Aside0.mk (below_drew1 HB.out)
                clear BK256
                clear HB
                have BK256 := n0_
                have HB := n1_
                clear n0_ n1_
                refine start_ (n := 23) (S := fun w' => w'.cell? ⟨gb256, 0, none⟩ = some (.int .i64 a0_0) ∧ w'.cell? ⟨gb256, 1, none⟩ = some (.int .i64 a0_1) ∧ w'.cell? ⟨gb256, 2, none⟩ = some (.int .i64 a0_2) ∧ w'.cell? ⟨gb256, 3, none⟩ = some (.string a0_3) ∧ w'.cell? ⟨gb256, 4, none⟩ = some (.int .i64 a0_4) ∧ w'.cell? ⟨gb256, 5, none⟩ = some (.int .i64 a0_5) ∧ w'.cell? ⟨gb256, 6, none⟩ = some (.int .i64 a0_6) ∧ w'.cell? ⟨gb256, 7, none⟩ = some (.int .i64 a0_7)) (ds := []) #[false, false, false, false, false, false, false, false, false, false, false, false, false, false, false, false, false, false, false, false, false, false, false] (by kernel_rfl) rfl rfl ⟨(blk_cell BK256.out 0).trans rfl, (blk_cell BK256.out 1).trans rfl, (blk_cell BK256.out 2).trans rfl, (blk_cell BK256.out 3).trans rfl, (blk_cell BK256.out 4).trans rfl, (blk_cell BK256.out 5).trans rfl, (blk_cell BK256.out 6).trans rfl, (blk_cell BK256.out 7).trans rfl⟩ (fun hHeld => ?_); refine with_tabW factotumref17_Write.tab8 factotumref17_Write.bits8 (fun HT_ HW_ => ?_)
                generalize wc.drew = w31 at BK256 HB hHeld ⊢
                refine pure_ (i := 0) (N := some 32) (v := ?_) (a' := ?_) #[true, false, false, false, false, false, false, false, false, false, false, false, false, false, false, false, false, false, false, false, false, false, false] rfl rfl (any_of HT_.out (by kernel_rfl)) (fun _ _ _ h => h) (Or.inl ⟨by rfl, ?_⟩) ?_ ?_
                rotate_left
                · intro w'
                  go_simp
                  with_reducible rfl
                rotate_left
                · simp only [Act.put, List.setIfInBounds_toArray, List.set_cons_zero, List.set_cons_succ, i64_w, i32_w]
                  rfl
                refine pure_ (i := 1) (N := some 33) (v := ?_) (a' := ?_) #[true, true, false, false, false, false, false, false, false, false, false, false, false, false, false, false, false, false, false, false, false, false, false] rfl rfl (any_of HT_.out (by kernel_rfl)) (fun _ _ _ h => h) (Or.inl ⟨by rfl, ?_⟩) ?_ ?_
                rotate_left
                · intro w'
                  go_simp
                  with_reducible rfl
                rotate_left
                · simp only [Act.put, List.setIfInBounds_toArray, List.set_cons_zero, List.set_cons_succ, i64_w, i32_w]
                  rfl
                refine pure_ (i := 6) (N := some 38) (v := ?_) (a' := ?_) #[true, true, false, false, false, false, true, false, false, false, false, false, false, false, false, false, false, false, false, false, false, false, false] rfl rfl (any_of HT_.out (by kernel_rfl)) (fun _ _ _ h => h) (Or.inl ⟨by rfl, ?_⟩) ?_ ?_
                rotate_left
                · intro w'
                  go_simp
                  with_reducible rfl
                rotate_left
                · simp only [Act.put, List.setIfInBounds_toArray, List.set_cons_zero, List.set_cons_succ, i64_w, i32_w]
                  rfl
                refine pure_ (i := 11) (N := some 43) (v := ?_) (a' := ?_) #[true, true, false, false, false, false, true, false, false, false, false, true, false, false, false, false, false, false, false, false, false, false, false] rfl rfl (any_of HT_.out (by kernel_rfl)) (fun _ _ _ h => h) (Or.inl ⟨by rfl, ?_⟩) ?_ ?_
                rotate_left
                · intro w'
                  go_simp
                  with_reducible rfl
                rotate_left
                · simp only [Act.put, List.setIfInBounds_toArray, List.set_cons_zero, List.set_cons_succ, i64_w, i32_w]
                  rfl
                refine pure_ (i := 16) (N := some 48) (v := ?_) (a' := ?_) #[true, true, false, false, false, false, true, false, false, false, false, true, false, false, false, false, true, false, false, false, false, false, false] rfl rfl (any_of HT_.out (by kernel_rfl)) (fun _ _ _ h => h) (Or.inl ⟨by rfl, ?_⟩) ?_ ?_
                rotate_left
                · intro w'
                  go_simp
                  with_reducible rfl
                rotate_left
                · simp only [Act.put, List.setIfInBounds_toArray, List.set_cons_zero, List.set_cons_succ, i64_w, i32_w]
                  rfl
                refine take_ (i := 2) (N := some 34) (v := ?_) (a' := ?_) #[true, true, true, false, false, false, true, false, false, false, false, true, false, false, false, false, true, false, false, false, false, false, false] rfl rfl (take_ofW HT_.out HW_.out (by kernel_rfl)) (fun _ _ _ h => h) (Or.inl ⟨by rfl, ?_⟩) hHeld ?_ ?_
                rotate_left
                · rintro w' ⟨s0, s1, s2, s3, s4, s5, s6, s7⟩
                  go_simp
                  with_reducible rfl
                rotate_left
                · simp only [Act.put, List.setIfInBounds_toArray, List.set_cons_zero, List.set_cons_succ, i64_w, i32_w]
                  rfl
                refine pure_ (i := 3) (N := some 35) (v := ?_) (a' := ?_) #[true, true, true, true, false, false, true, false, false, false, false, true, false, false, false, false, true, false, false, false, false, false, false] rfl rfl (any_of HT_.out (by kernel_rfl)) (fun _ _ _ h => h) (Or.inl ⟨by rfl, ?_⟩) ?_ ?_
                rotate_left
                · intro w'
                  go_simp
                  with_reducible rfl
                rotate_left
                · simp only [Act.put, List.setIfInBounds_toArray, List.set_cons_zero, List.set_cons_succ, i64_w, i32_w]
                  rfl
                refine take_ (i := 7) (N := some 39) (v := ?_) (a' := ?_) #[true, true, true, true, false, false, true, true, false, false, false, true, false, false, false, false, true, false, false, false, false, false, false] rfl rfl (take_ofW HT_.out HW_.out (by kernel_rfl)) (fun _ _ _ h => h) (Or.inl ⟨by rfl, ?_⟩) hHeld ?_ ?_
                rotate_left
                · rintro w' ⟨s0, s1, s2, s3, s4, s5, s6, s7⟩
                  go_simp
                  with_reducible rfl
                rotate_left
                · simp only [Act.put, List.setIfInBounds_toArray, List.set_cons_zero, List.set_cons_succ, i64_w, i32_w]
                  rfl
                refine pure_ (i := 8) (N := some 40) (v := ?_) (a' := ?_) #[true, true, true, true, false, false, true, true, true, false, false, true, false, false, false, false, true, false, false, false, false, false, false] rfl rfl (any_of HT_.out (by kernel_rfl)) (fun _ _ _ h => h) (Or.inl ⟨by rfl, ?_⟩) ?_ ?_
                rotate_left
                · intro w'
                  go_simp
                  with_reducible rfl
                rotate_left
                · simp only [Act.put, List.setIfInBounds_toArray, List.set_cons_zero, List.set_cons_succ, i64_w, i32_w]
                  rfl
                refine take_ (i := 12) (N := some 44) (v := ?_) (a' := ?_) #[true, true, true, true, false, false, true, true, true, false, false, true, true, false, false, false, true, false, false, false, false, false, false] rfl rfl (take_ofW HT_.out HW_.out (by kernel_rfl)) (fun _ _ _ h => h) (Or.inl ⟨by rfl, ?_⟩) hHeld ?_ ?_
                rotate_left
                · rintro w' ⟨s0, s1, s2, s3, s4, s5, s6, s7⟩
                  go_simp
                  with_reducible rfl
                rotate_left
                · simp only [Act.put, List.setIfInBounds_toArray, List.set_cons_zero, List.set_cons_succ, i64_w, i32_w]
                  rfl
                refine pure_ (i := 13) (N := some 45) (v := ?_) (a' := ?_) #[true, true, true, true, false, false, true, true, true, false, false, true, true, true, false, false, true, false, false, false, false, false, false] rfl rfl (any_of HT_.out (by kernel_rfl)) (fun _ _ _ h => h) (Or.inl ⟨by rfl, ?_⟩) ?_ ?_
                rotate_left
                · intro w'
                  go_simp
                  with_reducible rfl
                rotate_left
                · simp only [Act.put, List.setIfInBounds_toArray, List.set_cons_zero, List.set_cons_succ, i64_w, i32_w]
                  rfl
                refine take_ (i := 17) (N := some 49) (v := ?_) (a' := ?_) #[true, true, true, true, false, false, true, true, true, false, false, true, true, true, false, false, true, true, false, false, false, false, false] rfl rfl (take_ofW HT_.out HW_.out (by kernel_rfl)) (fun _ _ _ h => h) (Or.inl ⟨by rfl, ?_⟩) hHeld ?_ ?_
                rotate_left
                · rintro w' ⟨s0, s1, s2, s3, s4, s5, s6, s7⟩
                  go_simp
                  with_reducible rfl
                rotate_left
                · simp only [Act.put, List.setIfInBounds_toArray, List.set_cons_zero, List.set_cons_succ, i64_w, i32_w]
                  rfl
                refine pure_ (i := 18) (N := some 50) (v := ?_) (a' := ?_) #[true, true, true, true, false, false, true, true, true, false, false, true, true, true, false, false, true, true, true, false, false, false, false] rfl rfl (any_of HT_.out (by kernel_rfl)) (fun _ _ _ h => h) (Or.inl ⟨by rfl, ?_⟩) ?_ ?_
                rotate_left
                · intro w'
                  go_simp
                  with_reducible rfl
                rotate_left
                · simp only [Act.put, List.setIfInBounds_toArray, List.set_cons_zero, List.set_cons_succ, i64_w, i32_w]
                  rfl
                refine one_ (i := 4) (N := some 36) #[true, true, true, true, true, false, true, true, true, false, false, true, true, true, false, false, true, true, true, false, false, false, false] rfl rfl (one_of HT_.out (by kernel_rfl)) (by decide) (fun K hK => ?_)
                refine goes_ Tryd.func27 (by kernel_rfl) rfl #[.int .u64 (IntKind.u64.wrap (a0_4)), .int .i64 4] (by rfl) rfl rfl (by (try simp only [List.map_toArray, List.map_cons, List.map_nil]); first | done | rfl | (simp only [List.length_drop, List.length_take]; rfl) | (simp (disch := omega) only [u64_in]; rfl)) ?_
                with_reducible refine (factotumref01_Num.calls kj4 (IntKind.u64.wrap (a0_4)) 4 t263 _ A23.out).mono ?_
                rintro e w32 ⟨rfl, hb⟩
                refine ⟨_, rfl, ?_⟩
                have n0_ := Aside0.mk (blk_below (g := gb256) (o := .cells #[.int .i64 a0_0, .int .i64 a0_1, .int .i64 a0_2, .string a0_3, .int .i64 a0_4, .int .i64 a0_5, .int .i64 a0_6, .int .i64 a0_7] 33 (0, 0)) (by (with_reducible repeat (first | refine blk_drewN ?_ _ | refine blk_drew ?_ | refine blk_alloc ?_ _)); exact BK256.out) hb)
                have n1_ := Aside0.mk (below_step (by repeat (first | (with_reducible first | exact HB.out | apply below_alloc | apply pw_below_drewN | apply below_drew1 | refine below_set ?_ GE256.out) | exact HB.out)) hb)
                clear BK256
                clear HB
                have BK256 := n0_
                have HB := n1_
                clear n0_ n1_
                (try clear hb)
                (try clear hb2)
                (try clear hk)
                (try clear hi)
                refine hK.out _ _ ⟨(blk_cell BK256.out 0).trans rfl, (blk_cell BK256.out 1).trans rfl, (blk_cell BK256.out 2).trans rfl, (blk_cell BK256.out 3).trans rfl, (blk_cell BK256.out 4).trans rfl, (blk_cell BK256.out 5).trans rfl, (blk_cell BK256.out 6).trans rfl, (blk_cell BK256.out 7).trans rfl⟩ (fun hHeld => ?_)
                clear hK K
                refine norm_ (a' := ?_) ?_ ?_
                rotate_left
                · show Act.put _ (some 36) _ = _
                  simp only [Act.put, List.setIfInBounds_toArray, List.set_cons_zero, List.set_cons_succ, i64_w, i32_w]
                  rfl
                refine pure_ (i := 5) (N := some 37) (v := ?_) (a' := ?_) #[true, true, true, true, true, true, true, true, true, false, false, true, true, true, false, false, true, true, true, false, false, false, false] rfl rfl (any_of HT_.out (by kernel_rfl)) (fun _ _ _ h => h) (Or.inl ⟨by rfl, ?_⟩) ?_ ?_
                rotate_left
                · intro w'
                  go_simp
                  with_reducible rfl
                rotate_left
                · simp only [Act.put, List.setIfInBounds_toArray, List.set_cons_zero, List.set_cons_succ, i64_w, i32_w]
                  rfl
                refine one_ (i := 9) (N := some 41) #[true, true, true, true, true, true, true, true, true, true, false, true, true, true, false, false, true, true, true, false, false, false, false] rfl rfl (one_of HT_.out (by kernel_rfl)) (by decide) (fun K hK => ?_)
                refine goes_ Tryd.func27 (by kernel_rfl) rfl #[.int .u64 (IntKind.u64.wrap (a0_5)), .int .i64 1] (by rfl) rfl rfl (by (try simp only [List.map_toArray, List.map_cons, List.map_nil]); first | done | rfl | (simp only [List.length_drop, List.length_take]; rfl) | (simp (disch := omega) only [u64_in]; rfl)) ?_
                with_reducible refine (factotumref01_Num.calls kj4 (IntKind.u64.wrap (a0_5)) 1 t264 _ A25.out).mono ?_
                rintro e w33 ⟨rfl, hb⟩
                refine ⟨_, rfl, ?_⟩
                have n0_ := Aside0.mk (blk_below (g := gb256) (o := .cells #[.int .i64 a0_0, .int .i64 a0_1, .int .i64 a0_2, .string a0_3, .int .i64 a0_4, .int .i64 a0_5, .int .i64 a0_6, .int .i64 a0_7] 33 (0, 0)) (by (with_reducible repeat (first | refine blk_drewN ?_ _ | refine blk_drew ?_ | refine blk_alloc ?_ _)); exact BK256.out) hb)
                have n1_ := Aside0.mk (below_step (by repeat (first | (with_reducible first | exact HB.out | apply below_alloc | apply pw_below_drewN | apply below_drew1 | refine below_set ?_ GE256.out) | exact HB.out)) hb)
                clear BK256
                clear HB
                have BK256 := n0_
                have HB := n1_
                clear n0_ n1_
                (try clear hb)
                (try clear hb2)
                (try clear hk)
                (try clear hi)
                refine hK.out _ _ ⟨(blk_cell BK256.out 0).trans rfl, (blk_cell BK256.out 1).trans rfl, (blk_cell BK256.out 2).trans rfl, (blk_cell BK256.out 3).trans rfl, (blk_cell BK256.out 4).trans rfl, (blk_cell BK256.out 5).trans rfl, (blk_cell BK256.out 6).trans rfl, (blk_cell BK256.out 7).trans rfl⟩ (fun hHeld => ?_)
                clear hK K
                refine norm_ (a' := ?_) ?_ ?_
                rotate_left
                · show Act.put _ (some 41) _ = _
                  simp only [Act.put, List.setIfInBounds_toArray, List.set_cons_zero, List.set_cons_succ, i64_w, i32_w]
                  rfl
                refine pure_ (i := 10) (N := some 42) (v := ?_) (a' := ?_) #[true, true, true, true, true, true, true, true, true, true, true, true, true, true, false, false, true, true, true, false, false, false, false] rfl rfl (any_of HT_.out (by kernel_rfl)) (fun _ _ _ h => h) (Or.inl ⟨by rfl, ?_⟩) ?_ ?_
                rotate_left
                · intro w'
                  go_simp
                  with_reducible rfl
                rotate_left
                · simp only [Act.put, List.setIfInBounds_toArray, List.set_cons_zero, List.set_cons_succ, i64_w, i32_w]
                  rfl
                refine one_ (i := 14) (N := some 46) #[true, true, true, true, true, true, true, true, true, true, true, true, true, true, true, false, true, true, true, false, false, false, false] rfl rfl (one_of HT_.out (by kernel_rfl)) (by decide) (fun K hK => ?_)
                refine goes_ Tryd.func27 (by kernel_rfl) rfl #[.int .u64 (IntKind.u64.wrap (a0_6)), .int .i64 1] (by rfl) rfl rfl (by (try simp only [List.map_toArray, List.map_cons, List.map_nil]); first | done | rfl | (simp only [List.length_drop, List.length_take]; rfl) | (simp (disch := omega) only [u64_in]; rfl)) ?_
                with_reducible refine (factotumref01_Num.calls kj4 (IntKind.u64.wrap (a0_6)) 1 t265 _ A27.out).mono ?_
                rintro e w34 ⟨rfl, hb⟩
                refine ⟨_, rfl, ?_⟩
                have n0_ := Aside0.mk (blk_below (g := gb256) (o := .cells #[.int .i64 a0_0, .int .i64 a0_1, .int .i64 a0_2, .string a0_3, .int .i64 a0_4, .int .i64 a0_5, .int .i64 a0_6, .int .i64 a0_7] 33 (0, 0)) (by (with_reducible repeat (first | refine blk_drewN ?_ _ | refine blk_drew ?_ | refine blk_alloc ?_ _)); exact BK256.out) hb)
                have n1_ := Aside0.mk (below_step (by repeat (first | (with_reducible first | exact HB.out | apply below_alloc | apply pw_below_drewN | apply below_drew1 | refine below_set ?_ GE256.out) | exact HB.out)) hb)
                clear BK256
                clear HB
                have BK256 := n0_
                have HB := n1_
                clear n0_ n1_
                (try clear hb)
                (try clear hb2)
                (try clear hk)
                (try clear hi)
                refine hK.out _ _ ⟨(blk_cell BK256.out 0).trans rfl, (blk_cell BK256.out 1).trans rfl, (blk_cell BK256.out 2).trans rfl, (blk_cell BK256.out 3).trans rfl, (blk_cell BK256.out 4).trans rfl, (blk_cell BK256.out 5).trans rfl, (blk_cell BK256.out 6).trans rfl, (blk_cell BK256.out 7).trans rfl⟩ (fun hHeld => ?_)
                clear hK K
                refine norm_ (a' := ?_) ?_ ?_
                rotate_left
                · show Act.put _ (some 46) _ = _
                  simp only [Act.put, List.setIfInBounds_toArray, List.set_cons_zero, List.set_cons_succ, i64_w, i32_w]
                  rfl
                refine pure_ (i := 15) (N := some 47) (v := ?_) (a' := ?_) #[true, true, true, true, true, true, true, true, true, true, true, true, true, true, true, true, true, true, true, false, false, false, false] rfl rfl (any_of HT_.out (by kernel_rfl)) (fun _ _ _ h => h) (Or.inl ⟨by rfl, ?_⟩) ?_ ?_
                rotate_left
                · intro w'
                  go_simp
                  with_reducible rfl
                rotate_left
                · simp only [Act.put, List.setIfInBounds_toArray, List.set_cons_zero, List.set_cons_succ, i64_w, i32_w]
                  rfl
                refine one_ (i := 19) (N := some 51) #[true, true, true, true, true, true, true, true, true, true, true, true, true, true, true, true, true, true, true, true, false, false, false] rfl rfl (one_of HT_.out (by kernel_rfl)) (by decide) (fun K hK => ?_)
                refine goes_ Tryd.func27 (by kernel_rfl) rfl #[.int .u64 (IntKind.u64.wrap (a0_7)), .int .i64 1] (by rfl) rfl rfl (by (try simp only [List.map_toArray, List.map_cons, List.map_nil]); first | done | rfl | (simp only [List.length_drop, List.length_take]; rfl) | (simp (disch := omega) only [u64_in]; rfl)) ?_
                with_reducible refine (factotumref01_Num.calls kj4 (IntKind.u64.wrap (a0_7)) 1 t266 _ A29.out).mono ?_
                rintro e w35 ⟨rfl, hb⟩
                refine ⟨_, rfl, ?_⟩
                have n0_ := Aside0.mk (blk_below (g := gb256) (o := .cells #[.int .i64 a0_0, .int .i64 a0_1, .int .i64 a0_2, .string a0_3, .int .i64 a0_4, .int .i64 a0_5, .int .i64 a0_6, .int .i64 a0_7] 33 (0, 0)) (by (with_reducible repeat (first | refine blk_drewN ?_ _ | refine blk_drew ?_ | refine blk_alloc ?_ _)); exact BK256.out) hb)
                have n1_ := Aside0.mk (below_step (by repeat (first | (with_reducible first | exact HB.out | apply below_alloc | apply pw_below_drewN | apply below_drew1 | refine below_set ?_ GE256.out) | exact HB.out)) hb)
                clear BK256
                clear HB
                have BK256 := n0_
                have HB := n1_
                clear n0_ n1_
                (try clear hb)
                (try clear hb2)
                (try clear hk)
                (try clear hi)
                refine hK.out _ _ ⟨(blk_cell BK256.out 0).trans rfl, (blk_cell BK256.out 1).trans rfl, (blk_cell BK256.out 2).trans rfl, (blk_cell BK256.out 3).trans rfl, (blk_cell BK256.out 4).trans rfl, (blk_cell BK256.out 5).trans rfl, (blk_cell BK256.out 6).trans rfl, (blk_cell BK256.out 7).trans rfl⟩ (fun hHeld => ?_)
                clear hK K
                refine norm_ (a' := ?_) ?_ ?_
                rotate_left
                · show Act.put _ (some 51) _ = _
                  simp only [Act.put, List.setIfInBounds_toArray, List.set_cons_zero, List.set_cons_succ, i64_w, i32_w]
                  rfl
                refine pure_ (i := 20) (N := some 52) (v := ?_) (a' := ?_) #[true, true, true, true, true, true, true, true, true, true, true, true, true, true, true, true, true, true, true, true, true, false, false] rfl rfl (any_of HT_.out (by kernel_rfl)) (fun _ _ _ h => h) (Or.inl ⟨by rfl, ?_⟩) ?_ ?_
                rotate_left
                · intro w'
                  go_simp
                  with_reducible rfl
                rotate_left
                · simp only [Act.put, List.setIfInBounds_toArray, List.set_cons_zero, List.set_cons_succ, i64_w, i32_w]
                  rfl
                refine pure_ (i := 21) (N := some 2) (v := ?_) (a' := ?_) #[true, true, true, true, true, true, true, true, true, true, true, true, true, true, true, true, true, true, true, true, true, true, false] rfl rfl (any_of HT_.out (by kernel_rfl)) (fun _ _ _ h => h) (Or.inl ⟨by rfl, ?_⟩) ?_ ?_
                rotate_left
                · intro w'
                  go_simp
                  with_reducible rfl
                rotate_left
                · simp only [Act.put, List.setIfInBounds_toArray, List.set_cons_zero, List.set_cons_succ, i64_w, i32_w]
                  rfl
                refine pure_ (i := 22) (N := some 3) (v := ?_) (a' := ?_) #[true, true, true, true, true, true, true, true, true, true, true, true, true, true, true, true, true, true, true, true, true, true, true] rfl rfl (any_of HT_.out (by kernel_rfl)) (fun _ _ _ h => h) (Or.inl ⟨by rfl, ?_⟩) ?_ ?_
                rotate_left
                · intro w'
                  go_simp
                  with_reducible rfl
                rotate_left
                · simp only [Act.put, List.setIfInBounds_toArray, List.set_cons_zero, List.set_cons_succ, i64_w, i32_w]
                  rfl
                refine done_ (done_of HT_.out (by kernel_rfl)) ?_
                try go_wp2
                go_ret2
                exact ⟨by first | (with_reducible rfl) | (simp only [isEmpty_bne, Bool.not_not] <;> with_reducible rfl) | (simp [errW_none, errW_some] <;> with_reducible rfl) | (simp only [isEmpty_bne, Bool.not_not] <;> rfl) | rfl | (simp [errW_none, errW_some] <;> rfl) | (simp [*, errW_none, errW_some] <;> rfl), by repeat (first | (with_reducible first | exact HB.out | apply below_alloc | apply pw_below_drewN | apply below_drew1 | refine below_set ?_ GE256.out) | exact HB.out)⟩
              · rw [if_neg c30] at H
                exact absurd H (by simp)
            · rw [if_neg c28] at H
              exact absurd H (by simp)
          · rw [if_neg c26] at H
            exact absurd H (by simp)
        · rw [if_neg c24] at H
          exact absurd H (by simp)
  · replace c3 := Bool.eq_false_iff.mpr c3
    subst c3
    have H1 : (some ((⟨#[]⟩ : ByteArray), 4)) = some (r1, r2) := by rw [if_neg (show ¬ (false = true) by decide)] at H; exact H
    clear H
    have H := H1
    clear H1
    simp only [Option.some.injEq, Prod.mk.injEq] at H
    obtain ⟨rfl, rfl⟩ := H
    go_enter Tryd.func15, Tryd.ntmps15
    go_wp2_with (first | ((with_reducible refine gate_dst (N := 1) rfl ?_); refine box_event ?hg (N := 1) ?hd (cs := #[.int .i64 a0_0, .int .i64 a0_1, .int .i64 a0_2, .string a0_3, .int .i64 a0_4, .int .i64 a0_5, .int .i64 a0_6, .int .i64 a0_7]) (t := 33) ?hr ?_; (case hd => rfl); (case hg => rfl); (case hr => first | (go_simp; done) | (go_simp; rfl)); intro gb256 hg w36 hbox hb; have n0_ := Aside0.mk (below_step (by repeat (first | (with_reducible first | exact HB.out | apply below_alloc | apply pw_below_drewN | apply below_drew1) | exact HB.out)) hb); have n1_ := Aside0.mk (hbox); have n2_ := Aside0.mk ((by rw [hg]; exact (below_size (by repeat (first | (with_reducible first | exact HB.out | apply below_alloc | apply pw_below_drewN | apply below_drew1) | exact HB.out))) : w.heap.size ≤ gb256)); have n3_ := Aside0.mk ((by rw [hg]; exact (below_size (by repeat (first | (with_reducible first | exact HB.out | apply below_alloc | apply pw_below_drewN | apply below_drew1) | exact HB.out))) : w.heap.size ≤ gb256)); clear HB; have HB := n0_; have BK256 := n1_; have GW256 := n2_; have GE256 := n3_; clear n0_ n1_ n2_ n3_; clear hb hbox hg; have hcz37_0 : w36.cell? ⟨gb256, 0, none⟩ = some (.int .i64 a0_0) := (blk_cell BK256.out 0).trans rfl; have hcz37_1 : w36.cell? ⟨gb256, 1, none⟩ = some (.int .i64 a0_1) := (blk_cell BK256.out 1).trans rfl; have hcz37_2 : w36.cell? ⟨gb256, 2, none⟩ = some (.int .i64 a0_2) := (blk_cell BK256.out 2).trans rfl; have hcz37_3 : w36.cell? ⟨gb256, 3, none⟩ = some (.string a0_3) := (blk_cell BK256.out 3).trans rfl; have hcz37_4 : w36.cell? ⟨gb256, 4, none⟩ = some (.int .i64 a0_4) := (blk_cell BK256.out 4).trans rfl; have hcz37_5 : w36.cell? ⟨gb256, 5, none⟩ = some (.int .i64 a0_5) := (blk_cell BK256.out 5).trans rfl; have hcz37_6 : w36.cell? ⟨gb256, 6, none⟩ = some (.int .i64 a0_6) := (blk_cell BK256.out 6).trans rfl; have hcz37_7 : w36.cell? ⟨gb256, 7, none⟩ = some (.int .i64 a0_7) := (blk_cell BK256.out 7).trans rfl; have hfz37_0 := blk_frozen BK256.out 0; have hfz37_1 := blk_frozen BK256.out 1; have hfz37_2 := blk_frozen BK256.out 2; have hfz37_3 := blk_frozen BK256.out 3; have hfz37_4 := blk_frozen BK256.out 4; have hfz37_5 := blk_frozen BK256.out 5; have hfz37_6 := blk_frozen BK256.out 6; have hfz37_7 := blk_frozen BK256.out 7) | ((with_reducible refine gate_callee (f := 36) rfl ?_); refine goesL_ (some 8) rfl rfl Tryd.func36 (by kernel_rfl) rfl #[.agg #[.int .i64 a0_0, .int .i64 a0_1, .int .i64 a0_2, .string a0_3, .int .i64 a0_4, .int .i64 a0_5, .int .i64 a0_6, .int .i64 a0_7]] rfl (by (try simp only [List.map_toArray, List.map_cons, List.map_nil]); first | done | rfl | (simp only [List.length_drop, List.length_take]; rfl) | (simp (disch := omega) only [u64_in]; rfl)) ?_; (with_reducible refine (factotumref17_Right.calls a0_0 a0_1 a0_2 a0_3 a0_4 a0_5 a0_6 a0_7 false _ A2.out).mono ?_); rintro e w38 ⟨rfl, hb⟩; refine ⟨_, rfl, ?_⟩; have n0_ := Aside0.mk (blk_below (g := gb256) (o := .cells #[.int .i64 a0_0, .int .i64 a0_1, .int .i64 a0_2, .string a0_3, .int .i64 a0_4, .int .i64 a0_5, .int .i64 a0_6, .int .i64 a0_7] 33 (0, 0)) (by (with_reducible repeat (first | refine blk_drewN ?_ _ | refine blk_drew ?_ | refine blk_alloc ?_ _)); exact BK256.out) hb); have n1_ := Aside0.mk (below_step (by repeat (first | (with_reducible first | exact HB.out | apply below_alloc | apply pw_below_drewN | apply below_drew1 | refine below_set ?_ GE256.out) | exact HB.out)) hb); clear BK256; clear HB; have BK256 := n0_; have HB := n1_; clear n0_ n1_; (try clear hb); (try clear hb2); (try clear hk); (try clear hi)))
    go_ret2
    exact ⟨by first | (with_reducible rfl) | (simp only [isEmpty_bne, Bool.not_not] <;> with_reducible rfl) | (simp [errW_none, errW_some] <;> with_reducible rfl) | (simp only [isEmpty_bne, Bool.not_not] <;> rfl) | rfl | (simp [errW_none, errW_some] <;> rfl) | (simp [*, errW_none, errW_some] <;> rfl), by repeat (first | (with_reducible first | exact HB.out | apply below_alloc | apply pw_below_drewN | apply below_drew1 | refine below_set ?_ GE256.out) | exact HB.out)⟩

end Go.Proofs.YtjkjkebblkmpkaaDoor.PAll
