/- Printed walks of the functions that the laws reach: each function, what it computes, and that it does. No conditions. -/
import Derived.Test.YtamohmpapdecdaaDoorPAllx0
import Derived.Test.YtamohmpapdecdaaDoorPAllx4
import Derived.Test.YtamohmpapdecdaaDoorPAllx11
namespace Go.Proofs.YtamohmpapdecdaaDoor.PAll
open Go.RowKit Go.Proofs.YtamohmpapdecdaaDoor.XW Go.Proofs.YtamohmpapdecdaaDoor.XLib Go.Proofs.YtamohmpapdecdaaDoorW.PrintWords Go.Proofs.YtamohmpapdecdaaDoorW.PrintLast Go.Proofs.YtamohmpapdecdaaDoorW.PrintMore
attribute [local go_sem] max2_int min2_int max_two min_two max_three min_three max_four min_four   -- for this text's walks alone
set_option linter.unusedVariables false
set_option linter.unusedSimpArgs false

/-! ### factotumref02_Next: function 17 -/
def factotumref02_Next.l0 : Nat → ByteArray → Int → Option (ByteArray × Bool)
  | 0, _, _ => none
  | k + 1, x0, x4 => if x4 ≥ 0 then (if 0 ≤ x4 then (if x4 < (x0.size : Int) then (if (bt x0 x4) = 255 then (factotumref02_Next.l0 k x0 (wrap64 (x4 - 1))) else (if x4 ≤ (x0.size : Int) then ((some (([((bt x0 x4) + 1) % 256] : List Int) : List Int)).bind fun y216 => (if (x0.extract 0 (x4 : Int).toNat).size + (strOfNums y216).size ≤ 9223372036854775807 then (some ((x0.extract 0 (x4 : Int).toNat) ++ (strOfNums y216), true)) else (none))) else (none))) else (none)) else (none)) else (some ((⟨#[]⟩ : ByteArray), false))
def factotumref02_Next.f (k : Nat) (a0 : ByteArray) : Option (ByteArray × Bool) := factotumref02_Next.l0 k a0 (wrap64 ((a0.size : Int) - 1))
theorem factotumref02_Next.mono_l : ∀ k, (∀ y0 y1, LeO (factotumref02_Next.l0 k y0 y1) (factotumref02_Next.l0 (k + 1) y0 y1))
  | 0 => fun _ _ r h => by simp [factotumref02_Next.l0] at h
  | k + 1 => by
    have ih0 := factotumref02_Next.mono_l k
    · intro y0 y1
      unfold factotumref02_Next.l0
      repeat' first
      | (with_reducible exact ih0 _ _)
      | (with_reducible exact LeO.refl _)
      | (with_reducible exact LeO.none _)
      | (with_reducible refine LeO.ite ?_ ?_)
      | (with_reducible refine LeO.bind ?_ (fun _ => ?_))
      | exact ih0 _ _
      | exact LeO.none _
      | refine LeO.ite ?_ ?_
      | refine LeO.bind ?_ (fun _ => ?_)
theorem factotumref02_Next.mono : ∀ a0 k, LeO (factotumref02_Next.f k a0) (factotumref02_Next.f (k + 1) a0) := by
  intro a0 k
  have ih0 := factotumref02_Next.mono_l k
  unfold factotumref02_Next.f
  repeat' first
      | (with_reducible exact ih0 _ _)
      | (with_reducible exact LeO.refl _)
      | (with_reducible exact LeO.none _)
      | (with_reducible refine LeO.ite ?_ ?_)
      | (with_reducible refine LeO.bind ?_ (fun _ => ?_))
      | exact ih0 _ _
      | exact LeO.none _
      | refine LeO.ite ?_ ?_
      | refine LeO.bind ?_ (fun _ => ?_)
def factotumref02_Next.T5 : Bool × List (List Nat × List Nat) := (true, [([], []), ([], []), ([0, 1], [0, 1]), ([], []), ([], []), ([3, 4], [3, 4]), ([5], [5]), ([6], [6]), ([7], [7]), ([2, 8], [2, 8]), ([9, 0, 1, 2, 3, 4, 5, 6, 7, 8, 9], [9]), ([10, 0, 1, 2, 3, 4, 5, 6, 7, 8, 9, 10], [])])
def factotumref02_Next.B5 : List Nat := [0, 0, 3, 0, 0, 24, 56, 120, 248, 511, 1023, 2047]
theorem factotumref02_Next.tab5 : rtab .any (opsOf Tryd.f17 5) = factotumref02_Next.T5 := by kernel_rfl
theorem factotumref02_Next.bits5 : waitsOk factotumref02_Next.T5.2 factotumref02_Next.B5 = true := by kernel_rfl
set_option maxHeartbeats 8000000 in
set_option maxRecDepth 100000 in
theorem factotumref02_Next.calls (k : Nat) (a0 : ByteArray) (r1 : ByteArray) (r2 : Bool) (w : World) (h : factotumref02_Next.f k a0 = some (r1, r2)) :
    Calls Tryd.prog 17 #[.string a0] w fun e w' => e = .returned (.tuple #[.string r1, .bool r2]) ∧ Below w.heap.size w w' := by
  have HB := Aside0.mk (Below.refl w.heap.size w)
  have H : (factotumref02_Next.l0 k a0 (wrap64 ((a0.size : Int) - 1))) = some (r1, r2) := h
  clear h
  have H' := Aside0.mk H
  clear H
  go_enter Tryd.func17, Tryd.ntmps17
  go_wp2
  go_loopg [4] k (fun kq v4 w' => ∃ (x4_1 : Int), v4 = .int .i64 x4_1 ∧ Aside0 (factotumref02_Next.l0 kq a0 x4_1 = some (r1, r2)) ∧ Aside0 (kq ≤ k) ∧ Aside0 (Below w.heap.size w w'))
  case atStart => exact ⟨(wrap64 ((a0.size : Int) - 1)), (by first | (with_reducible rfl) | (simp; done) | (simp [*]; done) | rfl), H', ⟨Nat.le_refl _⟩, ⟨by repeat (first | (with_reducible first | exact HB.out | apply below_alloc | apply pw_below_drewN | apply below_drew1) | exact HB.out)⟩⟩
  case round =>
    clear H'
    try clear c1
    obtain ⟨x4_1, rfl, HA, HK1, HB⟩ := hrel
    cases gk with
    | zero => exact absurd HA.out (by simp [factotumref02_Next.l0])
    | succ k1 =>
      have H := HA.out
      clear HA
      simp only [factotumref02_Next.l0] at H
      by_cases c2 : x4_1 ≥ 0
      · rw [if_pos c2] at H
        have c2b0 : decide (0 ≤ x4_1) = true := decide_eq_true c2
        clear c2
        by_cases c3 : 0 ≤ x4_1
        · rw [if_pos c3] at H
          have c3b0 : decide (0 ≤ x4_1) = true := decide_eq_true c3
          clear c3
          by_cases c4 : x4_1 < (a0.size : Int)
          · rw [if_pos c4] at H
            have c4b0 : decide (x4_1 < (a0.size : Int)) = true := decide_eq_true c4
            clear c4
            by_cases c6 : (bt a0 x4_1) = 255
            · rw [if_pos c6] at H
              have c6b0 : ((bt a0 x4_1) == 255) = true := beq_iff_eq.mpr c6
              have c6b1 : ((bt a0 x4_1) != 255) = false := bne_eq_false_iff_eq.mpr c6
              clear c6
              have H' := Aside0.mk H
              clear H
              have p5 : 0 ≤ (x4_1 : Int) := of_decide_eq_true (by first | (with_reducible assumption) | assumption)
              have q5 : x4_1 < (a0.size : Int) := of_decide_eq_true (by first | (with_reducible assumption) | assumption)
              have hx5 := bt_at a0 x4_1
              replace p5 := eq_true p5
              replace q5 := eq_true q5
              go_wp2
              go_roundg k1
              case measure => have := HK1.out; omega
              case rel => exact ⟨(wrap64 (x4_1 - 1)), (by first | (with_reducible rfl) | (simp; done) | (simp [*]; done) | rfl), H', ⟨by have := HK1.out; omega⟩, ⟨by repeat (first | (with_reducible first | exact HB.out | apply below_alloc | apply pw_below_drewN | apply below_drew1) | exact HB.out)⟩⟩
            · rw [if_neg c6] at H
              have c6b0 : ((bt a0 x4_1) == 255) = false := beq_eq_false_iff_ne.mpr c6
              have c6b1 : ((bt a0 x4_1) != 255) = true := bne_iff_ne.mpr c6
              have c7b0 := eq_true (of_decide_eq_true (by first | (with_reducible assumption) | assumption) : 0 ≤ x4_1)
              by_cases c8 : x4_1 ≤ (a0.size : Int)
              · rw [if_pos c8] at H
                have c8b0 := eq_true c8
                have c8b1 : decide (x4_1 ≤ (a0.size : Int)) = true := decide_eq_true c8
                clear c8
                obtain ⟨y216, hy216⟩ : ∃ y_ : List Int, y_ = (([((bt a0 x4_1) + 1) % 256] : List Int)) := ⟨_, rfl⟩
                replace H : (if (a0.extract 0 (x4_1 : Int).toNat).size + (strOfNums y216).size ≤ 9223372036854775807 then (some ((a0.extract 0 (x4_1 : Int).toNat) ++ (strOfNums y216), true)) else (none)) = some (r1, r2) := by first | (rw [hy216]; with_reducible exact H) | (have H2_ := (Option.bind_some _ _).symm.trans H; rw [hy216]; with_reducible exact H2_) | (have H2_ := (Option.bind_some _ _).symm.trans H; with_reducible exact H2_) | with_reducible exact H | (rw [hy216]; exact H) | exact H
                have Ny216 := Aside0.mk hy216
                clear hy216
                by_cases c10 : (a0.extract 0 (x4_1 : Int).toNat).size + (strOfNums y216).size ≤ 9223372036854775807
                · rw [if_pos c10] at H
                  have c10b0 := eq_true c10
                  have c10b1 : decide ((a0.extract 0 (x4_1 : Int).toNat).size + (strOfNums y216).size ≤ 9223372036854775807) = true := decide_eq_true c10
                  (try (have c10x := c10; simp at c10x))
                  try have c10b2 : (9223372036854775807 < (a0.extract 0 (x4_1 : Int).toNat).size + (strOfNums y216).size) = False := eq_false (Nat.not_lt.2 c10)
                  (try have c10b4 : (9223372036854775807 < (x4_1).toNat + (strOfNums y216).size) = False := eq_false (by have h_ := c10; rw [ByteArray.size_extract] at h_; (try simp only [eq_iff_iff, iff_true, decide_eq_true_eq] at *); omega))
                  simp only [Option.some.injEq, Prod.mk.injEq] at H
                  obtain ⟨rfl, rfl⟩ := H
                  have p5 : 0 ≤ (x4_1 : Int) := of_decide_eq_true (by first | (with_reducible assumption) | assumption)
                  have q5 : x4_1 < (a0.size : Int) := of_decide_eq_true (by first | (with_reducible assumption) | assumption)
                  have hx5 := bt_at a0 x4_1
                  replace p5 := eq_true p5
                  replace q5 := eq_true q5
                  try go_wp2
                  have n0_ := Aside0.mk (below_drew1 HB.out)
                  clear HB
                  have HB := n0_
                  clear n0_
                  have p9 : 0 ≤ (x4_1 : Int) := of_decide_eq_true (by first | (with_reducible assumption) | assumption)
                  have q9 : x4_1 < (a0.size : Int) := of_decide_eq_true (by first | (with_reducible assumption) | assumption)
                  have hx9 := bt_at a0 x4_1
                  replace p9 := eq_true p9
                  replace q9 := eq_true q9
                  refine start_ (n := 12) (S := fun w' => True) (ds := []) #[false, false, false, false, false, false, false, false, false, false, false, false] (by kernel_rfl) rfl rfl trivial (fun hHeld => ?_); refine with_tabW factotumref02_Next.tab5 factotumref02_Next.bits5 (fun HT_ HW_ => ?_)
                  generalize wr.drew = w11 at HB hHeld ⊢
                  refine pure_ (i := 0) (N := some 16) (v := ?_) (a' := ?_) #[true, false, false, false, false, false, false, false, false, false, false, false] rfl rfl (any_of HT_.out (by kernel_rfl)) (fun _ _ _ h => h) (Or.inl ⟨by rfl, ?_⟩) ?_ ?_
                  rotate_left
                  · intro w'
                    go_simp
                    with_reducible rfl
                  rotate_left
                  · simp only [Act.put, List.setIfInBounds_toArray, List.set_cons_zero, List.set_cons_succ, i64_w, i32_w]
                    rfl
                  refine pure_ (i := 1) (N := some 17) (v := ?_) (a' := ?_) #[true, true, false, false, false, false, false, false, false, false, false, false] rfl rfl (any_of HT_.out (by kernel_rfl)) (fun _ _ _ h => h) (Or.inl ⟨by rfl, ?_⟩) ?_ ?_
                  rotate_left
                  · intro w'
                    go_simp
                    with_reducible rfl
                  rotate_left
                  · simp only [Act.put, List.setIfInBounds_toArray, List.set_cons_zero, List.set_cons_succ, i64_w, i32_w]
                    rfl
                  refine pure_ (i := 2) (N := some 18) (v := ?_) (a' := ?_) #[true, true, true, false, false, false, false, false, false, false, false, false] rfl rfl (any_of HT_.out (by kernel_rfl)) (fun _ _ _ h => h) (Or.inl ⟨by rfl, ?_⟩) ?_ ?_
                  rotate_left
                  · intro w'
                    go_simp
                    with_reducible rfl
                  rotate_left
                  · simp only [Act.put, List.setIfInBounds_toArray, List.set_cons_zero, List.set_cons_succ, i64_w, i32_w]
                    rfl
                  refine pure_ (i := 3) (N := some 19) (v := ?_) (a' := ?_) #[true, true, true, true, false, false, false, false, false, false, false, false] rfl rfl (any_of HT_.out (by kernel_rfl)) (fun _ _ _ h => h) (Or.inl ⟨by rfl, ?_⟩) ?_ ?_
                  rotate_left
                  · intro w'
                    go_simp
                    with_reducible rfl
                  rotate_left
                  · simp only [Act.put, List.setIfInBounds_toArray, List.set_cons_zero, List.set_cons_succ, i64_w, i32_w]
                    rfl
                  refine pure_ (i := 4) (N := some 20) (v := ?_) (a' := ?_) #[true, true, true, true, true, false, false, false, false, false, false, false] rfl rfl (any_of HT_.out (by kernel_rfl)) (fun _ _ _ h => h) (Or.inl ⟨by rfl, ?_⟩) ?_ ?_
                  rotate_left
                  · intro w'
                    go_simp
                    with_reducible rfl
                  rotate_left
                  · simp only [Act.put, List.setIfInBounds_toArray, List.set_cons_zero, List.set_cons_succ, i64_w, i32_w]
                    rfl
                  refine take_ (i := 5) (N := some 21) (v := ?_) (a' := ?_) #[true, true, true, true, true, true, false, false, false, false, false, false] rfl rfl (take_ofW HT_.out HW_.out (by kernel_rfl)) (fun _ _ _ h => h) (Or.inl ⟨by rfl, ?_⟩) hHeld ?_ ?_
                  rotate_left
                  · intro w' _
                    go_simp
                    with_reducible rfl
                  rotate_left
                  · simp only [Act.put, List.setIfInBounds_toArray, List.set_cons_zero, List.set_cons_succ, i64_w, i32_w]
                    rfl
                  refine pure_ (i := 6) (N := some 22) (v := ?_) (a' := ?_) #[true, true, true, true, true, true, true, false, false, false, false, false] rfl rfl (any_of HT_.out (by kernel_rfl)) (fun _ _ _ h => h) (Or.inl ⟨by rfl, ?_⟩) ?_ ?_
                  rotate_left
                  · intro w'
                    go_simp
                    with_reducible rfl
                  rotate_left
                  · simp only [Act.put, List.setIfInBounds_toArray, List.set_cons_zero, List.set_cons_succ, i64_w, i32_w]
                    rfl
                  refine one_ (i := 7) (N := some 23) #[true, true, true, true, true, true, true, true, false, false, false, false] rfl rfl (one_of HT_.out (by kernel_rfl)) (by decide) (fun K hK => ?_)
                  refine Kd.R_lit_step (Kd.int .u8) _ 5 ?hg (N := 23) ?hd (xs := ([((bt a0 x4_1) + 1) % 256] : List Int)) (inner := [.int .u8 (((bt a0 x4_1) + 1) % 256)]) (ok := fun _ => True) (okp := fun _ => True) ?hr ?hp (fun _ hk => hk) trivial (Below.refl _ _) (Nat.le_refl _) (by simp) ?_; (case hd => rfl); (case hg => rfl); (case hr => first | (go_simp; done) | (go_simp; rfl)); (case hp => exact (Reps.one (show Kd.M (Kd.int .u8) _ _ _ (((bt a0 x4_1) + 1) % 256) [.int .u8 (((bt a0 x4_1) + 1) % 256)] from rfl) (Reps.none _ _)))
                  intro v217 w12 ho13 hb hg_ hnew_
                  clear hg_ hnew_
                  (first | rw [← Ny216.out] at ho13 | (simp only [Int.reduceToNat] at ho13; rw [← Ny216.out] at ho13))
                  have n0_ := Aside0.mk (Kd.R_lower ho13 (below_size (by repeat (first | (with_reducible first | exact HB.out | apply below_alloc | apply pw_below_drewN | apply below_drew1) | exact HB.out))))
                  have n1_ := Aside0.mk (below_step (by repeat (first | (with_reducible first | exact HB.out | apply below_alloc | apply pw_below_drewN | apply below_drew1) | exact HB.out)) hb)
                  clear HB
                  have HO218 := n0_
                  have HB := n1_
                  clear n0_ n1_
                  clear hb ho13
                  refine hK.out _ _ trivial (fun hHeld => ?_)
                  clear hK K
                  refine norm_ (a' := ?_) ?_ ?_
                  rotate_left
                  · show Act.put _ (some 23) _ = _
                    simp only [Act.put, List.setIfInBounds_toArray, List.set_cons_zero, List.set_cons_succ, i64_w, i32_w]
                    rfl
                  refine one_ (i := 8) (N := some 24) #[true, true, true, true, true, true, true, true, true, false, false, false] rfl rfl (one_of HT_.out (by kernel_rfl)) (by decide) (fun K hK => ?_)
                  have hcv14 := own_string (P := Tryd.prog) Tryd.underlying42 Tryd.underlying5 Tryd.underlying9 (Kd.own_of_R HO218.out)
                  refine value_ (w1 := ?_) (v := ?_) (by rfl) rfl ?_ ?_
                  rotate_left 2
                  · go_simp
                    constructor
                    · rfl
                    · rfl
                  clear hcv14
                  refine hK.out _ _ trivial (fun hHeld => ?_)
                  clear hK K
                  refine norm_ (a' := ?_) ?_ ?_
                  rotate_left
                  · show Act.put _ (some 24) _ = _
                    simp only [Act.put, List.setIfInBounds_toArray, List.set_cons_zero, List.set_cons_succ, i64_w, i32_w]
                    rfl
                  refine pure_ (i := 9) (N := some 25) (v := ?_) (a' := ?_) #[true, true, true, true, true, true, true, true, true, true, false, false] rfl rfl (any_of HT_.out (by kernel_rfl)) (fun _ _ _ h => h) (Or.inl ⟨by rfl, ?_⟩) ?_ ?_
                  rotate_left
                  · intro w'
                    go_simp
                    with_reducible rfl
                  rotate_left
                  · simp only [Act.put, List.setIfInBounds_toArray, List.set_cons_zero, List.set_cons_succ, i64_w, i32_w]
                    rfl
                  refine pure_ (i := 10) (N := some 2) (v := ?_) (a' := ?_) #[true, true, true, true, true, true, true, true, true, true, true, false] rfl rfl (any_of HT_.out (by kernel_rfl)) (fun _ _ _ h => h) (Or.inl ⟨by rfl, ?_⟩) ?_ ?_
                  rotate_left
                  · intro w'
                    go_simp
                    with_reducible rfl
                  rotate_left
                  · simp only [Act.put, List.setIfInBounds_toArray, List.set_cons_zero, List.set_cons_succ, i64_w, i32_w]
                    rfl
                  refine pure_ (i := 11) (N := some 3) (v := ?_) (a' := ?_) #[true, true, true, true, true, true, true, true, true, true, true, true] rfl rfl (any_of HT_.out (by kernel_rfl)) (fun _ _ _ h => h) (Or.inl ⟨by rfl, ?_⟩) ?_ ?_
                  rotate_left
                  · intro w'
                    go_simp
                    with_reducible rfl
                  rotate_left
                  · simp only [Act.put, List.setIfInBounds_toArray, List.set_cons_zero, List.set_cons_succ, i64_w, i32_w]
                    rfl
                  refine done_ (done_of HT_.out (by kernel_rfl)) ?_
                  try go_wp2
                  go_ret2
                  exact ⟨by first | (with_reducible rfl) | (simp only [isEmpty_bne, Bool.not_not] <;> with_reducible rfl) | (simp [errW_none, errW_some] <;> with_reducible rfl) | (simp only [isEmpty_bne, Bool.not_not] <;> rfl) | rfl | (simp [errW_none, errW_some] <;> rfl) | (simp [*, errW_none, errW_some] <;> rfl), by repeat (first | (with_reducible first | exact HB.out | apply below_alloc | apply pw_below_drewN | apply below_drew1) | exact HB.out)⟩
                · rw [if_neg c10] at H
                  exact absurd H (by simp)
              · rw [if_neg c8] at H
                exact absurd H (by simp)
          · rw [if_neg c4] at H
            exact absurd H (by simp)
        · rw [if_neg c3] at H
          exact absurd H (by simp)
      · rw [if_neg c2] at H
        have c2b0 : decide (0 ≤ x4_1) = false := decide_eq_false c2
        clear c2
        simp only [Option.some.injEq, Prod.mk.injEq] at H
        obtain ⟨rfl, rfl⟩ := H
        go_wp2
        go_ret2
        exact ⟨by first | (with_reducible rfl) | (simp only [isEmpty_bne, Bool.not_not] <;> with_reducible rfl) | (simp [errW_none, errW_some] <;> with_reducible rfl) | (simp only [isEmpty_bne, Bool.not_not] <;> rfl) | rfl | (simp [errW_none, errW_some] <;> rfl) | (simp [*, errW_none, errW_some] <;> rfl), by repeat (first | (with_reducible first | exact HB.out | apply below_alloc | apply pw_below_drewN | apply below_drew1) | exact HB.out)⟩

/-! ### factotumlaw02_KeysNext: function 7 -/
def factotumlaw02_KeysNext.f (k : Nat) (a0 : ByteArray) (a1 : ByteArray) : Option (Bool) := (factotumlaw02_lives.f k).bind fun t219 => (if t219 = true then ((keys_Next.f k a0).bind fun bt220 => ((factotumref02_Next.f k a0).bind fun bt222 => (if bt220.1.toList = bt222.1.toList then (if (bt220.2 != bt222.2) = true then (some false) else (if (a0.size : Int) ≤ (a1.size : Int) then (if 0 ≤ (mn (a0.size : Int) (a1.size : Int)) then (if (mn (a0.size : Int) (a1.size : Int)) ≤ (a1.size : Int) then (if bt220.2 = true then (if ((Op.bytesLess a1.toList a0.toList) = true) then (some (((a1.extract 0 ((mn (a0.size : Int) (a1.size : Int)) : Int).toNat).toList == a0.toList) == false)) else (some (((a1.extract 0 ((mn (a0.size : Int) (a1.size : Int)) : Int).toNat).toList == a0.toList) == (Op.bytesLess a1.toList bt220.1.toList)))) else (some true)) else (none)) else (none)) else (if bt220.2 = true then (if ((Op.bytesLess a1.toList a0.toList) = true) then (some (false == false)) else (some (false == (Op.bytesLess a1.toList bt220.1.toList)))) else (some true)))) else (some false)))) else (some false))
theorem factotumlaw02_KeysNext.mono : ∀ a0 a1 k, LeO (factotumlaw02_KeysNext.f k a0 a1) (factotumlaw02_KeysNext.f (k + 1) a0 a1) := by
  intro a0 a1 k
  unfold factotumlaw02_KeysNext.f
  repeat' first
      | (with_reducible exact factotumlaw02_lives.mono _)
      | (with_reducible exact factotumref02_Next.mono _ _)
      | (with_reducible exact keys_Next.mono _ _)
      | (with_reducible exact LeO.refl _)
      | (with_reducible exact LeO.none _)
      | (with_reducible refine LeO.ite ?_ ?_)
      | (with_reducible refine LeO.bind ?_ (fun _ => ?_))
      | exact factotumlaw02_lives.mono _
      | exact factotumref02_Next.mono _ _
      | exact keys_Next.mono _ _
      | exact LeO.none _
      | refine LeO.ite ?_ ?_
      | refine LeO.bind ?_ (fun _ => ?_)
set_option maxHeartbeats 8000000 in
set_option maxRecDepth 100000 in
theorem factotumlaw02_KeysNext.calls (k : Nat) (a0 : ByteArray) (a1 : ByteArray) (r : Bool) (w : World) (h : factotumlaw02_KeysNext.f k a0 a1 = some r) :
    Calls Tryd.prog 7 #[.string a0, .string a1] w fun e w' => e = .returned (.bool r) ∧ Below w.heap.size w w' := by
  have HB := Aside0.mk (Below.refl w.heap.size w)
  have H : ((factotumlaw02_lives.f k).bind fun t219 => (if t219 = true then ((keys_Next.f k a0).bind fun bt220 => ((factotumref02_Next.f k a0).bind fun bt222 => (if bt220.1.toList = bt222.1.toList then (if (bt220.2 != bt222.2) = true then (some false) else (if (a0.size : Int) ≤ (a1.size : Int) then (if 0 ≤ (mn (a0.size : Int) (a1.size : Int)) then (if (mn (a0.size : Int) (a1.size : Int)) ≤ (a1.size : Int) then (if bt220.2 = true then (if ((Op.bytesLess a1.toList a0.toList) = true) then (some (((a1.extract 0 ((mn (a0.size : Int) (a1.size : Int)) : Int).toNat).toList == a0.toList) == false)) else (some (((a1.extract 0 ((mn (a0.size : Int) (a1.size : Int)) : Int).toNat).toList == a0.toList) == (Op.bytesLess a1.toList bt220.1.toList)))) else (some true)) else (none)) else (none)) else (if bt220.2 = true then (if ((Op.bytesLess a1.toList a0.toList) = true) then (some (false == false)) else (some (false == (Op.bytesLess a1.toList bt220.1.toList)))) else (some true)))) else (some false)))) else (some false))) = some r := h
  clear h
  replace H := Option.bind_eq_some_iff.mp H
  obtain ⟨t219, A30, H⟩ := H
  replace H : (if t219 = true then ((keys_Next.f k a0).bind fun bt220 => ((factotumref02_Next.f k a0).bind fun bt222 => (if bt220.1.toList = bt222.1.toList then (if (bt220.2 != bt222.2) = true then (some false) else (if (a0.size : Int) ≤ (a1.size : Int) then (if 0 ≤ (mn (a0.size : Int) (a1.size : Int)) then (if (mn (a0.size : Int) (a1.size : Int)) ≤ (a1.size : Int) then (if bt220.2 = true then (if ((Op.bytesLess a1.toList a0.toList) = true) then (some (((a1.extract 0 ((mn (a0.size : Int) (a1.size : Int)) : Int).toNat).toList == a0.toList) == false)) else (some (((a1.extract 0 ((mn (a0.size : Int) (a1.size : Int)) : Int).toNat).toList == a0.toList) == (Op.bytesLess a1.toList bt220.1.toList)))) else (some true)) else (none)) else (none)) else (if bt220.2 = true then (if ((Op.bytesLess a1.toList a0.toList) = true) then (some (false == false)) else (some (false == (Op.bytesLess a1.toList bt220.1.toList)))) else (some true)))) else (some false)))) else (some false)) = some r := H
  have A3 := Aside0.mk A30
  clear A30
  by_cases c4 : t219 = true
  · subst c4
    have H1 : ((keys_Next.f k a0).bind fun bt220 => ((factotumref02_Next.f k a0).bind fun bt222 => (if bt220.1.toList = bt222.1.toList then (if (bt220.2 != bt222.2) = true then (some false) else (if (a0.size : Int) ≤ (a1.size : Int) then (if 0 ≤ (mn (a0.size : Int) (a1.size : Int)) then (if (mn (a0.size : Int) (a1.size : Int)) ≤ (a1.size : Int) then (if bt220.2 = true then (if ((Op.bytesLess a1.toList a0.toList) = true) then (some (((a1.extract 0 ((mn (a0.size : Int) (a1.size : Int)) : Int).toNat).toList == a0.toList) == false)) else (some (((a1.extract 0 ((mn (a0.size : Int) (a1.size : Int)) : Int).toNat).toList == a0.toList) == (Op.bytesLess a1.toList bt220.1.toList)))) else (some true)) else (none)) else (none)) else (if bt220.2 = true then (if ((Op.bytesLess a1.toList a0.toList) = true) then (some (false == false)) else (some (false == (Op.bytesLess a1.toList bt220.1.toList)))) else (some true)))) else (some false)))) = some r := by rw [if_pos rfl] at H; exact H
    clear H
    have H := H1
    clear H1
    replace H := Option.bind_eq_some_iff.mp H
    obtain ⟨⟨t220, t221⟩, A50, H⟩ := H
    replace H : ((factotumref02_Next.f k a0).bind fun bt222 => (if t220.toList = bt222.1.toList then (if (t221 != bt222.2) = true then (some false) else (if (a0.size : Int) ≤ (a1.size : Int) then (if 0 ≤ (mn (a0.size : Int) (a1.size : Int)) then (if (mn (a0.size : Int) (a1.size : Int)) ≤ (a1.size : Int) then (if t221 = true then (if ((Op.bytesLess a1.toList a0.toList) = true) then (some (((a1.extract 0 ((mn (a0.size : Int) (a1.size : Int)) : Int).toNat).toList == a0.toList) == false)) else (some (((a1.extract 0 ((mn (a0.size : Int) (a1.size : Int)) : Int).toNat).toList == a0.toList) == (Op.bytesLess a1.toList t220.toList)))) else (some true)) else (none)) else (none)) else (if t221 = true then (if ((Op.bytesLess a1.toList a0.toList) = true) then (some (false == false)) else (some (false == (Op.bytesLess a1.toList t220.toList)))) else (some true)))) else (some false))) = some r := H
    have A5 := Aside0.mk A50
    clear A50
    replace H := Option.bind_eq_some_iff.mp H
    obtain ⟨⟨t222, t223⟩, A60, H⟩ := H
    replace H : (if t220.toList = t222.toList then (if (t221 != t223) = true then (some false) else (if (a0.size : Int) ≤ (a1.size : Int) then (if 0 ≤ (mn (a0.size : Int) (a1.size : Int)) then (if (mn (a0.size : Int) (a1.size : Int)) ≤ (a1.size : Int) then (if t221 = true then (if ((Op.bytesLess a1.toList a0.toList) = true) then (some (((a1.extract 0 ((mn (a0.size : Int) (a1.size : Int)) : Int).toNat).toList == a0.toList) == false)) else (some (((a1.extract 0 ((mn (a0.size : Int) (a1.size : Int)) : Int).toNat).toList == a0.toList) == (Op.bytesLess a1.toList t220.toList)))) else (some true)) else (none)) else (none)) else (if t221 = true then (if ((Op.bytesLess a1.toList a0.toList) = true) then (some (false == false)) else (some (false == (Op.bytesLess a1.toList t220.toList)))) else (some true)))) else (some false)) = some r := H
    have A6 := Aside0.mk A60
    clear A60
    by_cases c7 : t220.toList = t222.toList
    · rw [if_pos c7] at H
      have c7b0 : (t220.toList == t222.toList) = true := beq_iff_eq.mpr c7
      have c7b1 : (t220.toList != t222.toList) = false := bne_eq_false_iff_eq.mpr c7
      clear c7
      by_cases c8 : (t221 != t223) = true
      · rw [if_pos c8] at H
        have c8b0 : (t221 != t223) = true := c8
        (try (have c8b1 : decide (t221 = t223) = false := by simpa using c8))
        (try (have c8b2 : (t221 == t223) = false := by simpa using c8))
        (try (have c8b3 : ¬ (t221 = t223) := by simpa using c8))
        clear c8
        obtain rfl := Option.some.inj H
        go_enter Tryd.func7, Tryd.ntmps7
        go_wp2_with (first | ((with_reducible refine gate_callee (f := 10) rfl ?_); refine goesL_ (some 10) rfl rfl Tryd.func10 (by kernel_rfl) rfl #[] rfl (by (try simp only [List.map_toArray, List.map_cons, List.map_nil]); first | done | rfl | (simp only [List.length_drop, List.length_take]; rfl)) ?_; (with_reducible refine (factotumlaw02_lives.calls k  true _ A3.out).mono ?_); rintro e w9 ⟨rfl, hb⟩; refine ⟨_, rfl, ?_⟩; have n0_ := Aside0.mk (below_step (by repeat (first | (with_reducible first | exact HB.out | apply below_alloc | apply pw_below_drewN | apply below_drew1) | exact HB.out)) hb); clear HB; have HB := n0_; clear n0_; (try clear hb); (try clear hb2); (try clear hk); (try clear hi)) | ((with_reducible refine gate_callee (f := 16) rfl ?_); refine goesL_ (some 14) rfl rfl Tryd.func16 (by kernel_rfl) rfl #[.string a0] rfl (by (try simp only [List.map_toArray, List.map_cons, List.map_nil]); first | done | rfl | (simp only [List.length_drop, List.length_take]; rfl)) ?_; (with_reducible refine (keys_Next.calls k a0 t220 t221 _ A5.out).mono ?_); rintro e w10 ⟨rfl, hb⟩; refine ⟨_, rfl, ?_⟩; have n0_ := Aside0.mk (below_step (by repeat (first | (with_reducible first | exact HB.out | apply below_alloc | apply pw_below_drewN | apply below_drew1) | exact HB.out)) hb); clear HB; have HB := n0_; clear n0_; (try clear hb); (try clear hb2); (try clear hk); (try clear hi)) | ((with_reducible refine gate_callee (f := 17) rfl ?_); refine goesL_ (some 19) rfl rfl Tryd.func17 (by kernel_rfl) rfl #[.string a0] rfl (by (try simp only [List.map_toArray, List.map_cons, List.map_nil]); first | done | rfl | (simp only [List.length_drop, List.length_take]; rfl)) ?_; (with_reducible refine (factotumref02_Next.calls k a0 t222 t223 _ A6.out).mono ?_); rintro e w11 ⟨rfl, hb⟩; refine ⟨_, rfl, ?_⟩; have n0_ := Aside0.mk (below_step (by repeat (first | (with_reducible first | exact HB.out | apply below_alloc | apply pw_below_drewN | apply below_drew1) | exact HB.out)) hb); clear HB; have HB := n0_; clear n0_; (try clear hb); (try clear hb2); (try clear hk); (try clear hi)))
        go_ret
        exact ⟨by first | (with_reducible rfl) | (simp only [isEmpty_bne, Bool.not_not] <;> with_reducible rfl) | (simp [errW_none, errW_some] <;> with_reducible rfl) | (simp only [isEmpty_bne, Bool.not_not] <;> rfl) | rfl | (simp [errW_none, errW_some] <;> rfl) | (simp [*, errW_none, errW_some] <;> rfl), by repeat (first | (with_reducible first | exact HB.out | apply below_alloc | apply pw_below_drewN | apply below_drew1) | exact HB.out)⟩
      · rw [if_neg c8] at H
        have c8b0 : (t221 != t223) = false := by simpa using c8
        (try (have c8b1 : decide (t221 = t223) = true := by simpa using c8))
        (try (have c8b2 : (t221 == t223) = true := by simpa using c8))
        clear c8
        by_cases c12 : (a0.size : Int) ≤ (a1.size : Int)
        · rw [if_pos c12] at H
          have c12b0 : decide ((a0.size : Int) ≤ (a1.size : Int)) = true := decide_eq_true c12
          have c12b1 : decide (a0.size ≤ a1.size) = true := decide_eq_true (Int.ofNat_le.mp c12)
          clear c12
          obtain ⟨ji13, hji13⟩ : ∃ j_ : Int, (mn (a0.size : Int) (a1.size : Int)) = j_ := ⟨_, rfl⟩
          replace H : (if 0 ≤ (ji13) then (if (ji13) ≤ (a1.size : Int) then (if t221 = true then (if ((Op.bytesLess a1.toList a0.toList) = true) then (some (((a1.extract 0 ((ji13) : Int).toNat).toList == a0.toList) == false)) else (some (((a1.extract 0 ((ji13) : Int).toNat).toList == a0.toList) == (Op.bytesLess a1.toList t220.toList)))) else (some true)) else (none)) else (none)) = some r := by first | (rw [hji13] at H; exact H) | (simp only [hji13] at H ⊢; exact H)
          (try rw [hji13] at A3)
          (try rw [hji13] at A5)
          (try rw [hji13] at A6)
          (try (have hji13l : 0 ≤ ji13 := by (rw [← hji13]; unfold mn; (repeat' split) <;> omega)))
          (try (have hji13m : 0 ≤ ji13 := by omega))
          have hji13_ : (if (a1.size : Int) < (a0.size : Int) then (a1.size : Int) else (a0.size : Int)) = ji13 := hji13
          (try have hji13n : (if a1.size < a0.size then (a1.size : Int) else (a0.size : Int)) = ji13 := by rw [← hji13_]; simp only [Int.ofNat_lt])
          by_cases c14 : 0 ≤ (ji13)
          · rw [if_pos c14] at H
            have c14b0 := eq_true c14
            have c14b1 : decide (0 ≤ (ji13)) = true := decide_eq_true c14
            clear c14
            by_cases c15 : (ji13) ≤ (a1.size : Int)
            · rw [if_pos c15] at H
              have c15b0 := eq_true c15
              have c15b1 : decide ((ji13) ≤ (a1.size : Int)) = true := decide_eq_true c15
              clear c15
              by_cases c16 : t221 = true
              · subst c16
                have H1 : (if ((Op.bytesLess a1.toList a0.toList) = true) then (some (((a1.extract 0 ((ji13) : Int).toNat).toList == a0.toList) == false)) else (some (((a1.extract 0 ((ji13) : Int).toNat).toList == a0.toList) == (Op.bytesLess a1.toList t220.toList)))) = some r := by rw [if_pos rfl] at H; exact H
                clear H
                have H := H1
                clear H1
                by_cases c17 : ((Op.bytesLess a1.toList a0.toList) = true)
                · rw [if_pos c17] at H
                  have c17b0 : (Op.bytesLess a1.toList a0.toList) = true := c17
                  clear c17
                  obtain rfl := Option.some.inj H
                  go_enter Tryd.func7, Tryd.ntmps7
                  go_wp2_with (first | ((with_reducible refine gate_callee (f := 10) rfl ?_); refine goesL_ (some 10) rfl rfl Tryd.func10 (by kernel_rfl) rfl #[] rfl (by (try simp only [List.map_toArray, List.map_cons, List.map_nil]); first | done | rfl | (simp only [List.length_drop, List.length_take]; rfl)) ?_; (with_reducible refine (factotumlaw02_lives.calls k  true _ A3.out).mono ?_); rintro e w18 ⟨rfl, hb⟩; refine ⟨_, rfl, ?_⟩; have n0_ := Aside0.mk (below_step (by repeat (first | (with_reducible first | exact HB.out | apply below_alloc | apply pw_below_drewN | apply below_drew1) | exact HB.out)) hb); clear HB; have HB := n0_; clear n0_; (try clear hb); (try clear hb2); (try clear hk); (try clear hi)) | ((with_reducible refine gate_callee (f := 16) rfl ?_); refine goesL_ (some 14) rfl rfl Tryd.func16 (by kernel_rfl) rfl #[.string a0] rfl (by (try simp only [List.map_toArray, List.map_cons, List.map_nil]); first | done | rfl | (simp only [List.length_drop, List.length_take]; rfl)) ?_; (with_reducible refine (keys_Next.calls k a0 t220 true _ A5.out).mono ?_); rintro e w19 ⟨rfl, hb⟩; refine ⟨_, rfl, ?_⟩; have n0_ := Aside0.mk (below_step (by repeat (first | (with_reducible first | exact HB.out | apply below_alloc | apply pw_below_drewN | apply below_drew1) | exact HB.out)) hb); clear HB; have HB := n0_; clear n0_; (try clear hb); (try clear hb2); (try clear hk); (try clear hi)) | ((with_reducible refine gate_callee (f := 17) rfl ?_); refine goesL_ (some 19) rfl rfl Tryd.func17 (by kernel_rfl) rfl #[.string a0] rfl (by (try simp only [List.map_toArray, List.map_cons, List.map_nil]); first | done | rfl | (simp only [List.length_drop, List.length_take]; rfl)) ?_; (with_reducible refine (factotumref02_Next.calls k a0 t222 t223 _ A6.out).mono ?_); rintro e w20 ⟨rfl, hb⟩; refine ⟨_, rfl, ?_⟩; have n0_ := Aside0.mk (below_step (by repeat (first | (with_reducible first | exact HB.out | apply below_alloc | apply pw_below_drewN | apply below_drew1) | exact HB.out)) hb); clear HB; have HB := n0_; clear n0_; (try clear hb); (try clear hb2); (try clear hk); (try clear hi)))
                  go_ret
                  exact ⟨by first | (with_reducible rfl) | (simp only [isEmpty_bne, Bool.not_not] <;> with_reducible rfl) | (simp [errW_none, errW_some] <;> with_reducible rfl) | (simp only [isEmpty_bne, Bool.not_not] <;> rfl) | rfl | (simp [errW_none, errW_some] <;> rfl) | (simp only [← hji13]; first | rfl | (simp [errW_none, errW_some] <;> rfl)) | (simp [*, errW_none, errW_some] <;> rfl), by repeat (first | (with_reducible first | exact HB.out | apply below_alloc | apply pw_below_drewN | apply below_drew1) | exact HB.out)⟩
                · rw [if_neg c17] at H
                  have c17b0 : (Op.bytesLess a1.toList a0.toList) = false := by simpa using c17
                  clear c17
                  obtain rfl := Option.some.inj H
                  go_enter Tryd.func7, Tryd.ntmps7
                  go_wp2_with (first | ((with_reducible refine gate_callee (f := 10) rfl ?_); refine goesL_ (some 10) rfl rfl Tryd.func10 (by kernel_rfl) rfl #[] rfl (by (try simp only [List.map_toArray, List.map_cons, List.map_nil]); first | done | rfl | (simp only [List.length_drop, List.length_take]; rfl)) ?_; (with_reducible refine (factotumlaw02_lives.calls k  true _ A3.out).mono ?_); rintro e w21 ⟨rfl, hb⟩; refine ⟨_, rfl, ?_⟩; have n0_ := Aside0.mk (below_step (by repeat (first | (with_reducible first | exact HB.out | apply below_alloc | apply pw_below_drewN | apply below_drew1) | exact HB.out)) hb); clear HB; have HB := n0_; clear n0_; (try clear hb); (try clear hb2); (try clear hk); (try clear hi)) | ((with_reducible refine gate_callee (f := 16) rfl ?_); refine goesL_ (some 14) rfl rfl Tryd.func16 (by kernel_rfl) rfl #[.string a0] rfl (by (try simp only [List.map_toArray, List.map_cons, List.map_nil]); first | done | rfl | (simp only [List.length_drop, List.length_take]; rfl)) ?_; (with_reducible refine (keys_Next.calls k a0 t220 true _ A5.out).mono ?_); rintro e w22 ⟨rfl, hb⟩; refine ⟨_, rfl, ?_⟩; have n0_ := Aside0.mk (below_step (by repeat (first | (with_reducible first | exact HB.out | apply below_alloc | apply pw_below_drewN | apply below_drew1) | exact HB.out)) hb); clear HB; have HB := n0_; clear n0_; (try clear hb); (try clear hb2); (try clear hk); (try clear hi)) | ((with_reducible refine gate_callee (f := 17) rfl ?_); refine goesL_ (some 19) rfl rfl Tryd.func17 (by kernel_rfl) rfl #[.string a0] rfl (by (try simp only [List.map_toArray, List.map_cons, List.map_nil]); first | done | rfl | (simp only [List.length_drop, List.length_take]; rfl)) ?_; (with_reducible refine (factotumref02_Next.calls k a0 t222 t223 _ A6.out).mono ?_); rintro e w23 ⟨rfl, hb⟩; refine ⟨_, rfl, ?_⟩; have n0_ := Aside0.mk (below_step (by repeat (first | (with_reducible first | exact HB.out | apply below_alloc | apply pw_below_drewN | apply below_drew1) | exact HB.out)) hb); clear HB; have HB := n0_; clear n0_; (try clear hb); (try clear hb2); (try clear hk); (try clear hi)))
                  go_ret
                  exact ⟨by first | (with_reducible rfl) | (simp only [isEmpty_bne, Bool.not_not] <;> with_reducible rfl) | (simp [errW_none, errW_some] <;> with_reducible rfl) | (simp only [isEmpty_bne, Bool.not_not] <;> rfl) | rfl | (simp [errW_none, errW_some] <;> rfl) | (simp only [← hji13]; first | rfl | (simp [errW_none, errW_some] <;> rfl)) | (simp [*, errW_none, errW_some] <;> rfl), by repeat (first | (with_reducible first | exact HB.out | apply below_alloc | apply pw_below_drewN | apply below_drew1) | exact HB.out)⟩
              · replace c16 := Bool.eq_false_iff.mpr c16
                subst c16
                have H1 : (some true) = some r := by rw [if_neg (show ¬ (false = true) by decide)] at H; exact H
                clear H
                have H := H1
                clear H1
                obtain rfl := Option.some.inj H
                go_enter Tryd.func7, Tryd.ntmps7
                go_wp2_with (first | ((with_reducible refine gate_callee (f := 10) rfl ?_); refine goesL_ (some 10) rfl rfl Tryd.func10 (by kernel_rfl) rfl #[] rfl (by (try simp only [List.map_toArray, List.map_cons, List.map_nil]); first | done | rfl | (simp only [List.length_drop, List.length_take]; rfl)) ?_; (with_reducible refine (factotumlaw02_lives.calls k  true _ A3.out).mono ?_); rintro e w24 ⟨rfl, hb⟩; refine ⟨_, rfl, ?_⟩; have n0_ := Aside0.mk (below_step (by repeat (first | (with_reducible first | exact HB.out | apply below_alloc | apply pw_below_drewN | apply below_drew1) | exact HB.out)) hb); clear HB; have HB := n0_; clear n0_; (try clear hb); (try clear hb2); (try clear hk); (try clear hi)) | ((with_reducible refine gate_callee (f := 16) rfl ?_); refine goesL_ (some 14) rfl rfl Tryd.func16 (by kernel_rfl) rfl #[.string a0] rfl (by (try simp only [List.map_toArray, List.map_cons, List.map_nil]); first | done | rfl | (simp only [List.length_drop, List.length_take]; rfl)) ?_; (with_reducible refine (keys_Next.calls k a0 t220 false _ A5.out).mono ?_); rintro e w25 ⟨rfl, hb⟩; refine ⟨_, rfl, ?_⟩; have n0_ := Aside0.mk (below_step (by repeat (first | (with_reducible first | exact HB.out | apply below_alloc | apply pw_below_drewN | apply below_drew1) | exact HB.out)) hb); clear HB; have HB := n0_; clear n0_; (try clear hb); (try clear hb2); (try clear hk); (try clear hi)) | ((with_reducible refine gate_callee (f := 17) rfl ?_); refine goesL_ (some 19) rfl rfl Tryd.func17 (by kernel_rfl) rfl #[.string a0] rfl (by (try simp only [List.map_toArray, List.map_cons, List.map_nil]); first | done | rfl | (simp only [List.length_drop, List.length_take]; rfl)) ?_; (with_reducible refine (factotumref02_Next.calls k a0 t222 t223 _ A6.out).mono ?_); rintro e w26 ⟨rfl, hb⟩; refine ⟨_, rfl, ?_⟩; have n0_ := Aside0.mk (below_step (by repeat (first | (with_reducible first | exact HB.out | apply below_alloc | apply pw_below_drewN | apply below_drew1) | exact HB.out)) hb); clear HB; have HB := n0_; clear n0_; (try clear hb); (try clear hb2); (try clear hk); (try clear hi)))
                go_ret
                exact ⟨by first | (with_reducible rfl) | (simp only [isEmpty_bne, Bool.not_not] <;> with_reducible rfl) | (simp [errW_none, errW_some] <;> with_reducible rfl) | (simp only [isEmpty_bne, Bool.not_not] <;> rfl) | rfl | (simp [errW_none, errW_some] <;> rfl) | (simp only [← hji13]; first | rfl | (simp [errW_none, errW_some] <;> rfl)) | (simp [*, errW_none, errW_some] <;> rfl), by repeat (first | (with_reducible first | exact HB.out | apply below_alloc | apply pw_below_drewN | apply below_drew1) | exact HB.out)⟩
            · rw [if_neg c15] at H
              exact absurd H (by simp)
          · rw [if_neg c14] at H
            exact absurd H (by simp)
        · rw [if_neg c12] at H
          have c12b0 : decide ((a0.size : Int) ≤ (a1.size : Int)) = false := decide_eq_false c12
          have c12b1 : decide (a0.size ≤ a1.size) = false := decide_eq_false (fun h => c12 (Int.ofNat_le.mpr h))
          clear c12
          by_cases c27 : t221 = true
          · subst c27
            have H1 : (if ((Op.bytesLess a1.toList a0.toList) = true) then (some (false == false)) else (some (false == (Op.bytesLess a1.toList t220.toList)))) = some r := by rw [if_pos rfl] at H; exact H
            clear H
            have H := H1
            clear H1
            by_cases c28 : ((Op.bytesLess a1.toList a0.toList) = true)
            · rw [if_pos c28] at H
              have c28b0 : (Op.bytesLess a1.toList a0.toList) = true := c28
              clear c28
              obtain rfl := Option.some.inj H
              go_enter Tryd.func7, Tryd.ntmps7
              go_wp2_with (first | ((with_reducible refine gate_callee (f := 10) rfl ?_); refine goesL_ (some 10) rfl rfl Tryd.func10 (by kernel_rfl) rfl #[] rfl (by (try simp only [List.map_toArray, List.map_cons, List.map_nil]); first | done | rfl | (simp only [List.length_drop, List.length_take]; rfl)) ?_; (with_reducible refine (factotumlaw02_lives.calls k  true _ A3.out).mono ?_); rintro e w29 ⟨rfl, hb⟩; refine ⟨_, rfl, ?_⟩; have n0_ := Aside0.mk (below_step (by repeat (first | (with_reducible first | exact HB.out | apply below_alloc | apply pw_below_drewN | apply below_drew1) | exact HB.out)) hb); clear HB; have HB := n0_; clear n0_; (try clear hb); (try clear hb2); (try clear hk); (try clear hi)) | ((with_reducible refine gate_callee (f := 16) rfl ?_); refine goesL_ (some 14) rfl rfl Tryd.func16 (by kernel_rfl) rfl #[.string a0] rfl (by (try simp only [List.map_toArray, List.map_cons, List.map_nil]); first | done | rfl | (simp only [List.length_drop, List.length_take]; rfl)) ?_; (with_reducible refine (keys_Next.calls k a0 t220 true _ A5.out).mono ?_); rintro e w30 ⟨rfl, hb⟩; refine ⟨_, rfl, ?_⟩; have n0_ := Aside0.mk (below_step (by repeat (first | (with_reducible first | exact HB.out | apply below_alloc | apply pw_below_drewN | apply below_drew1) | exact HB.out)) hb); clear HB; have HB := n0_; clear n0_; (try clear hb); (try clear hb2); (try clear hk); (try clear hi)) | ((with_reducible refine gate_callee (f := 17) rfl ?_); refine goesL_ (some 19) rfl rfl Tryd.func17 (by kernel_rfl) rfl #[.string a0] rfl (by (try simp only [List.map_toArray, List.map_cons, List.map_nil]); first | done | rfl | (simp only [List.length_drop, List.length_take]; rfl)) ?_; (with_reducible refine (factotumref02_Next.calls k a0 t222 t223 _ A6.out).mono ?_); rintro e w31 ⟨rfl, hb⟩; refine ⟨_, rfl, ?_⟩; have n0_ := Aside0.mk (below_step (by repeat (first | (with_reducible first | exact HB.out | apply below_alloc | apply pw_below_drewN | apply below_drew1) | exact HB.out)) hb); clear HB; have HB := n0_; clear n0_; (try clear hb); (try clear hb2); (try clear hk); (try clear hi)))
              go_ret
              exact ⟨by first | (with_reducible rfl) | (simp only [isEmpty_bne, Bool.not_not] <;> with_reducible rfl) | (simp [errW_none, errW_some] <;> with_reducible rfl) | (simp only [isEmpty_bne, Bool.not_not] <;> rfl) | rfl | (simp [errW_none, errW_some] <;> rfl) | (simp [*, errW_none, errW_some] <;> rfl), by repeat (first | (with_reducible first | exact HB.out | apply below_alloc | apply pw_below_drewN | apply below_drew1) | exact HB.out)⟩
            · rw [if_neg c28] at H
              have c28b0 : (Op.bytesLess a1.toList a0.toList) = false := by simpa using c28
              clear c28
              obtain rfl := Option.some.inj H
              go_enter Tryd.func7, Tryd.ntmps7
              go_wp2_with (first | ((with_reducible refine gate_callee (f := 10) rfl ?_); refine goesL_ (some 10) rfl rfl Tryd.func10 (by kernel_rfl) rfl #[] rfl (by (try simp only [List.map_toArray, List.map_cons, List.map_nil]); first | done | rfl | (simp only [List.length_drop, List.length_take]; rfl)) ?_; (with_reducible refine (factotumlaw02_lives.calls k  true _ A3.out).mono ?_); rintro e w32 ⟨rfl, hb⟩; refine ⟨_, rfl, ?_⟩; have n0_ := Aside0.mk (below_step (by repeat (first | (with_reducible first | exact HB.out | apply below_alloc | apply pw_below_drewN | apply below_drew1) | exact HB.out)) hb); clear HB; have HB := n0_; clear n0_; (try clear hb); (try clear hb2); (try clear hk); (try clear hi)) | ((with_reducible refine gate_callee (f := 16) rfl ?_); refine goesL_ (some 14) rfl rfl Tryd.func16 (by kernel_rfl) rfl #[.string a0] rfl (by (try simp only [List.map_toArray, List.map_cons, List.map_nil]); first | done | rfl | (simp only [List.length_drop, List.length_take]; rfl)) ?_; (with_reducible refine (keys_Next.calls k a0 t220 true _ A5.out).mono ?_); rintro e w33 ⟨rfl, hb⟩; refine ⟨_, rfl, ?_⟩; have n0_ := Aside0.mk (below_step (by repeat (first | (with_reducible first | exact HB.out | apply below_alloc | apply pw_below_drewN | apply below_drew1) | exact HB.out)) hb); clear HB; have HB := n0_; clear n0_; (try clear hb); (try clear hb2); (try clear hk); (try clear hi)) | ((with_reducible refine gate_callee (f := 17) rfl ?_); refine goesL_ (some 19) rfl rfl Tryd.func17 (by kernel_rfl) rfl #[.string a0] rfl (by (try simp only [List.map_toArray, List.map_cons, List.map_nil]); first | done | rfl | (simp only [List.length_drop, List.length_take]; rfl)) ?_; (with_reducible refine (factotumref02_Next.calls k a0 t222 t223 _ A6.out).mono ?_); rintro e w34 ⟨rfl, hb⟩; refine ⟨_, rfl, ?_⟩; have n0_ := Aside0.mk (below_step (by repeat (first | (with_reducible first | exact HB.out | apply below_alloc | apply pw_below_drewN | apply below_drew1) | exact HB.out)) hb); clear HB; have HB := n0_; clear n0_; (try clear hb); (try clear hb2); (try clear hk); (try clear hi)))
              go_ret
              exact ⟨by first | (with_reducible rfl) | (simp only [isEmpty_bne, Bool.not_not] <;> with_reducible rfl) | (simp [errW_none, errW_some] <;> with_reducible rfl) | (simp only [isEmpty_bne, Bool.not_not] <;> rfl) | rfl | (simp [errW_none, errW_some] <;> rfl) | (simp [*, errW_none, errW_some] <;> rfl), by repeat (first | (with_reducible first | exact HB.out | apply below_alloc | apply pw_below_drewN | apply below_drew1) | exact HB.out)⟩
          · replace c27 := Bool.eq_false_iff.mpr c27
            subst c27
            have H1 : (some true) = some r := by rw [if_neg (show ¬ (false = true) by decide)] at H; exact H
            clear H
            have H := H1
            clear H1
            obtain rfl := Option.some.inj H
            go_enter Tryd.func7, Tryd.ntmps7
            go_wp2_with (first | ((with_reducible refine gate_callee (f := 10) rfl ?_); refine goesL_ (some 10) rfl rfl Tryd.func10 (by kernel_rfl) rfl #[] rfl (by (try simp only [List.map_toArray, List.map_cons, List.map_nil]); first | done | rfl | (simp only [List.length_drop, List.length_take]; rfl)) ?_; (with_reducible refine (factotumlaw02_lives.calls k  true _ A3.out).mono ?_); rintro e w35 ⟨rfl, hb⟩; refine ⟨_, rfl, ?_⟩; have n0_ := Aside0.mk (below_step (by repeat (first | (with_reducible first | exact HB.out | apply below_alloc | apply pw_below_drewN | apply below_drew1) | exact HB.out)) hb); clear HB; have HB := n0_; clear n0_; (try clear hb); (try clear hb2); (try clear hk); (try clear hi)) | ((with_reducible refine gate_callee (f := 16) rfl ?_); refine goesL_ (some 14) rfl rfl Tryd.func16 (by kernel_rfl) rfl #[.string a0] rfl (by (try simp only [List.map_toArray, List.map_cons, List.map_nil]); first | done | rfl | (simp only [List.length_drop, List.length_take]; rfl)) ?_; (with_reducible refine (keys_Next.calls k a0 t220 false _ A5.out).mono ?_); rintro e w36 ⟨rfl, hb⟩; refine ⟨_, rfl, ?_⟩; have n0_ := Aside0.mk (below_step (by repeat (first | (with_reducible first | exact HB.out | apply below_alloc | apply pw_below_drewN | apply below_drew1) | exact HB.out)) hb); clear HB; have HB := n0_; clear n0_; (try clear hb); (try clear hb2); (try clear hk); (try clear hi)) | ((with_reducible refine gate_callee (f := 17) rfl ?_); refine goesL_ (some 19) rfl rfl Tryd.func17 (by kernel_rfl) rfl #[.string a0] rfl (by (try simp only [List.map_toArray, List.map_cons, List.map_nil]); first | done | rfl | (simp only [List.length_drop, List.length_take]; rfl)) ?_; (with_reducible refine (factotumref02_Next.calls k a0 t222 t223 _ A6.out).mono ?_); rintro e w37 ⟨rfl, hb⟩; refine ⟨_, rfl, ?_⟩; have n0_ := Aside0.mk (below_step (by repeat (first | (with_reducible first | exact HB.out | apply below_alloc | apply pw_below_drewN | apply below_drew1) | exact HB.out)) hb); clear HB; have HB := n0_; clear n0_; (try clear hb); (try clear hb2); (try clear hk); (try clear hi)))
            go_ret
            exact ⟨by first | (with_reducible rfl) | (simp only [isEmpty_bne, Bool.not_not] <;> with_reducible rfl) | (simp [errW_none, errW_some] <;> with_reducible rfl) | (simp only [isEmpty_bne, Bool.not_not] <;> rfl) | rfl | (simp [errW_none, errW_some] <;> rfl) | (simp [*, errW_none, errW_some] <;> rfl), by repeat (first | (with_reducible first | exact HB.out | apply below_alloc | apply pw_below_drewN | apply below_drew1) | exact HB.out)⟩
    · rw [if_neg c7] at H
      have c7b0 : (t220.toList == t222.toList) = false := beq_eq_false_iff_ne.mpr c7
      have c7b1 : (t220.toList != t222.toList) = true := bne_iff_ne.mpr c7
      obtain rfl := Option.some.inj H
      go_enter Tryd.func7, Tryd.ntmps7
      go_wp2_with (first | ((with_reducible refine gate_callee (f := 10) rfl ?_); refine goesL_ (some 10) rfl rfl Tryd.func10 (by kernel_rfl) rfl #[] rfl (by (try simp only [List.map_toArray, List.map_cons, List.map_nil]); first | done | rfl | (simp only [List.length_drop, List.length_take]; rfl)) ?_; (with_reducible refine (factotumlaw02_lives.calls k  true _ A3.out).mono ?_); rintro e w38 ⟨rfl, hb⟩; refine ⟨_, rfl, ?_⟩; have n0_ := Aside0.mk (below_step (by repeat (first | (with_reducible first | exact HB.out | apply below_alloc | apply pw_below_drewN | apply below_drew1) | exact HB.out)) hb); clear HB; have HB := n0_; clear n0_; (try clear hb); (try clear hb2); (try clear hk); (try clear hi)) | ((with_reducible refine gate_callee (f := 16) rfl ?_); refine goesL_ (some 14) rfl rfl Tryd.func16 (by kernel_rfl) rfl #[.string a0] rfl (by (try simp only [List.map_toArray, List.map_cons, List.map_nil]); first | done | rfl | (simp only [List.length_drop, List.length_take]; rfl)) ?_; (with_reducible refine (keys_Next.calls k a0 t220 t221 _ A5.out).mono ?_); rintro e w39 ⟨rfl, hb⟩; refine ⟨_, rfl, ?_⟩; have n0_ := Aside0.mk (below_step (by repeat (first | (with_reducible first | exact HB.out | apply below_alloc | apply pw_below_drewN | apply below_drew1) | exact HB.out)) hb); clear HB; have HB := n0_; clear n0_; (try clear hb); (try clear hb2); (try clear hk); (try clear hi)) | ((with_reducible refine gate_callee (f := 17) rfl ?_); refine goesL_ (some 19) rfl rfl Tryd.func17 (by kernel_rfl) rfl #[.string a0] rfl (by (try simp only [List.map_toArray, List.map_cons, List.map_nil]); first | done | rfl | (simp only [List.length_drop, List.length_take]; rfl)) ?_; (with_reducible refine (factotumref02_Next.calls k a0 t222 t223 _ A6.out).mono ?_); rintro e w40 ⟨rfl, hb⟩; refine ⟨_, rfl, ?_⟩; have n0_ := Aside0.mk (below_step (by repeat (first | (with_reducible first | exact HB.out | apply below_alloc | apply pw_below_drewN | apply below_drew1) | exact HB.out)) hb); clear HB; have HB := n0_; clear n0_; (try clear hb); (try clear hb2); (try clear hk); (try clear hi)))
      go_ret
      exact ⟨by first | (with_reducible rfl) | (simp only [isEmpty_bne, Bool.not_not] <;> with_reducible rfl) | (simp [errW_none, errW_some] <;> with_reducible rfl) | (simp only [isEmpty_bne, Bool.not_not] <;> rfl) | rfl | (simp [errW_none, errW_some] <;> rfl) | (simp [*, errW_none, errW_some] <;> rfl), by repeat (first | (with_reducible first | exact HB.out | apply below_alloc | apply pw_below_drewN | apply below_drew1) | exact HB.out)⟩
  · replace c4 := Bool.eq_false_iff.mpr c4
    subst c4
    have H1 : (some false) = some r := by rw [if_neg (show ¬ (false = true) by decide)] at H; exact H
    clear H
    have H := H1
    clear H1
    obtain rfl := Option.some.inj H
    go_enter Tryd.func7, Tryd.ntmps7
    go_wp2_with (first | ((with_reducible refine gate_callee (f := 10) rfl ?_); refine goesL_ (some 10) rfl rfl Tryd.func10 (by kernel_rfl) rfl #[] rfl (by (try simp only [List.map_toArray, List.map_cons, List.map_nil]); first | done | rfl | (simp only [List.length_drop, List.length_take]; rfl)) ?_; (with_reducible refine (factotumlaw02_lives.calls k  false _ A3.out).mono ?_); rintro e w41 ⟨rfl, hb⟩; refine ⟨_, rfl, ?_⟩; have n0_ := Aside0.mk (below_step (by repeat (first | (with_reducible first | exact HB.out | apply below_alloc | apply pw_below_drewN | apply below_drew1) | exact HB.out)) hb); clear HB; have HB := n0_; clear n0_; (try clear hb); (try clear hb2); (try clear hk); (try clear hi)))
    go_ret
    exact ⟨by first | (with_reducible rfl) | (simp only [isEmpty_bne, Bool.not_not] <;> with_reducible rfl) | (simp [errW_none, errW_some] <;> with_reducible rfl) | (simp only [isEmpty_bne, Bool.not_not] <;> rfl) | rfl | (simp [errW_none, errW_some] <;> rfl) | (simp [*, errW_none, errW_some] <;> rfl), by repeat (first | (with_reducible first | exact HB.out | apply below_alloc | apply pw_below_drewN | apply below_drew1) | exact HB.out)⟩

/-- THE ONE PURE STATEMENT of factotumlaw02_KeysNext: yours. -/
def factotumlaw02_KeysNext.Pure : Prop := ∀ (a0 : ByteArray) (a1 : ByteArray), a0.size ≤ 140737488351232 → a1.size ≤ 140737488351232 → ∃ k, factotumlaw02_KeysNext.f k a0 a1 = some true
theorem factotumlaw02_KeysNext.walk (P : factotumlaw02_KeysNext.Pure) (a0 : ByteArray) (a1 : ByteArray) (w : World) (w0 : a0.size ≤ 140737488351232) (w1 : a1.size ≤ 140737488351232) :
    Calls Tryd.prog 7 #[.string a0, .string a1] w fun e w' => e = .returned (.bool true) ∧ Below w.heap.size w w' := by
  obtain ⟨k, h⟩ := P a0 a1 w0 w1
  refine (factotumlaw02_KeysNext.calls k a0 a1 true w h).mono ?_
  rintro e w' ⟨rfl, hd⟩
  exact ⟨rfl, hd⟩

/-! ### api_Kind_60: function 60 -/
def api_Kind_60.f (a0 : Int) : Option (Bool) := some (a0 != a0)
set_option maxHeartbeats 8000000 in
set_option maxRecDepth 100000 in
theorem api_Kind_60.calls (a0 : Int) (r : Bool) (w : World) (h : api_Kind_60.f a0 = some r) :
    Calls Tryd.prog 60 #[.int .i64 a0] w fun e w' => e = .returned (.bool r) ∧ Drawn0 w w' := by
  have H : (some (a0 != a0)) = some r := h
  clear h
  obtain rfl := Option.some.inj H
  go_enter Tryd.func60, Tryd.ntmps60
  go_wp2
  go_ret
  exact ⟨by first | (with_reducible rfl) | (simp; done) | (simp [*]; done) | rfl, by repeat (first | exact Drawn0.refl _ | apply Drawn0.step)⟩

end Go.Proofs.YtamohmpapdecdaaDoor.PAll
