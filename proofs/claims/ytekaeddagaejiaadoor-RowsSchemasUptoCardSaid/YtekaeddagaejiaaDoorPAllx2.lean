/- Printed walks of the functions that the laws reach: each function, what it computes, and that it does. No conditions. -/
import Derived.Test.YtekaeddagaejiaaDoorPAllx0
import Derived.Test.YtekaeddagaejiaaDoorPAllx1
namespace Go.Proofs.YtekaeddagaejiaaDoor.PAll
open Go.RowKit Go.Proofs.YtekaeddagaejiaaDoor.XW Go.Proofs.YtekaeddagaejiaaDoor.XLib Go.Proofs.YtekaeddagaejiaaDoorW.PrintWords Go.Proofs.YtekaeddagaejiaaDoorW.PrintLast Go.Proofs.YtekaeddagaejiaaDoorW.PrintMore
attribute [local go_sem] max2_int min2_int max_two min_two max_three min_three max_four min_four   -- for this text's walks alone
set_option linter.unusedVariables false
set_option linter.unusedSimpArgs false

/-! ### pack_Num: function 37 -/
def pack_Num.l0 : Nat → List Int → Int → Int → Option (List Int)
  | 0, _, _, _ => none
  | k + 1, x0, x1, x7 => if x7 ≥ 0 then (if 0 ≤ (wrap64 (8 * x7)) then (if x0.length < 140737488355328 then (pack_Num.l0 k (x0 ++ [(shr .u64 x1 (wrap64 (8 * x7))) % 256]) x1 (wrap64 (x7 - 1))) else (none)) else (none)) else (some x0)
def pack_Num.f (k : Nat) (l0 : List Int) (a1 : Int) (a2 : Int) : Option (List Int) := (pack_wide.f a2).bind fun t113 => (pack_Num.l0 k l0 a1 (wrap64 (t113 - 1)))
theorem pack_Num.mono_l : ∀ k, (∀ y0 y1 y2, LeO (pack_Num.l0 k y0 y1 y2) (pack_Num.l0 (k + 1) y0 y1 y2))
  | 0 => fun _ _ _ r h => by simp [pack_Num.l0] at h
  | k + 1 => by
    have ih0 := pack_Num.mono_l k
    · intro y0 y1 y2
      unfold pack_Num.l0
      repeat' first
      | (with_reducible exact ih0 _ _ _)
      | (with_reducible exact LeO.refl _)
      | (with_reducible exact LeO.none _)
      | (with_reducible refine LeO.ite ?_ ?_)
      | (with_reducible refine LeO.bind ?_ (fun _ => ?_))
      | exact ih0 _ _ _
      | exact LeO.none _
      | refine LeO.ite ?_ ?_
      | refine LeO.bind ?_ (fun _ => ?_)
theorem pack_Num.mono : ∀ a0 a1 a2 k, LeO (pack_Num.f k a0 a1 a2) (pack_Num.f (k + 1) a0 a1 a2) := by
  intro a0 a1 a2 k
  have ih0 := pack_Num.mono_l k
  unfold pack_Num.f
  repeat' first
      | (with_reducible exact ih0 _ _ _)
      | (with_reducible exact LeO.refl _)
      | (with_reducible exact LeO.none _)
      | (with_reducible refine LeO.ite ?_ ?_)
      | (with_reducible refine LeO.bind ?_ (fun _ => ?_))
      | exact ih0 _ _ _
      | exact LeO.none _
      | refine LeO.ite ?_ ?_
      | refine LeO.bind ?_ (fun _ => ?_)
set_option maxHeartbeats 8000000 in
set_option maxRecDepth 100000 in
theorem pack_Num.calls (k : Nat) (P0_ : Nat → Prop) (u9000_ : Value) (l0 : List Int) (a1 : Int) (a2 : Int) (r : List Int) (w0 w : World) (hB : Below w0.heap.size w0 w) (ho0 : Kd.R (Kd.int .u8) 5 w w0.heap.size P0_ u9000_ l0) (h : pack_Num.f k l0 a1 a2 = some r) :
    Calls Tryd.prog 37 #[u9000_, .int .u64 a1, .int .i64 a2] w fun e w' => ∃ v0_ : Value, e = .returned (v0_) ∧ Kd.R (Kd.int .u8) 5 w' w0.heap.size (fun k_ => (P0_ k_ ∨ w.heap.size ≤ k_)) v0_ r ∧ Below w0.heap.size w0 w' ∧ Kept w w' (fun k_ => P0_ k_) := by
  have HO0 := Aside0.mk (show Kd.R (Kd.int .u8) 5 w w0.heap.size (fun k_ => (P0_ k_ ∨ w.heap.size ≤ k_)) u9000_ l0 from Kd.R_mono ho0 (fun k_ hk => (.inl hk)))
  have HK := Aside0.mk (Kept.refl w (fun k_ => P0_ k_))
  have HW0 := Aside0.mk hB.size
  have HB := Aside0.mk hB
  clear hB
  have H : ((pack_wide.f a2).bind fun t113 => (pack_Num.l0 k l0 a1 (wrap64 (t113 - 1)))) = some r := h
  clear h
  replace H := Option.bind_eq_some_iff.mp H
  obtain ⟨t113, A40, H⟩ := H
  replace H : (pack_Num.l0 k l0 a1 (wrap64 (t113 - 1))) = some r := H
  have A4 := Aside0.mk A40
  clear A40
  have H' := Aside0.mk H
  clear H
  go_enter Tryd.func37, Tryd.ntmps37
  go_wp2_with (first | ((with_reducible refine gate_callee (f := 58) rfl ?_); refine goesL_ (some 9) rfl rfl Tryd.func58 (by kernel_rfl) rfl #[.int .i64 a2] rfl (by (try simp only [List.map_toArray, List.map_cons, List.map_nil]); first | done | rfl | (simp only [List.length_drop, List.length_take]; rfl) | (simp (disch := omega) only [u64_in]; rfl)) ?_; (with_reducible refine (pack_wide.calls a2 t113 _ A4.out).mono ?_); rintro e w5 ⟨rfl, hb⟩; refine ⟨_, rfl, ?_⟩; have n0_ := Aside0.mk (Kd.R_below (by (with_reducible repeat (first | apply Kd.R_alloc | apply Kd.R_drewN | apply Kd.R_drew)); exact HO0.out) hb); have n1_ := Aside0.mk (Kept.below (S := (fun k_ => P0_ k_)) (by repeat (first | (with_reducible first | exact HK.out | apply Kept.alloc | apply Kept.drewN | apply Kept.drew) | exact HK.out)) hb); have n2_ := Aside0.mk (below_step (by repeat (first | (with_reducible first | exact HB.out | apply below_alloc | apply pw_below_drewN | apply below_drew1) | exact HB.out)) hb); clear HO0; clear HK; clear HB; have HO0 := n0_; have HK := n1_; have HB := n2_; clear n0_ n1_ n2_; (try clear hb); (try clear hb2); (try clear hk); (try clear hi)))
  go_loopg [0, 7] k (fun kq v0 v7 w' => ∃ (x0_1 : List Int) (x7_1 : Int), v7 = .int .i64 x7_1 ∧ Aside0 (pack_Num.l0 kq x0_1 a1 x7_1 = some r) ∧ Aside0 (kq ≤ k) ∧ Aside0 (Kd.R (Kd.int .u8) 5 w' w0.heap.size (fun k_ => (P0_ k_ ∨ w.heap.size ≤ k_)) v0 x0_1) ∧ Aside0 (Kept w w' (fun k_ => P0_ k_)) ∧ Aside0 (Below w0.heap.size w0 w'))
  case atStart => exact ⟨(l0), (wrap64 (t113 - 1)), (by first | (with_reducible rfl) | (simp; done) | (simp [*]; done) | rfl), H', ⟨Nat.le_refl _⟩, ⟨by (with_reducible repeat (first | apply Kd.R_alloc | apply Kd.R_drewN | apply Kd.R_drew)); exact HO0.out⟩, ⟨by repeat (first | (with_reducible first | exact HK.out | apply Kept.alloc | apply Kept.drewN | apply Kept.drew) | exact HK.out)⟩, ⟨by repeat (first | (with_reducible first | exact HB.out | apply below_alloc | apply pw_below_drewN | apply below_drew1) | exact HB.out)⟩⟩
  case round =>
    clear H'
    try clear p2
    try clear c3
    try clear c5
    obtain ⟨x0_1, x7_1, rfl, HA, HK1, HO_0, HK, HB⟩ := hrel
    cases gk with
    | zero => exact absurd HA.out (by simp [pack_Num.l0])
    | succ k1 =>
      have H := HA.out
      clear HA
      simp only [pack_Num.l0] at H
      by_cases c6 : x7_1 ≥ 0
      · rw [if_pos c6] at H
        have c6b0 : decide (0 ≤ x7_1) = true := decide_eq_true c6
        clear c6
        obtain ⟨ji7, hji7⟩ : ∃ j_ : Int, (wrap64 (8 * x7_1)) = j_ := ⟨_, rfl⟩
        replace H : (if 0 ≤ (ji7) then (if x0_1.length < 140737488355328 then (pack_Num.l0 k1 (x0_1 ++ [(shr .u64 a1 (ji7)) % 256]) a1 (wrap64 (x7_1 - 1))) else (none)) else (none)) = some r := by first | (rw [hji7] at H; exact H) | (simp only [hji7] at H ⊢; exact H)
        have hji7w : (IntKind.i64.wrap (8 * x7_1)) = ji7 := (i64_w _).trans hji7
        by_cases c8 : 0 ≤ (ji7)
        · rw [if_pos c8] at H
          have c8b0 := eq_true c8
          have c8b1 : decide (0 ≤ (ji7)) = true := decide_eq_true c8
          clear c8
          obtain ⟨ji9, hji9⟩ : ∃ j_ : Int, (shr .u64 a1 (ji7)) = j_ := ⟨_, rfl⟩
          replace H : (if x0_1.length < 140737488355328 then (pack_Num.l0 k1 (x0_1 ++ [(ji9) % 256]) a1 (wrap64 (x7_1 - 1))) else (none)) = some r := by first | (rw [hji9] at H; exact H) | (simp only [hji9] at H ⊢; exact H)
          have hji9_ : (a1 / 2 ^ min (ji7).toNat 64) = ji9 := hji9
          have hji9z : (ji7) ≤ 64 → (a1 / 2 ^ (ji7).toNat) = ji9 := shr_small hji9
          by_cases c10 : x0_1.length < 140737488355328
          · rw [if_pos c10] at H
            have LMc10 := Aside0.mk c10
            clear c10
            obtain ⟨y114, hy114⟩ : ∃ y_ : List Int, y_ = (x0_1 ++ [(ji9) % 256]) := ⟨_, rfl⟩
            replace H : (pack_Num.l0 k1 y114 a1 (wrap64 (x7_1 - 1))) = some r := by first | (rw [hy114]; with_reducible exact H) | (have H2_ := (Option.bind_some _ _).symm.trans H; rw [hy114]; with_reducible exact H2_) | (have H2_ := (Option.bind_some _ _).symm.trans H; with_reducible exact H2_) | with_reducible exact H | (rw [hy114]; exact H) | exact H
            have Ny114 := Aside0.mk hy114
            clear hy114
            have H' := Aside0.mk H
            clear H
            go_wp2_with (first | ((with_reducible refine gate_builtin (b := .append) (xs := #[.tmp 15, .tmp 21]) rfl ?_); at_builtin; refine Kd.R_append (Kd.int .u8) (w0 := w0) w0.heap.size rfl (.tmp 15) (.tmp 21) 58 5 (.int .u8 0) 1 rfl Tryd.underlying58 info5 rfl (by decide) (by omega) u0 x0_1 ((ji9) % 256) [.int .u8 ((ji9) % 256)] (fun k_ => (P0_ k_ ∨ w.heap.size ≤ k_)) (fun _ => False) rfl rfl ?aP (fun _ hk => hk.elim) ?aF ?aO ?aB ?aS ?aL ?_; (case aP => exact rfl); (case aB => exact (by repeat (first | (with_reducible first | exact HB.out | apply below_alloc | apply pw_below_drewN | apply below_drew1) | exact HB.out))); (case aF => exact (fun k_ hk => (.inr (Nat.le_trans (by first | exact HK.out.1 | exact (show Kept w _ (fun k_ => P0_ k_) from by repeat (first | (with_reducible first | exact HK.out | apply Kept.alloc | apply Kept.drewN | apply Kept.drew) | exact HK.out)).1) hk)))); (case aO => exact (by (with_reducible repeat (first | apply Kd.R_alloc | apply Kd.R_drewN | apply Kd.R_drew)); exact HO_0.out)); (case aS => exact (below_size (by repeat (first | (with_reducible first | exact HB.out | apply below_alloc | apply pw_below_drewN | apply below_drew1) | exact HB.out)))); (case aL => have := LMc10.out; omega); intro v115 w11 ho hb hg hat; rw [← Ny114.out] at ho; have n0_ := Aside0.mk (hb); have n1_ := Aside0.mk (Kept.of_grown (S := (fun k_ => P0_ k_)) hg (by repeat (first | (with_reducible first | exact HK.out | apply Kept.alloc | apply Kept.drewN | apply Kept.drew) | exact HK.out)) (fun k_ e_ => (HO_0.out.1 k_ e_))); have n2_ := Aside0.mk (ho); clear HB; clear HK; clear HO_0; have HB := n0_; have HK := n1_; have HO116 := n2_; clear n0_ n1_ n2_; clear ho hb hg hat))
            go_roundg k1
            case measure => have := HK1.out; omega
            case rel => exact ⟨(y114), (wrap64 (x7_1 - 1)), (by first | (with_reducible rfl) | (simp; done) | (simp [*]; done) | rfl), H', ⟨by have := HK1.out; omega⟩, ⟨by (with_reducible repeat (first | apply Kd.R_alloc | apply Kd.R_drewN | apply Kd.R_drew)); exact HO116.out⟩, ⟨by repeat (first | (with_reducible first | exact HK.out | apply Kept.alloc | apply Kept.drewN | apply Kept.drew) | exact HK.out)⟩, ⟨by repeat (first | (with_reducible first | exact HB.out | apply below_alloc | apply pw_below_drewN | apply below_drew1) | exact HB.out)⟩⟩
          · rw [if_neg c10] at H
            exact absurd H (by simp)
        · rw [if_neg c8] at H
          exact absurd H (by simp)
      · rw [if_neg c6] at H
        have c6b0 : decide (0 ≤ x7_1) = false := decide_eq_false c6
        clear c6
        obtain rfl := Option.some.inj H
        go_wp2
        go_ret
        exact ⟨_, by first | (with_reducible rfl) | (simp only [isEmpty_bne, Bool.not_not] <;> with_reducible rfl) | (simp [errW_none, errW_some] <;> with_reducible rfl) | (simp only [isEmpty_bne, Bool.not_not] <;> rfl) | rfl | (simp [errW_none, errW_some] <;> rfl) | (simp [*, errW_none, errW_some] <;> rfl), by (with_reducible repeat (first | apply Kd.R_alloc | apply Kd.R_drewN | apply Kd.R_drew)); exact HO_0.out, by repeat (first | (with_reducible first | exact HB.out | apply below_alloc | apply pw_below_drewN | apply below_drew1) | exact HB.out), by repeat (first | (with_reducible first | exact HK.out | apply Kept.alloc | apply Kept.drewN | apply Kept.drew) | exact HK.out)⟩

/-! ### strings_ReplaceAll: function 54 -/
def strings_ReplaceAll.f (a0 : ByteArray) (a1 : ByteArray) (a2 : ByteArray) : Option (ByteArray) := if a1 = ⟨#[0]⟩ ∧ a2 = ⟨#[0, 255]⟩ ∧ a0.size + Lib.countByte a0.data.toList 0 * 2 ≤ 140737488355328 then some ⟨(esc a0.data.toList).toArray⟩ else none
theorem strings_ReplaceAll.calls (a0 : ByteArray) (a1 : ByteArray) (a2 : ByteArray) (r : ByteArray) (w : World) (h : strings_ReplaceAll.f a0 a1 a2 = some r) :
    Calls Tryd.prog 54 #[.string a0, .string a1, .string a2] w fun e w' => e = .returned (.string r) ∧ Below w.heap.size w w' := by
  unfold strings_ReplaceAll.f at h
  split at h
  · rename_i hc
    obtain ⟨rfl, rfl, hc⟩ := hc
    obtain rfl := Option.some.inj h
    exact replaceAll Tryd.lays155 Tryd.Builder_Extra_155 a0 w hc
  · cases h

/-! ### keys_odd: function 53 -/
def keys_odd.f (a0_0 : Int) (a0_1 : Int) (a0_2 : ByteArray) : Option (Bool) := if a0_0 = 1 then (some (a0_2.toList != ([] : List UInt8))) else (if a0_0 = 2 then (some (a0_1 != 0)) else (some true))
set_option maxHeartbeats 8000000 in
set_option maxRecDepth 100000 in
theorem keys_odd.calls (a0_0 : Int) (a0_1 : Int) (a0_2 : ByteArray) (r : Bool) (w : World) (h : keys_odd.f a0_0 a0_1 a0_2 = some r) :
    Calls Tryd.prog 53 #[.agg #[.int .i64 a0_0, .int .i64 a0_1, .string a0_2]] w fun e w' => e = .returned (.bool r) ∧ Below w.heap.size w w' := by
  have hu29 := Tryd.underlying29
  have HB := Aside0.mk (Below.refl w.heap.size w)
  have H : (if a0_0 = 1 then (some (a0_2.toList != ([] : List UInt8))) else (if a0_0 = 2 then (some (a0_1 != 0)) else (some true))) = some r := h
  clear h
  by_cases c2 : a0_0 = 1
  · rw [if_pos c2] at H
    have c2b0 : (a0_0 == 1) = true := beq_iff_eq.mpr c2
    have c2b1 : (a0_0 != 1) = false := bne_eq_false_iff_eq.mpr c2
    clear c2
    obtain rfl := Option.some.inj H
    go_enter Tryd.func53, Tryd.ntmps53
    go_wp2_with (first | ((with_reducible refine gate_dst (N := 1) rfl ?_); refine box_event ?hg (N := 1) ?hd (cs := #[.int .i64 a0_0, .int .i64 a0_1, .string a0_2]) (t := 29) ?hr ?_; (case hd => rfl); (case hg => rfl); (case hr => first | (go_simp; done) | (go_simp; rfl)); intro gb117 hg w3 hbox hb; have n0_ := Aside0.mk (below_step (by repeat (first | (with_reducible first | exact HB.out | apply below_alloc | apply pw_below_drewN | apply below_drew1) | exact HB.out)) hb); have n1_ := Aside0.mk (hbox); have n2_ := Aside0.mk ((by rw [hg]; exact (below_size (by repeat (first | (with_reducible first | exact HB.out | apply below_alloc | apply pw_below_drewN | apply below_drew1) | exact HB.out))) : w.heap.size ≤ gb117)); have n3_ := Aside0.mk ((by rw [hg]; exact (below_size (by repeat (first | (with_reducible first | exact HB.out | apply below_alloc | apply pw_below_drewN | apply below_drew1) | exact HB.out))) : w.heap.size ≤ gb117)); clear HB; have HB := n0_; have BK117 := n1_; have GW117 := n2_; have GE117 := n3_; clear n0_ n1_ n2_ n3_; clear hb hbox hg; have hcz4_0 : w3.cell? ⟨gb117, 0, none⟩ = some (.int .i64 a0_0) := (blk_cell BK117.out 0).trans rfl; have hcz4_1 : w3.cell? ⟨gb117, 1, none⟩ = some (.int .i64 a0_1) := (blk_cell BK117.out 1).trans rfl; have hcz4_2 : w3.cell? ⟨gb117, 2, none⟩ = some (.string a0_2) := (blk_cell BK117.out 2).trans rfl; have hfz4_0 := blk_frozen BK117.out 0; have hfz4_1 := blk_frozen BK117.out 1; have hfz4_2 := blk_frozen BK117.out 2))
    go_ret
    exact ⟨by first | (with_reducible rfl) | (simp only [isEmpty_bne, Bool.not_not] <;> with_reducible rfl) | (simp [errW_none, errW_some] <;> with_reducible rfl) | (simp only [isEmpty_bne, Bool.not_not] <;> rfl) | rfl | (simp [errW_none, errW_some] <;> rfl) | (simp [*, errW_none, errW_some] <;> rfl), by repeat (first | (with_reducible first | exact HB.out | apply below_alloc | apply pw_below_drewN | apply below_drew1 | refine below_set ?_ GE117.out) | exact HB.out)⟩
  · rw [if_neg c2] at H
    have c2b0 : (a0_0 == 1) = false := beq_eq_false_iff_ne.mpr c2
    have c2b1 : (a0_0 != 1) = true := bne_iff_ne.mpr c2
    by_cases c5 : a0_0 = 2
    · rw [if_pos c5] at H
      have c5b0 : (a0_0 == 2) = true := beq_iff_eq.mpr c5
      have c5b1 : (a0_0 != 2) = false := bne_eq_false_iff_eq.mpr c5
      clear c5
      obtain rfl := Option.some.inj H
      go_enter Tryd.func53, Tryd.ntmps53
      go_wp2_with (first | ((with_reducible refine gate_dst (N := 1) rfl ?_); refine box_event ?hg (N := 1) ?hd (cs := #[.int .i64 a0_0, .int .i64 a0_1, .string a0_2]) (t := 29) ?hr ?_; (case hd => rfl); (case hg => rfl); (case hr => first | (go_simp; done) | (go_simp; rfl)); intro gb117 hg w6 hbox hb; have n0_ := Aside0.mk (below_step (by repeat (first | (with_reducible first | exact HB.out | apply below_alloc | apply pw_below_drewN | apply below_drew1) | exact HB.out)) hb); have n1_ := Aside0.mk (hbox); have n2_ := Aside0.mk ((by rw [hg]; exact (below_size (by repeat (first | (with_reducible first | exact HB.out | apply below_alloc | apply pw_below_drewN | apply below_drew1) | exact HB.out))) : w.heap.size ≤ gb117)); have n3_ := Aside0.mk ((by rw [hg]; exact (below_size (by repeat (first | (with_reducible first | exact HB.out | apply below_alloc | apply pw_below_drewN | apply below_drew1) | exact HB.out))) : w.heap.size ≤ gb117)); clear HB; have HB := n0_; have BK117 := n1_; have GW117 := n2_; have GE117 := n3_; clear n0_ n1_ n2_ n3_; clear hb hbox hg; have hcz7_0 : w6.cell? ⟨gb117, 0, none⟩ = some (.int .i64 a0_0) := (blk_cell BK117.out 0).trans rfl; have hcz7_1 : w6.cell? ⟨gb117, 1, none⟩ = some (.int .i64 a0_1) := (blk_cell BK117.out 1).trans rfl; have hcz7_2 : w6.cell? ⟨gb117, 2, none⟩ = some (.string a0_2) := (blk_cell BK117.out 2).trans rfl; have hfz7_0 := blk_frozen BK117.out 0; have hfz7_1 := blk_frozen BK117.out 1; have hfz7_2 := blk_frozen BK117.out 2))
      go_ret
      exact ⟨by first | (with_reducible rfl) | (simp only [isEmpty_bne, Bool.not_not] <;> with_reducible rfl) | (simp [errW_none, errW_some] <;> with_reducible rfl) | (simp only [isEmpty_bne, Bool.not_not] <;> rfl) | rfl | (simp [errW_none, errW_some] <;> rfl) | (simp [*, errW_none, errW_some] <;> rfl), by repeat (first | (with_reducible first | exact HB.out | apply below_alloc | apply pw_below_drewN | apply below_drew1 | refine below_set ?_ GE117.out) | exact HB.out)⟩
    · rw [if_neg c5] at H
      have c5b0 : (a0_0 == 2) = false := beq_eq_false_iff_ne.mpr c5
      have c5b1 : (a0_0 != 2) = true := bne_iff_ne.mpr c5
      obtain rfl := Option.some.inj H
      go_enter Tryd.func53, Tryd.ntmps53
      go_wp2_with (first | ((with_reducible refine gate_dst (N := 1) rfl ?_); refine box_event ?hg (N := 1) ?hd (cs := #[.int .i64 a0_0, .int .i64 a0_1, .string a0_2]) (t := 29) ?hr ?_; (case hd => rfl); (case hg => rfl); (case hr => first | (go_simp; done) | (go_simp; rfl)); intro gb117 hg w8 hbox hb; have n0_ := Aside0.mk (below_step (by repeat (first | (with_reducible first | exact HB.out | apply below_alloc | apply pw_below_drewN | apply below_drew1) | exact HB.out)) hb); have n1_ := Aside0.mk (hbox); have n2_ := Aside0.mk ((by rw [hg]; exact (below_size (by repeat (first | (with_reducible first | exact HB.out | apply below_alloc | apply pw_below_drewN | apply below_drew1) | exact HB.out))) : w.heap.size ≤ gb117)); have n3_ := Aside0.mk ((by rw [hg]; exact (below_size (by repeat (first | (with_reducible first | exact HB.out | apply below_alloc | apply pw_below_drewN | apply below_drew1) | exact HB.out))) : w.heap.size ≤ gb117)); clear HB; have HB := n0_; have BK117 := n1_; have GW117 := n2_; have GE117 := n3_; clear n0_ n1_ n2_ n3_; clear hb hbox hg; have hcz9_0 : w8.cell? ⟨gb117, 0, none⟩ = some (.int .i64 a0_0) := (blk_cell BK117.out 0).trans rfl; have hcz9_1 : w8.cell? ⟨gb117, 1, none⟩ = some (.int .i64 a0_1) := (blk_cell BK117.out 1).trans rfl; have hcz9_2 : w8.cell? ⟨gb117, 2, none⟩ = some (.string a0_2) := (blk_cell BK117.out 2).trans rfl; have hfz9_0 := blk_frozen BK117.out 0; have hfz9_1 := blk_frozen BK117.out 1; have hfz9_2 := blk_frozen BK117.out 2))
      go_ret
      exact ⟨by first | (with_reducible rfl) | (simp only [isEmpty_bne, Bool.not_not] <;> with_reducible rfl) | (simp [errW_none, errW_some] <;> with_reducible rfl) | (simp only [isEmpty_bne, Bool.not_not] <;> rfl) | rfl | (simp [errW_none, errW_some] <;> rfl) | (simp [*, errW_none, errW_some] <;> rfl), by repeat (first | (with_reducible first | exact HB.out | apply below_alloc | apply pw_below_drewN | apply below_drew1 | refine below_set ?_ GE117.out) | exact HB.out)⟩

/-! ### slices_IndexFunc_at_keys_odd: function 70 -/
def slices_IndexFunc_at_keys_odd.l0 : Nat → List (S29) → Int → Int → Option (Int)
  | 0, _, _, _ => none
  | k + 1, x0, x7, x8 => if x8 < x7 then (if 0 ≤ x8 then (if x8 < (x0.length : Int) then ((keys_odd.f ((rd_T29 x0 x8).f0) ((rd_T29 x0 x8).f1) ((rd_T29 x0 x8).f2)).bind fun t119 => (if t119 = true then (some x8) else (slices_IndexFunc_at_keys_odd.l0 k x0 x7 (wrap64 (x8 + 1))))) else (none)) else (none)) else (some (-1))
def slices_IndexFunc_at_keys_odd.f (k : Nat) (l0 : List (S29))  : Option (Int) := slices_IndexFunc_at_keys_odd.l0 k l0 (l0.length : Int) 0
theorem slices_IndexFunc_at_keys_odd.mono_l : ∀ k, (∀ y0 y1 y2, LeO (slices_IndexFunc_at_keys_odd.l0 k y0 y1 y2) (slices_IndexFunc_at_keys_odd.l0 (k + 1) y0 y1 y2))
  | 0 => fun _ _ _ r h => by simp [slices_IndexFunc_at_keys_odd.l0] at h
  | k + 1 => by
    have ih0 := slices_IndexFunc_at_keys_odd.mono_l k
    · intro y0 y1 y2
      unfold slices_IndexFunc_at_keys_odd.l0
      repeat' first
      | (with_reducible exact ih0 _ _ _)
      | (with_reducible exact LeO.refl _)
      | (with_reducible exact LeO.none _)
      | (with_reducible refine LeO.ite ?_ ?_)
      | (with_reducible refine LeO.bind ?_ (fun _ => ?_))
      | exact ih0 _ _ _
      | exact LeO.none _
      | refine LeO.ite ?_ ?_
      | refine LeO.bind ?_ (fun _ => ?_)
theorem slices_IndexFunc_at_keys_odd.mono : ∀ a0 k, LeO (slices_IndexFunc_at_keys_odd.f k a0) (slices_IndexFunc_at_keys_odd.f (k + 1) a0) := by
  intro a0 k
  have ih0 := slices_IndexFunc_at_keys_odd.mono_l k
  unfold slices_IndexFunc_at_keys_odd.f
  repeat' first
      | (with_reducible exact ih0 _ _ _)
      | (with_reducible exact LeO.refl _)
      | (with_reducible exact LeO.none _)
      | (with_reducible refine LeO.ite ?_ ?_)
      | (with_reducible refine LeO.bind ?_ (fun _ => ?_))
      | exact ih0 _ _ _
      | exact LeO.none _
      | refine LeO.ite ?_ ?_
      | refine LeO.bind ?_ (fun _ => ?_)
set_option maxHeartbeats 8000000 in
set_option maxRecDepth 100000 in
theorem slices_IndexFunc_at_keys_odd.calls (k : Nat) (A0 : Option Addr) (c0 : Nat) (l0 : List (S29))  (r : Int) (w : World) (hr0 : Kd.C k29 w A0 l0.length l0) (hc0 : l0.length ≤ c0) (h : slices_IndexFunc_at_keys_odd.f k l0 = some r) :
    Calls Tryd.prog 70 #[.slice A0 l0.length c0, .func (.func 53) #[] #[]] w fun e w' => e = .returned (.int .i64 r) ∧ Below w.heap.size w w' := by
  have hu29 := Tryd.underlying29
  have HR0 := Aside0.mk hr0
  have HC0 := Aside0.mk hc0
  clear hr0 hc0
  have HB := Aside0.mk (Below.refl w.heap.size w)
  have H : (slices_IndexFunc_at_keys_odd.l0 k l0 (l0.length : Int) 0) = some r := h
  clear h
  have H' := Aside0.mk H
  clear H
  go_enter Tryd.func70, Tryd.ntmps70
  go_wp2
  go_loopg [8] k (fun kq v8 w' => ∃ (x8_1 : Int), v8 = .int .i64 x8_1 ∧ Aside0 (slices_IndexFunc_at_keys_odd.l0 kq l0 (l0.length : Int) x8_1 = some r) ∧ Aside0 (kq ≤ k) ∧ Aside0 (Below w.heap.size w w'))
  case atStart => exact ⟨(0), (by first | (with_reducible rfl) | (simp; done) | (simp [*]; done) | rfl), H', ⟨Nat.le_refl _⟩, ⟨by repeat (first | (with_reducible first | exact HB.out | apply below_alloc | apply pw_below_drewN | apply below_drew1) | exact HB.out)⟩⟩
  case round =>
    clear H'
    try clear p2
    obtain ⟨x8_1, rfl, HA, HK1, HB⟩ := hrel
    cases gk with
    | zero => exact absurd HA.out (by simp [slices_IndexFunc_at_keys_odd.l0])
    | succ k1 =>
      have H := HA.out
      clear HA
      simp only [slices_IndexFunc_at_keys_odd.l0] at H
      by_cases c3 : x8_1 < (l0.length : Int)
      · rw [if_pos c3] at H
        have c3b0 : decide (x8_1 < (l0.length : Int)) = true := decide_eq_true c3
        clear c3
        by_cases c4 : 0 ≤ x8_1
        · rw [if_pos c4] at H
          have c4b0 : decide (0 ≤ x8_1) = true := decide_eq_true c4
          clear c4
          by_cases c5 : x8_1 < (l0.length : Int)
          · rw [if_pos c5] at H
            have c5b0 : decide (x8_1 < (l0.length : Int)) = true := decide_eq_true c5
            clear c5
            replace H := Option.bind_eq_some_iff.mp H
            obtain ⟨t119, A60, H⟩ := H
            replace H : (if t119 = true then (some x8_1) else (slices_IndexFunc_at_keys_odd.l0 k1 l0 (l0.length : Int) (wrap64 (x8_1 + 1)))) = some r := H
            have A6 := Aside0.mk A60
            clear A60
            by_cases c7 : t119 = true
            · subst c7
              have H1 : (some x8_1) = some r := by rw [if_pos rfl] at H; exact H
              clear H
              have H := H1
              clear H1
              obtain rfl := Option.some.inj H
              have p118 : 0 ≤ (x8_1 : Int) := of_decide_eq_true (by first | (with_reducible assumption) | assumption)
              have q118 : x8_1 < (l0.length : Int) := of_decide_eq_true (by first | (with_reducible assumption) | assumption)
              obtain ⟨ad118, e118, hx118_0, hx118_1, hx118_2⟩ := at_T29 HR0.out x8_1 p118 q118
              cases e118
              replace hx118_0 := (HB.out.cell (World.block_lt_of_cell? w _ hx118_0)).trans hx118_0
              replace hx118_1 := (HB.out.cell (World.block_lt_of_cell? w _ hx118_1)).trans hx118_1
              replace hx118_2 := (HB.out.cell (World.block_lt_of_cell? w _ hx118_2)).trans hx118_2
              replace p118 := eq_true p118
              replace q118 := eq_true q118
              go_wp2_with (first | (go_at_call 53; (with_reducible refine (keys_odd.calls ((rd_T29 l0 x8_1).f0) ((rd_T29 l0 x8_1).f1) ((rd_T29 l0 x8_1).f2) true _ A6.out).mono ?_); rintro e w8 ⟨rfl, hb⟩; have n0_ := Aside0.mk (below_step (by repeat (first | (with_reducible first | exact HB.out | apply below_alloc | apply pw_below_drewN | apply below_drew1) | exact HB.out)) hb); clear HB; have HB := n0_; clear n0_; (try clear hb); (try clear hb2); (try clear hk); (try clear hi)))
              go_ret
              exact ⟨by first | (with_reducible rfl) | (simp only [isEmpty_bne, Bool.not_not] <;> with_reducible rfl) | (simp [errW_none, errW_some] <;> with_reducible rfl) | (simp only [isEmpty_bne, Bool.not_not] <;> rfl) | rfl | (simp [errW_none, errW_some] <;> rfl) | (simp [*, errW_none, errW_some] <;> rfl), by repeat (first | (with_reducible first | exact HB.out | apply below_alloc | apply pw_below_drewN | apply below_drew1) | exact HB.out)⟩
            · replace c7 := Bool.eq_false_iff.mpr c7
              subst c7
              have H1 : (slices_IndexFunc_at_keys_odd.l0 k1 l0 (l0.length : Int) (wrap64 (x8_1 + 1))) = some r := by rw [if_neg (show ¬ (false = true) by decide)] at H; exact H
              clear H
              have H := H1
              clear H1
              have H' := Aside0.mk H
              clear H
              have p118 : 0 ≤ (x8_1 : Int) := of_decide_eq_true (by first | (with_reducible assumption) | assumption)
              have q118 : x8_1 < (l0.length : Int) := of_decide_eq_true (by first | (with_reducible assumption) | assumption)
              obtain ⟨ad118, e118, hx118_0, hx118_1, hx118_2⟩ := at_T29 HR0.out x8_1 p118 q118
              cases e118
              replace hx118_0 := (HB.out.cell (World.block_lt_of_cell? w _ hx118_0)).trans hx118_0
              replace hx118_1 := (HB.out.cell (World.block_lt_of_cell? w _ hx118_1)).trans hx118_1
              replace hx118_2 := (HB.out.cell (World.block_lt_of_cell? w _ hx118_2)).trans hx118_2
              replace p118 := eq_true p118
              replace q118 := eq_true q118
              go_wp2_with (first | (go_at_call 53; (with_reducible refine (keys_odd.calls ((rd_T29 l0 x8_1).f0) ((rd_T29 l0 x8_1).f1) ((rd_T29 l0 x8_1).f2) false _ A6.out).mono ?_); rintro e w9 ⟨rfl, hb⟩; have n0_ := Aside0.mk (below_step (by repeat (first | (with_reducible first | exact HB.out | apply below_alloc | apply pw_below_drewN | apply below_drew1) | exact HB.out)) hb); clear HB; have HB := n0_; clear n0_; (try clear hb); (try clear hb2); (try clear hk); (try clear hi)))
              go_roundg k1
              case measure => have := HK1.out; omega
              case rel => exact ⟨(wrap64 (x8_1 + 1)), (by first | (with_reducible rfl) | (simp; done) | (simp [*]; done) | rfl), H', ⟨by have := HK1.out; omega⟩, ⟨by repeat (first | (with_reducible first | exact HB.out | apply below_alloc | apply pw_below_drewN | apply below_drew1) | exact HB.out)⟩⟩
          · rw [if_neg c5] at H
            exact absurd H (by simp)
        · rw [if_neg c4] at H
          exact absurd H (by simp)
      · rw [if_neg c3] at H
        have c3b0 : decide (x8_1 < (l0.length : Int)) = false := decide_eq_false c3
        clear c3
        obtain rfl := Option.some.inj H
        go_wp2
        go_ret
        exact ⟨by first | (with_reducible rfl) | (simp only [isEmpty_bne, Bool.not_not] <;> with_reducible rfl) | (simp [errW_none, errW_some] <;> with_reducible rfl) | (simp only [isEmpty_bne, Bool.not_not] <;> rfl) | rfl | (simp [errW_none, errW_some] <;> rfl) | (simp [*, errW_none, errW_some] <;> rfl), by repeat (first | (with_reducible first | exact HB.out | apply below_alloc | apply pw_below_drewN | apply below_drew1) | exact HB.out)⟩

/-! ### slices_ContainsFunc_at_keys_odd: function 52 -/
def slices_ContainsFunc_at_keys_odd.f (k : Nat) (l0 : List (S29))  : Option (Bool) := (slices_IndexFunc_at_keys_odd.f k l0).bind fun t120 => (some (decide (t120 ≥ 0)))
theorem slices_ContainsFunc_at_keys_odd.mono : ∀ a0 k, LeO (slices_ContainsFunc_at_keys_odd.f k a0) (slices_ContainsFunc_at_keys_odd.f (k + 1) a0) := by
  intro a0 k
  unfold slices_ContainsFunc_at_keys_odd.f
  repeat' first
      | (with_reducible exact slices_IndexFunc_at_keys_odd.mono _ _)
      | (with_reducible exact LeO.refl _)
      | (with_reducible exact LeO.none _)
      | (with_reducible refine LeO.ite ?_ ?_)
      | (with_reducible refine LeO.bind ?_ (fun _ => ?_))
      | exact slices_IndexFunc_at_keys_odd.mono _ _
      | exact LeO.none _
      | refine LeO.ite ?_ ?_
      | refine LeO.bind ?_ (fun _ => ?_)
set_option maxHeartbeats 8000000 in
set_option maxRecDepth 100000 in
theorem slices_ContainsFunc_at_keys_odd.calls (k : Nat) (A0 : Option Addr) (c0 : Nat) (l0 : List (S29))  (r : Bool) (w : World) (hr0 : Kd.C k29 w A0 l0.length l0) (hc0 : l0.length ≤ c0) (h : slices_ContainsFunc_at_keys_odd.f k l0 = some r) :
    Calls Tryd.prog 52 #[.slice A0 l0.length c0, .func (.func 53) #[] #[]] w fun e w' => e = .returned (.bool r) ∧ Below w.heap.size w w' := by
  have HR0 := Aside0.mk hr0
  have HC0 := Aside0.mk hc0
  clear hr0 hc0
  have HB := Aside0.mk (Below.refl w.heap.size w)
  have H : ((slices_IndexFunc_at_keys_odd.f k l0).bind fun t120 => (some (decide (t120 ≥ 0)))) = some r := h
  clear h
  replace H := Option.bind_eq_some_iff.mp H
  obtain ⟨t120, A30, H⟩ := H
  replace H : (some (decide (t120 ≥ 0))) = some r := H
  have A3 := Aside0.mk A30
  clear A30
  obtain rfl := Option.some.inj H
  go_enter Tryd.func52, Tryd.ntmps52
  go_wp2_with (first | ((with_reducible refine gate_callee (f := 70) rfl ?_); refine goesL_ (some 7) rfl rfl Tryd.func70 (by kernel_rfl) rfl #[.slice A0 l0.length c0, .func (.func 53) #[] #[]] rfl (by (try simp only [List.map_toArray, List.map_cons, List.map_nil]); first | done | rfl | (simp only [List.length_drop, List.length_take]; rfl) | (simp (disch := omega) only [u64_in]; rfl)) ?_; (with_reducible refine (slices_IndexFunc_at_keys_odd.calls k _ _ l0 t120 _ ?side1 ?side2 A3.out).mono ?_); (case side1 => repeat (first | exact HR0.out | (with_reducible refine Kd.C_alloc ?_ _) | (with_reducible refine Kd.C_drewN ?_ _) | (with_reducible refine Kd.C_drew ?_))); (case side2 => exact HC0.out); rintro e w4 ⟨rfl, hb⟩; refine ⟨_, rfl, ?_⟩; have n0_ := Aside0.mk (below_step (by repeat (first | (with_reducible first | exact HB.out | apply below_alloc | apply pw_below_drewN | apply below_drew1) | exact HB.out)) hb); clear HB; have HB := n0_; clear n0_; (try clear hb); (try clear hb2); (try clear hk); (try clear hi)))
  go_ret
  exact ⟨by first | (with_reducible rfl) | (simp only [isEmpty_bne, Bool.not_not] <;> with_reducible rfl) | (simp [errW_none, errW_some] <;> with_reducible rfl) | (simp only [isEmpty_bne, Bool.not_not] <;> rfl) | rfl | (simp [errW_none, errW_some] <;> rfl) | (simp [*, errW_none, errW_some] <;> rfl), by repeat (first | (with_reducible first | exact HB.out | apply below_alloc | apply pw_below_drewN | apply below_drew1) | exact HB.out)⟩

/-! ### keys_Write: function 30 -/
/-- may a value not be? -/
def oddV (v : S29) : Bool := if v.f0 = 1 then v.f2.toList != [] else if v.f0 = 2 then v.f1 != 0 else true
theorem odd_val (v : S29) : keys_odd.f v.f0 v.f1 v.f2 = some (oddV v) := by
  unfold keys_odd.f oddV; (repeat' split) <;> first | rfl | omega
theorem rd39_at (l : List S29) (i : Nat) (h : i < l.length) : rd_T29 l (i : Int) = l[i] := by
  unfold rd_T29; rw [Int.toNat_natCast, List.getD_eq_getElem?_getD, List.getElem?_eq_getElem h]; rfl
theorem index_odd (l : List S29) (hl : l.length ≤ 140737488355328) : ∀ m i : Nat, i + m = l.length →
    ∃ r, slices_IndexFunc_at_keys_odd.l0 (m + 1) l (l.length : Int) (i : Int) = some r ∧ decide (r ≥ 0) = (l.drop i).any oddV := by
  intro m
  induction m with
  | zero =>
    intro i hi
    refine ⟨-1, ?_, ?_⟩
    · simp only [slices_IndexFunc_at_keys_odd.l0]; rw [if_neg (by omega)]
    · rw [List.drop_eq_nil_of_le (by omega)]; rfl
  | succ m ih =>
    intro i hi
    have hlt : i < l.length := by omega
    simp only [slices_IndexFunc_at_keys_odd.l0]
    rw [if_pos (by omega), if_pos (by omega), if_pos (by omega), rd39_at l i hlt, odd_val, Option.bind_some]
    rw [List.drop_eq_getElem_cons hlt, List.any_cons]
    cases ho : oddV l[i] with
    | true => exact ⟨(i : Int), if_pos rfl, by simp⟩
    | false =>
      rw [if_neg (by decide), IntWalk.wrap64_in _ ⟨by omega, by omega⟩]
      obtain ⟨r, h1, h2⟩ := ih (i + 1) (by omega)
      exact ⟨r, by rw [← h1]; rfl, by rw [h2]; simp⟩
theorem contains_odd (l : List S29) (hl : l.length ≤ 140737488355328) : slices_ContainsFunc_at_keys_odd.f (l.length + 1) l = some (l.any oddV) := by
  obtain ⟨r, h1, h2⟩ := index_odd l hl l.length 0 (by omega)
  unfold slices_ContainsFunc_at_keys_odd.f slices_IndexFunc_at_keys_odd.f
  rw [show (0 : Int) = ((0 : Nat) : Int) from rfl, h1, Option.bind_some]
  exact congrArg some (h2.trans (by simp))
/-- a number's eight bytes -/
def be8 (n : Int) : List UInt8 := [56, 48, 40, 32, 24, 16, 8, 0].map fun i : Int => UInt8.ofNat ((shr .u64 n i) % 256).toNat
theorem byte_back (x : Int) : ((UInt8.ofNat (x % 256).toNat).toNat : Int) = x % 256 := by
  have := Int.emod_nonneg x (show (256 : Int) ≠ 0 by decide)
  have := Int.emod_lt_of_pos x (show (0 : Int) < 256 by decide)
  rw [UInt8.toNat_ofNat']; omega
theorem bi_be8 (n : Int) : bi (be8 n) = [(shr .u64 n 56) % 256, (shr .u64 n 48) % 256, (shr .u64 n 40) % 256, (shr .u64 n 32) % 256, (shr .u64 n 24) % 256, (shr .u64 n 16) % 256, (shr .u64 n 8) % 256, (shr .u64 n 0) % 256] := by
  simp only [bi, be8, List.map_cons, List.map_nil, byte_back]
theorem pack8_go (x : List Int) (n : Int) (j : Nat) (k : Nat) (hj : j < 8) (hx : x.length < 140737488355328) :
    pack_Num.l0 (k + 1) x n (j : Int) = pack_Num.l0 k (x ++ [(shr .u64 n (8 * (j : Int))) % 256]) n ((j : Int) - 1) := by
  simp only [pack_Num.l0]
  rw [if_pos (by omega), IntWalk.wrap64_in (8 * (j : Int)) ⟨by omega, by omega⟩, if_pos (by omega), if_pos hx, IntWalk.wrap64_in ((j : Int) - 1) ⟨by omega, by omega⟩]
theorem pack8 (x : List Int) (n : Int) (hx : x.length + 8 ≤ 140737488355328) : pack_Num.f 9 x n 8 = some (x ++ bi (be8 n)) := by
  have h0 : pack_Num.f 9 x n 8 = pack_Num.l0 9 x n ((7 : Nat) : Int) := by
    unfold pack_Num.f pack_wide.f; rw [Option.bind_some]; rw [show wrap64 (mn (mx 8 1) 8 - 1) = ((7 : Nat) : Int) from by unfold mn mx; simp [wrap64]]
  have step : ∀ (y : List Int) (j k : Nat), j < 8 → y.length < 140737488355328 → pack_Num.l0 (k + 1) y n (j : Int) = pack_Num.l0 k (y ++ [(shr .u64 n (8 * (j : Int))) % 256]) n ((j : Int) - 1) := fun y j k h1 h2 => pack8_go y n j k h1 h2
  rw [h0, step _ 7 8 (by omega) (by omega)]
  rw [show ((7 : Nat) : Int) - 1 = ((6 : Nat) : Int) from rfl, step _ 6 7 (by omega) (by simp; omega)]
  rw [show ((6 : Nat) : Int) - 1 = ((5 : Nat) : Int) from rfl, step _ 5 6 (by omega) (by simp; omega)]
  rw [show ((5 : Nat) : Int) - 1 = ((4 : Nat) : Int) from rfl, step _ 4 5 (by omega) (by simp; omega)]
  rw [show ((4 : Nat) : Int) - 1 = ((3 : Nat) : Int) from rfl, step _ 3 4 (by omega) (by simp; omega)]
  rw [show ((3 : Nat) : Int) - 1 = ((2 : Nat) : Int) from rfl, step _ 2 3 (by omega) (by simp; omega)]
  rw [show ((2 : Nat) : Int) - 1 = ((1 : Nat) : Int) from rfl, step _ 1 2 (by omega) (by simp; omega)]
  rw [show ((1 : Nat) : Int) - 1 = ((0 : Nat) : Int) from rfl, step _ 0 1 (by omega) (by simp; omega)]
  simp only [pack_Num.l0]
  rw [if_neg (by decide), bi_be8]
  simp only [List.append_assoc, List.cons_append, List.nil_append]
  rfl
/-- a value's bytes -/
def encV (v : S29) : List UInt8 := if v.f0 = 1 then 1 :: be8 (Go.bits .xor .u64 (IntKind.u64.wrap v.f1) 9223372036854775808) else 2 :: (esc v.f2.data.toList ++ [0, 1])
def encL (l : List S29) : List UInt8 := l.flatMap encV
def keys_Write.f (l0 : List S29) : Option (ByteArray × Int) :=
  if l0.length ≤ 140737488355328 then (if l0.any oddV = true then some (⟨#[]⟩, 6) else if (encL l0).length ≤ 70368744177000 then some (⟨(encL l0).toArray⟩, 0) else none) else none

theorem next_j (n j : Nat) (h : j < n) (hn : n ≤ 140737488355328) : wrap64 ((j : Int) + 1) = ((j + 1 : Nat) : Int) := (IntWalk.wrap64_in _ ⟨by omega, by omega⟩).trans (by omega)
theorem loop_less (n j : Nat) (h : j < n) (hn : n ≤ 140737488355328) : n - (intOf (.int .i64 (wrap64 ((j : Int) + 1)))).toNat < n - (intOf (.int .i64 (j : Int))).toNat := by
  rw [next_j n j h hn]; simp only [intOf, Int.toNat_natCast]; omega
theorem strOf_bi (l : List UInt8) : strOfNums (bi l) = ⟨l.toArray⟩ := by
  unfold strOfNums bi; rw [List.map_map]; congr 2
  conv => rhs; rw [← List.map_id l]
  apply List.map_congr_left; intro c _; simp
theorem take_enc (l : List S29) (j : Nat) (h : j < l.length) : encL (l.take (j + 1)) = encL (l.take j) ++ encV l[j] := by
  unfold encL; rw [List.take_add_one, List.getElem?_eq_getElem h, Option.toList_some, List.flatMap_append]; simp
theorem encL_take_le (l : List S29) (j : Nat) : (encL (l.take j)).length ≤ (encL l).length := by
  conv => rhs; rw [← List.take_append_drop j l]
  unfold encL; rw [List.flatMap_append, List.length_append]; omega
set_option maxHeartbeats 8000000 in
set_option maxRecDepth 100000 in
theorem keys_Write.calls (A0 : Option Addr) (c0 : Nat) (l0 : List (S29)) (r1 : ByteArray) (r2 : Int) (w : World) (hr0 : Kd.C k29 w A0 l0.length l0) (hc0 : l0.length ≤ c0) (h : keys_Write.f l0 = some (r1, r2)) :
    Calls Tryd.prog 30 #[.slice A0 l0.length c0] w fun e w' => e = .returned (.tuple #[.string r1, .int .i64 r2]) ∧ Below w.heap.size w w' := by
  have huV := Tryd.underlying29
  have HR0 := Aside0.mk hr0
  have HC0 := Aside0.mk hc0
  have HB := Aside0.mk (Below.refl w.heap.size w)
  unfold keys_Write.f at h
  split at h
  case isFalse => cases h
  rename_i hl
  have hany := Aside0.mk (contains_odd l0 hl)
  have HL := Aside0.mk hl
  clear hr0 hc0
  go_enter Tryd.func30, Tryd.ntmps30
  by_cases ho : l0.any oddV = true
  · rw [if_pos ho] at h
    simp only [Option.some.injEq, Prod.mk.injEq] at h
    obtain ⟨rfl, rfl⟩ := h
    rw [ho] at hany
    clear hl ho
    go_wp2_with (go_at_call 52; refine (slices_ContainsFunc_at_keys_odd.calls (l0.length + 1) A0 c0 l0 true _ (Kd.C_below HR0.out (by repeat (first | (with_reducible first | exact HB.out | apply below_alloc | apply pw_below_drewN | apply below_drew1) | exact HB.out))) HC0.out hany.out).mono ?_; rintro e w1 ⟨rfl, hb⟩)
    go_ret2
    exact ⟨rfl, by repeat (first | exact hb | apply below_alloc | apply pw_below_drewN | apply below_drew1)⟩
  · rw [if_neg ho] at h
    replace ho : l0.any oddV = false := by simpa using ho
    rw [ho] at hany
    split at h
    case isFalse => cases h
    rename_i hT
    simp only [Option.some.injEq, Prod.mk.injEq] at h
    obtain ⟨rfl, rfl⟩ := h
    have HT := Aside0.mk hT
    clear hl ho hT
    go_wp2_with (go_at_call 52; refine (slices_ContainsFunc_at_keys_odd.calls (l0.length + 1) A0 c0 l0 false _ (Kd.C_below HR0.out (by repeat (first | (with_reducible first | exact HB.out | apply below_alloc | apply pw_below_drewN | apply below_drew1) | exact HB.out))) HC0.out hany.out).mono ?_; rintro e w1 ⟨rfl, hb⟩)
    go_loopw [4, 11] (fun b x wx => ∃ j : Nat, j ≤ l0.length ∧ x = .int .i64 (j : Int) ∧ Aside0 (Kd.R (Kd.int .u8) 5 wx w.heap.size (fun _ => True) b (bi (encL (l0.take j)))) ∧ Aside0 (Below w.heap.size w wx)) (fun _ x _ => l0.length - (intOf x).toNat)
    case atStart => exact ⟨0, Nat.zero_le _, rfl, ⟨Kd.R_nil _ _ _ _ _⟩, ⟨by repeat (first | exact hb | apply below_alloc | apply pw_below_drewN | apply below_drew1)⟩⟩
    case round =>
      obtain ⟨j, hj, rfl, HO, HBr⟩ := hrel
      by_cases hlt : j < l0.length
      · have p0 : 0 ≤ (j : Int) := by omega
        have q0 : (j : Int) < (l0.length : Int) := by omega
        obtain ⟨ad, e1, hx0, hx1, hx2⟩ := at_T29 HR0.out (j : Int) p0 q0
        cases e1
        rw [rd39_at l0 j hlt] at hx0 hx1 hx2
        obtain ⟨v, hv⟩ : ∃ v, l0[j] = v := ⟨_, rfl⟩
        rw [hv] at hx0 hx1 hx2
        have HN := Aside0.mk (take_enc l0 j hlt)
        rw [hv] at HN
        clear hv
        rw [Int.toNat_natCast] at hx0 hx1 hx2
        replace hx0 := (HBr.out.cell (World.block_lt_of_cell? w _ hx0)).trans hx0
        replace hx1 := (HBr.out.cell (World.block_lt_of_cell? w _ hx1)).trans hx1
        replace hx2 := (HBr.out.cell (World.block_lt_of_cell? w _ hx2)).trans hx2
        by_cases h1 : v.f0 = 1
        · have h1b : (v.f0 == 1) = true := beq_iff_eq.mpr h1
          go_wp2_with fail
          generalize hW0 : wr.alloc (Obj.cells #[Value.int IntKind.i64 1, Value.int IntKind.i64 v.f1, Value.string v.f2] 29) = W0
          have hc1 : W0.cell? ⟨wr.heap.size, 1, none⟩ = some (.int .i64 v.f1) := by rw [← hW0]; simp [go_sem]
          have HOw : Aside0 (Kd.R (Kd.int .u8) 5 W0 w.heap.size (fun k => k ≠ wr.heap.size) u4 (bi (encL (l0.take j)))) := ⟨by
            rw [← hW0]; exact Kd.R_alloc (Kd.R_of_own (Kd.own_of_R HO.out) (fun k hk => Nat.ne_of_lt (Kd.R_lt HO.out k hk))) _⟩
          have HBw : Aside0 (Below w.heap.size w W0) := ⟨by rw [← hW0]; exact below_alloc HBr.out _⟩
          have hlt0 : wr.heap.size < W0.heap.size := by rw [← hW0]; simp
          have hbr := HBr.out.size
          have hlen : (bi (encL (l0.take j))).length ≤ 70368744177000 := by rw [bi_len]; exact Nat.le_trans (encL_take_le l0 j) HT.out
          have HP := Aside0.mk (pack8 (bi (encL (l0.take j)) ++ bi [1]) (Go.bits .xor .u64 (IntKind.u64.wrap v.f1) 9223372036854775808) (by rw [List.length_append, bi_len [1]]; simp; omega))
          clear hW0 hx0 hx1 hx2
          go_region_held3 (fun w' => w'.cell? ⟨wr.heap.size, 1, none⟩ = some (.int .i64 v.f1)) (first | exact hc1 | exact (World.cell?_alloc_lt _ _ _ hlt0).trans hc1 | exact hcA | exact (World.cell?_alloc_lt _ _ _ hltA).trans hcA | exact hcB) (first | (refine R_lies_step w.heap.size (by rfl) _ _ 58 5 (by rfl) Tryd.underlying58 info5 u4 _ [1] _ 1 1 (0,0) 5 (by rfl) (by rfl) (fun k => k ≠ wr.heap.size) (fun k hk => by (try simp at hk); omega) (by (with_reducible repeat (first | apply Kd.R_alloc | apply Kd.R_drewN | apply Kd.R_drew)); exact HOw.out) (heap_alloc_new _ _) rfl (by decide) ?_ ?_ ?_; (simp; omega); omega; intro vA wA HOA hbA hgA; have hltA : wr.heap.size < wA.heap.size := Nat.lt_of_lt_of_le hlt0 (Nat.le_trans (by simp) hbA.size); have hcA := (hgA.cell_far ⟨wr.heap.size, 1, none⟩ (Nat.lt_of_lt_of_le hlt0 (by simp)) (fun hk => HOw.out.1 _ hk.symm rfl)).trans ((World.cell?_alloc_lt _ _ _ hlt0).trans hc1); have HBA := Aside0.mk (Below.trans (by repeat (first | (with_reducible first | exact HBw.out | apply below_alloc | apply pw_below_drewN | apply below_drew1) | exact HBw.out)) hbA)) | (go_at_call 37; refine (pack_Num.calls 9 (fun k => k ≠ wr.heap.size) vA _ _ 8 _ w _ (by repeat (first | (with_reducible first | exact HBA.out | apply below_alloc | apply pw_below_drewN | apply below_drew1) | exact HBA.out)) (by (with_reducible repeat (first | apply Kd.R_alloc | apply Kd.R_drewN | apply Kd.R_drew)); exact HOA) HP.out).mono ?_; rintro e wB ⟨vB, rfl, HOB, HBB, HKB⟩; have hcB := (World.cell?_of_block (a := (⟨wr.heap.size, 1, none⟩ : Addr)) (HKB.2 _ hltA (fun h => h rfl))).trans hcA))
          go_wp2
          have hl := HL.out
          have hw1 : wrap64 ((j : Int) + 1) = ((j + 1 : Nat) : Int) := next_j _ _ hlt hl
          go_roundw
          case rel => exact ⟨j + 1, hlt, by rw [hw1], ⟨Kd.R_mono (by rw [HN.out, bi_app]; rw [show bi (encV v) = bi [1] ++ bi (be8 (Go.bits .xor .u64 (IntKind.u64.wrap v.f1) 9223372036854775808)) from by unfold encV; rw [if_pos h1]; rfl, ← List.append_assoc]; exact HOB) (fun _ _ => trivial)⟩, ⟨HBB⟩⟩
          case measure => exact loop_less _ _ hlt hl
        · have h1b : (v.f0 == 1) = false := beq_eq_false_iff_ne.mpr h1
          go_wp2_with fail
          generalize hW0 : wr.alloc (Obj.cells #[Value.int IntKind.i64 v.f0, Value.int IntKind.i64 v.f1, Value.string v.f2] 29) = W0
          have hc1 : W0.cell? ⟨wr.heap.size, 2, none⟩ = some (.string v.f2) := by rw [← hW0]; simp [go_sem]
          have HOw : Aside0 (Kd.R (Kd.int .u8) 5 W0 w.heap.size (fun k => k ≠ wr.heap.size) u4 (bi (encL (l0.take j)))) := ⟨by
            rw [← hW0]; exact Kd.R_alloc (Kd.R_of_own (Kd.own_of_R HO.out) (fun k hk => Nat.ne_of_lt (Kd.R_lt HO.out k hk))) _⟩
          have HBw : Aside0 (Below w.heap.size w W0) := ⟨by rw [← hW0]; exact below_alloc HBr.out _⟩
          have hlt0 : wr.heap.size < W0.heap.size := by rw [← hW0]; simp
          have hbr := HBr.out.size
          have hlen : (bi (encL (l0.take j))).length ≤ 70368744177000 := by rw [bi_len]; exact Nat.le_trans (encL_take_le l0 j) HT.out
          have hle : (encL (l0.take j)).length + (encV v).length ≤ 70368744177000 := by rw [← List.length_append, ← HN.out]; exact Nat.le_trans (encL_take_le l0 (j + 1)) HT.out
          have hev : encV v = [2] ++ esc v.f2.data.toList ++ [0, 1] := by unfold encV; rw [if_neg h1]; simp
          have hel : (encV v).length = v.f2.data.toList.length + Lib.countByte v.f2.data.toList 0 + 3 := by rw [hev]; simp [esc_length]
          have hfs : v.f2.data.toList.length = v.f2.size := (Lib.size_eq _).symm
          have HP : Aside0 (strings_ReplaceAll.f v.f2 ⟨#[0]⟩ ⟨#[0, 255]⟩ = some ⟨(esc v.f2.data.toList).toArray⟩) := ⟨by unfold strings_ReplaceAll.f; rw [if_pos ⟨rfl, rfl, by omega⟩]⟩
          have HEV := Aside0.mk hev
          have hsz : (⟨(esc v.f2.data.toList).toArray⟩ : ByteArray).size = v.f2.size + Lib.countByte v.f2.data.toList 0 := by rw [Lib.size_eq]; simp [esc_length, hfs]
          clear hev
          have hWr := HBw.out.size
          clear hW0 hx0 hx1 hx2
          go_region_held3 (fun w' => w'.cell? ⟨wr.heap.size, 2, none⟩ = some (.string v.f2)) (first | exact hc1 | exact (World.cell?_alloc_lt _ _ _ hlt0).trans hc1 | exact hcA | exact (World.cell?_alloc_lt _ _ _ hltA).trans hcA | exact hcB | exact hcC) (first | (refine R_lies_step w.heap.size (by rfl) _ _ 58 5 (by rfl) Tryd.underlying58 info5 u4 _ [2] _ 1 1 (0,0) 5 (by rfl) (by rfl) (fun k => k ≠ wr.heap.size) (fun k hk => by (try simp at hk); omega) (by (with_reducible repeat (first | apply Kd.R_alloc | apply Kd.R_drewN | apply Kd.R_drew)); exact HOw.out) (heap_alloc_new _ _) rfl (by decide) ?_ ?_ ?_; (simp; omega); omega; intro vA wA HOA hbA hgA; have hltA : wr.heap.size < wA.heap.size := Nat.lt_of_lt_of_le hlt0 (Nat.le_trans (by simp) hbA.size); have hcA := (hgA.cell_far ⟨wr.heap.size, 2, none⟩ (Nat.lt_of_lt_of_le hlt0 (by simp)) (fun hk => HOw.out.1 _ hk.symm rfl)).trans ((World.cell?_alloc_lt _ _ _ hlt0).trans hc1); have HBA := Aside0.mk (Below.trans (by repeat (first | (with_reducible first | exact HBw.out | apply below_alloc | apply pw_below_drewN | apply below_drew1) | exact HBw.out)) hbA)) | (go_at_call 54; refine (strings_ReplaceAll.calls v.f2 ⟨#[0]⟩ ⟨#[0, 255]⟩ _ _ HP.out).mono ?_; rintro e wB ⟨rfl, hbB⟩; have hltB : wr.heap.size < wB.heap.size := Nat.lt_of_lt_of_le hltA hbB.size; have hcB := (hbB.cell (World.block_lt_of_cell? _ _ hcA)).trans hcA; have HOB := Aside0.mk (Kd.R_below (by (with_reducible repeat (first | apply Kd.R_alloc | apply Kd.R_drewN | apply Kd.R_drew)); exact HOA) hbB); have HBB := Aside0.mk (below_step (by repeat (first | (with_reducible first | exact HBA.out | apply below_alloc | apply pw_below_drewN | apply below_drew1) | exact HBA.out)) hbB)) | (refine R_str_step w.heap.size (by rfl) _ _ 58 9 5 (by rfl) Tryd.underlying58 Tryd.underlying9 info5 vA _ ⟨(esc v.f2.data.toList).toArray⟩ (by rfl) (by rfl) (fun k => k ≠ wr.heap.size) HOB.out (Nat.le_trans HBA.out.size hbB.size) (by rw [List.length_append, hsz, bi_len [2]]; simp; omega) ?_; intro vC wC HOC hbC hgC; have hcC := (hgC.cell_far ⟨wr.heap.size, 2, none⟩ hltB (fun hk => HOB.out.1 _ hk.symm rfl)).trans hcB))
          have hCb := hbC.size
          have hBs := HBB.out.size
          have HBC := Aside0.mk (HBB.out.trans hbC)
          have hq := bi_len (encL (l0.take j))
          have hlC : (bi (encL (l0.take j)) ++ bi [2] ++ bytesOf ⟨(esc v.f2.data.toList).toArray⟩).length ≤ 70368744177664 := by rw [List.length_append, List.length_append, bytesOf_length, hsz, bi_len [2]]; simp; omega
          go_wp2_with (first | ((with_reducible refine gate_builtin (b := .append) (xs := #[.tmp 33, .tmp 34]) rfl ?_); at_builtin; refine R_lies_plain w.heap.size (by rfl) (.tmp 33) (.tmp 34) 58 5 (by rfl) Tryd.underlying58 info5 vC _ [0, 1] _ 2 2 (0, 0) 5 (by rfl) (by rfl) (fun _ => True) (fun _ _ => trivial) (by (with_reducible repeat (first | apply Kd.R_alloc | apply Kd.R_drewN | apply Kd.R_drew)); exact HOC) (heap_alloc_new _ _) rfl (by decide) ?_ ?_ ?_; (simp; omega); omega; intro vD wD HOD hbD hgD))
          have hl := HL.out
          have hw1 : wrap64 ((j : Int) + 1) = ((j + 1 : Nat) : Int) := next_j _ _ hlt hl
          go_roundw
          case rel => exact ⟨j + 1, hlt, by rw [hw1], ⟨by rw [HN.out, bi_app, HEV.out]; rw [bi_app, bi_app, ← List.append_assoc, ← List.append_assoc]; exact HOD⟩, ⟨Below.trans (by repeat (first | exact HBC.out | apply below_alloc | apply pw_below_drewN | apply below_drew1)) hbD⟩⟩
          case measure => exact loop_less _ _ hlt hl
      · have hje : j = l0.length := by omega
        subst hje
        have hcv := own_string (P := Tryd.prog) Tryd.underlying58 Tryd.underlying5 Tryd.underlying9 (Kd.own_of_R HO.out)
        go_wp2
        go_ret2
        exact ⟨by rw [← strOf_bi]; (try rw [List.take_length]); rfl, HBr.out⟩

end Go.Proofs.YtekaeddagaejiaaDoor.PAll
