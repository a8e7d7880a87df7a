/- Printed walks of the functions that the laws reach: each function, what it computes, and that it does. No conditions. -/
import Derived.Test.YtbdmfpgiolaooaaDoorPAllx0
import Derived.Test.YtbdmfpgiolaooaaDoorPAllx25
import Derived.Test.YtbdmfpgiolaooaaDoorPAllx26
namespace Go.Proofs.YtbdmfpgiolaooaaDoor.PAll
open Go.RowKit Go.Proofs.YtbdmfpgiolaooaaDoor.XW Go.Proofs.YtbdmfpgiolaooaaDoor.XLib Go.Proofs.YtbdmfpgiolaooaaDoorW.PrintWords Go.Proofs.YtbdmfpgiolaooaaDoorW.PrintLast Go.Proofs.YtbdmfpgiolaooaaDoorW.PrintMore
attribute [local go_sem] max2_int min2_int max_two min_two max_three min_three max_four min_four   -- for this text's walks alone
set_option linter.unusedVariables false
set_option linter.unusedSimpArgs false

/-! ### factotumref15_Reached: function 17 -/
mutual
def factotumref15_Reached.l0 : Nat → List (S32) → List Bool → Int → Option (List Bool)
  | 0, _, _, _ => none
  | k + 1, x0, x5, x6 => if x6 < (x0.length : Int) then (factotumref15_Reached.l1 k x0 x5 x6 0) else (some x5)
def factotumref15_Reached.l1 : Nat → List (S32) → List Bool → Int → Int → Option (List Bool)
  | 0, _, _, _, _ => none
  | k + 1, x0, x5, x6, x7 => if x7 < (x0.length : Int) then (if 0 ≤ x7 then (if x7 < (x5.length : Int) then (if rdOf false x5 x7 = true then ((factotumref15_Target.f ((rd_T32 x0 x7).f0) ((rd_T32 x0 x7).f1) ((rd_T32 x0 x7).f2) ((rd_T32 x0 x7).f3) ((rd_T32 x0 x7).f4.f0) ((rd_T32 x0 x7).f4.f1) ((rd_T32 x0 x7).f4.f2)).bind fun bt302 => (if bt302.2 = true then (if 0 ≤ bt302.1 then (if bt302.1 < (x5.length : Int) then ((some (x5.set (bt302.1 : Int).toNat true : List Bool)).bind fun y304 => ((factotumref15_ends.f ((rd_T32 x0 x7).f0) ((rd_T32 x0 x7).f1) ((rd_T32 x0 x7).f2) ((rd_T32 x0 x7).f3) ((rd_T32 x0 x7).f4.f0) ((rd_T32 x0 x7).f4.f1) ((rd_T32 x0 x7).f4.f2)).bind fun t306 => (if t306 = true then (factotumref15_Reached.l1 k x0 y304 x6 (wrap64 (x7 + 1))) else (if 0 ≤ (wrap64 (x7 + 1)) then (if (wrap64 (x7 + 1)) < (x5.length : Int) then (factotumref15_Reached.l1 k x0 (y304.set ((wrap64 (x7 + 1)) : Int).toNat true) x6 (wrap64 (x7 + 1))) else (none)) else (none))))) else (none)) else (none)) else ((factotumref15_ends.f ((rd_T32 x0 x7).f0) ((rd_T32 x0 x7).f1) ((rd_T32 x0 x7).f2) ((rd_T32 x0 x7).f3) ((rd_T32 x0 x7).f4.f0) ((rd_T32 x0 x7).f4.f1) ((rd_T32 x0 x7).f4.f2)).bind fun t309 => (if t309 = true then (factotumref15_Reached.l1 k x0 x5 x6 (wrap64 (x7 + 1))) else (if 0 ≤ (wrap64 (x7 + 1)) then (if (wrap64 (x7 + 1)) < (x5.length : Int) then (factotumref15_Reached.l1 k x0 (x5.set ((wrap64 (x7 + 1)) : Int).toNat true) x6 (wrap64 (x7 + 1))) else (none)) else (none)))))) else (factotumref15_Reached.l1 k x0 x5 x6 (wrap64 (x7 + 1)))) else (none)) else (none)) else (factotumref15_Reached.l0 k x0 x5 (wrap64 (x6 + 1)))
end
def factotumref15_Reached.f (k : Nat) (l0 : List (S32)) : Option (List Bool) := (factotumref15_Check.f k l0).bind fun bt294 => (if bt294.1 = 0 then (if 0 ≤ (l0.length : Int) then (if ((l0.length : Int) : Int).toNat ≤ 281474976710656 then ((some (List.replicate ((l0.length : Int) : Int).toNat false : List Bool)).bind fun y296 => (if 0 < (y296.length : Int) then (factotumref15_Reached.l0 k l0 (y296.set (0 : Int).toNat true) 0) else (none))) else (none)) else (none)) else (some ([] : List Bool)))
theorem factotumref15_Reached.mono_l : ∀ k, (∀ y0 y1 y2, LeO (factotumref15_Reached.l0 k y0 y1 y2) (factotumref15_Reached.l0 (k + 1) y0 y1 y2)) ∧ (∀ y0 y1 y2 y3, LeO (factotumref15_Reached.l1 k y0 y1 y2 y3) (factotumref15_Reached.l1 (k + 1) y0 y1 y2 y3))
  | 0 => ⟨fun _ _ _ r h => by simp [factotumref15_Reached.l0] at h, fun _ _ _ _ r h => by simp [factotumref15_Reached.l1] at h⟩
  | k + 1 => by
    obtain ⟨ih0, ih1⟩ := factotumref15_Reached.mono_l k
    refine ⟨?_, ?_⟩
    · intro y0 y1 y2
      unfold factotumref15_Reached.l0
      repeat' first
      | (with_reducible exact ih0 _ _ _)
      | (with_reducible exact ih1 _ _ _ _)
      | (with_reducible exact factotumref15_Check.mono _ _)
      | (with_reducible exact LeO.refl _)
      | (with_reducible exact LeO.none _)
      | (with_reducible refine LeO.ite ?_ ?_)
      | (with_reducible refine LeO.bind ?_ (fun _ => ?_))
      | exact ih0 _ _ _
      | exact ih1 _ _ _ _
      | exact factotumref15_Check.mono _ _
      | exact LeO.none _
      | refine LeO.ite ?_ ?_
      | refine LeO.bind ?_ (fun _ => ?_)
    · intro y0 y1 y2 y3
      unfold factotumref15_Reached.l1
      repeat' first
      | (with_reducible exact ih0 _ _ _)
      | (with_reducible exact ih1 _ _ _ _)
      | (with_reducible exact factotumref15_Check.mono _ _)
      | (with_reducible exact LeO.refl _)
      | (with_reducible exact LeO.none _)
      | (with_reducible refine LeO.ite ?_ ?_)
      | (with_reducible refine LeO.bind ?_ (fun _ => ?_))
      | exact ih0 _ _ _
      | exact ih1 _ _ _ _
      | exact factotumref15_Check.mono _ _
      | exact LeO.none _
      | refine LeO.ite ?_ ?_
      | refine LeO.bind ?_ (fun _ => ?_)
theorem factotumref15_Reached.mono : ∀ a0 k, LeO (factotumref15_Reached.f k a0) (factotumref15_Reached.f (k + 1) a0) := by
  intro a0 k
  obtain ⟨ih0, ih1⟩ := factotumref15_Reached.mono_l k
  unfold factotumref15_Reached.f
  repeat' first
      | (with_reducible exact ih0 _ _ _)
      | (with_reducible exact ih1 _ _ _ _)
      | (with_reducible exact factotumref15_Check.mono _ _)
      | (with_reducible exact LeO.refl _)
      | (with_reducible exact LeO.none _)
      | (with_reducible refine LeO.ite ?_ ?_)
      | (with_reducible refine LeO.bind ?_ (fun _ => ?_))
      | exact ih0 _ _ _
      | exact ih1 _ _ _ _
      | exact factotumref15_Check.mono _ _
      | exact LeO.none _
      | refine LeO.ite ?_ ?_
      | refine LeO.bind ?_ (fun _ => ?_)
set_option maxHeartbeats 8000000 in
set_option maxRecDepth 100000 in
theorem factotumref15_Reached.calls (k : Nat) (A0 : Option Addr) (c0 : Nat) (l0 : List (S32)) (r : List Bool) (w : World) (hr0 : Kd.C k32 w A0 l0.length l0) (hc0 : l0.length ≤ c0) (h : factotumref15_Reached.f k l0 = some r) :
    Calls Tryd.prog 17 #[.slice A0 l0.length c0] w fun e w' => ∃ v0_ : Value, e = .returned (v0_) ∧ Kd.R Kd.bool 4 w' w.heap.size (fun _ => True) v0_ r ∧ Below w.heap.size w w' := by
  have hu32 := Tryd.underlying32
  have HR0 := Aside0.mk hr0
  have HC0 := Aside0.mk hc0
  clear hr0 hc0
  have HB := Aside0.mk (Below.refl w.heap.size w)
  have H : ((factotumref15_Check.f k l0).bind fun bt294 => (if bt294.1 = 0 then (if 0 ≤ (l0.length : Int) then (if ((l0.length : Int) : Int).toNat ≤ 281474976710656 then ((some (List.replicate ((l0.length : Int) : Int).toNat false : List Bool)).bind fun y296 => (if 0 < (y296.length : Int) then (factotumref15_Reached.l0 k l0 (y296.set (0 : Int).toNat true) 0) else (none))) else (none)) else (none)) else (some ([] : List Bool)))) = some r := h
  clear h
  replace H := Option.bind_eq_some_iff.mp H
  obtain ⟨⟨t294, t295⟩, A20, H⟩ := H
  replace H : (if t294 = 0 then (if 0 ≤ (l0.length : Int) then (if ((l0.length : Int) : Int).toNat ≤ 281474976710656 then ((some (List.replicate ((l0.length : Int) : Int).toNat false : List Bool)).bind fun y296 => (if 0 < (y296.length : Int) then (factotumref15_Reached.l0 k l0 (y296.set (0 : Int).toNat true) 0) else (none))) else (none)) else (none)) else (some ([] : List Bool))) = some r := H
  have A2 := Aside0.mk A20
  clear A20
  by_cases c3 : t294 = 0
  · rw [if_pos c3] at H
    have c3b0 : (t294 == 0) = true := beq_iff_eq.mpr c3
    have c3b1 : (t294 != 0) = false := bne_eq_false_iff_eq.mpr c3
    clear c3
    by_cases c4 : 0 ≤ (l0.length : Int)
    · rw [if_pos c4] at H
      have c4b0 := eq_true c4
      have c4b1 : decide (0 ≤ (l0.length : Int)) = true := decide_eq_true c4
      clear c4
      by_cases c5 : ((l0.length : Int) : Int).toNat ≤ 281474976710656
      · rw [if_pos c5] at H
        have c5b0 := eq_true c5
        have c5b1 : decide (((l0.length : Int) : Int).toNat ≤ 281474976710656) = true := decide_eq_true c5
        clear c5
        obtain ⟨y296, hy296⟩ : ∃ y_ : List Bool, y_ = (List.replicate ((l0.length : Int) : Int).toNat false) := ⟨_, rfl⟩
        replace H : (if 0 < (y296.length : Int) then (factotumref15_Reached.l0 k l0 (y296.set (0 : Int).toNat true) 0) else (none)) = some r := by first | (rw [hy296]; with_reducible exact H) | (have H2_ := (Option.bind_some _ _).symm.trans H; rw [hy296]; with_reducible exact H2_) | (have H2_ := (Option.bind_some _ _).symm.trans H; with_reducible exact H2_) | with_reducible exact H | (rw [hy296]; exact H) | exact H
        have Ny296 := Aside0.mk hy296
        clear hy296
        by_cases c6 : 0 < (y296.length : Int)
        · rw [if_pos c6] at H
          have c6b0 : decide (0 < (y296.length : Int)) = true := decide_eq_true c6
          have c6b1 : decide (0 < y296.length) = true := decide_eq_true (by omega)
          clear c6
          obtain ⟨y299, hy299⟩ : ∃ y_ : List Bool, y_ = (y296.set (0 : Int).toNat true) := ⟨_, rfl⟩
          replace H : (factotumref15_Reached.l0 k l0 y299 0) = some r := by first | (rw [hy299]; with_reducible exact H) | (have H2_ := (Option.bind_some _ _).symm.trans H; rw [hy299]; with_reducible exact H2_) | (have H2_ := (Option.bind_some _ _).symm.trans H; with_reducible exact H2_) | with_reducible exact H | (rw [hy299]; exact H) | exact H
          have Ny299 := Aside0.mk hy299
          clear hy299
          have H' := Aside0.mk H
          clear H
          go_enter Tryd.func17, Tryd.ntmps17
          go_wp2_with (first | ((with_reducible refine gate_callee (f := 10) rfl ?_); refine goesL_ (some 12) rfl rfl Tryd.func10 (by kernel_rfl) rfl #[.slice A0 l0.length c0] rfl (by (try simp only [List.map_toArray, List.map_cons, List.map_nil]); first | done | rfl | (simp only [List.length_drop, List.length_take]; rfl) | (simp (disch := omega) only [u64_in]; rfl)) ?_; (with_reducible refine (factotumref15_Check.calls k _ _ l0 t294 t295 _ ?side1 ?side2 A2.out).mono ?_); (case side1 => repeat (first | exact HR0.out | (with_reducible refine Kd.C_alloc ?_ _) | (with_reducible refine Kd.C_drewN ?_ _) | (with_reducible refine Kd.C_drew ?_))); (case side2 => exact HC0.out); rintro e w8 ⟨rfl, hb⟩; refine ⟨_, rfl, ?_⟩; have n0_ := Aside0.mk (below_step (by repeat (first | (with_reducible first | exact HB.out | apply below_alloc | apply pw_below_drewN | apply below_drew1) | exact HB.out)) hb); clear HB; have HB := n0_; clear n0_; (try clear hb); (try clear hb2); (try clear hk); (try clear hi)) | ((with_reducible refine gate_dst (N := 19) rfl ?_); refine Kd.R_make Kd.bool _ 4 rfl (N := 19) rfl 39 _ _ rfl (l0.length : Int) rfl rfl Tryd.underlying39 (.bool false) 1 info4 rfl (by decide) (by omega) false (ok := fun _ => True) (okp := fun _ => True) rfl (fun _ hk => hk) trivial (of_decide_eq_true (by first | (with_reducible assumption) | assumption)) (Nat.le_trans (Nat.mul_le_mul_right _ (of_decide_eq_true (by first | (with_reducible assumption) | assumption) : (l0.length : Int).toNat ≤ 281474976710656)) (by omega)) (Below.refl _ _) (Nat.le_refl _) ?_; intro v297 w9 ho10 hb hg_ hnew_; clear hg_ hnew_; (first | rw [← Ny296.out] at ho10 | (simp only [Int.reduceToNat] at ho10; rw [← Ny296.out] at ho10)); have n0_ := Aside0.mk (Kd.R_lower ho10 (below_size (by repeat (first | (with_reducible first | exact HB.out | apply below_alloc | apply pw_below_drewN | apply below_drew1) | exact HB.out)))); have n1_ := Aside0.mk (below_step (by repeat (first | (with_reducible first | exact HB.out | apply below_alloc | apply pw_below_drewN | apply below_drew1) | exact HB.out)) hb); clear HB; have HO298 := n0_; have HB := n1_; clear n0_ n1_; clear hb ho10; have p7 : 0 ≤ (0 : Int) := (by omega); have q7 : (0 : Int) < ((y296.length : Int) : Int) := of_decide_eq_true (by first | (with_reducible assumption) | assumption); have qi7 : (0 < y296.length) = True := eq_true (by omega); obtain ⟨go7, co7, eo7, gb7, gl7, cl7, HG7⟩ := Kd.R_form HO298.out (by omega); (first | cases eo7 | (injection eo7 with ea_ en_ ec_; (first | subst ea_ | (injection ea_ with ea_; subst ea_)); subst ec_; clear en_)); have GB7 := Aside0.mk gb7; have GG7 := Aside0.mk HG7; clear gb7 gl7 HG7; obtain ⟨hx7_0, hf7_0⟩ := Kd.R_celln false HO298.out (0 : Int) p7 q7; (try rw [show ((0 : Int)).toNat = 0 from rfl] at hx7_0); (try simp only [Nat.reduceMul, Nat.zero_mul, Nat.zero_add, Nat.reduceAdd] at hx7_0); (try rw [show ((0 : Int)).toNat = 0 from rfl] at hf7_0); (try simp only [Nat.reduceMul, Nat.zero_mul, Nat.zero_add, Nat.reduceAdd] at hf7_0); replace p7 := eq_true p7; replace q7 := eq_true q7; obtain ⟨hy11_, hz11_⟩ := Kd.R_celln false HO298.out (0 : Int) (by omega) (of_decide_eq_true (by first | (with_reducible assumption) | assumption)); (try simp only [Int.reduceToNat, Int.toNat_zero, Int.toNat_ofNat, Nat.reduceMul, Nat.zero_mul, Nat.zero_add] at hy11_ hz11_); (try rw [show ((0 : Int)).toNat = 0 from rfl] at hy11_); (try rw [show ((0 : Int)).toNat = 0 from rfl] at hz11_); have HP11 := Kd.R_putg HO298.out (0 : Int) true) | ((with_reducible refine gate_store (t := 4) (p := 21) rfl ?_); refine store_event (t := 4) (p := 21) (v := ?vo_w12) (w1 := (w9.setCell ⟨go7, (0 : Int).toNat, none⟩ (.bool true))) ?hg ?ho ?hn ?hr ?_; (case ho => rfl); (case hg => rfl); (case hn => rfl); (case hr => first | (go_simp; done) | (go_simp; rfl)); intro w12 hw; have hg : w9.grownBy w12 (some go7) := (by rw [hw]; exact HP11.2); have hp_ : Kd.R Kd.bool 4 w12 w.heap.size (fun _ => True) (.slice (some ⟨go7, 0, none⟩) y296.length co7) y299 := (by rw [hw, Ny299.out]; exact HP11.1); clear HP11; have n0_ := Aside0.mk (hp_); have n1_ := Aside0.mk ((by rw [hw]; exact below_set (HB.out) GB7.out : Below w.heap.size w w12)); clear HO298; clear HB; have HO298 := n0_; have HB := n1_; clear n0_ n1_; clear hg hw hp_))
          go_loopg [6] k (fun kq v6 w' => ∃ (x5_1 : List Bool) (x6_1 : Int), v6 = .int .i64 x6_1 ∧ Aside0 (factotumref15_Reached.l0 kq l0 x5_1 x6_1 = some r) ∧ Aside0 (kq ≤ k) ∧ Aside0 (Kd.R Kd.bool 4 w' w.heap.size (fun _ => True) (.slice (some ⟨go7, 0, none⟩) y296.length co7) x5_1) ∧ Aside0 (Below w.heap.size w w'))
          case atStart => exact ⟨(y299), (0), (by first | (with_reducible rfl) | (simp; done) | (simp [*]; done) | rfl | (simp only [not_isEmpty_bne])), H', ⟨Nat.le_refl _⟩, ⟨by (with_reducible repeat (first | apply Kd.R_alloc | apply Kd.R_drewN | apply Kd.R_drew)); exact HO298.out⟩, ⟨by repeat (first | (with_reducible first | exact HB.out | apply below_alloc | apply pw_below_drewN | apply below_drew1) | exact HB.out)⟩⟩
          case round =>
            clear H'
            try clear c1
            try clear p2
            try clear c3
            try clear c3b0
            try clear c3b1
            try clear c4
            try clear c4b0
            try clear c4b1
            try clear c5
            try clear c5b0
            try clear c5b1
            try clear c6
            try clear c6b0
            try clear c6b1
            try clear p7
            try clear q7
            try clear hx7
            try clear qi7
            try clear hf7
            try clear c10
            try clear hx7_0
            try clear p7
            try clear q7
            obtain ⟨x5_1, x6_1, rfl, HA, HK1, HO_5, HB⟩ := hrel
            have hl5_1 := (Kd.R_reads' HO_5.out).1
            rw [hl5_1] at HO_5
            (try simp only [hl5_1])
            cases gk with
            | zero => exact absurd HA.out (by simp [factotumref15_Reached.l0])
            | succ k1 =>
              have H := HA.out
              clear HA
              simp only [factotumref15_Reached.l0] at H
              by_cases c13 : x6_1 < (l0.length : Int)
              · rw [if_pos c13] at H
                have c13b0 : decide (x6_1 < (l0.length : Int)) = true := decide_eq_true c13
                clear c13
                have H' := Aside0.mk H
                clear H
                go_wp2
                go_loopg [7] k1 (fun kq v7 w' => ∃ (x5_2 : List Bool) (x7_2 : Int), v7 = .int .i64 x7_2 ∧ Aside0 (factotumref15_Reached.l1 kq l0 x5_2 x6_1 x7_2 = some r) ∧ Aside0 (kq ≤ k1) ∧ Aside0 (Kd.R Kd.bool 4 w' w.heap.size (fun _ => True) (.slice (some ⟨go7, 0, none⟩) x5_1.length co7) x5_2) ∧ Aside0 (Below w.heap.size w w'))
                case atStart => exact ⟨(x5_1), (0), (by first | (with_reducible rfl) | (simp; done) | (simp [*]; done) | rfl | (simp only [not_isEmpty_bne])), H', ⟨Nat.le_refl _⟩, ⟨by (try simp only [hl5_1]); (with_reducible repeat (first | apply Kd.R_alloc | apply Kd.R_drewN | apply Kd.R_drew)); exact HO_5.out⟩, ⟨by repeat (first | (with_reducible first | exact HB.out | apply below_alloc | apply pw_below_drewN | apply below_drew1) | exact HB.out)⟩⟩
                case round =>
                  clear H'
                  try clear c1
                  try clear p2
                  try clear c3
                  try clear c3b0
                  try clear c3b1
                  try clear c4
                  try clear c4b0
                  try clear c4b1
                  try clear c5
                  try clear c5b0
                  try clear c5b1
                  try clear c6
                  try clear c6b0
                  try clear c6b1
                  try clear p7
                  try clear q7
                  try clear hx7
                  try clear qi7
                  try clear hf7
                  try clear c10
                  try clear c13
                  try clear c13b0
                  try clear hx7_0
                  try clear p2
                  try clear p7
                  try clear q7
                  obtain ⟨x5_2, x7_2, rfl, HA, HK2, HO_5, HB⟩ := hrel
                  have hl5_2 := (Kd.R_reads' HO_5.out).1
                  rw [hl5_2] at HO_5
                  (try simp only [hl5_2])
                  cases gk with
                  | zero => exact absurd HA.out (by simp [factotumref15_Reached.l1])
                  | succ k2 =>
                    have H := HA.out
                    clear HA
                    simp only [factotumref15_Reached.l1] at H
                    by_cases c14 : x7_2 < (l0.length : Int)
                    · rw [if_pos c14] at H
                      have c14b0 : decide (x7_2 < (l0.length : Int)) = true := decide_eq_true c14
                      clear c14
                      by_cases c15 : 0 ≤ x7_2
                      · rw [if_pos c15] at H
                        have c15b0 : decide (0 ≤ x7_2) = true := decide_eq_true c15
                        clear c15
                        by_cases c16 : x7_2 < (x5_2.length : Int)
                        · rw [if_pos c16] at H
                          have c16b0 : decide (x7_2 < (x5_2.length : Int)) = true := decide_eq_true c16
                          clear c16
                          obtain ⟨bq17, hbq17⟩ : ∃ b_ : Bool, b_ = (rdOf false x5_2 x7_2) := ⟨_, rfl⟩
                          replace H : (if bq17 = true then ((factotumref15_Target.f ((rd_T32 l0 x7_2).f0) ((rd_T32 l0 x7_2).f1) ((rd_T32 l0 x7_2).f2) ((rd_T32 l0 x7_2).f3) ((rd_T32 l0 x7_2).f4.f0) ((rd_T32 l0 x7_2).f4.f1) ((rd_T32 l0 x7_2).f4.f2)).bind fun bt302 => (if bt302.2 = true then (if 0 ≤ bt302.1 then (if bt302.1 < (x5_2.length : Int) then ((some (x5_2.set (bt302.1 : Int).toNat true : List Bool)).bind fun y304 => ((factotumref15_ends.f ((rd_T32 l0 x7_2).f0) ((rd_T32 l0 x7_2).f1) ((rd_T32 l0 x7_2).f2) ((rd_T32 l0 x7_2).f3) ((rd_T32 l0 x7_2).f4.f0) ((rd_T32 l0 x7_2).f4.f1) ((rd_T32 l0 x7_2).f4.f2)).bind fun t306 => (if t306 = true then (factotumref15_Reached.l1 k2 l0 y304 x6_1 (wrap64 (x7_2 + 1))) else (if 0 ≤ (wrap64 (x7_2 + 1)) then (if (wrap64 (x7_2 + 1)) < (x5_2.length : Int) then (factotumref15_Reached.l1 k2 l0 (y304.set ((wrap64 (x7_2 + 1)) : Int).toNat true) x6_1 (wrap64 (x7_2 + 1))) else (none)) else (none))))) else (none)) else (none)) else ((factotumref15_ends.f ((rd_T32 l0 x7_2).f0) ((rd_T32 l0 x7_2).f1) ((rd_T32 l0 x7_2).f2) ((rd_T32 l0 x7_2).f3) ((rd_T32 l0 x7_2).f4.f0) ((rd_T32 l0 x7_2).f4.f1) ((rd_T32 l0 x7_2).f4.f2)).bind fun t309 => (if t309 = true then (factotumref15_Reached.l1 k2 l0 x5_2 x6_1 (wrap64 (x7_2 + 1))) else (if 0 ≤ (wrap64 (x7_2 + 1)) then (if (wrap64 (x7_2 + 1)) < (x5_2.length : Int) then (factotumref15_Reached.l1 k2 l0 (x5_2.set ((wrap64 (x7_2 + 1)) : Int).toNat true) x6_1 (wrap64 (x7_2 + 1))) else (none)) else (none)))))) else (factotumref15_Reached.l1 k2 l0 x5_2 x6_1 (wrap64 (x7_2 + 1)))) = some r := by rw [← hbq17] at H; exact H
                          have Nbq17 := Aside0.mk hbq17
                          clear hbq17
                          by_cases c18 : bq17 = true
                          · subst c18
                            have H1 : ((factotumref15_Target.f ((rd_T32 l0 x7_2).f0) ((rd_T32 l0 x7_2).f1) ((rd_T32 l0 x7_2).f2) ((rd_T32 l0 x7_2).f3) ((rd_T32 l0 x7_2).f4.f0) ((rd_T32 l0 x7_2).f4.f1) ((rd_T32 l0 x7_2).f4.f2)).bind fun bt302 => (if bt302.2 = true then (if 0 ≤ bt302.1 then (if bt302.1 < (x5_2.length : Int) then ((some (x5_2.set (bt302.1 : Int).toNat true : List Bool)).bind fun y304 => ((factotumref15_ends.f ((rd_T32 l0 x7_2).f0) ((rd_T32 l0 x7_2).f1) ((rd_T32 l0 x7_2).f2) ((rd_T32 l0 x7_2).f3) ((rd_T32 l0 x7_2).f4.f0) ((rd_T32 l0 x7_2).f4.f1) ((rd_T32 l0 x7_2).f4.f2)).bind fun t306 => (if t306 = true then (factotumref15_Reached.l1 k2 l0 y304 x6_1 (wrap64 (x7_2 + 1))) else (if 0 ≤ (wrap64 (x7_2 + 1)) then (if (wrap64 (x7_2 + 1)) < (x5_2.length : Int) then (factotumref15_Reached.l1 k2 l0 (y304.set ((wrap64 (x7_2 + 1)) : Int).toNat true) x6_1 (wrap64 (x7_2 + 1))) else (none)) else (none))))) else (none)) else (none)) else ((factotumref15_ends.f ((rd_T32 l0 x7_2).f0) ((rd_T32 l0 x7_2).f1) ((rd_T32 l0 x7_2).f2) ((rd_T32 l0 x7_2).f3) ((rd_T32 l0 x7_2).f4.f0) ((rd_T32 l0 x7_2).f4.f1) ((rd_T32 l0 x7_2).f4.f2)).bind fun t309 => (if t309 = true then (factotumref15_Reached.l1 k2 l0 x5_2 x6_1 (wrap64 (x7_2 + 1))) else (if 0 ≤ (wrap64 (x7_2 + 1)) then (if (wrap64 (x7_2 + 1)) < (x5_2.length : Int) then (factotumref15_Reached.l1 k2 l0 (x5_2.set ((wrap64 (x7_2 + 1)) : Int).toNat true) x6_1 (wrap64 (x7_2 + 1))) else (none)) else (none)))))) = some r := by rw [if_pos rfl] at H; exact H
                            clear H
                            have H := H1
                            clear H1
                            replace H := Option.bind_eq_some_iff.mp H
                            obtain ⟨⟨t302, t303⟩, A190, H⟩ := H
                            replace H : (if t303 = true then (if 0 ≤ t302 then (if t302 < (x5_2.length : Int) then ((some (x5_2.set (t302 : Int).toNat true : List Bool)).bind fun y304 => ((factotumref15_ends.f ((rd_T32 l0 x7_2).f0) ((rd_T32 l0 x7_2).f1) ((rd_T32 l0 x7_2).f2) ((rd_T32 l0 x7_2).f3) ((rd_T32 l0 x7_2).f4.f0) ((rd_T32 l0 x7_2).f4.f1) ((rd_T32 l0 x7_2).f4.f2)).bind fun t306 => (if t306 = true then (factotumref15_Reached.l1 k2 l0 y304 x6_1 (wrap64 (x7_2 + 1))) else (if 0 ≤ (wrap64 (x7_2 + 1)) then (if (wrap64 (x7_2 + 1)) < (x5_2.length : Int) then (factotumref15_Reached.l1 k2 l0 (y304.set ((wrap64 (x7_2 + 1)) : Int).toNat true) x6_1 (wrap64 (x7_2 + 1))) else (none)) else (none))))) else (none)) else (none)) else ((factotumref15_ends.f ((rd_T32 l0 x7_2).f0) ((rd_T32 l0 x7_2).f1) ((rd_T32 l0 x7_2).f2) ((rd_T32 l0 x7_2).f3) ((rd_T32 l0 x7_2).f4.f0) ((rd_T32 l0 x7_2).f4.f1) ((rd_T32 l0 x7_2).f4.f2)).bind fun t309 => (if t309 = true then (factotumref15_Reached.l1 k2 l0 x5_2 x6_1 (wrap64 (x7_2 + 1))) else (if 0 ≤ (wrap64 (x7_2 + 1)) then (if (wrap64 (x7_2 + 1)) < (x5_2.length : Int) then (factotumref15_Reached.l1 k2 l0 (x5_2.set ((wrap64 (x7_2 + 1)) : Int).toNat true) x6_1 (wrap64 (x7_2 + 1))) else (none)) else (none))))) = some r := H
                            have A19 := Aside0.mk A190
                            clear A190
                            by_cases c20 : t303 = true
                            · subst c20
                              have H1 : (if 0 ≤ t302 then (if t302 < (x5_2.length : Int) then ((some (x5_2.set (t302 : Int).toNat true : List Bool)).bind fun y304 => ((factotumref15_ends.f ((rd_T32 l0 x7_2).f0) ((rd_T32 l0 x7_2).f1) ((rd_T32 l0 x7_2).f2) ((rd_T32 l0 x7_2).f3) ((rd_T32 l0 x7_2).f4.f0) ((rd_T32 l0 x7_2).f4.f1) ((rd_T32 l0 x7_2).f4.f2)).bind fun t306 => (if t306 = true then (factotumref15_Reached.l1 k2 l0 y304 x6_1 (wrap64 (x7_2 + 1))) else (if 0 ≤ (wrap64 (x7_2 + 1)) then (if (wrap64 (x7_2 + 1)) < (x5_2.length : Int) then (factotumref15_Reached.l1 k2 l0 (y304.set ((wrap64 (x7_2 + 1)) : Int).toNat true) x6_1 (wrap64 (x7_2 + 1))) else (none)) else (none))))) else (none)) else (none)) = some r := by rw [if_pos rfl] at H; exact H
                              clear H
                              have H := H1
                              clear H1
                              by_cases c21 : 0 ≤ t302
                              · rw [if_pos c21] at H
                                have c21b0 : decide (0 ≤ t302) = true := decide_eq_true c21
                                clear c21
                                by_cases c22 : t302 < (x5_2.length : Int)
                                · rw [if_pos c22] at H
                                  have c22b0 : decide (t302 < (x5_2.length : Int)) = true := decide_eq_true c22
                                  clear c22
                                  obtain ⟨y304, hy304⟩ : ∃ y_ : List Bool, y_ = (x5_2.set (t302 : Int).toNat true) := ⟨_, rfl⟩
                                  replace H : ((factotumref15_ends.f ((rd_T32 l0 x7_2).f0) ((rd_T32 l0 x7_2).f1) ((rd_T32 l0 x7_2).f2) ((rd_T32 l0 x7_2).f3) ((rd_T32 l0 x7_2).f4.f0) ((rd_T32 l0 x7_2).f4.f1) ((rd_T32 l0 x7_2).f4.f2)).bind fun t306 => (if t306 = true then (factotumref15_Reached.l1 k2 l0 y304 x6_1 (wrap64 (x7_2 + 1))) else (if 0 ≤ (wrap64 (x7_2 + 1)) then (if (wrap64 (x7_2 + 1)) < (x5_2.length : Int) then (factotumref15_Reached.l1 k2 l0 (y304.set ((wrap64 (x7_2 + 1)) : Int).toNat true) x6_1 (wrap64 (x7_2 + 1))) else (none)) else (none)))) = some r := by first | (rw [hy304]; with_reducible exact H) | (have H2_ := (Option.bind_some _ _).symm.trans H; rw [hy304]; with_reducible exact H2_) | (have H2_ := (Option.bind_some _ _).symm.trans H; with_reducible exact H2_) | with_reducible exact H | (rw [hy304]; exact H) | exact H
                                  have Ny304 := Aside0.mk hy304
                                  clear hy304
                                  replace H := Option.bind_eq_some_iff.mp H
                                  obtain ⟨t306, A240, H⟩ := H
                                  replace H : (if t306 = true then (factotumref15_Reached.l1 k2 l0 y304 x6_1 (wrap64 (x7_2 + 1))) else (if 0 ≤ (wrap64 (x7_2 + 1)) then (if (wrap64 (x7_2 + 1)) < (x5_2.length : Int) then (factotumref15_Reached.l1 k2 l0 (y304.set ((wrap64 (x7_2 + 1)) : Int).toNat true) x6_1 (wrap64 (x7_2 + 1))) else (none)) else (none))) = some r := H
                                  have A24 := Aside0.mk A240
                                  clear A240
                                  by_cases c25 : t306 = true
                                  · subst c25
                                    have H1 : (factotumref15_Reached.l1 k2 l0 y304 x6_1 (wrap64 (x7_2 + 1))) = some r := by rw [if_pos rfl] at H; exact H
                                    clear H
                                    have H := H1
                                    clear H1
                                    have H' := Aside0.mk H
                                    clear H
                                    have p300 : 0 ≤ (x7_2 : Int) := of_decide_eq_true (by first | (with_reducible assumption) | assumption)
                                    have q300 : x7_2 < (x5_2.length : Int) := of_decide_eq_true (by first | (with_reducible assumption) | assumption)
                                    obtain ⟨ad300, e300, hx300_0⟩ := Kd.at_bool (Kd.R_reads' HO_5.out).2.2 x7_2 p300 q300
                                    (try rw [← Nbq17.out] at hx300_0)
                                    obtain rfl : (⟨go7, 0, none⟩ : Addr) = ad300 := (by injection e300)
                                    (first | simp only [add_plain] at hx300_0 | simp only [add_at] at hx300_0 | simp only [Addr.add, Nat.zero_add] at hx300_0 | skip)
                                    replace p300 := eq_true p300
                                    replace q300 := eq_true q300
                                    have p301 : 0 ≤ (x7_2 : Int) := of_decide_eq_true (by first | (with_reducible assumption) | assumption)
                                    have q301 : x7_2 < (l0.length : Int) := of_decide_eq_true (by first | (with_reducible assumption) | assumption)
                                    obtain ⟨ad301, e301, hx301_0, hx301_1, hx301_2, hx301_3, hx301_4, hx301_5, hx301_6⟩ := at_T32 HR0.out x7_2 p301 q301
                                    cases e301
                                    replace hx301_0 := (HB.out.cell (World.block_lt_of_cell? w _ hx301_0)).trans hx301_0
                                    replace hx301_1 := (HB.out.cell (World.block_lt_of_cell? w _ hx301_1)).trans hx301_1
                                    replace hx301_2 := (HB.out.cell (World.block_lt_of_cell? w _ hx301_2)).trans hx301_2
                                    replace hx301_3 := (HB.out.cell (World.block_lt_of_cell? w _ hx301_3)).trans hx301_3
                                    replace hx301_4 := (HB.out.cell (World.block_lt_of_cell? w _ hx301_4)).trans hx301_4
                                    replace hx301_5 := (HB.out.cell (World.block_lt_of_cell? w _ hx301_5)).trans hx301_5
                                    replace hx301_6 := (HB.out.cell (World.block_lt_of_cell? w _ hx301_6)).trans hx301_6
                                    replace p301 := eq_true p301
                                    replace q301 := eq_true q301
                                    go_wp2_with (first | ((with_reducible refine gate_callee (f := 12) rfl ?_); refine goesL_ (some 44) rfl rfl Tryd.func12 (by kernel_rfl) rfl #[.agg #[.int .i64 ((rd_T32 l0 x7_2).f0), .int .i64 ((rd_T32 l0 x7_2).f1), .int .i64 ((rd_T32 l0 x7_2).f2), .int .i64 ((rd_T32 l0 x7_2).f3), .int .i64 ((rd_T32 l0 x7_2).f4.f0), .int .i64 ((rd_T32 l0 x7_2).f4.f1), .string ((rd_T32 l0 x7_2).f4.f2)]] rfl (by (try simp only [List.map_toArray, List.map_cons, List.map_nil]); first | done | rfl | (simp only [List.length_drop, List.length_take]; rfl) | (simp (disch := omega) only [u64_in]; rfl)) ?_; (with_reducible refine (factotumref15_Target.calls ((rd_T32 l0 x7_2).f0) ((rd_T32 l0 x7_2).f1) ((rd_T32 l0 x7_2).f2) ((rd_T32 l0 x7_2).f3) ((rd_T32 l0 x7_2).f4.f0) ((rd_T32 l0 x7_2).f4.f1) ((rd_T32 l0 x7_2).f4.f2) t302 true _ A19.out).mono ?_); rintro e w26 ⟨rfl, hb⟩; refine ⟨_, rfl, ?_⟩; have n0_ := Aside0.mk (Kd.R_below (by (with_reducible repeat (first | apply Kd.R_alloc | apply Kd.R_drewN | apply Kd.R_drew)); exact HO_5.out) hb); have n1_ := Aside0.mk (below_step (by repeat (first | (with_reducible first | exact HB.out | apply below_alloc | apply pw_below_drewN | apply below_drew1) | exact HB.out)) hb); clear HO_5; clear HB; have HO_5 := n0_; have HB := n1_; clear n0_ n1_; (try clear hb); (try clear hb2); (try clear hk); (try clear hi); have p23 : 0 ≤ (t302 : Int) := of_decide_eq_true (by first | (with_reducible assumption) | assumption); have q23 : (t302 : Int) < ((x5_2.length : Int) : Int) := of_decide_eq_true (by first | (with_reducible assumption) | assumption); obtain ⟨hx23_0, hf23_0⟩ := Kd.R_celln false HO_5.out (t302 : Int) p23 q23; replace p23 := eq_true p23; replace q23 := eq_true q23; obtain ⟨hy27_, hz27_⟩ := Kd.R_celln false HO_5.out (t302 : Int) (of_decide_eq_true (by first | (with_reducible assumption) | assumption)) (of_decide_eq_true (by first | (with_reducible assumption) | assumption)); have HP27 := Kd.R_putg HO_5.out (t302 : Int) true) | ((with_reducible refine gate_store (t := 4) (p := 50) rfl ?_); refine store_event (t := 4) (p := 50) (v := ?vo_w28) (w1 := (w26.setCell ⟨go7, (t302 : Int).toNat, none⟩ (.bool true))) ?hg ?ho ?hn ?hr ?_; (case ho => rfl); (case hg => rfl); (case hn => rfl); (case hr => first | (go_simp; done) | (go_simp; rfl)); intro w28 hw; have hg : w26.grownBy w28 (some go7) := (by rw [hw]; exact HP27.2); have hp_ : Kd.R Kd.bool 4 w28 w.heap.size (fun _ => True) (.slice (some ⟨go7, 0, none⟩) x5_2.length co7) y304 := (by rw [hw, Ny304.out]; exact HP27.1); clear HP27; have n0_ := Aside0.mk (hp_); have n1_ := Aside0.mk ((by rw [hw]; exact below_set (HB.out) GB7.out : Below w.heap.size w w28)); clear HO_5; clear HB; have HO_5 := n0_; have HB := n1_; clear n0_ n1_; clear hg hw hp_; have p305 : 0 ≤ (x7_2 : Int) := of_decide_eq_true (by first | (with_reducible assumption) | assumption); have q305 : x7_2 < (l0.length : Int) := of_decide_eq_true (by first | (with_reducible assumption) | assumption); obtain ⟨ad305, e305, hx305_0, hx305_1, hx305_2, hx305_3, hx305_4, hx305_5, hx305_6⟩ := at_T32 HR0.out x7_2 p305 q305; obtain rfl : ad301 = ad305 := (by injection e305); replace hx305_0 := (HB.out.cell (World.block_lt_of_cell? w _ hx305_0)).trans hx305_0; replace hx305_1 := (HB.out.cell (World.block_lt_of_cell? w _ hx305_1)).trans hx305_1; replace hx305_2 := (HB.out.cell (World.block_lt_of_cell? w _ hx305_2)).trans hx305_2; replace hx305_3 := (HB.out.cell (World.block_lt_of_cell? w _ hx305_3)).trans hx305_3; replace hx305_4 := (HB.out.cell (World.block_lt_of_cell? w _ hx305_4)).trans hx305_4; replace hx305_5 := (HB.out.cell (World.block_lt_of_cell? w _ hx305_5)).trans hx305_5; replace hx305_6 := (HB.out.cell (World.block_lt_of_cell? w _ hx305_6)).trans hx305_6; replace p305 := eq_true p305; replace q305 := eq_true q305) | ((with_reducible refine gate_callee (f := 26) rfl ?_); refine goesL_ (some 55) rfl rfl Tryd.func26 (by kernel_rfl) rfl #[.agg #[.int .i64 ((rd_T32 l0 x7_2).f0), .int .i64 ((rd_T32 l0 x7_2).f1), .int .i64 ((rd_T32 l0 x7_2).f2), .int .i64 ((rd_T32 l0 x7_2).f3), .int .i64 ((rd_T32 l0 x7_2).f4.f0), .int .i64 ((rd_T32 l0 x7_2).f4.f1), .string ((rd_T32 l0 x7_2).f4.f2)]] rfl (by (try simp only [List.map_toArray, List.map_cons, List.map_nil]); first | done | rfl | (simp only [List.length_drop, List.length_take]; rfl) | (simp (disch := omega) only [u64_in]; rfl)) ?_; (with_reducible refine (factotumref15_ends.calls ((rd_T32 l0 x7_2).f0) ((rd_T32 l0 x7_2).f1) ((rd_T32 l0 x7_2).f2) ((rd_T32 l0 x7_2).f3) ((rd_T32 l0 x7_2).f4.f0) ((rd_T32 l0 x7_2).f4.f1) ((rd_T32 l0 x7_2).f4.f2) true _ A24.out).mono ?_); rintro e w29 ⟨rfl, hb⟩; refine ⟨_, rfl, ?_⟩; have n0_ := Aside0.mk (Kd.R_below (by (with_reducible repeat (first | apply Kd.R_alloc | apply Kd.R_drewN | apply Kd.R_drew)); exact HO_5.out) hb); have n1_ := Aside0.mk (below_step (by repeat (first | (with_reducible first | exact HB.out | apply below_alloc | apply pw_below_drewN | apply below_drew1) | exact HB.out)) hb); clear HO_5; clear HB; have HO_5 := n0_; have HB := n1_; clear n0_ n1_; (try clear hb); (try clear hb2); (try clear hk); (try clear hi)))
                                    (try simp only [← hl5_2])
                                    go_roundg k2
                                    case measure => have := HK1.out; have := HK2.out; omega
                                    case rel => exact ⟨(y304), (wrap64 (x7_2 + 1)), (by first | (with_reducible rfl) | (simp; done) | (simp [*]; done) | rfl | (simp only [not_isEmpty_bne])), H', ⟨by have := HK1.out; have := HK2.out; omega⟩, ⟨by (try simp only [hl5_1]); (try simp only [hl5_2]); (with_reducible repeat (first | apply Kd.R_alloc | apply Kd.R_drewN | apply Kd.R_drew)); exact HO_5.out⟩, ⟨by repeat (first | (with_reducible first | exact HB.out | apply below_alloc | apply pw_below_drewN | apply below_drew1) | exact HB.out)⟩⟩
                                  · replace c25 := Bool.eq_false_iff.mpr c25
                                    subst c25
                                    have H1 : (if 0 ≤ (wrap64 (x7_2 + 1)) then (if (wrap64 (x7_2 + 1)) < (x5_2.length : Int) then (factotumref15_Reached.l1 k2 l0 (y304.set ((wrap64 (x7_2 + 1)) : Int).toNat true) x6_1 (wrap64 (x7_2 + 1))) else (none)) else (none)) = some r := by rw [if_neg (show ¬ (false = true) by decide)] at H; exact H
                                    clear H
                                    have H := H1
                                    clear H1
                                    obtain ⟨ji30, hji30⟩ : ∃ j_ : Int, (wrap64 (x7_2 + 1)) = j_ := ⟨_, rfl⟩
                                    replace H : (if 0 ≤ (ji30) then (if (ji30) < (x5_2.length : Int) then (factotumref15_Reached.l1 k2 l0 (y304.set ((ji30) : Int).toNat true) x6_1 ji30) else (none)) else (none)) = some r := by first | (rw [hji30] at H; exact H) | (simp only [hji30] at H ⊢; exact H)
                                    (try rw [hji30] at A19)
                                    (try rw [hji30] at A24)
                                    have hji30w : (IntKind.i64.wrap (x7_2 + 1)) = ji30 := (i64_w _).trans hji30
                                    by_cases c31 : 0 ≤ (ji30)
                                    · rw [if_pos c31] at H
                                      have c31b0 : decide (0 ≤ (ji30)) = true := decide_eq_true c31
                                      clear c31
                                      by_cases c32 : (ji30) < (x5_2.length : Int)
                                      · rw [if_pos c32] at H
                                        have c32b0 : decide ((ji30) < (x5_2.length : Int)) = true := decide_eq_true c32
                                        clear c32
                                        obtain ⟨y307, hy307⟩ : ∃ y_ : List Bool, y_ = (y304.set ((ji30) : Int).toNat true) := ⟨_, rfl⟩
                                        replace H : (factotumref15_Reached.l1 k2 l0 y307 x6_1 ji30) = some r := by first | (rw [hy307]; with_reducible exact H) | (have H2_ := (Option.bind_some _ _).symm.trans H; rw [hy307]; with_reducible exact H2_) | (have H2_ := (Option.bind_some _ _).symm.trans H; with_reducible exact H2_) | with_reducible exact H | (rw [hy307]; exact H) | exact H
                                        have Ny307 := Aside0.mk hy307
                                        clear hy307
                                        have H' := Aside0.mk H
                                        clear H
                                        have p300 : 0 ≤ (x7_2 : Int) := of_decide_eq_true (by first | (with_reducible assumption) | assumption)
                                        have q300 : x7_2 < (x5_2.length : Int) := of_decide_eq_true (by first | (with_reducible assumption) | assumption)
                                        obtain ⟨ad300, e300, hx300_0⟩ := Kd.at_bool (Kd.R_reads' HO_5.out).2.2 x7_2 p300 q300
                                        (try rw [← Nbq17.out] at hx300_0)
                                        obtain rfl : (⟨go7, 0, none⟩ : Addr) = ad300 := (by injection e300)
                                        (first | simp only [add_plain] at hx300_0 | simp only [add_at] at hx300_0 | simp only [Addr.add, Nat.zero_add] at hx300_0 | skip)
                                        replace p300 := eq_true p300
                                        replace q300 := eq_true q300
                                        have p301 : 0 ≤ (x7_2 : Int) := of_decide_eq_true (by first | (with_reducible assumption) | assumption)
                                        have q301 : x7_2 < (l0.length : Int) := of_decide_eq_true (by first | (with_reducible assumption) | assumption)
                                        obtain ⟨ad301, e301, hx301_0, hx301_1, hx301_2, hx301_3, hx301_4, hx301_5, hx301_6⟩ := at_T32 HR0.out x7_2 p301 q301
                                        cases e301
                                        replace hx301_0 := (HB.out.cell (World.block_lt_of_cell? w _ hx301_0)).trans hx301_0
                                        replace hx301_1 := (HB.out.cell (World.block_lt_of_cell? w _ hx301_1)).trans hx301_1
                                        replace hx301_2 := (HB.out.cell (World.block_lt_of_cell? w _ hx301_2)).trans hx301_2
                                        replace hx301_3 := (HB.out.cell (World.block_lt_of_cell? w _ hx301_3)).trans hx301_3
                                        replace hx301_4 := (HB.out.cell (World.block_lt_of_cell? w _ hx301_4)).trans hx301_4
                                        replace hx301_5 := (HB.out.cell (World.block_lt_of_cell? w _ hx301_5)).trans hx301_5
                                        replace hx301_6 := (HB.out.cell (World.block_lt_of_cell? w _ hx301_6)).trans hx301_6
                                        replace p301 := eq_true p301
                                        replace q301 := eq_true q301
                                        go_wp2_with (first | ((with_reducible refine gate_callee (f := 12) rfl ?_); refine goesL_ (some 44) rfl rfl Tryd.func12 (by kernel_rfl) rfl #[.agg #[.int .i64 ((rd_T32 l0 x7_2).f0), .int .i64 ((rd_T32 l0 x7_2).f1), .int .i64 ((rd_T32 l0 x7_2).f2), .int .i64 ((rd_T32 l0 x7_2).f3), .int .i64 ((rd_T32 l0 x7_2).f4.f0), .int .i64 ((rd_T32 l0 x7_2).f4.f1), .string ((rd_T32 l0 x7_2).f4.f2)]] rfl (by (try simp only [List.map_toArray, List.map_cons, List.map_nil]); first | done | rfl | (simp only [List.length_drop, List.length_take]; rfl) | (simp (disch := omega) only [u64_in]; rfl)) ?_; (with_reducible refine (factotumref15_Target.calls ((rd_T32 l0 x7_2).f0) ((rd_T32 l0 x7_2).f1) ((rd_T32 l0 x7_2).f2) ((rd_T32 l0 x7_2).f3) ((rd_T32 l0 x7_2).f4.f0) ((rd_T32 l0 x7_2).f4.f1) ((rd_T32 l0 x7_2).f4.f2) t302 true _ A19.out).mono ?_); rintro e w34 ⟨rfl, hb⟩; refine ⟨_, rfl, ?_⟩; have n0_ := Aside0.mk (Kd.R_below (by (with_reducible repeat (first | apply Kd.R_alloc | apply Kd.R_drewN | apply Kd.R_drew)); exact HO_5.out) hb); have n1_ := Aside0.mk (below_step (by repeat (first | (with_reducible first | exact HB.out | apply below_alloc | apply pw_below_drewN | apply below_drew1) | exact HB.out)) hb); clear HO_5; clear HB; have HO_5 := n0_; have HB := n1_; clear n0_ n1_; (try clear hb); (try clear hb2); (try clear hk); (try clear hi); have p23 : 0 ≤ (t302 : Int) := of_decide_eq_true (by first | (with_reducible assumption) | assumption); have q23 : (t302 : Int) < ((x5_2.length : Int) : Int) := of_decide_eq_true (by first | (with_reducible assumption) | assumption); obtain ⟨hx23_0, hf23_0⟩ := Kd.R_celln false HO_5.out (t302 : Int) p23 q23; replace p23 := eq_true p23; replace q23 := eq_true q23; obtain ⟨hy35_, hz35_⟩ := Kd.R_celln false HO_5.out (t302 : Int) (of_decide_eq_true (by first | (with_reducible assumption) | assumption)) (of_decide_eq_true (by first | (with_reducible assumption) | assumption)); have HP35 := Kd.R_putg HO_5.out (t302 : Int) true) | ((with_reducible refine gate_store (t := 4) (p := 50) rfl ?_); refine store_event (t := 4) (p := 50) (v := ?vo_w36) (w1 := (w34.setCell ⟨go7, (t302 : Int).toNat, none⟩ (.bool true))) ?hg ?ho ?hn ?hr ?_; (case ho => rfl); (case hg => rfl); (case hn => rfl); (case hr => first | (go_simp; done) | (go_simp; rfl)); intro w36 hw; have hg : w34.grownBy w36 (some go7) := (by rw [hw]; exact HP35.2); have hp_ : Kd.R Kd.bool 4 w36 w.heap.size (fun _ => True) (.slice (some ⟨go7, 0, none⟩) x5_2.length co7) y304 := (by rw [hw, Ny304.out]; exact HP35.1); clear HP35; have n0_ := Aside0.mk (hp_); have n1_ := Aside0.mk ((by rw [hw]; exact below_set (HB.out) GB7.out : Below w.heap.size w w36)); clear HO_5; clear HB; have HO_5 := n0_; have HB := n1_; clear n0_ n1_; clear hg hw hp_; have p305 : 0 ≤ (x7_2 : Int) := of_decide_eq_true (by first | (with_reducible assumption) | assumption); have q305 : x7_2 < (l0.length : Int) := of_decide_eq_true (by first | (with_reducible assumption) | assumption); obtain ⟨ad305, e305, hx305_0, hx305_1, hx305_2, hx305_3, hx305_4, hx305_5, hx305_6⟩ := at_T32 HR0.out x7_2 p305 q305; obtain rfl : ad301 = ad305 := (by injection e305); replace hx305_0 := (HB.out.cell (World.block_lt_of_cell? w _ hx305_0)).trans hx305_0; replace hx305_1 := (HB.out.cell (World.block_lt_of_cell? w _ hx305_1)).trans hx305_1; replace hx305_2 := (HB.out.cell (World.block_lt_of_cell? w _ hx305_2)).trans hx305_2; replace hx305_3 := (HB.out.cell (World.block_lt_of_cell? w _ hx305_3)).trans hx305_3; replace hx305_4 := (HB.out.cell (World.block_lt_of_cell? w _ hx305_4)).trans hx305_4; replace hx305_5 := (HB.out.cell (World.block_lt_of_cell? w _ hx305_5)).trans hx305_5; replace hx305_6 := (HB.out.cell (World.block_lt_of_cell? w _ hx305_6)).trans hx305_6; replace p305 := eq_true p305; replace q305 := eq_true q305) | ((with_reducible refine gate_callee (f := 26) rfl ?_); refine goesL_ (some 55) rfl rfl Tryd.func26 (by kernel_rfl) rfl #[.agg #[.int .i64 ((rd_T32 l0 x7_2).f0), .int .i64 ((rd_T32 l0 x7_2).f1), .int .i64 ((rd_T32 l0 x7_2).f2), .int .i64 ((rd_T32 l0 x7_2).f3), .int .i64 ((rd_T32 l0 x7_2).f4.f0), .int .i64 ((rd_T32 l0 x7_2).f4.f1), .string ((rd_T32 l0 x7_2).f4.f2)]] rfl (by (try simp only [List.map_toArray, List.map_cons, List.map_nil]); first | done | rfl | (simp only [List.length_drop, List.length_take]; rfl) | (simp (disch := omega) only [u64_in]; rfl)) ?_; (with_reducible refine (factotumref15_ends.calls ((rd_T32 l0 x7_2).f0) ((rd_T32 l0 x7_2).f1) ((rd_T32 l0 x7_2).f2) ((rd_T32 l0 x7_2).f3) ((rd_T32 l0 x7_2).f4.f0) ((rd_T32 l0 x7_2).f4.f1) ((rd_T32 l0 x7_2).f4.f2) false _ A24.out).mono ?_); rintro e w37 ⟨rfl, hb⟩; refine ⟨_, rfl, ?_⟩; have n0_ := Aside0.mk (Kd.R_below (by (with_reducible repeat (first | apply Kd.R_alloc | apply Kd.R_drewN | apply Kd.R_drew)); exact HO_5.out) hb); have n1_ := Aside0.mk (below_step (by repeat (first | (with_reducible first | exact HB.out | apply below_alloc | apply pw_below_drewN | apply below_drew1) | exact HB.out)) hb); clear HO_5; clear HB; have HO_5 := n0_; have HB := n1_; clear n0_ n1_; (try clear hb); (try clear hb2); (try clear hk); (try clear hi); have p33 : 0 ≤ ((ji30) : Int) := of_decide_eq_true (by first | (with_reducible assumption) | assumption); have q33 : ((ji30) : Int) < ((x5_2.length : Int) : Int) := of_decide_eq_true (by first | (with_reducible assumption) | assumption); obtain ⟨hx33_0, hf33_0⟩ := Kd.R_celln false HO_5.out ((ji30) : Int) p33 q33; replace p33 := eq_true p33; replace q33 := eq_true q33; obtain ⟨hy38_, hz38_⟩ := Kd.R_celln false HO_5.out ((ji30) : Int) (of_decide_eq_true (by first | (with_reducible assumption) | assumption)) (of_decide_eq_true (by first | (with_reducible assumption) | assumption)); have HP38 := Kd.R_putg HO_5.out ((ji30) : Int) true) | ((with_reducible refine gate_store (t := 4) (p := 60) rfl ?_); refine store_event (t := 4) (p := 60) (v := ?vo_w39) (w1 := (w37.setCell ⟨go7, ((ji30) : Int).toNat, none⟩ (.bool true))) ?hg ?ho ?hn ?hr ?_; (case ho => rfl); (case hg => rfl); (case hn => rfl); (case hr => first | (go_simp; done) | (go_simp; rfl)); intro w39 hw; have hg : w37.grownBy w39 (some go7) := (by rw [hw]; exact HP38.2); have hp_ : Kd.R Kd.bool 4 w39 w.heap.size (fun _ => True) (.slice (some ⟨go7, 0, none⟩) x5_2.length co7) y307 := (by rw [hw, Ny307.out]; exact HP38.1); clear HP38; have n0_ := Aside0.mk (hp_); have n1_ := Aside0.mk ((by rw [hw]; exact below_set (HB.out) GB7.out : Below w.heap.size w w39)); clear HO_5; clear HB; have HO_5 := n0_; have HB := n1_; clear n0_ n1_; clear hg hw hp_))
                                        (try simp only [← hl5_2])
                                        go_roundg k2
                                        case measure => have := HK1.out; have := HK2.out; omega
                                        case rel => exact ⟨(y307), (ji30), (by first | rfl | (simp; done) | (simp only [← hji30] <;> (first | rfl | simp)) | (simp [*]; done)), H', ⟨by have := HK1.out; have := HK2.out; omega⟩, ⟨by (try simp only [hl5_1]); (try simp only [hl5_2]); (with_reducible repeat (first | apply Kd.R_alloc | apply Kd.R_drewN | apply Kd.R_drew)); exact HO_5.out⟩, ⟨by repeat (first | (with_reducible first | exact HB.out | apply below_alloc | apply pw_below_drewN | apply below_drew1) | exact HB.out)⟩⟩
                                      · rw [if_neg c32] at H
                                        exact absurd H (by simp)
                                    · rw [if_neg c31] at H
                                      exact absurd H (by simp)
                                · rw [if_neg c22] at H
                                  exact absurd H (by simp)
                              · rw [if_neg c21] at H
                                exact absurd H (by simp)
                            · replace c20 := Bool.eq_false_iff.mpr c20
                              subst c20
                              have H1 : ((factotumref15_ends.f ((rd_T32 l0 x7_2).f0) ((rd_T32 l0 x7_2).f1) ((rd_T32 l0 x7_2).f2) ((rd_T32 l0 x7_2).f3) ((rd_T32 l0 x7_2).f4.f0) ((rd_T32 l0 x7_2).f4.f1) ((rd_T32 l0 x7_2).f4.f2)).bind fun t309 => (if t309 = true then (factotumref15_Reached.l1 k2 l0 x5_2 x6_1 (wrap64 (x7_2 + 1))) else (if 0 ≤ (wrap64 (x7_2 + 1)) then (if (wrap64 (x7_2 + 1)) < (x5_2.length : Int) then (factotumref15_Reached.l1 k2 l0 (x5_2.set ((wrap64 (x7_2 + 1)) : Int).toNat true) x6_1 (wrap64 (x7_2 + 1))) else (none)) else (none)))) = some r := by rw [if_neg (show ¬ (false = true) by decide)] at H; exact H
                              clear H
                              have H := H1
                              clear H1
                              replace H := Option.bind_eq_some_iff.mp H
                              obtain ⟨t309, A400, H⟩ := H
                              replace H : (if t309 = true then (factotumref15_Reached.l1 k2 l0 x5_2 x6_1 (wrap64 (x7_2 + 1))) else (if 0 ≤ (wrap64 (x7_2 + 1)) then (if (wrap64 (x7_2 + 1)) < (x5_2.length : Int) then (factotumref15_Reached.l1 k2 l0 (x5_2.set ((wrap64 (x7_2 + 1)) : Int).toNat true) x6_1 (wrap64 (x7_2 + 1))) else (none)) else (none))) = some r := H
                              have A40 := Aside0.mk A400
                              clear A400
                              by_cases c41 : t309 = true
                              · subst c41
                                have H1 : (factotumref15_Reached.l1 k2 l0 x5_2 x6_1 (wrap64 (x7_2 + 1))) = some r := by rw [if_pos rfl] at H; exact H
                                clear H
                                have H := H1
                                clear H1
                                have H' := Aside0.mk H
                                clear H
                                have p300 : 0 ≤ (x7_2 : Int) := of_decide_eq_true (by first | (with_reducible assumption) | assumption)
                                have q300 : x7_2 < (x5_2.length : Int) := of_decide_eq_true (by first | (with_reducible assumption) | assumption)
                                obtain ⟨ad300, e300, hx300_0⟩ := Kd.at_bool (Kd.R_reads' HO_5.out).2.2 x7_2 p300 q300
                                (try rw [← Nbq17.out] at hx300_0)
                                obtain rfl : (⟨go7, 0, none⟩ : Addr) = ad300 := (by injection e300)
                                (first | simp only [add_plain] at hx300_0 | simp only [add_at] at hx300_0 | simp only [Addr.add, Nat.zero_add] at hx300_0 | skip)
                                replace p300 := eq_true p300
                                replace q300 := eq_true q300
                                have p301 : 0 ≤ (x7_2 : Int) := of_decide_eq_true (by first | (with_reducible assumption) | assumption)
                                have q301 : x7_2 < (l0.length : Int) := of_decide_eq_true (by first | (with_reducible assumption) | assumption)
                                obtain ⟨ad301, e301, hx301_0, hx301_1, hx301_2, hx301_3, hx301_4, hx301_5, hx301_6⟩ := at_T32 HR0.out x7_2 p301 q301
                                cases e301
                                replace hx301_0 := (HB.out.cell (World.block_lt_of_cell? w _ hx301_0)).trans hx301_0
                                replace hx301_1 := (HB.out.cell (World.block_lt_of_cell? w _ hx301_1)).trans hx301_1
                                replace hx301_2 := (HB.out.cell (World.block_lt_of_cell? w _ hx301_2)).trans hx301_2
                                replace hx301_3 := (HB.out.cell (World.block_lt_of_cell? w _ hx301_3)).trans hx301_3
                                replace hx301_4 := (HB.out.cell (World.block_lt_of_cell? w _ hx301_4)).trans hx301_4
                                replace hx301_5 := (HB.out.cell (World.block_lt_of_cell? w _ hx301_5)).trans hx301_5
                                replace hx301_6 := (HB.out.cell (World.block_lt_of_cell? w _ hx301_6)).trans hx301_6
                                replace p301 := eq_true p301
                                replace q301 := eq_true q301
                                go_wp2_with (first | ((with_reducible refine gate_callee (f := 12) rfl ?_); refine goesL_ (some 44) rfl rfl Tryd.func12 (by kernel_rfl) rfl #[.agg #[.int .i64 ((rd_T32 l0 x7_2).f0), .int .i64 ((rd_T32 l0 x7_2).f1), .int .i64 ((rd_T32 l0 x7_2).f2), .int .i64 ((rd_T32 l0 x7_2).f3), .int .i64 ((rd_T32 l0 x7_2).f4.f0), .int .i64 ((rd_T32 l0 x7_2).f4.f1), .string ((rd_T32 l0 x7_2).f4.f2)]] rfl (by (try simp only [List.map_toArray, List.map_cons, List.map_nil]); first | done | rfl | (simp only [List.length_drop, List.length_take]; rfl) | (simp (disch := omega) only [u64_in]; rfl)) ?_; (with_reducible refine (factotumref15_Target.calls ((rd_T32 l0 x7_2).f0) ((rd_T32 l0 x7_2).f1) ((rd_T32 l0 x7_2).f2) ((rd_T32 l0 x7_2).f3) ((rd_T32 l0 x7_2).f4.f0) ((rd_T32 l0 x7_2).f4.f1) ((rd_T32 l0 x7_2).f4.f2) t302 false _ A19.out).mono ?_); rintro e w42 ⟨rfl, hb⟩; refine ⟨_, rfl, ?_⟩; have n0_ := Aside0.mk (Kd.R_below (by (with_reducible repeat (first | apply Kd.R_alloc | apply Kd.R_drewN | apply Kd.R_drew)); exact HO_5.out) hb); have n1_ := Aside0.mk (below_step (by repeat (first | (with_reducible first | exact HB.out | apply below_alloc | apply pw_below_drewN | apply below_drew1) | exact HB.out)) hb); clear HO_5; clear HB; have HO_5 := n0_; have HB := n1_; clear n0_ n1_; (try clear hb); (try clear hb2); (try clear hk); (try clear hi); have p308 : 0 ≤ (x7_2 : Int) := of_decide_eq_true (by first | (with_reducible assumption) | assumption); have q308 : x7_2 < (l0.length : Int) := of_decide_eq_true (by first | (with_reducible assumption) | assumption); obtain ⟨ad308, e308, hx308_0, hx308_1, hx308_2, hx308_3, hx308_4, hx308_5, hx308_6⟩ := at_T32 HR0.out x7_2 p308 q308; obtain rfl : ad301 = ad308 := (by injection e308); replace hx308_0 := (HB.out.cell (World.block_lt_of_cell? w _ hx308_0)).trans hx308_0; replace hx308_1 := (HB.out.cell (World.block_lt_of_cell? w _ hx308_1)).trans hx308_1; replace hx308_2 := (HB.out.cell (World.block_lt_of_cell? w _ hx308_2)).trans hx308_2; replace hx308_3 := (HB.out.cell (World.block_lt_of_cell? w _ hx308_3)).trans hx308_3; replace hx308_4 := (HB.out.cell (World.block_lt_of_cell? w _ hx308_4)).trans hx308_4; replace hx308_5 := (HB.out.cell (World.block_lt_of_cell? w _ hx308_5)).trans hx308_5; replace hx308_6 := (HB.out.cell (World.block_lt_of_cell? w _ hx308_6)).trans hx308_6; replace p308 := eq_true p308; replace q308 := eq_true q308) | ((with_reducible refine gate_callee (f := 26) rfl ?_); refine goesL_ (some 55) rfl rfl Tryd.func26 (by kernel_rfl) rfl #[.agg #[.int .i64 ((rd_T32 l0 x7_2).f0), .int .i64 ((rd_T32 l0 x7_2).f1), .int .i64 ((rd_T32 l0 x7_2).f2), .int .i64 ((rd_T32 l0 x7_2).f3), .int .i64 ((rd_T32 l0 x7_2).f4.f0), .int .i64 ((rd_T32 l0 x7_2).f4.f1), .string ((rd_T32 l0 x7_2).f4.f2)]] rfl (by (try simp only [List.map_toArray, List.map_cons, List.map_nil]); first | done | rfl | (simp only [List.length_drop, List.length_take]; rfl) | (simp (disch := omega) only [u64_in]; rfl)) ?_; (with_reducible refine (factotumref15_ends.calls ((rd_T32 l0 x7_2).f0) ((rd_T32 l0 x7_2).f1) ((rd_T32 l0 x7_2).f2) ((rd_T32 l0 x7_2).f3) ((rd_T32 l0 x7_2).f4.f0) ((rd_T32 l0 x7_2).f4.f1) ((rd_T32 l0 x7_2).f4.f2) true _ A40.out).mono ?_); rintro e w43 ⟨rfl, hb⟩; refine ⟨_, rfl, ?_⟩; have n0_ := Aside0.mk (Kd.R_below (by (with_reducible repeat (first | apply Kd.R_alloc | apply Kd.R_drewN | apply Kd.R_drew)); exact HO_5.out) hb); have n1_ := Aside0.mk (below_step (by repeat (first | (with_reducible first | exact HB.out | apply below_alloc | apply pw_below_drewN | apply below_drew1) | exact HB.out)) hb); clear HO_5; clear HB; have HO_5 := n0_; have HB := n1_; clear n0_ n1_; (try clear hb); (try clear hb2); (try clear hk); (try clear hi)))
                                (try simp only [← hl5_2])
                                go_roundg k2
                                case measure => have := HK1.out; have := HK2.out; omega
                                case rel => exact ⟨(x5_2), (wrap64 (x7_2 + 1)), (by first | (with_reducible rfl) | (simp; done) | (simp [*]; done) | rfl | (simp only [not_isEmpty_bne])), H', ⟨by have := HK1.out; have := HK2.out; omega⟩, ⟨by (try simp only [hl5_1]); (try simp only [hl5_2]); (with_reducible repeat (first | apply Kd.R_alloc | apply Kd.R_drewN | apply Kd.R_drew)); exact HO_5.out⟩, ⟨by repeat (first | (with_reducible first | exact HB.out | apply below_alloc | apply pw_below_drewN | apply below_drew1) | exact HB.out)⟩⟩
                              · replace c41 := Bool.eq_false_iff.mpr c41
                                subst c41
                                have H1 : (if 0 ≤ (wrap64 (x7_2 + 1)) then (if (wrap64 (x7_2 + 1)) < (x5_2.length : Int) then (factotumref15_Reached.l1 k2 l0 (x5_2.set ((wrap64 (x7_2 + 1)) : Int).toNat true) x6_1 (wrap64 (x7_2 + 1))) else (none)) else (none)) = some r := by rw [if_neg (show ¬ (false = true) by decide)] at H; exact H
                                clear H
                                have H := H1
                                clear H1
                                obtain ⟨ji44, hji44⟩ : ∃ j_ : Int, (wrap64 (x7_2 + 1)) = j_ := ⟨_, rfl⟩
                                replace H : (if 0 ≤ (ji44) then (if (ji44) < (x5_2.length : Int) then (factotumref15_Reached.l1 k2 l0 (x5_2.set ((ji44) : Int).toNat true) x6_1 ji44) else (none)) else (none)) = some r := by first | (rw [hji44] at H; exact H) | (simp only [hji44] at H ⊢; exact H)
                                (try rw [hji44] at A19)
                                (try rw [hji44] at A40)
                                have hji44w : (IntKind.i64.wrap (x7_2 + 1)) = ji44 := (i64_w _).trans hji44
                                by_cases c45 : 0 ≤ (ji44)
                                · rw [if_pos c45] at H
                                  have c45b0 : decide (0 ≤ (ji44)) = true := decide_eq_true c45
                                  clear c45
                                  by_cases c46 : (ji44) < (x5_2.length : Int)
                                  · rw [if_pos c46] at H
                                    have c46b0 : decide ((ji44) < (x5_2.length : Int)) = true := decide_eq_true c46
                                    clear c46
                                    obtain ⟨y310, hy310⟩ : ∃ y_ : List Bool, y_ = (x5_2.set ((ji44) : Int).toNat true) := ⟨_, rfl⟩
                                    replace H : (factotumref15_Reached.l1 k2 l0 y310 x6_1 ji44) = some r := by first | (rw [hy310]; with_reducible exact H) | (have H2_ := (Option.bind_some _ _).symm.trans H; rw [hy310]; with_reducible exact H2_) | (have H2_ := (Option.bind_some _ _).symm.trans H; with_reducible exact H2_) | with_reducible exact H | (rw [hy310]; exact H) | exact H
                                    have Ny310 := Aside0.mk hy310
                                    clear hy310
                                    have H' := Aside0.mk H
                                    clear H
                                    have p300 : 0 ≤ (x7_2 : Int) := of_decide_eq_true (by first | (with_reducible assumption) | assumption)
                                    have q300 : x7_2 < (x5_2.length : Int) := of_decide_eq_true (by first | (with_reducible assumption) | assumption)
                                    obtain ⟨ad300, e300, hx300_0⟩ := Kd.at_bool (Kd.R_reads' HO_5.out).2.2 x7_2 p300 q300
                                    (try rw [← Nbq17.out] at hx300_0)
                                    obtain rfl : (⟨go7, 0, none⟩ : Addr) = ad300 := (by injection e300)
                                    (first | simp only [add_plain] at hx300_0 | simp only [add_at] at hx300_0 | simp only [Addr.add, Nat.zero_add] at hx300_0 | skip)
                                    replace p300 := eq_true p300
                                    replace q300 := eq_true q300
                                    have p301 : 0 ≤ (x7_2 : Int) := of_decide_eq_true (by first | (with_reducible assumption) | assumption)
                                    have q301 : x7_2 < (l0.length : Int) := of_decide_eq_true (by first | (with_reducible assumption) | assumption)
                                    obtain ⟨ad301, e301, hx301_0, hx301_1, hx301_2, hx301_3, hx301_4, hx301_5, hx301_6⟩ := at_T32 HR0.out x7_2 p301 q301
                                    cases e301
                                    replace hx301_0 := (HB.out.cell (World.block_lt_of_cell? w _ hx301_0)).trans hx301_0
                                    replace hx301_1 := (HB.out.cell (World.block_lt_of_cell? w _ hx301_1)).trans hx301_1
                                    replace hx301_2 := (HB.out.cell (World.block_lt_of_cell? w _ hx301_2)).trans hx301_2
                                    replace hx301_3 := (HB.out.cell (World.block_lt_of_cell? w _ hx301_3)).trans hx301_3
                                    replace hx301_4 := (HB.out.cell (World.block_lt_of_cell? w _ hx301_4)).trans hx301_4
                                    replace hx301_5 := (HB.out.cell (World.block_lt_of_cell? w _ hx301_5)).trans hx301_5
                                    replace hx301_6 := (HB.out.cell (World.block_lt_of_cell? w _ hx301_6)).trans hx301_6
                                    replace p301 := eq_true p301
                                    replace q301 := eq_true q301
                                    go_wp2_with (first | ((with_reducible refine gate_callee (f := 12) rfl ?_); refine goesL_ (some 44) rfl rfl Tryd.func12 (by kernel_rfl) rfl #[.agg #[.int .i64 ((rd_T32 l0 x7_2).f0), .int .i64 ((rd_T32 l0 x7_2).f1), .int .i64 ((rd_T32 l0 x7_2).f2), .int .i64 ((rd_T32 l0 x7_2).f3), .int .i64 ((rd_T32 l0 x7_2).f4.f0), .int .i64 ((rd_T32 l0 x7_2).f4.f1), .string ((rd_T32 l0 x7_2).f4.f2)]] rfl (by (try simp only [List.map_toArray, List.map_cons, List.map_nil]); first | done | rfl | (simp only [List.length_drop, List.length_take]; rfl) | (simp (disch := omega) only [u64_in]; rfl)) ?_; (with_reducible refine (factotumref15_Target.calls ((rd_T32 l0 x7_2).f0) ((rd_T32 l0 x7_2).f1) ((rd_T32 l0 x7_2).f2) ((rd_T32 l0 x7_2).f3) ((rd_T32 l0 x7_2).f4.f0) ((rd_T32 l0 x7_2).f4.f1) ((rd_T32 l0 x7_2).f4.f2) t302 false _ A19.out).mono ?_); rintro e w48 ⟨rfl, hb⟩; refine ⟨_, rfl, ?_⟩; have n0_ := Aside0.mk (Kd.R_below (by (with_reducible repeat (first | apply Kd.R_alloc | apply Kd.R_drewN | apply Kd.R_drew)); exact HO_5.out) hb); have n1_ := Aside0.mk (below_step (by repeat (first | (with_reducible first | exact HB.out | apply below_alloc | apply pw_below_drewN | apply below_drew1) | exact HB.out)) hb); clear HO_5; clear HB; have HO_5 := n0_; have HB := n1_; clear n0_ n1_; (try clear hb); (try clear hb2); (try clear hk); (try clear hi); have p308 : 0 ≤ (x7_2 : Int) := of_decide_eq_true (by first | (with_reducible assumption) | assumption); have q308 : x7_2 < (l0.length : Int) := of_decide_eq_true (by first | (with_reducible assumption) | assumption); obtain ⟨ad308, e308, hx308_0, hx308_1, hx308_2, hx308_3, hx308_4, hx308_5, hx308_6⟩ := at_T32 HR0.out x7_2 p308 q308; obtain rfl : ad301 = ad308 := (by injection e308); replace hx308_0 := (HB.out.cell (World.block_lt_of_cell? w _ hx308_0)).trans hx308_0; replace hx308_1 := (HB.out.cell (World.block_lt_of_cell? w _ hx308_1)).trans hx308_1; replace hx308_2 := (HB.out.cell (World.block_lt_of_cell? w _ hx308_2)).trans hx308_2; replace hx308_3 := (HB.out.cell (World.block_lt_of_cell? w _ hx308_3)).trans hx308_3; replace hx308_4 := (HB.out.cell (World.block_lt_of_cell? w _ hx308_4)).trans hx308_4; replace hx308_5 := (HB.out.cell (World.block_lt_of_cell? w _ hx308_5)).trans hx308_5; replace hx308_6 := (HB.out.cell (World.block_lt_of_cell? w _ hx308_6)).trans hx308_6; replace p308 := eq_true p308; replace q308 := eq_true q308) | ((with_reducible refine gate_callee (f := 26) rfl ?_); refine goesL_ (some 55) rfl rfl Tryd.func26 (by kernel_rfl) rfl #[.agg #[.int .i64 ((rd_T32 l0 x7_2).f0), .int .i64 ((rd_T32 l0 x7_2).f1), .int .i64 ((rd_T32 l0 x7_2).f2), .int .i64 ((rd_T32 l0 x7_2).f3), .int .i64 ((rd_T32 l0 x7_2).f4.f0), .int .i64 ((rd_T32 l0 x7_2).f4.f1), .string ((rd_T32 l0 x7_2).f4.f2)]] rfl (by (try simp only [List.map_toArray, List.map_cons, List.map_nil]); first | done | rfl | (simp only [List.length_drop, List.length_take]; rfl) | (simp (disch := omega) only [u64_in]; rfl)) ?_; (with_reducible refine (factotumref15_ends.calls ((rd_T32 l0 x7_2).f0) ((rd_T32 l0 x7_2).f1) ((rd_T32 l0 x7_2).f2) ((rd_T32 l0 x7_2).f3) ((rd_T32 l0 x7_2).f4.f0) ((rd_T32 l0 x7_2).f4.f1) ((rd_T32 l0 x7_2).f4.f2) false _ A40.out).mono ?_); rintro e w49 ⟨rfl, hb⟩; refine ⟨_, rfl, ?_⟩; have n0_ := Aside0.mk (Kd.R_below (by (with_reducible repeat (first | apply Kd.R_alloc | apply Kd.R_drewN | apply Kd.R_drew)); exact HO_5.out) hb); have n1_ := Aside0.mk (below_step (by repeat (first | (with_reducible first | exact HB.out | apply below_alloc | apply pw_below_drewN | apply below_drew1) | exact HB.out)) hb); clear HO_5; clear HB; have HO_5 := n0_; have HB := n1_; clear n0_ n1_; (try clear hb); (try clear hb2); (try clear hk); (try clear hi); have p47 : 0 ≤ ((ji44) : Int) := of_decide_eq_true (by first | (with_reducible assumption) | assumption); have q47 : ((ji44) : Int) < ((x5_2.length : Int) : Int) := of_decide_eq_true (by first | (with_reducible assumption) | assumption); obtain ⟨hx47_0, hf47_0⟩ := Kd.R_celln false HO_5.out ((ji44) : Int) p47 q47; replace p47 := eq_true p47; replace q47 := eq_true q47; obtain ⟨hy50_, hz50_⟩ := Kd.R_celln false HO_5.out ((ji44) : Int) (of_decide_eq_true (by first | (with_reducible assumption) | assumption)) (of_decide_eq_true (by first | (with_reducible assumption) | assumption)); have HP50 := Kd.R_putg HO_5.out ((ji44) : Int) true) | ((with_reducible refine gate_store (t := 4) (p := 60) rfl ?_); refine store_event (t := 4) (p := 60) (v := ?vo_w51) (w1 := (w49.setCell ⟨go7, ((ji44) : Int).toNat, none⟩ (.bool true))) ?hg ?ho ?hn ?hr ?_; (case ho => rfl); (case hg => rfl); (case hn => rfl); (case hr => first | (go_simp; done) | (go_simp; rfl)); intro w51 hw; have hg : w49.grownBy w51 (some go7) := (by rw [hw]; exact HP50.2); have hp_ : Kd.R Kd.bool 4 w51 w.heap.size (fun _ => True) (.slice (some ⟨go7, 0, none⟩) x5_2.length co7) y310 := (by rw [hw, Ny310.out]; exact HP50.1); clear HP50; have n0_ := Aside0.mk (hp_); have n1_ := Aside0.mk ((by rw [hw]; exact below_set (HB.out) GB7.out : Below w.heap.size w w51)); clear HO_5; clear HB; have HO_5 := n0_; have HB := n1_; clear n0_ n1_; clear hg hw hp_))
                                    (try simp only [← hl5_2])
                                    go_roundg k2
                                    case measure => have := HK1.out; have := HK2.out; omega
                                    case rel => exact ⟨(y310), (ji44), (by first | rfl | (simp; done) | (simp only [← hji44] <;> (first | rfl | simp)) | (simp [*]; done)), H', ⟨by have := HK1.out; have := HK2.out; omega⟩, ⟨by (try simp only [hl5_1]); (try simp only [hl5_2]); (with_reducible repeat (first | apply Kd.R_alloc | apply Kd.R_drewN | apply Kd.R_drew)); exact HO_5.out⟩, ⟨by repeat (first | (with_reducible first | exact HB.out | apply below_alloc | apply pw_below_drewN | apply below_drew1) | exact HB.out)⟩⟩
                                  · rw [if_neg c46] at H
                                    exact absurd H (by simp)
                                · rw [if_neg c45] at H
                                  exact absurd H (by simp)
                          · replace c18 := Bool.eq_false_iff.mpr c18
                            subst c18
                            have H1 : (factotumref15_Reached.l1 k2 l0 x5_2 x6_1 (wrap64 (x7_2 + 1))) = some r := by rw [if_neg (show ¬ (false = true) by decide)] at H; exact H
                            clear H
                            have H := H1
                            clear H1
                            have H' := Aside0.mk H
                            clear H
                            have p300 : 0 ≤ (x7_2 : Int) := of_decide_eq_true (by first | (with_reducible assumption) | assumption)
                            have q300 : x7_2 < (x5_2.length : Int) := of_decide_eq_true (by first | (with_reducible assumption) | assumption)
                            obtain ⟨ad300, e300, hx300_0⟩ := Kd.at_bool (Kd.R_reads' HO_5.out).2.2 x7_2 p300 q300
                            (try rw [← Nbq17.out] at hx300_0)
                            obtain rfl : (⟨go7, 0, none⟩ : Addr) = ad300 := (by injection e300)
                            (first | simp only [add_plain] at hx300_0 | simp only [add_at] at hx300_0 | simp only [Addr.add, Nat.zero_add] at hx300_0 | skip)
                            replace p300 := eq_true p300
                            replace q300 := eq_true q300
                            go_wp2
                            (try simp only [← hl5_2])
                            go_roundg k2
                            case measure => have := HK1.out; have := HK2.out; omega
                            case rel => exact ⟨(x5_2), (wrap64 (x7_2 + 1)), (by first | (with_reducible rfl) | (simp; done) | (simp [*]; done) | rfl | (simp only [not_isEmpty_bne])), H', ⟨by have := HK1.out; have := HK2.out; omega⟩, ⟨by (try simp only [hl5_1]); (try simp only [hl5_2]); (with_reducible repeat (first | apply Kd.R_alloc | apply Kd.R_drewN | apply Kd.R_drew)); exact HO_5.out⟩, ⟨by repeat (first | (with_reducible first | exact HB.out | apply below_alloc | apply pw_below_drewN | apply below_drew1) | exact HB.out)⟩⟩
                        · rw [if_neg c16] at H
                          exact absurd H (by simp)
                      · rw [if_neg c15] at H
                        exact absurd H (by simp)
                    · rw [if_neg c14] at H
                      have c14b0 : decide (x7_2 < (l0.length : Int)) = false := decide_eq_false c14
                      clear c14
                      have H' := Aside0.mk H
                      clear H
                      go_wp2
                      (try simp only [← hl5_1, ← hl5_2])
                      go_roundg k2
                      case measure => have := HK1.out; have := HK2.out; omega
                      case rel => exact ⟨(x5_2), (wrap64 (x6_1 + 1)), (by first | (with_reducible rfl) | (simp; done) | (simp [*]; done) | rfl | (simp only [not_isEmpty_bne])), H', ⟨by have := HK1.out; have := HK2.out; omega⟩, ⟨by (try simp only [hl5_1]); (try simp only [hl5_2]); (with_reducible repeat (first | apply Kd.R_alloc | apply Kd.R_drewN | apply Kd.R_drew)); exact HO_5.out⟩, ⟨by repeat (first | (with_reducible first | exact HB.out | apply below_alloc | apply pw_below_drewN | apply below_drew1) | exact HB.out)⟩⟩
              · rw [if_neg c13] at H
                have c13b0 : decide (x6_1 < (l0.length : Int)) = false := decide_eq_false c13
                clear c13
                obtain rfl := Option.some.inj H
                go_wp2
                go_ret
                exact ⟨_, by first | (with_reducible rfl) | (simp only [isEmpty_bne, Bool.not_not] <;> with_reducible rfl) | (simp [errW_none, errW_some] <;> with_reducible rfl) | (simp only [isEmpty_bne, Bool.not_not] <;> rfl) | rfl | (simp [errW_none, errW_some] <;> rfl) | (simp [*, errW_none, errW_some] <;> rfl), by (with_reducible repeat (first | apply Kd.R_alloc | apply Kd.R_drewN | apply Kd.R_drew)); exact HO_5.out, by repeat (first | (with_reducible first | exact HB.out | apply below_alloc | apply pw_below_drewN | apply below_drew1) | exact HB.out)⟩
        · rw [if_neg c6] at H
          exact absurd H (by simp)
      · rw [if_neg c5] at H
        exact absurd H (by simp)
    · rw [if_neg c4] at H
      exact absurd H (by simp)
  · rw [if_neg c3] at H
    have c3b0 : (t294 == 0) = false := beq_eq_false_iff_ne.mpr c3
    have c3b1 : (t294 != 0) = true := bne_iff_ne.mpr c3
    obtain rfl := Option.some.inj H
    go_enter Tryd.func17, Tryd.ntmps17
    go_wp2_with (first | ((with_reducible refine gate_callee (f := 10) rfl ?_); refine goesL_ (some 12) rfl rfl Tryd.func10 (by kernel_rfl) rfl #[.slice A0 l0.length c0] rfl (by (try simp only [List.map_toArray, List.map_cons, List.map_nil]); first | done | rfl | (simp only [List.length_drop, List.length_take]; rfl) | (simp (disch := omega) only [u64_in]; rfl)) ?_; (with_reducible refine (factotumref15_Check.calls k _ _ l0 t294 t295 _ ?side1 ?side2 A2.out).mono ?_); (case side1 => repeat (first | exact HR0.out | (with_reducible refine Kd.C_alloc ?_ _) | (with_reducible refine Kd.C_drewN ?_ _) | (with_reducible refine Kd.C_drew ?_))); (case side2 => exact HC0.out); rintro e w52 ⟨rfl, hb⟩; refine ⟨_, rfl, ?_⟩; have n0_ := Aside0.mk (below_step (by repeat (first | (with_reducible first | exact HB.out | apply below_alloc | apply pw_below_drewN | apply below_drew1) | exact HB.out)) hb); clear HB; have HB := n0_; clear n0_; (try clear hb); (try clear hb2); (try clear hk); (try clear hi)))
    go_ret
    exact ⟨_, by first | (with_reducible rfl) | (simp only [isEmpty_bne, Bool.not_not] <;> with_reducible rfl) | (simp [errW_none, errW_some] <;> with_reducible rfl) | (simp only [isEmpty_bne, Bool.not_not] <;> rfl) | rfl | (simp [errW_none, errW_some] <;> rfl) | (simp [*, errW_none, errW_some] <;> rfl), by first | exact Kd.R_nil _ _ _ _ _ | exact Kd.N_nil _ _ _ _ _ | exact Kd.V_nil _ _ _ _ _ | exact Kd.Q_nil _ _ _ _ _ | exact Kd.S_nil _ _ _ _ _, by repeat (first | (with_reducible first | exact HB.out | apply below_alloc | apply pw_below_drewN | apply below_drew1) | exact HB.out)⟩

end Go.Proofs.YtbdmfpgiolaooaaDoor.PAll
