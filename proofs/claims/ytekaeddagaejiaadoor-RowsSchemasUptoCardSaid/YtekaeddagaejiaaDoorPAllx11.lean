/- Printed walks of the functions that the laws reach: each function, what it computes, and that it does. No conditions. -/
import Derived.Test.YtekaeddagaejiaaDoorPAllx0
import Derived.Test.YtekaeddagaejiaaDoorPAllx10
namespace Go.Proofs.YtekaeddagaejiaaDoor.PAll
open Go.RowKit Go.Proofs.YtekaeddagaejiaaDoor.XW Go.Proofs.YtekaeddagaejiaaDoor.XLib Go.Proofs.YtekaeddagaejiaaDoorW.PrintWords Go.Proofs.YtekaeddagaejiaaDoorW.PrintLast Go.Proofs.YtekaeddagaejiaaDoorW.PrintMore
attribute [local go_sem] max2_int min2_int max_two min_two max_three min_three max_four min_four   -- for this text's walks alone
set_option linter.unusedVariables false
set_option linter.unusedSimpArgs false

/-! ### factotumref01_Num: function 39 -/
def factotumref01_Num.l0 : Nat → Int → List Int → Int → Option (ByteArray)
  | 0, _, _, _ => none
  | k + 1, x0, x5, x6 => if x6 ≥ 0 then (if 0 ≤ x6 then (if x6 < (x5.length : Int) then (factotumref01_Num.l0 k (IntKind.u64.wrap (Int.tdiv x0 256)) (x5.set (x6 : Int).toNat ((Int.tmod x0 256) % 256)) (wrap64 (x6 - 1))) else (none)) else (none)) else (some (strOfNums x5))
def factotumref01_Num.f (k : Nat) (a0 : Int) (a1 : Int) : Option (ByteArray) := (factotumref01_size.f a1).bind fun t277 => (if 0 ≤ t277 then (if (t277 : Int).toNat ≤ 281474976710656 then (factotumref01_Num.l0 k a0 (List.replicate (t277 : Int).toNat 0) (wrap64 (t277 - 1))) else (none)) else (none))
theorem factotumref01_Num.mono_l : ∀ k, (∀ y0 y1 y2, LeO (factotumref01_Num.l0 k y0 y1 y2) (factotumref01_Num.l0 (k + 1) y0 y1 y2))
  | 0 => fun _ _ _ r h => by simp [factotumref01_Num.l0] at h
  | k + 1 => by
    have ih0 := factotumref01_Num.mono_l k
    · intro y0 y1 y2
      unfold factotumref01_Num.l0
      repeat' first
      | (with_reducible exact ih0 _ _ _)
      | (with_reducible exact LeO.refl _)
      | (with_reducible exact LeO.none _)
      | (with_reducible refine LeO.ite ?_ ?_)
      | (with_reducible refine LeO.bind ?_ (fun _ => ?_))
      | exact ih0 _ _ _
      | exact LeO.none _
      | refine LeO.ite ?_ ?_
      | refine LeO.bind ?_ (fun _ => ?_)
theorem factotumref01_Num.mono : ∀ a0 a1 k, LeO (factotumref01_Num.f k a0 a1) (factotumref01_Num.f (k + 1) a0 a1) := by
  intro a0 a1 k
  have ih0 := factotumref01_Num.mono_l k
  unfold factotumref01_Num.f
  repeat' first
      | (with_reducible exact ih0 _ _ _)
      | (with_reducible exact LeO.refl _)
      | (with_reducible exact LeO.none _)
      | (with_reducible refine LeO.ite ?_ ?_)
      | (with_reducible refine LeO.bind ?_ (fun _ => ?_))
      | exact ih0 _ _ _
      | exact LeO.none _
      | refine LeO.ite ?_ ?_
      | refine LeO.bind ?_ (fun _ => ?_)
set_option maxHeartbeats 8000000 in
set_option maxRecDepth 100000 in
theorem factotumref01_Num.calls (k : Nat) (a0 : Int) (a1 : Int) (r : ByteArray) (w : World) (h : factotumref01_Num.f k a0 a1 = some r) :
    Calls Tryd.prog 39 #[.int .u64 a0, .int .i64 a1] w fun e w' => e = .returned (.string r) ∧ Below w.heap.size w w' := by
  have HB := Aside0.mk (Below.refl w.heap.size w)
  have H : ((factotumref01_size.f a1).bind fun t277 => (if 0 ≤ t277 then (if (t277 : Int).toNat ≤ 281474976710656 then (factotumref01_Num.l0 k a0 (List.replicate (t277 : Int).toNat 0) (wrap64 (t277 - 1))) else (none)) else (none))) = some r := h
  clear h
  replace H := Option.bind_eq_some_iff.mp H
  obtain ⟨t277, A30, H⟩ := H
  replace H : (if 0 ≤ t277 then (if (t277 : Int).toNat ≤ 281474976710656 then (factotumref01_Num.l0 k a0 (List.replicate (t277 : Int).toNat 0) (wrap64 (t277 - 1))) else (none)) else (none)) = some r := H
  have A3 := Aside0.mk A30
  clear A30
  by_cases c4 : 0 ≤ t277
  · rw [if_pos c4] at H
    have c4b0 := eq_true c4
    have c4b1 : decide (0 ≤ t277) = true := decide_eq_true c4
    clear c4
    by_cases c5 : (t277 : Int).toNat ≤ 281474976710656
    · rw [if_pos c5] at H
      have c5b0 := eq_true c5
      have c5b1 : decide ((t277 : Int).toNat ≤ 281474976710656) = true := decide_eq_true c5
      clear c5
      obtain ⟨y278, hy278⟩ : ∃ y_ : List Int, y_ = (List.replicate (t277 : Int).toNat 0) := ⟨_, rfl⟩
      replace H : (factotumref01_Num.l0 k a0 y278 (wrap64 (t277 - 1))) = some r := by first | (rw [hy278]; with_reducible exact H) | (have H2_ := (Option.bind_some _ _).symm.trans H; rw [hy278]; with_reducible exact H2_) | (have H2_ := (Option.bind_some _ _).symm.trans H; with_reducible exact H2_) | with_reducible exact H | (rw [hy278]; exact H) | exact H
      have Ny278 := Aside0.mk hy278
      clear hy278
      have H' := Aside0.mk H
      clear H
      go_enter Tryd.func39, Tryd.ntmps39
      go_wp2_with (first | ((with_reducible refine gate_callee (f := 59) rfl ?_); refine goesL_ (some 8) rfl rfl Tryd.func59 (by kernel_rfl) rfl #[.int .i64 a1] rfl (by (try simp only [List.map_toArray, List.map_cons, List.map_nil]); first | done | rfl | (simp only [List.length_drop, List.length_take]; rfl) | (simp (disch := omega) only [u64_in]; rfl)) ?_; (with_reducible refine (factotumref01_size.calls a1 t277 _ A3.out).mono ?_); rintro e w6 ⟨rfl, hb⟩; refine ⟨_, rfl, ?_⟩; have n0_ := Aside0.mk (below_step (by repeat (first | (with_reducible first | exact HB.out | apply below_alloc | apply pw_below_drewN | apply below_drew1) | exact HB.out)) hb); clear HB; have HB := n0_; clear n0_; (try clear hb); (try clear hb2); (try clear hk); (try clear hi)) | ((with_reducible refine gate_dst (N := 10) rfl ?_); refine Kd.R_make (Kd.int .u8) _ 5 rfl (N := 10) rfl 58 _ _ rfl t277 rfl rfl Tryd.underlying58 (.int .u8 0) 1 info5 rfl (by decide) (by omega) 0 (ok := fun _ => True) (okp := fun _ => True) rfl (fun _ hk => hk) trivial (of_decide_eq_true (by first | (with_reducible assumption) | assumption)) (Nat.le_trans (Nat.mul_le_mul_right _ (of_decide_eq_true (by first | (with_reducible assumption) | assumption) : t277.toNat ≤ 281474976710656)) (by omega)) (Below.refl _ _) (Nat.le_refl _) ?_; intro v279 w7 ho8 hb hg_ hnew_; clear hg_ hnew_; (first | rw [← Ny278.out] at ho8 | (simp only [Int.reduceToNat] at ho8; rw [← Ny278.out] at ho8)); have n0_ := Aside0.mk (Kd.R_lower ho8 (below_size (by repeat (first | (with_reducible first | exact HB.out | apply below_alloc | apply pw_below_drewN | apply below_drew1) | exact HB.out)))); have n1_ := Aside0.mk (below_step (by repeat (first | (with_reducible first | exact HB.out | apply below_alloc | apply pw_below_drewN | apply below_drew1) | exact HB.out)) hb); clear HB; have HO280 := n0_; have HB := n1_; clear n0_ n1_; clear hb ho8))
      go_loopg [0, 6] k (fun kq v0 v6 w' => ∃ (x0_1 : Int) (x5_1 : List Int) (x6_1 : Int), v0 = .int .u64 x0_1 ∧ v6 = .int .i64 x6_1 ∧ Aside0 (factotumref01_Num.l0 kq x0_1 x5_1 x6_1 = some r) ∧ Aside0 (kq ≤ k) ∧ Aside0 (Kd.R (Kd.int .u8) 5 w' w.heap.size (fun _ => True) v279 x5_1) ∧ Aside0 (Below w.heap.size w w'))
      case atStart => exact ⟨(a0), (y278), (wrap64 (t277 - 1)), (by first | (with_reducible rfl) | (simp; done) | (simp [*]; done) | rfl), (by first | (with_reducible rfl) | (simp; done) | (simp [*]; done) | rfl), H', ⟨Nat.le_refl _⟩, ⟨by (with_reducible repeat (first | apply Kd.R_alloc | apply Kd.R_drewN | apply Kd.R_drew)); exact HO280.out⟩, ⟨by repeat (first | (with_reducible first | exact HB.out | apply below_alloc | apply pw_below_drewN | apply below_drew1) | exact HB.out)⟩⟩
      case round =>
        clear H'
        try clear p2
        try clear c3
        try clear c4
        try clear c4b0
        try clear c4b1
        try clear c5
        try clear c5b0
        try clear c5b1
        try clear p6
        obtain ⟨x0_1, x5_1, x6_1, rfl, rfl, HA, HK1, HO_5, HB⟩ := hrel
        cases gk with
        | zero => exact absurd HA.out (by simp [factotumref01_Num.l0])
        | succ k1 =>
          have H := HA.out
          clear HA
          simp only [factotumref01_Num.l0] at H
          by_cases c9 : x6_1 ≥ 0
          · rw [if_pos c9] at H
            have c9b0 : decide (0 ≤ x6_1) = true := decide_eq_true c9
            clear c9
            by_cases c10 : 0 ≤ x6_1
            · rw [if_pos c10] at H
              have c10b0 : decide (0 ≤ x6_1) = true := decide_eq_true c10
              clear c10
              by_cases c11 : x6_1 < (x5_1.length : Int)
              · rw [if_pos c11] at H
                have c11b0 : decide (x6_1 < (x5_1.length : Int)) = true := decide_eq_true c11
                clear c11
                obtain ⟨y281, hy281⟩ : ∃ y_ : List Int, y_ = (x5_1.set (x6_1 : Int).toNat ((Int.tmod x0_1 256) % 256)) := ⟨_, rfl⟩
                replace H : (factotumref01_Num.l0 k1 (IntKind.u64.wrap (Int.tdiv x0_1 256)) y281 (wrap64 (x6_1 - 1))) = some r := by first | (rw [hy281]; with_reducible exact H) | (have H2_ := (Option.bind_some _ _).symm.trans H; rw [hy281]; with_reducible exact H2_) | (have H2_ := (Option.bind_some _ _).symm.trans H; with_reducible exact H2_) | with_reducible exact H | (rw [hy281]; exact H) | exact H
                have Ny281 := Aside0.mk hy281
                clear hy281
                have H' := Aside0.mk H
                clear H
                have p12 : 0 ≤ (x6_1 : Int) := of_decide_eq_true (by first | (with_reducible assumption) | assumption)
                have q12 : (x6_1 : Int) < ((x5_1.length : Int) : Int) := of_decide_eq_true (by first | (with_reducible assumption) | assumption)
                obtain ⟨go12, co12, eo12, gb12, gl12, cl12, HG12⟩ := Kd.R_form HO_5.out (by omega)
                (first | cases eo12 | (injection eo12 with ea_ en_ ec_; (first | subst ea_ | (injection ea_ with ea_; subst ea_)); subst ec_; clear en_))
                have GB12 := Aside0.mk gb12
                have GG12 := Aside0.mk HG12
                clear gb12 gl12 HG12
                obtain ⟨hx12_0, hf12_0⟩ := Kd.R_celln 0 HO_5.out (x6_1 : Int) p12 q12
                replace p12 := eq_true p12
                replace q12 := eq_true q12
                have HP13 := Kd.R_putg HO_5.out (x6_1 : Int) ((Int.tmod x0_1 256) % 256)
                go_wp2_with (first | ((with_reducible refine gate_store (t := 5) (p := 22) rfl ?_); refine store_event (t := 5) (p := 22) (v := ?vo_w14) (w1 := (wr.setCell ⟨go12, (x6_1 : Int).toNat, none⟩ (.int .u8 ((Int.tmod x0_1 256) % 256)))) ?hg ?ho ?hn ?hr ?_; (case ho => rfl); (case hg => rfl); (case hn => rfl); (case hr => first | (go_simp; done) | (go_simp; rfl)); intro w14 hw; have hg : wr.grownBy w14 (some go12) := (by rw [hw]; exact HP13.2); have hp_ : Kd.R (Kd.int .u8) 5 w14 w.heap.size (fun _ => True) (.slice (some ⟨go12, 0, none⟩) x5_1.length co12) y281 := (by rw [hw, Ny281.out]; exact HP13.1); clear HP13; have n0_ := Aside0.mk (hp_); have n1_ := Aside0.mk ((by rw [hw]; exact below_set (HB.out) GB12.out : Below w.heap.size w w14)); clear HO_5; clear HB; have HO_5 := n0_; have HB := n1_; clear n0_ n1_; clear hg hw hp_))
                go_roundg k1
                case measure => have := HK1.out; omega
                case rel => exact ⟨(IntKind.u64.wrap (Int.tdiv x0_1 256)), (y281), (wrap64 (x6_1 - 1)), (by first | (with_reducible rfl) | (simp; done) | (simp [*]; done) | rfl), (by first | (with_reducible rfl) | (simp; done) | (simp [*]; done) | rfl), H', ⟨by have := HK1.out; omega⟩, ⟨by (with_reducible repeat (first | apply Kd.R_alloc | apply Kd.R_drewN | apply Kd.R_drew)); exact HO_5.out⟩, ⟨by repeat (first | (with_reducible first | exact HB.out | apply below_alloc | apply pw_below_drewN | apply below_drew1) | exact HB.out)⟩⟩
              · rw [if_neg c11] at H
                exact absurd H (by simp)
            · rw [if_neg c10] at H
              exact absurd H (by simp)
          · rw [if_neg c9] at H
            have c9b0 : decide (0 ≤ x6_1) = false := decide_eq_false c9
            clear c9
            obtain rfl := Option.some.inj H
            have hcv15 := own_string (P := Tryd.prog) Tryd.underlying58 Tryd.underlying5 Tryd.underlying9 (Kd.own_of_R HO_5.out)
            go_wp2
            go_ret
            exact ⟨by first | (with_reducible rfl) | (simp only [isEmpty_bne, Bool.not_not] <;> with_reducible rfl) | (simp [errW_none, errW_some] <;> with_reducible rfl) | (simp only [isEmpty_bne, Bool.not_not] <;> rfl) | rfl | (simp [errW_none, errW_some] <;> rfl) | (simp [*, errW_none, errW_some] <;> rfl), by repeat (first | (with_reducible first | exact HB.out | apply below_alloc | apply pw_below_drewN | apply below_drew1) | exact HB.out)⟩
    · rw [if_neg c5] at H
      exact absurd H (by simp)
  · rw [if_neg c4] at H
    exact absurd H (by simp)

/-! ### factotumref03_Schema: function 23 -/
def factotumref03_Schema.l0 : Nat → ByteArray → Int → List Int → Int → Int → Option (ByteArray × Int)
  | 0, _, _, _, _, _ => none
  | k + 1, x4, x5, x283000, x283001, x283002 => if x5 < (x283000.length : Int) then (if 0 ≤ x5 then ((factotumref01_Num.f k (IntKind.u64.wrap (rd x283000 x5)) 1).bind fun t286 => (if x4.size + t286.size ≤ 9223372036854775807 then (factotumref03_Schema.l0 k (x4 ++ t286) (wrap64 (x5 + 1)) x283000 x283001 x283002) else (none))) else (none)) else ((factotumref01_Num.f k (IntKind.u64.wrap (x283001)) 1).bind fun t287 => (if x4.size + t287.size ≤ 9223372036854775807 then ((factotumref01_Num.f k (IntKind.u64.wrap (x283002)) 1).bind fun t288 => (if (x4 ++ t287).size + t288.size ≤ 9223372036854775807 then (some ((x4 ++ t287) ++ t288, 0)) else (none))) else (none)))
def factotumref03_Schema.f (k : Nat) (l0_0 : List Int) (a0_1 : Int) (a0_2 : Int) : Option (ByteArray × Int) := (factotumref03_Right.f k l0_0 a0_1 a0_2).bind fun t283 => (if t283 = true then ((factotumref01_Num.f k (IntKind.u64.wrap ((l0_0.length : Int))) 1).bind fun t284 => (factotumref03_Schema.l0 k t284 0 l0_0 a0_1 a0_2)) else (some ((⟨#[]⟩ : ByteArray), 4)))
theorem factotumref03_Schema.mono_l : ∀ k, (∀ y0 y1 y2 y3 y4, LeO (factotumref03_Schema.l0 k y0 y1 y2 y3 y4) (factotumref03_Schema.l0 (k + 1) y0 y1 y2 y3 y4))
  | 0 => fun _ _ _ _ _ r h => by simp [factotumref03_Schema.l0] at h
  | k + 1 => by
    have ih0 := factotumref03_Schema.mono_l k
    · intro y0 y1 y2 y3 y4
      unfold factotumref03_Schema.l0
      repeat' first
      | (with_reducible exact ih0 _ _ _ _ _)
      | (with_reducible exact factotumref01_Num.mono _ _ _)
      | (with_reducible exact factotumref03_Right.mono _ _ _ _)
      | (with_reducible exact LeO.refl _)
      | (with_reducible exact LeO.none _)
      | (with_reducible refine LeO.ite ?_ ?_)
      | (with_reducible refine LeO.bind ?_ (fun _ => ?_))
      | exact ih0 _ _ _ _ _
      | exact factotumref01_Num.mono _ _ _
      | exact factotumref03_Right.mono _ _ _ _
      | exact LeO.none _
      | refine LeO.ite ?_ ?_
      | refine LeO.bind ?_ (fun _ => ?_)
theorem factotumref03_Schema.mono : ∀ a0 a1 a2 k, LeO (factotumref03_Schema.f k a0 a1 a2) (factotumref03_Schema.f (k + 1) a0 a1 a2) := by
  intro a0 a1 a2 k
  have ih0 := factotumref03_Schema.mono_l k
  unfold factotumref03_Schema.f
  repeat' first
      | (with_reducible exact ih0 _ _ _ _ _)
      | (with_reducible exact factotumref01_Num.mono _ _ _)
      | (with_reducible exact factotumref03_Right.mono _ _ _ _)
      | (with_reducible exact LeO.refl _)
      | (with_reducible exact LeO.none _)
      | (with_reducible refine LeO.ite ?_ ?_)
      | (with_reducible refine LeO.bind ?_ (fun _ => ?_))
      | exact ih0 _ _ _ _ _
      | exact factotumref01_Num.mono _ _ _
      | exact factotumref03_Right.mono _ _ _ _
      | exact LeO.none _
      | refine LeO.ite ?_ ?_
      | refine LeO.bind ?_ (fun _ => ?_)
def factotumref03_Schema.T8 : Bool × List (List Nat × List Nat) := (true, [([], []), ([], []), ([1], [1]), ([2], [2]), ([3], [3]), ([0, 4], [0, 4]), ([], []), ([6], [6]), ([7], [7]), ([8, 4], [8]), ([5, 9], [5, 9]), ([10, 9, 0, 1, 2, 3, 4, 5, 6, 7, 8, 9, 10], [10]), ([11, 0, 1, 2, 3, 4, 5, 6, 7, 8, 9, 10, 11], [])])
def factotumref03_Schema.B8 : List Nat := [0, 0, 2, 6, 14, 31, 0, 64, 192, 478, 1023, 2047, 4095]
theorem factotumref03_Schema.tab8 : rtab .any (opsOf Tryd.f23 8) = factotumref03_Schema.T8 := by kernel_rfl
theorem factotumref03_Schema.bits8 : waitsOk factotumref03_Schema.T8.2 factotumref03_Schema.B8 = true := by kernel_rfl
set_option maxHeartbeats 8000000 in
set_option maxRecDepth 100000 in
theorem factotumref03_Schema.calls (k : Nat) (A0_0 : Option Addr) (c0_0 : Nat) (l0_0 : List Int) (a0_1 : Int) (a0_2 : Int) (r1 : ByteArray) (r2 : Int) (w : World) (hr0_0 : Kd.C (Kd.int .i64) w A0_0 l0_0.length l0_0) (hc0_0 : l0_0.length ≤ c0_0) (h : factotumref03_Schema.f k l0_0 a0_1 a0_2 = some (r1, r2)) :
    Calls Tryd.prog 23 #[.agg #[.slice A0_0 l0_0.length c0_0, .int .i64 a0_1, .int .i64 a0_2]] w fun e w' => e = .returned (.tuple #[.string r1, .int .i64 r2]) ∧ Below w.heap.size w w' := by
  have hu24 := Tryd.underlying24
  have HR0_0 := Aside0.mk hr0_0
  have HC0_0 := Aside0.mk hc0_0
  clear hr0_0 hc0_0
  have HB := Aside0.mk (Below.refl w.heap.size w)
  have H : ((factotumref03_Right.f k l0_0 a0_1 a0_2).bind fun t283 => (if t283 = true then ((factotumref01_Num.f k (IntKind.u64.wrap ((l0_0.length : Int))) 1).bind fun t284 => (factotumref03_Schema.l0 k t284 0 l0_0 a0_1 a0_2)) else (some ((⟨#[]⟩ : ByteArray), 4)))) = some (r1, r2) := h
  clear h
  replace H := Option.bind_eq_some_iff.mp H
  obtain ⟨t283, A20, H⟩ := H
  replace H : (if t283 = true then ((factotumref01_Num.f k (IntKind.u64.wrap ((l0_0.length : Int))) 1).bind fun t284 => (factotumref03_Schema.l0 k t284 0 l0_0 a0_1 a0_2)) else (some ((⟨#[]⟩ : ByteArray), 4))) = some (r1, r2) := H
  have A2 := Aside0.mk A20
  clear A20
  by_cases c3 : t283 = true
  · subst c3
    have H1 : ((factotumref01_Num.f k (IntKind.u64.wrap ((l0_0.length : Int))) 1).bind fun t284 => (factotumref03_Schema.l0 k t284 0 l0_0 a0_1 a0_2)) = some (r1, r2) := by rw [if_pos rfl] at H; exact H
    clear H
    have H := H1
    clear H1
    replace H := Option.bind_eq_some_iff.mp H
    obtain ⟨t284, A40, H⟩ := H
    replace H : (factotumref03_Schema.l0 k t284 0 l0_0 a0_1 a0_2) = some (r1, r2) := H
    have A4 := Aside0.mk A40
    clear A40
    have H' := Aside0.mk H
    clear H
    go_enter Tryd.func23, Tryd.ntmps23
    go_wp2_with (first | ((with_reducible refine gate_dst (N := 1) rfl ?_); refine box_event ?hg (N := 1) ?hd (cs := #[.slice A0_0 l0_0.length c0_0, .int .i64 a0_1, .int .i64 a0_2]) (t := 24) ?hr ?_; (case hd => rfl); (case hg => rfl); (case hr => first | (go_simp; done) | (go_simp; rfl)); intro gb282 hg w5 hbox hb; have n0_ := Aside0.mk (below_step (by repeat (first | (with_reducible first | exact HB.out | apply below_alloc | apply pw_below_drewN | apply below_drew1) | exact HB.out)) hb); have n1_ := Aside0.mk (hbox); have n2_ := Aside0.mk ((by rw [hg]; exact (below_size (by repeat (first | (with_reducible first | exact HB.out | apply below_alloc | apply pw_below_drewN | apply below_drew1) | exact HB.out))) : w.heap.size ≤ gb282)); have n3_ := Aside0.mk ((by rw [hg]; exact (below_size (by repeat (first | (with_reducible first | exact HB.out | apply below_alloc | apply pw_below_drewN | apply below_drew1) | exact HB.out))) : w.heap.size ≤ gb282)); clear HB; have HB := n0_; have BK282 := n1_; have GW282 := n2_; have GE282 := n3_; clear n0_ n1_ n2_ n3_; clear hb hbox hg; have hcz6_0 : w5.cell? ⟨gb282, 0, none⟩ = some (.slice A0_0 l0_0.length c0_0) := (blk_cell BK282.out 0).trans rfl; have hcz6_1 : w5.cell? ⟨gb282, 1, none⟩ = some (.int .i64 a0_1) := (blk_cell BK282.out 1).trans rfl; have hcz6_2 : w5.cell? ⟨gb282, 2, none⟩ = some (.int .i64 a0_2) := (blk_cell BK282.out 2).trans rfl; have hfz6_0 := blk_frozen BK282.out 0; have hfz6_1 := blk_frozen BK282.out 1; have hfz6_2 := blk_frozen BK282.out 2) | ((with_reducible refine gate_callee (f := 14) rfl ?_); refine goesL_ (some 7) rfl rfl Tryd.func14 (by kernel_rfl) rfl #[.agg #[.slice A0_0 l0_0.length c0_0, .int .i64 a0_1, .int .i64 a0_2]] rfl (by (try simp only [List.map_toArray, List.map_cons, List.map_nil]); first | done | rfl | (simp only [List.length_drop, List.length_take]; rfl) | (simp (disch := omega) only [u64_in]; rfl)) ?_; (with_reducible refine (factotumref03_Right.calls k _ _ l0_0 a0_1 a0_2 true _ ?side1 ?side2 A2.out).mono ?_); (case side1 => repeat (first | exact (Kd.C_below HR0_0.out HB.out) | (with_reducible refine Kd.C_alloc ?_ _) | (with_reducible refine Kd.C_drewN ?_ _) | (with_reducible refine Kd.C_drew ?_))); (case side2 => exact HC0_0.out); rintro e w7 ⟨rfl, hb⟩; refine ⟨_, rfl, ?_⟩; have n0_ := Aside0.mk (blk_below (g := gb282) (o := .cells #[.slice A0_0 l0_0.length c0_0, .int .i64 a0_1, .int .i64 a0_2] 24 (0, 0)) (by (with_reducible repeat (first | refine blk_drewN ?_ _ | refine blk_drew ?_ | refine blk_alloc ?_ _)); exact BK282.out) hb); have n1_ := Aside0.mk (below_step (by repeat (first | (with_reducible first | exact HB.out | apply below_alloc | apply pw_below_drewN | apply below_drew1 | refine below_set ?_ GE282.out) | exact HB.out)) hb); clear BK282; clear HB; have BK282 := n0_; have HB := n1_; clear n0_ n1_; (try clear hb); (try clear hb2); (try clear hk); (try clear hi); have hcz8_0 : w7.cell? ⟨gb282, 0, none⟩ = some (.slice A0_0 l0_0.length c0_0) := (blk_cell BK282.out 0).trans rfl; have hcz8_1 : w7.cell? ⟨gb282, 1, none⟩ = some (.int .i64 a0_1) := (blk_cell BK282.out 1).trans rfl; have hcz8_2 : w7.cell? ⟨gb282, 2, none⟩ = some (.int .i64 a0_2) := (blk_cell BK282.out 2).trans rfl; have hfz8_0 := blk_frozen BK282.out 0; have hfz8_1 := blk_frozen BK282.out 1; have hfz8_2 := blk_frozen BK282.out 2) | ((with_reducible refine gate_callee (f := 39) rfl ?_); refine goesL_ (some 13) rfl rfl Tryd.func39 (by kernel_rfl) rfl #[.int .u64 (IntKind.u64.wrap ((l0_0.length : Int))), .int .i64 1] rfl (by (try simp only [List.map_toArray, List.map_cons, List.map_nil]); first | done | rfl | (simp only [List.length_drop, List.length_take]; rfl) | (simp (disch := omega) only [u64_in]; rfl)) ?_; (with_reducible refine (factotumref01_Num.calls k (IntKind.u64.wrap ((l0_0.length : Int))) 1 t284 _ A4.out).mono ?_); rintro e w9 ⟨rfl, hb⟩; refine ⟨_, rfl, ?_⟩; have n0_ := Aside0.mk (blk_below (g := gb282) (o := .cells #[.slice A0_0 l0_0.length c0_0, .int .i64 a0_1, .int .i64 a0_2] 24 (0, 0)) (by (with_reducible repeat (first | refine blk_drewN ?_ _ | refine blk_drew ?_ | refine blk_alloc ?_ _)); exact BK282.out) hb); have n1_ := Aside0.mk (below_step (by repeat (first | (with_reducible first | exact HB.out | apply below_alloc | apply pw_below_drewN | apply below_drew1 | refine below_set ?_ GE282.out) | exact HB.out)) hb); clear BK282; clear HB; have BK282 := n0_; have HB := n1_; clear n0_ n1_; (try clear hb); (try clear hb2); (try clear hk); (try clear hi)))
    go_loopg [4, 5] k (fun kq v4 v5 w' => ∃ (x4_1 : ByteArray) (x5_1 : Int), v4 = .string x4_1 ∧ v5 = .int .i64 x5_1 ∧ Aside0 (factotumref03_Schema.l0 kq x4_1 x5_1 l0_0 a0_1 a0_2 = some (r1, r2)) ∧ Aside0 (kq ≤ k) ∧ Aside0 (w'.heap[gb282]? = some (.cells #[(.slice A0_0 l0_0.length c0_0), .int .i64 a0_1, .int .i64 a0_2] 24 (0, 0))) ∧ Aside0 (Below w.heap.size w w'))
    case atStart => exact ⟨(t284), (0), (by first | (with_reducible rfl) | (simp; done) | (simp [*]; done) | rfl), (by first | (with_reducible rfl) | (simp; done) | (simp [*]; done) | rfl), H', ⟨Nat.le_refl _⟩, ⟨by (with_reducible repeat (first | refine blk_drewN ?_ _ | refine blk_drew ?_ | refine blk_alloc ?_ _)); exact BK282.out⟩, ⟨by repeat (first | (with_reducible first | exact HB.out | apply below_alloc | apply pw_below_drewN | apply below_drew1 | refine below_set ?_ GE282.out) | exact HB.out)⟩⟩
    case round =>
      clear H'
      try clear c1
      try clear c2
      try clear p2
      try clear c3
      try clear hcz6_0
      try clear hcz6_1
      try clear hcz6_2
      try clear hcz8_0
      try clear hcz8_1
      try clear hcz8_2
      try clear hfz6_0
      try clear hfz6_1
      try clear hfz6_2
      try clear hfz8_0
      try clear hfz8_1
      try clear hfz8_2
      obtain ⟨x4_1, x5_1, rfl, rfl, HA, HK1, BK282, HB⟩ := hrel
      cases gk with
      | zero => exact absurd HA.out (by simp [factotumref03_Schema.l0])
      | succ k1 =>
        have H := HA.out
        clear HA
        simp only [factotumref03_Schema.l0] at H
        by_cases c10 : x5_1 < (l0_0.length : Int)
        · rw [if_pos c10] at H
          have c10b0 : decide (x5_1 < (l0_0.length : Int)) = true := decide_eq_true c10
          clear c10
          by_cases c11 : 0 ≤ x5_1
          · rw [if_pos c11] at H
            have c11b0 : decide (0 ≤ x5_1) = true := decide_eq_true c11
            clear c11
            replace H := Option.bind_eq_some_iff.mp H
            obtain ⟨t286, A120, H⟩ := H
            replace H : (if x4_1.size + t286.size ≤ 9223372036854775807 then (factotumref03_Schema.l0 k1 (x4_1 ++ t286) (wrap64 (x5_1 + 1)) l0_0 a0_1 a0_2) else (none)) = some (r1, r2) := H
            have A12 := Aside0.mk A120
            clear A120
            by_cases c13 : x4_1.size + t286.size ≤ 9223372036854775807
            · rw [if_pos c13] at H
              have c13b0 := eq_true c13
              have c13b1 : decide (x4_1.size + t286.size ≤ 9223372036854775807) = true := decide_eq_true c13
              try have c13b2 : (9223372036854775807 < x4_1.size + t286.size) = False := eq_false (Nat.not_lt.2 c13)
              have H' := Aside0.mk H
              clear H
              have hcz14_0 : wr.cell? ⟨gb282, 0, none⟩ = some (.slice A0_0 l0_0.length c0_0) := (blk_cell BK282.out 0).trans rfl
              have hcz14_1 : wr.cell? ⟨gb282, 1, none⟩ = some (.int .i64 a0_1) := (blk_cell BK282.out 1).trans rfl
              have hcz14_2 : wr.cell? ⟨gb282, 2, none⟩ = some (.int .i64 a0_2) := (blk_cell BK282.out 2).trans rfl
              have hfz14_0 := blk_frozen BK282.out 0
              have hfz14_1 := blk_frozen BK282.out 1
              have hfz14_2 := blk_frozen BK282.out 2
              have p285 : 0 ≤ (x5_1 : Int) := of_decide_eq_true (by first | (with_reducible assumption) | assumption)
              have q285 : x5_1 < (l0_0.length : Int) := of_decide_eq_true (by first | (with_reducible assumption) | assumption)
              obtain ⟨ad285, e285, hx285_0⟩ := Kd.at_int HR0_0.out x5_1 p285 q285
              cases e285
              replace hx285_0 := (HB.out.cell (World.block_lt_of_cell? w _ hx285_0)).trans hx285_0
              replace p285 := eq_true p285
              replace q285 := eq_true q285
              go_wp2_with (first | ((with_reducible refine gate_callee (f := 39) rfl ?_); refine goesL_ (some 28) rfl rfl Tryd.func39 (by kernel_rfl) rfl #[.int .u64 (IntKind.u64.wrap (rd l0_0 x5_1)), .int .i64 1] rfl (by (try simp only [List.map_toArray, List.map_cons, List.map_nil]); first | done | rfl | (simp only [List.length_drop, List.length_take]; rfl) | (simp (disch := omega) only [u64_in]; rfl)) ?_; (with_reducible refine (factotumref01_Num.calls k1 (IntKind.u64.wrap (rd l0_0 x5_1)) 1 t286 _ A12.out).mono ?_); rintro e w15 ⟨rfl, hb⟩; refine ⟨_, rfl, ?_⟩; have n0_ := Aside0.mk (blk_below (g := gb282) (o := .cells #[.slice (some ad285) l0_0.length c0_0, .int .i64 a0_1, .int .i64 a0_2] 24 (0, 0)) (by (with_reducible repeat (first | refine blk_drewN ?_ _ | refine blk_drew ?_ | refine blk_alloc ?_ _)); exact BK282.out) hb); have n1_ := Aside0.mk (below_step (by repeat (first | (with_reducible first | exact HB.out | apply below_alloc | apply pw_below_drewN | apply below_drew1 | refine below_set ?_ GE282.out) | exact HB.out)) hb); clear BK282; clear HB; have BK282 := n0_; have HB := n1_; clear n0_ n1_; (try clear hb); (try clear hb2); (try clear hk); (try clear hi)))
              go_roundg k1
              case measure => have := HK1.out; omega
              case rel => exact ⟨(x4_1 ++ t286), (wrap64 (x5_1 + 1)), (by first | (with_reducible rfl) | (simp; done) | (simp [*]; done) | rfl), (by first | (with_reducible rfl) | (simp; done) | (simp [*]; done) | rfl), H', ⟨by have := HK1.out; omega⟩, ⟨by (with_reducible repeat (first | refine blk_drewN ?_ _ | refine blk_drew ?_ | refine blk_alloc ?_ _)); exact BK282.out⟩, ⟨by repeat (first | (with_reducible first | exact HB.out | apply below_alloc | apply pw_below_drewN | apply below_drew1 | refine below_set ?_ GE282.out) | exact HB.out)⟩⟩
            · rw [if_neg c13] at H
              exact absurd H (by simp)
          · rw [if_neg c11] at H
            exact absurd H (by simp)
        · rw [if_neg c10] at H
          have c10b0 : decide (x5_1 < (l0_0.length : Int)) = false := decide_eq_false c10
          clear c10
          replace H := Option.bind_eq_some_iff.mp H
          obtain ⟨t287, A160, H⟩ := H
          replace H : (if x4_1.size + t287.size ≤ 9223372036854775807 then ((factotumref01_Num.f k1 (IntKind.u64.wrap (a0_2)) 1).bind fun t288 => (if (x4_1 ++ t287).size + t288.size ≤ 9223372036854775807 then (some ((x4_1 ++ t287) ++ t288, 0)) else (none))) else (none)) = some (r1, r2) := H
          have A16 := Aside0.mk A160
          clear A160
          by_cases c17 : x4_1.size + t287.size ≤ 9223372036854775807
          · rw [if_pos c17] at H
            have c17b0 := eq_true c17
            have c17b1 : decide (x4_1.size + t287.size ≤ 9223372036854775807) = true := decide_eq_true c17
            try have c17b2 : (9223372036854775807 < x4_1.size + t287.size) = False := eq_false (Nat.not_lt.2 c17)
            replace H := Option.bind_eq_some_iff.mp H
            obtain ⟨t288, A180, H⟩ := H
            replace H : (if (x4_1 ++ t287).size + t288.size ≤ 9223372036854775807 then (some ((x4_1 ++ t287) ++ t288, 0)) else (none)) = some (r1, r2) := H
            have A18 := Aside0.mk A180
            clear A180
            by_cases c19 : (x4_1 ++ t287).size + t288.size ≤ 9223372036854775807
            · rw [if_pos c19] at H
              have c19b0 := eq_true c19
              have c19b1 : decide ((x4_1 ++ t287).size + t288.size ≤ 9223372036854775807) = true := decide_eq_true c19
              (try (have c19x := c19; simp at c19x))
              try have c19b2 : (9223372036854775807 < (x4_1 ++ t287).size + t288.size) = False := eq_false (Nat.not_lt.2 c19)
              (try have c19b3 := c19b2)
              (try simp only [ByteArray.size_append, ByteArray.size_extract] at c19b3)
              (try rw [Nat.min_eq_left (by omega)] at c19b3)
              simp only [Option.some.injEq, Prod.mk.injEq] at H
              obtain ⟨rfl, rfl⟩ := H
              have hcz20_0 : wr.cell? ⟨gb282, 0, none⟩ = some (.slice A0_0 l0_0.length c0_0) := (blk_cell BK282.out 0).trans rfl
              have hcz20_1 : wr.cell? ⟨gb282, 1, none⟩ = some (.int .i64 a0_1) := (blk_cell BK282.out 1).trans rfl
              have hcz20_2 : wr.cell? ⟨gb282, 2, none⟩ = some (.int .i64 a0_2) := (blk_cell BK282.out 2).trans rfl
              have hfz20_0 := blk_frozen BK282.out 0
              have hfz20_1 := blk_frozen BK282.out 1
              have hfz20_2 := blk_frozen BK282.out 2
              try go_wp2
              have n0_ := Aside0.mk (blk_drew BK282.out)
              have n1_ := Aside0.mk (below_drew1 HB.out)
              clear BK282
              clear HB
              have BK282 := n0_
              have HB := n1_
              clear n0_ n1_
              refine start_ (n := 13) (S := fun w' => w'.cell? ⟨gb282, 0, none⟩ = some (.slice A0_0 l0_0.length c0_0) ∧ w'.cell? ⟨gb282, 1, none⟩ = some (.int .i64 a0_1) ∧ w'.cell? ⟨gb282, 2, none⟩ = some (.int .i64 a0_2)) (ds := []) #[false, false, false, false, false, false, false, false, false, false, false, false, false] (by kernel_rfl) rfl rfl ⟨(blk_cell BK282.out 0).trans rfl, (blk_cell BK282.out 1).trans rfl, (blk_cell BK282.out 2).trans rfl⟩ (fun hHeld => ?_); refine with_tabW factotumref03_Schema.tab8 factotumref03_Schema.bits8 (fun HT_ HW_ => ?_)
              generalize wr.drew = w21 at BK282 HB hHeld ⊢
              refine pure_ (i := 0) (N := some 30) (v := ?_) (a' := ?_) #[true, false, false, false, false, false, false, false, false, false, false, false, false] rfl rfl (any_of HT_.out (by kernel_rfl)) (fun _ _ _ h => h) (Or.inl ⟨by rfl, ?_⟩) ?_ ?_
              rotate_left
              · intro w'
                go_simp
                with_reducible rfl
              rotate_left
              · simp only [Act.put, List.setIfInBounds_toArray, List.set_cons_zero, List.set_cons_succ, i64_w, i32_w]
                rfl
              refine pure_ (i := 1) (N := some 31) (v := ?_) (a' := ?_) #[true, true, false, false, false, false, false, false, false, false, false, false, false] rfl rfl (any_of HT_.out (by kernel_rfl)) (fun _ _ _ h => h) (Or.inl ⟨by rfl, ?_⟩) ?_ ?_
              rotate_left
              · intro w'
                go_simp
                with_reducible rfl
              rotate_left
              · simp only [Act.put, List.setIfInBounds_toArray, List.set_cons_zero, List.set_cons_succ, i64_w, i32_w]
                rfl
              refine pure_ (i := 6) (N := some 36) (v := ?_) (a' := ?_) #[true, true, false, false, false, false, true, false, false, false, false, false, false] rfl rfl (any_of HT_.out (by kernel_rfl)) (fun _ _ _ h => h) (Or.inl ⟨by rfl, ?_⟩) ?_ ?_
              rotate_left
              · intro w'
                go_simp
                with_reducible rfl
              rotate_left
              · simp only [Act.put, List.setIfInBounds_toArray, List.set_cons_zero, List.set_cons_succ, i64_w, i32_w]
                rfl
              refine take_ (i := 2) (N := some 32) (v := ?_) (a' := ?_) #[true, true, true, false, false, false, true, false, false, false, false, false, false] rfl rfl (take_ofW HT_.out HW_.out (by kernel_rfl)) (fun _ _ _ h => h) (Or.inl ⟨by rfl, ?_⟩) hHeld ?_ ?_
              rotate_left
              · rintro w' ⟨s0, s1, s2⟩
                go_simp
                with_reducible rfl
              rotate_left
              · simp only [Act.put, List.setIfInBounds_toArray, List.set_cons_zero, List.set_cons_succ, i64_w, i32_w]
                rfl
              refine pure_ (i := 3) (N := some 33) (v := ?_) (a' := ?_) #[true, true, true, true, false, false, true, false, false, false, false, false, false] rfl rfl (any_of HT_.out (by kernel_rfl)) (fun _ _ _ h => h) (Or.inl ⟨by rfl, ?_⟩) ?_ ?_
              rotate_left
              · intro w'
                go_simp
                with_reducible rfl
              rotate_left
              · simp only [Act.put, List.setIfInBounds_toArray, List.set_cons_zero, List.set_cons_succ, i64_w, i32_w]
                rfl
              refine take_ (i := 7) (N := some 37) (v := ?_) (a' := ?_) #[true, true, true, true, false, false, true, true, false, false, false, false, false] rfl rfl (take_ofW HT_.out HW_.out (by kernel_rfl)) (fun _ _ _ h => h) (Or.inl ⟨by rfl, ?_⟩) hHeld ?_ ?_
              rotate_left
              · rintro w' ⟨s0, s1, s2⟩
                go_simp
                with_reducible rfl
              rotate_left
              · simp only [Act.put, List.setIfInBounds_toArray, List.set_cons_zero, List.set_cons_succ, i64_w, i32_w]
                rfl
              refine pure_ (i := 8) (N := some 38) (v := ?_) (a' := ?_) #[true, true, true, true, false, false, true, true, true, false, false, false, false] rfl rfl (any_of HT_.out (by kernel_rfl)) (fun _ _ _ h => h) (Or.inl ⟨by rfl, ?_⟩) ?_ ?_
              rotate_left
              · intro w'
                go_simp
                with_reducible rfl
              rotate_left
              · simp only [Act.put, List.setIfInBounds_toArray, List.set_cons_zero, List.set_cons_succ, i64_w, i32_w]
                rfl
              refine one_ (i := 4) (N := some 34) #[true, true, true, true, true, false, true, true, true, false, false, false, false] rfl rfl (one_of HT_.out (by kernel_rfl)) (by decide) (fun K hK => ?_)
              refine goes_ Tryd.func39 (by kernel_rfl) rfl #[.int .u64 (IntKind.u64.wrap (a0_1)), .int .i64 1] (by rfl) rfl rfl (by (try simp only [List.map_toArray, List.map_cons, List.map_nil]); first | done | rfl | (simp only [List.length_drop, List.length_take]; rfl) | (simp (disch := omega) only [u64_in]; rfl)) ?_
              with_reducible refine (factotumref01_Num.calls k1 (IntKind.u64.wrap (a0_1)) 1 t287 _ A16.out).mono ?_
              rintro e w22 ⟨rfl, hb⟩
              refine ⟨_, rfl, ?_⟩
              have n0_ := Aside0.mk (blk_below (g := gb282) (o := .cells #[.slice A0_0 l0_0.length c0_0, .int .i64 a0_1, .int .i64 a0_2] 24 (0, 0)) (by (with_reducible repeat (first | refine blk_drewN ?_ _ | refine blk_drew ?_ | refine blk_alloc ?_ _)); exact BK282.out) hb)
              have n1_ := Aside0.mk (below_step (by repeat (first | (with_reducible first | exact HB.out | apply below_alloc | apply pw_below_drewN | apply below_drew1 | refine below_set ?_ GE282.out) | exact HB.out)) hb)
              clear BK282
              clear HB
              have BK282 := n0_
              have HB := n1_
              clear n0_ n1_
              (try clear hb)
              (try clear hb2)
              (try clear hk)
              (try clear hi)
              refine hK.out _ _ ⟨(blk_cell BK282.out 0).trans rfl, (blk_cell BK282.out 1).trans rfl, (blk_cell BK282.out 2).trans rfl⟩ (fun hHeld => ?_)
              clear hK K
              refine norm_ (a' := ?_) ?_ ?_
              rotate_left
              · show Act.put _ (some 34) _ = _
                simp only [Act.put, List.setIfInBounds_toArray, List.set_cons_zero, List.set_cons_succ, i64_w, i32_w]
                rfl
              refine pure_ (i := 5) (N := some 35) (v := ?_) (a' := ?_) #[true, true, true, true, true, true, true, true, true, false, false, false, false] rfl rfl (any_of HT_.out (by kernel_rfl)) (fun _ _ _ h => h) (Or.inl ⟨by rfl, ?_⟩) ?_ ?_
              rotate_left
              · intro w'
                go_simp
                with_reducible rfl
              rotate_left
              · simp only [Act.put, List.setIfInBounds_toArray, List.set_cons_zero, List.set_cons_succ, i64_w, i32_w]
                rfl
              refine one_ (i := 9) (N := some 39) #[true, true, true, true, true, true, true, true, true, true, false, false, false] rfl rfl (one_of HT_.out (by kernel_rfl)) (by decide) (fun K hK => ?_)
              refine goes_ Tryd.func39 (by kernel_rfl) rfl #[.int .u64 (IntKind.u64.wrap (a0_2)), .int .i64 1] (by rfl) rfl rfl (by (try simp only [List.map_toArray, List.map_cons, List.map_nil]); first | done | rfl | (simp only [List.length_drop, List.length_take]; rfl) | (simp (disch := omega) only [u64_in]; rfl)) ?_
              with_reducible refine (factotumref01_Num.calls k1 (IntKind.u64.wrap (a0_2)) 1 t288 _ A18.out).mono ?_
              rintro e w23 ⟨rfl, hb⟩
              refine ⟨_, rfl, ?_⟩
              have n0_ := Aside0.mk (blk_below (g := gb282) (o := .cells #[.slice A0_0 l0_0.length c0_0, .int .i64 a0_1, .int .i64 a0_2] 24 (0, 0)) (by (with_reducible repeat (first | refine blk_drewN ?_ _ | refine blk_drew ?_ | refine blk_alloc ?_ _)); exact BK282.out) hb)
              have n1_ := Aside0.mk (below_step (by repeat (first | (with_reducible first | exact HB.out | apply below_alloc | apply pw_below_drewN | apply below_drew1 | refine below_set ?_ GE282.out) | exact HB.out)) hb)
              clear BK282
              clear HB
              have BK282 := n0_
              have HB := n1_
              clear n0_ n1_
              (try clear hb)
              (try clear hb2)
              (try clear hk)
              (try clear hi)
              refine hK.out _ _ ⟨(blk_cell BK282.out 0).trans rfl, (blk_cell BK282.out 1).trans rfl, (blk_cell BK282.out 2).trans rfl⟩ (fun hHeld => ?_)
              clear hK K
              refine norm_ (a' := ?_) ?_ ?_
              rotate_left
              · show Act.put _ (some 39) _ = _
                simp only [Act.put, List.setIfInBounds_toArray, List.set_cons_zero, List.set_cons_succ, i64_w, i32_w]
                rfl
              refine pure_ (i := 10) (N := some 40) (v := ?_) (a' := ?_) #[true, true, true, true, true, true, true, true, true, true, true, false, false] rfl rfl (any_of HT_.out (by kernel_rfl)) (fun _ _ _ h => h) (Or.inl ⟨by rfl, ?_⟩) ?_ ?_
              rotate_left
              · intro w'
                go_simp
                with_reducible rfl
              rotate_left
              · simp only [Act.put, List.setIfInBounds_toArray, List.set_cons_zero, List.set_cons_succ, i64_w, i32_w]
                rfl
              refine pure_ (i := 11) (N := some 2) (v := ?_) (a' := ?_) #[true, true, true, true, true, true, true, true, true, true, true, true, false] rfl rfl (any_of HT_.out (by kernel_rfl)) (fun _ _ _ h => h) (Or.inl ⟨by rfl, ?_⟩) ?_ ?_
              rotate_left
              · intro w'
                go_simp
                with_reducible rfl
              rotate_left
              · simp only [Act.put, List.setIfInBounds_toArray, List.set_cons_zero, List.set_cons_succ, i64_w, i32_w]
                rfl
              refine pure_ (i := 12) (N := some 3) (v := ?_) (a' := ?_) #[true, true, true, true, true, true, true, true, true, true, true, true, true] rfl rfl (any_of HT_.out (by kernel_rfl)) (fun _ _ _ h => h) (Or.inl ⟨by rfl, ?_⟩) ?_ ?_
              rotate_left
              · intro w'
                go_simp
                with_reducible rfl
              rotate_left
              · simp only [Act.put, List.setIfInBounds_toArray, List.set_cons_zero, List.set_cons_succ, i64_w, i32_w]
                rfl
              refine done_ (done_of HT_.out (by kernel_rfl)) ?_
              try go_wp2
              go_ret2
              exact ⟨by first | (with_reducible rfl) | (simp only [isEmpty_bne, Bool.not_not] <;> with_reducible rfl) | (simp [errW_none, errW_some] <;> with_reducible rfl) | (simp only [isEmpty_bne, Bool.not_not] <;> rfl) | rfl | (simp [errW_none, errW_some] <;> rfl) | (simp [*, errW_none, errW_some] <;> rfl), by repeat (first | (with_reducible first | exact HB.out | apply below_alloc | apply pw_below_drewN | apply below_drew1 | refine below_set ?_ GE282.out) | exact HB.out)⟩
            · rw [if_neg c19] at H
              exact absurd H (by simp)
          · rw [if_neg c17] at H
            exact absurd H (by simp)
  · replace c3 := Bool.eq_false_iff.mpr c3
    subst c3
    have H1 : (some ((⟨#[]⟩ : ByteArray), 4)) = some (r1, r2) := by rw [if_neg (show ¬ (false = true) by decide)] at H; exact H
    clear H
    have H := H1
    clear H1
    simp only [Option.some.injEq, Prod.mk.injEq] at H
    obtain ⟨rfl, rfl⟩ := H
    go_enter Tryd.func23, Tryd.ntmps23
    go_wp2_with (first | ((with_reducible refine gate_dst (N := 1) rfl ?_); refine box_event ?hg (N := 1) ?hd (cs := #[.slice A0_0 l0_0.length c0_0, .int .i64 a0_1, .int .i64 a0_2]) (t := 24) ?hr ?_; (case hd => rfl); (case hg => rfl); (case hr => first | (go_simp; done) | (go_simp; rfl)); intro gb282 hg w24 hbox hb; have n0_ := Aside0.mk (below_step (by repeat (first | (with_reducible first | exact HB.out | apply below_alloc | apply pw_below_drewN | apply below_drew1) | exact HB.out)) hb); have n1_ := Aside0.mk (hbox); have n2_ := Aside0.mk ((by rw [hg]; exact (below_size (by repeat (first | (with_reducible first | exact HB.out | apply below_alloc | apply pw_below_drewN | apply below_drew1) | exact HB.out))) : w.heap.size ≤ gb282)); have n3_ := Aside0.mk ((by rw [hg]; exact (below_size (by repeat (first | (with_reducible first | exact HB.out | apply below_alloc | apply pw_below_drewN | apply below_drew1) | exact HB.out))) : w.heap.size ≤ gb282)); clear HB; have HB := n0_; have BK282 := n1_; have GW282 := n2_; have GE282 := n3_; clear n0_ n1_ n2_ n3_; clear hb hbox hg; have hcz25_0 : w24.cell? ⟨gb282, 0, none⟩ = some (.slice A0_0 l0_0.length c0_0) := (blk_cell BK282.out 0).trans rfl; have hcz25_1 : w24.cell? ⟨gb282, 1, none⟩ = some (.int .i64 a0_1) := (blk_cell BK282.out 1).trans rfl; have hcz25_2 : w24.cell? ⟨gb282, 2, none⟩ = some (.int .i64 a0_2) := (blk_cell BK282.out 2).trans rfl; have hfz25_0 := blk_frozen BK282.out 0; have hfz25_1 := blk_frozen BK282.out 1; have hfz25_2 := blk_frozen BK282.out 2) | ((with_reducible refine gate_callee (f := 14) rfl ?_); refine goesL_ (some 7) rfl rfl Tryd.func14 (by kernel_rfl) rfl #[.agg #[.slice A0_0 l0_0.length c0_0, .int .i64 a0_1, .int .i64 a0_2]] rfl (by (try simp only [List.map_toArray, List.map_cons, List.map_nil]); first | done | rfl | (simp only [List.length_drop, List.length_take]; rfl) | (simp (disch := omega) only [u64_in]; rfl)) ?_; (with_reducible refine (factotumref03_Right.calls k _ _ l0_0 a0_1 a0_2 false _ ?side1 ?side2 A2.out).mono ?_); (case side1 => repeat (first | exact (Kd.C_below HR0_0.out HB.out) | (with_reducible refine Kd.C_alloc ?_ _) | (with_reducible refine Kd.C_drewN ?_ _) | (with_reducible refine Kd.C_drew ?_))); (case side2 => exact HC0_0.out); rintro e w26 ⟨rfl, hb⟩; refine ⟨_, rfl, ?_⟩; have n0_ := Aside0.mk (blk_below (g := gb282) (o := .cells #[.slice A0_0 l0_0.length c0_0, .int .i64 a0_1, .int .i64 a0_2] 24 (0, 0)) (by (with_reducible repeat (first | refine blk_drewN ?_ _ | refine blk_drew ?_ | refine blk_alloc ?_ _)); exact BK282.out) hb); have n1_ := Aside0.mk (below_step (by repeat (first | (with_reducible first | exact HB.out | apply below_alloc | apply pw_below_drewN | apply below_drew1 | refine below_set ?_ GE282.out) | exact HB.out)) hb); clear BK282; clear HB; have BK282 := n0_; have HB := n1_; clear n0_ n1_; (try clear hb); (try clear hb2); (try clear hk); (try clear hi)))
    go_ret2
    exact ⟨by first | (with_reducible rfl) | (simp only [isEmpty_bne, Bool.not_not] <;> with_reducible rfl) | (simp [errW_none, errW_some] <;> with_reducible rfl) | (simp only [isEmpty_bne, Bool.not_not] <;> rfl) | rfl | (simp [errW_none, errW_some] <;> rfl) | (simp [*, errW_none, errW_some] <;> rfl), by repeat (first | (with_reducible first | exact HB.out | apply below_alloc | apply pw_below_drewN | apply below_drew1 | refine below_set ?_ GE282.out) | exact HB.out)⟩

end Go.Proofs.YtekaeddagaejiaaDoor.PAll
