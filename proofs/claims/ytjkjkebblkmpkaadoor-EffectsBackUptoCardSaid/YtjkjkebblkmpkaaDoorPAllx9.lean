/- Printed walks of the functions that the laws reach: each function, what it computes, and that it does. No conditions. -/
import Derived.Test.YtjkjkebblkmpkaaDoorPAllx0
import Derived.Test.YtjkjkebblkmpkaaDoorPAllx8
namespace Go.Proofs.YtjkjkebblkmpkaaDoor.PAll
open Go.RowKit Go.Proofs.YtjkjkebblkmpkaaDoor.XW Go.Proofs.YtjkjkebblkmpkaaDoor.XLib Go.Proofs.YtjkjkebblkmpkaaDoorW.PrintWords Go.Proofs.YtjkjkebblkmpkaaDoorW.PrintLast Go.Proofs.YtjkjkebblkmpkaaDoorW.PrintMore
attribute [local go_sem] max2_int min2_int max_two min_two max_three min_three max_four min_four   -- for this text's walks alone
set_option linter.unusedVariables false
set_option linter.unusedSimpArgs false

/-! ### factotumref01_Reader_Raw: function 52 -/
def factotumref01_Reader_Raw.f (s0_0 : ByteArray) (s0_1 : Int) (s0_2 : Int) (a1 : Int) : Option (ByteArray × ByteArray × Int × Int) := if s0_2 = 0 then ((factotumref01_Reader_Left.f s0_0 s0_1 s0_2).bind fun bt205 => (if (mx a1 0) > bt205.1 then (some ((⟨#[]⟩ : ByteArray), bt205.2.1, bt205.2.2.1, 2)) else (if 0 ≤ (wrap64 ((wrap64 (bt205.2.2.1 + (mx a1 0))) - (mx a1 0))) then (if (wrap64 ((wrap64 (bt205.2.2.1 + (mx a1 0))) - (mx a1 0))) ≤ (wrap64 (bt205.2.2.1 + (mx a1 0))) then (if (wrap64 (bt205.2.2.1 + (mx a1 0))) ≤ (bt205.2.1.size : Int) then (some (bt205.2.1.extract ((wrap64 ((wrap64 (bt205.2.2.1 + (mx a1 0))) - (mx a1 0))) : Int).toNat ((wrap64 (bt205.2.2.1 + (mx a1 0))) : Int).toNat, bt205.2.1, wrap64 (bt205.2.2.1 + (mx a1 0)), bt205.2.2.2)) else (none)) else (none)) else (none)))) else (some ((⟨#[]⟩ : ByteArray), s0_0, s0_1, s0_2))
set_option maxHeartbeats 8000000 in
set_option maxRecDepth 100000 in
theorem factotumref01_Reader_Raw.calls (g : Nat) (s0_0 : ByteArray) (s0_1 : Int) (s0_2 : Int) (a1 : Int) (r1 : ByteArray) (r2 : ByteArray) (r3 : Int) (r4 : Int) (w0 w : World) (hI : IsS72 w0 w g s0_0 s0_1 s0_2) (hB : Below w0.heap.size w0 w) (h : factotumref01_Reader_Raw.f s0_0 s0_1 s0_2 a1 = some (r1, r2, r3, r4)) :
    Calls Tryd.prog 52 #[.pointer (some ⟨g, 0, none⟩), .int .i64 a1] w fun e w' => e = .returned (.string r1) ∧ IsS72 w0 w' g r2 r3 r4 ∧ Below w0.heap.size w0 w' ∧ KeepBut w w' g none := by
  have HI0 := Aside0.mk hI
  have HK := Aside0.mk (KeepBut.refl w g none)
  have HL := Aside0.mk hB.size
  clear hI
  have HW0 := Aside0.mk hB.size
  have HB := Aside0.mk hB
  clear hB
  have H : (if s0_2 = 0 then ((factotumref01_Reader_Left.f s0_0 s0_1 s0_2).bind fun bt205 => (if (mx a1 0) > bt205.1 then (some ((⟨#[]⟩ : ByteArray), bt205.2.1, bt205.2.2.1, 2)) else (if 0 ≤ (wrap64 ((wrap64 (bt205.2.2.1 + (mx a1 0))) - (mx a1 0))) then (if (wrap64 ((wrap64 (bt205.2.2.1 + (mx a1 0))) - (mx a1 0))) ≤ (wrap64 (bt205.2.2.1 + (mx a1 0))) then (if (wrap64 (bt205.2.2.1 + (mx a1 0))) ≤ (bt205.2.1.size : Int) then (some (bt205.2.1.extract ((wrap64 ((wrap64 (bt205.2.2.1 + (mx a1 0))) - (mx a1 0))) : Int).toNat ((wrap64 (bt205.2.2.1 + (mx a1 0))) : Int).toNat, bt205.2.1, wrap64 (bt205.2.2.1 + (mx a1 0)), bt205.2.2.2)) else (none)) else (none)) else (none)))) else (some ((⟨#[]⟩ : ByteArray), s0_0, s0_1, s0_2))) = some (r1, r2, r3, r4) := h
  clear h
  obtain ⟨ji3, hji3⟩ : ∃ j_ : Int, (mx a1 0) = j_ := ⟨_, rfl⟩
  replace H : (if s0_2 = 0 then ((factotumref01_Reader_Left.f s0_0 s0_1 s0_2).bind fun bt205 => (if (ji3) > bt205.1 then (some ((⟨#[]⟩ : ByteArray), bt205.2.1, bt205.2.2.1, 2)) else (if 0 ≤ (wrap64 ((wrap64 (bt205.2.2.1 + (ji3))) - (ji3))) then (if (wrap64 ((wrap64 (bt205.2.2.1 + (ji3))) - (ji3))) ≤ (wrap64 (bt205.2.2.1 + (ji3))) then (if (wrap64 (bt205.2.2.1 + (ji3))) ≤ (bt205.2.1.size : Int) then (some (bt205.2.1.extract ((wrap64 ((wrap64 (bt205.2.2.1 + (ji3))) - (ji3))) : Int).toNat ((wrap64 (bt205.2.2.1 + (ji3))) : Int).toNat, bt205.2.1, wrap64 (bt205.2.2.1 + (ji3)), bt205.2.2.2)) else (none)) else (none)) else (none)))) else (some ((⟨#[]⟩ : ByteArray), s0_0, s0_1, s0_2))) = some (r1, r2, r3, r4) := by first | (rw [hji3] at H; exact H) | (simp only [hji3] at H ⊢; exact H)
  (try (have hji3l : 0 ≤ ji3 := by (rw [← hji3]; unfold mx; (repeat' split) <;> omega)))
  (try (have hji3m : 0 ≤ ji3 := by omega))
  have hji3_ : (if a1 < 0 then 0 else a1) = ji3 := hji3
  by_cases c4 : s0_2 = 0
  · rw [if_pos c4] at H
    have c4b0 : (s0_2 == 0) = true := beq_iff_eq.mpr c4
    have c4b1 : (s0_2 != 0) = false := bne_eq_false_iff_eq.mpr c4
    clear c4
    replace H := Option.bind_eq_some_iff.mp H
    obtain ⟨⟨t205, t206, t207, t208⟩, A50, H⟩ := H
    replace H : (if (ji3) > t205 then (some ((⟨#[]⟩ : ByteArray), t206, t207, 2)) else (if 0 ≤ (wrap64 ((wrap64 (t207 + (ji3))) - (ji3))) then (if (wrap64 ((wrap64 (t207 + (ji3))) - (ji3))) ≤ (wrap64 (t207 + (ji3))) then (if (wrap64 (t207 + (ji3))) ≤ (t206.size : Int) then (some (t206.extract ((wrap64 ((wrap64 (t207 + (ji3))) - (ji3))) : Int).toNat ((wrap64 (t207 + (ji3))) : Int).toNat, t206, wrap64 (t207 + (ji3)), t208)) else (none)) else (none)) else (none))) = some (r1, r2, r3, r4) := H
    have A5 := Aside0.mk A50
    clear A50
    by_cases c6 : (ji3) > t205
    · rw [if_pos c6] at H
      have c6b0 : decide (t205 < (ji3)) = true := decide_eq_true c6
      clear c6
      simp only [Option.some.injEq, Prod.mk.injEq] at H
      obtain ⟨rfl, rfl, rfl, rfl⟩ := H
      obtain ⟨HGz7, hgz7⟩ := HI0.out
      have hcz7_0 := cellS72_0 HGz7
      have hcz7_1 := cellS72_1 HGz7
      have hcz7_2 := cellS72_2 HGz7
      have hfz7_0 := blk_frozen HGz7 0
      have hfz7_1 := blk_frozen HGz7 1
      have hfz7_2 := blk_frozen HGz7 2
      clear HGz7 hgz7
      go_enter Tryd.func52, Tryd.ntmps52
      go_wp2_with (first | (go_at_call 47; (with_reducible refine (factotumref01_Reader_Left.calls g s0_0 s0_1 s0_2 t205 t206 t207 t208 w0 _ ?side1 ?side2 A5.out).mono ?_); (case side1 => repeat (first | (with_reducible first | exact HI0.out | apply IsS72.alloc | apply IsS72.drewN | apply IsS72.drew | apply IsS72.set_0 | apply IsS72.set_1 | apply IsS72.set_2) | exact HI0.out)); (case side2 => repeat (first | (with_reducible first | exact HB.out | apply below_alloc | apply pw_below_drewN | apply below_drew1 | refine below_set ?_ (IsS72.ge HI0.out)) | exact HB.out)); rintro e w8 ⟨rfl, hi, hb, hk⟩; have n0_ := Aside0.mk (KeepBut.trans (by repeat (first | (with_reducible first | exact HK.out | apply KeepBut.set_ | apply keep_drewN | apply keep_drew | apply keep_alloc) | exact HK.out)) hk (.inl rfl)); have n1_ := Aside0.mk (hb); have n2_ := Aside0.mk (hi); clear HK; clear HB; clear HI0; have HK := n0_; have HB := n1_; have HI0 := n2_; clear n0_ n1_ n2_; (try clear hb); (try clear hb2); (try clear hk); (try clear hi); obtain ⟨HGz9, hgz9⟩ := HI0.out; have hcz9_0 := cellS72_0 HGz9; have hcz9_1 := cellS72_1 HGz9; have hcz9_2 := cellS72_2 HGz9; have hfz9_0 := blk_frozen HGz9 0; have hfz9_1 := blk_frozen HGz9 1; have hfz9_2 := blk_frozen HGz9 2; clear HGz9 hgz9))
      repeat (go_quiet (first | (go_at_call 47; (with_reducible refine (factotumref01_Reader_Left.calls g s0_0 s0_1 s0_2 t205 t206 t207 t208 w0 _ ?side1 ?side2 A5.out).mono ?_); (case side1 => repeat (first | (with_reducible first | exact HI0.out | apply IsS72.alloc | apply IsS72.drewN | apply IsS72.drew | apply IsS72.set_0 | apply IsS72.set_1 | apply IsS72.set_2) | exact HI0.out)); (case side2 => repeat (first | (with_reducible first | exact HB.out | apply below_alloc | apply pw_below_drewN | apply below_drew1 | refine below_set ?_ (IsS72.ge HI0.out)) | exact HB.out)); rintro e w8 ⟨rfl, hi, hb, hk⟩; have n0_ := Aside0.mk (KeepBut.trans (by repeat (first | (with_reducible first | exact HK.out | apply KeepBut.set_ | apply keep_drewN | apply keep_drew | apply keep_alloc) | exact HK.out)) hk (.inl rfl)); have n1_ := Aside0.mk (hb); have n2_ := Aside0.mk (hi); clear HK; clear HB; clear HI0; have HK := n0_; have HB := n1_; have HI0 := n2_; clear n0_ n1_ n2_; (try clear hb); (try clear hb2); (try clear hk); (try clear hi); obtain ⟨HGz9, hgz9⟩ := HI0.out; have hcz9_0 := cellS72_0 HGz9; have hcz9_1 := cellS72_1 HGz9; have hcz9_2 := cellS72_2 HGz9; have hfz9_0 := blk_frozen HGz9 0; have hfz9_1 := blk_frozen HGz9 1; have hfz9_2 := blk_frozen HGz9 2; clear HGz9 hgz9)); try go_wp2_with (first | (go_at_call 47; (with_reducible refine (factotumref01_Reader_Left.calls g s0_0 s0_1 s0_2 t205 t206 t207 t208 w0 _ ?side1 ?side2 A5.out).mono ?_); (case side1 => repeat (first | (with_reducible first | exact HI0.out | apply IsS72.alloc | apply IsS72.drewN | apply IsS72.drew | apply IsS72.set_0 | apply IsS72.set_1 | apply IsS72.set_2) | exact HI0.out)); (case side2 => repeat (first | (with_reducible first | exact HB.out | apply below_alloc | apply pw_below_drewN | apply below_drew1 | refine below_set ?_ (IsS72.ge HI0.out)) | exact HB.out)); rintro e w8 ⟨rfl, hi, hb, hk⟩; have n0_ := Aside0.mk (KeepBut.trans (by repeat (first | (with_reducible first | exact HK.out | apply KeepBut.set_ | apply keep_drewN | apply keep_drew | apply keep_alloc) | exact HK.out)) hk (.inl rfl)); have n1_ := Aside0.mk (hb); have n2_ := Aside0.mk (hi); clear HK; clear HB; clear HI0; have HK := n0_; have HB := n1_; have HI0 := n2_; clear n0_ n1_ n2_; (try clear hb); (try clear hb2); (try clear hk); (try clear hi); obtain ⟨HGz9, hgz9⟩ := HI0.out; have hcz9_0 := cellS72_0 HGz9; have hcz9_1 := cellS72_1 HGz9; have hcz9_2 := cellS72_2 HGz9; have hfz9_0 := blk_frozen HGz9 0; have hfz9_1 := blk_frozen HGz9 1; have hfz9_2 := blk_frozen HGz9 2; clear HGz9 hgz9)))
      go_ret
      exact ⟨by first | (with_reducible rfl) | (simp only [isEmpty_bne, Bool.not_not] <;> with_reducible rfl) | (simp [errW_none, errW_some] <;> with_reducible rfl) | (simp only [isEmpty_bne, Bool.not_not] <;> rfl) | rfl | (simp [errW_none, errW_some] <;> rfl) | (simp only [← hji3]; first | rfl | (simp [errW_none, errW_some] <;> rfl)) | (simp [*, errW_none, errW_some] <;> rfl), by repeat (first | (with_reducible first | exact HI0.out | apply IsS72.alloc | apply IsS72.drewN | apply IsS72.drew | apply IsS72.set_0 | apply IsS72.set_1 | apply IsS72.set_2) | exact HI0.out), by repeat (first | (with_reducible first | exact HB.out | apply below_alloc | apply pw_below_drewN | apply below_drew1 | refine below_set ?_ (IsS72.ge HI0.out)) | exact HB.out), by repeat (first | (with_reducible first | exact HK.out | apply KeepBut.set_ | apply keep_drewN | apply keep_drew | apply keep_alloc) | exact HK.out)⟩
    · rw [if_neg c6] at H
      have c6b0 : decide (t205 < (ji3)) = false := decide_eq_false c6
      clear c6
      obtain ⟨ji10, hji10⟩ : ∃ j_ : Int, (wrap64 ((wrap64 (t207 + (ji3))) - (ji3))) = j_ := ⟨_, rfl⟩
      replace H : (if 0 ≤ (ji10) then (if (ji10) ≤ (wrap64 (t207 + (ji3))) then (if (wrap64 (t207 + (ji3))) ≤ (t206.size : Int) then (some (t206.extract ((ji10) : Int).toNat ((wrap64 (t207 + (ji3))) : Int).toNat, t206, wrap64 (t207 + (ji3)), t208)) else (none)) else (none)) else (none)) = some (r1, r2, r3, r4) := by first | (rw [hji10] at H; exact H) | (simp only [hji10] at H ⊢; exact H)
      (try rw [hji10] at A5)
      have hji10w : (IntKind.i64.wrap ((wrap64 (t207 + (ji3))) - (ji3))) = ji10 := (i64_w _).trans hji10
      by_cases c11 : 0 ≤ (ji10)
      · rw [if_pos c11] at H
        have c11b0 := eq_true c11
        have c11b1 : decide (0 ≤ (ji10)) = true := decide_eq_true c11
        clear c11
        by_cases c12 : (ji10) ≤ (wrap64 (t207 + (ji3)))
        · rw [if_pos c12] at H
          have c12b0 := eq_true c12
          have c12b1 : decide ((ji10) ≤ (wrap64 (t207 + (ji3)))) = true := decide_eq_true c12
          by_cases c13 : (wrap64 (t207 + (ji3))) ≤ (t206.size : Int)
          · rw [if_pos c13] at H
            have c13b0 := eq_true c13
            have c13b1 : decide ((wrap64 (t207 + (ji3))) ≤ (t206.size : Int)) = true := decide_eq_true c13
            simp only [Option.some.injEq, Prod.mk.injEq] at H
            obtain ⟨rfl, rfl, rfl, rfl⟩ := H
            obtain ⟨HGz14, hgz14⟩ := HI0.out
            have hcz14_0 := cellS72_0 HGz14
            have hcz14_1 := cellS72_1 HGz14
            have hcz14_2 := cellS72_2 HGz14
            have hfz14_0 := blk_frozen HGz14 0
            have hfz14_1 := blk_frozen HGz14 1
            have hfz14_2 := blk_frozen HGz14 2
            clear HGz14 hgz14
            go_enter Tryd.func52, Tryd.ntmps52
            go_wp2_with (first | (go_at_call 47; (with_reducible refine (factotumref01_Reader_Left.calls g s0_0 s0_1 s0_2 t205 t206 t207 t208 w0 _ ?side1 ?side2 A5.out).mono ?_); (case side1 => repeat (first | (with_reducible first | exact HI0.out | apply IsS72.alloc | apply IsS72.drewN | apply IsS72.drew | apply IsS72.set_0 | apply IsS72.set_1 | apply IsS72.set_2) | exact HI0.out)); (case side2 => repeat (first | (with_reducible first | exact HB.out | apply below_alloc | apply pw_below_drewN | apply below_drew1 | refine below_set ?_ (IsS72.ge HI0.out)) | exact HB.out)); rintro e w15 ⟨rfl, hi, hb, hk⟩; have n0_ := Aside0.mk (KeepBut.trans (by repeat (first | (with_reducible first | exact HK.out | apply KeepBut.set_ | apply keep_drewN | apply keep_drew | apply keep_alloc) | exact HK.out)) hk (.inl rfl)); have n1_ := Aside0.mk (hb); have n2_ := Aside0.mk (hi); clear HK; clear HB; clear HI0; have HK := n0_; have HB := n1_; have HI0 := n2_; clear n0_ n1_ n2_; (try clear hb); (try clear hb2); (try clear hk); (try clear hi); obtain ⟨HGz16, hgz16⟩ := HI0.out; have hcz16_0 := cellS72_0 HGz16; have hcz16_1 := cellS72_1 HGz16; have hcz16_2 := cellS72_2 HGz16; have hfz16_0 := blk_frozen HGz16 0; have hfz16_1 := blk_frozen HGz16 1; have hfz16_2 := blk_frozen HGz16 2; clear HGz16 hgz16))
            repeat (go_quiet (first | (go_at_call 47; (with_reducible refine (factotumref01_Reader_Left.calls g s0_0 s0_1 s0_2 t205 t206 t207 t208 w0 _ ?side1 ?side2 A5.out).mono ?_); (case side1 => repeat (first | (with_reducible first | exact HI0.out | apply IsS72.alloc | apply IsS72.drewN | apply IsS72.drew | apply IsS72.set_0 | apply IsS72.set_1 | apply IsS72.set_2) | exact HI0.out)); (case side2 => repeat (first | (with_reducible first | exact HB.out | apply below_alloc | apply pw_below_drewN | apply below_drew1 | refine below_set ?_ (IsS72.ge HI0.out)) | exact HB.out)); rintro e w15 ⟨rfl, hi, hb, hk⟩; have n0_ := Aside0.mk (KeepBut.trans (by repeat (first | (with_reducible first | exact HK.out | apply KeepBut.set_ | apply keep_drewN | apply keep_drew | apply keep_alloc) | exact HK.out)) hk (.inl rfl)); have n1_ := Aside0.mk (hb); have n2_ := Aside0.mk (hi); clear HK; clear HB; clear HI0; have HK := n0_; have HB := n1_; have HI0 := n2_; clear n0_ n1_ n2_; (try clear hb); (try clear hb2); (try clear hk); (try clear hi); obtain ⟨HGz16, hgz16⟩ := HI0.out; have hcz16_0 := cellS72_0 HGz16; have hcz16_1 := cellS72_1 HGz16; have hcz16_2 := cellS72_2 HGz16; have hfz16_0 := blk_frozen HGz16 0; have hfz16_1 := blk_frozen HGz16 1; have hfz16_2 := blk_frozen HGz16 2; clear HGz16 hgz16)); try go_wp2_with (first | (go_at_call 47; (with_reducible refine (factotumref01_Reader_Left.calls g s0_0 s0_1 s0_2 t205 t206 t207 t208 w0 _ ?side1 ?side2 A5.out).mono ?_); (case side1 => repeat (first | (with_reducible first | exact HI0.out | apply IsS72.alloc | apply IsS72.drewN | apply IsS72.drew | apply IsS72.set_0 | apply IsS72.set_1 | apply IsS72.set_2) | exact HI0.out)); (case side2 => repeat (first | (with_reducible first | exact HB.out | apply below_alloc | apply pw_below_drewN | apply below_drew1 | refine below_set ?_ (IsS72.ge HI0.out)) | exact HB.out)); rintro e w15 ⟨rfl, hi, hb, hk⟩; have n0_ := Aside0.mk (KeepBut.trans (by repeat (first | (with_reducible first | exact HK.out | apply KeepBut.set_ | apply keep_drewN | apply keep_drew | apply keep_alloc) | exact HK.out)) hk (.inl rfl)); have n1_ := Aside0.mk (hb); have n2_ := Aside0.mk (hi); clear HK; clear HB; clear HI0; have HK := n0_; have HB := n1_; have HI0 := n2_; clear n0_ n1_ n2_; (try clear hb); (try clear hb2); (try clear hk); (try clear hi); obtain ⟨HGz16, hgz16⟩ := HI0.out; have hcz16_0 := cellS72_0 HGz16; have hcz16_1 := cellS72_1 HGz16; have hcz16_2 := cellS72_2 HGz16; have hfz16_0 := blk_frozen HGz16 0; have hfz16_1 := blk_frozen HGz16 1; have hfz16_2 := blk_frozen HGz16 2; clear HGz16 hgz16)))
            go_ret
            exact ⟨by first | (with_reducible rfl) | (simp only [isEmpty_bne, Bool.not_not] <;> with_reducible rfl) | (simp [errW_none, errW_some] <;> with_reducible rfl) | (simp only [isEmpty_bne, Bool.not_not] <;> rfl) | rfl | (simp [errW_none, errW_some] <;> rfl) | (simp only [← hji3, ← hji10]; first | rfl | (simp [errW_none, errW_some] <;> rfl)) | (simp [*, errW_none, errW_some] <;> rfl), by repeat (first | (with_reducible first | exact HI0.out | apply IsS72.alloc | apply IsS72.drewN | apply IsS72.drew | apply IsS72.set_0 | apply IsS72.set_1 | apply IsS72.set_2) | exact HI0.out), by repeat (first | (with_reducible first | exact HB.out | apply below_alloc | apply pw_below_drewN | apply below_drew1 | refine below_set ?_ (IsS72.ge HI0.out)) | exact HB.out), by repeat (first | (with_reducible first | exact HK.out | apply KeepBut.set_ | apply keep_drewN | apply keep_drew | apply keep_alloc) | exact HK.out)⟩
          · rw [if_neg c13] at H
            exact absurd H (by simp)
        · rw [if_neg c12] at H
          exact absurd H (by simp)
      · rw [if_neg c11] at H
        exact absurd H (by simp)
  · rw [if_neg c4] at H
    have c4b0 : (s0_2 == 0) = false := beq_eq_false_iff_ne.mpr c4
    have c4b1 : (s0_2 != 0) = true := bne_iff_ne.mpr c4
    simp only [Option.some.injEq, Prod.mk.injEq] at H
    obtain ⟨rfl, rfl, rfl, rfl⟩ := H
    obtain ⟨HGz17, hgz17⟩ := HI0.out
    have hcz17_0 := cellS72_0 HGz17
    have hcz17_1 := cellS72_1 HGz17
    have hcz17_2 := cellS72_2 HGz17
    have hfz17_0 := blk_frozen HGz17 0
    have hfz17_1 := blk_frozen HGz17 1
    have hfz17_2 := blk_frozen HGz17 2
    clear HGz17 hgz17
    go_enter Tryd.func52, Tryd.ntmps52
    go_wp2
    repeat (go_quiet (fail); try go_wp2)
    go_ret
    exact ⟨by first | (with_reducible rfl) | (simp only [isEmpty_bne, Bool.not_not] <;> with_reducible rfl) | (simp [errW_none, errW_some] <;> with_reducible rfl) | (simp only [isEmpty_bne, Bool.not_not] <;> rfl) | rfl | (simp [errW_none, errW_some] <;> rfl) | (simp only [← hji3]; first | rfl | (simp [errW_none, errW_some] <;> rfl)) | (simp [*, errW_none, errW_some] <;> rfl), by repeat (first | (with_reducible first | exact HI0.out | apply IsS72.alloc | apply IsS72.drewN | apply IsS72.drew | apply IsS72.set_0 | apply IsS72.set_1 | apply IsS72.set_2) | exact HI0.out), by repeat (first | (with_reducible first | exact HB.out | apply below_alloc | apply pw_below_drewN | apply below_drew1 | refine below_set ?_ (IsS72.ge HI0.out)) | exact HB.out), by repeat (first | (with_reducible first | exact HK.out | apply KeepBut.set_ | apply keep_drewN | apply keep_drew | apply keep_alloc) | exact HK.out)⟩

/-! ### factotumref01_Reader_Num: function 38 -/
def factotumref01_Reader_Num.l0 : Nat → ByteArray → Int → Int → ByteArray → Int → Int → Option (Int × ByteArray × Int × Int)
  | 0, _, _, _, _, _, _ => none
  | k + 1, x5, x6, x7, x1000, x1001, x1002 => if x7 < (x5.size : Int) then (if 0 ≤ x7 then (factotumref01_Reader_Num.l0 k x5 (IntKind.u64.wrap ((IntKind.u64.wrap (256 * x6)) + (IntKind.u64.wrap (bt x5 x7)))) (wrap64 (x7 + 1)) x1000 x1001 x1002) else (none)) else (some (x6, x1000, x1001, x1002))
def factotumref01_Reader_Num.f (k : Nat) (s0_0 : ByteArray) (s0_1 : Int) (s0_2 : Int) (a1 : Int) : Option (Int × ByteArray × Int × Int) := (factotumref01_size.f a1).bind fun t209 => ((factotumref01_Reader_Raw.f s0_0 s0_1 s0_2 t209).bind fun bt210 => (factotumref01_Reader_Num.l0 k bt210.1 0 0 bt210.2.1 bt210.2.2.1 bt210.2.2.2))
theorem factotumref01_Reader_Num.mono_l : ∀ k, (∀ y0 y1 y2 y3 y4 y5, LeO (factotumref01_Reader_Num.l0 k y0 y1 y2 y3 y4 y5) (factotumref01_Reader_Num.l0 (k + 1) y0 y1 y2 y3 y4 y5))
  | 0 => fun _ _ _ _ _ _ r h => by simp [factotumref01_Reader_Num.l0] at h
  | k + 1 => by
    have ih0 := factotumref01_Reader_Num.mono_l k
    · intro y0 y1 y2 y3 y4 y5
      unfold factotumref01_Reader_Num.l0
      repeat' first
      | (with_reducible exact ih0 _ _ _ _ _ _)
      | (with_reducible exact LeO.refl _)
      | (with_reducible exact LeO.none _)
      | (with_reducible refine LeO.ite ?_ ?_)
      | (with_reducible refine LeO.bind ?_ (fun _ => ?_))
      | exact ih0 _ _ _ _ _ _
      | exact LeO.none _
      | refine LeO.ite ?_ ?_
      | refine LeO.bind ?_ (fun _ => ?_)
theorem factotumref01_Reader_Num.mono : ∀ a0 a1 a2 a3 k, LeO (factotumref01_Reader_Num.f k a0 a1 a2 a3) (factotumref01_Reader_Num.f (k + 1) a0 a1 a2 a3) := by
  intro a0 a1 a2 a3 k
  have ih0 := factotumref01_Reader_Num.mono_l k
  unfold factotumref01_Reader_Num.f
  repeat' first
      | (with_reducible exact ih0 _ _ _ _ _ _)
      | (with_reducible exact LeO.refl _)
      | (with_reducible exact LeO.none _)
      | (with_reducible refine LeO.ite ?_ ?_)
      | (with_reducible refine LeO.bind ?_ (fun _ => ?_))
      | exact ih0 _ _ _ _ _ _
      | exact LeO.none _
      | refine LeO.ite ?_ ?_
      | refine LeO.bind ?_ (fun _ => ?_)
set_option maxHeartbeats 8000000 in
set_option maxRecDepth 100000 in
theorem factotumref01_Reader_Num.calls (k : Nat) (g : Nat) (s0_0 : ByteArray) (s0_1 : Int) (s0_2 : Int) (a1 : Int) (r1 : Int) (r2 : ByteArray) (r3 : Int) (r4 : Int) (w0 w : World) (hI : IsS72 w0 w g s0_0 s0_1 s0_2) (hB : Below w0.heap.size w0 w) (h : factotumref01_Reader_Num.f k s0_0 s0_1 s0_2 a1 = some (r1, r2, r3, r4)) :
    Calls Tryd.prog 38 #[.pointer (some ⟨g, 0, none⟩), .int .i64 a1] w fun e w' => e = .returned (.int .u64 r1) ∧ IsS72 w0 w' g r2 r3 r4 ∧ Below w0.heap.size w0 w' ∧ KeepBut w w' g none := by
  have HI0 := Aside0.mk hI
  have HK := Aside0.mk (KeepBut.refl w g none)
  have HL := Aside0.mk hB.size
  clear hI
  have HW0 := Aside0.mk hB.size
  have HB := Aside0.mk hB
  clear hB
  have H : ((factotumref01_size.f a1).bind fun t209 => ((factotumref01_Reader_Raw.f s0_0 s0_1 s0_2 t209).bind fun bt210 => (factotumref01_Reader_Num.l0 k bt210.1 0 0 bt210.2.1 bt210.2.2.1 bt210.2.2.2))) = some (r1, r2, r3, r4) := h
  clear h
  replace H := Option.bind_eq_some_iff.mp H
  obtain ⟨t209, A30, H⟩ := H
  replace H : ((factotumref01_Reader_Raw.f s0_0 s0_1 s0_2 t209).bind fun bt210 => (factotumref01_Reader_Num.l0 k bt210.1 0 0 bt210.2.1 bt210.2.2.1 bt210.2.2.2)) = some (r1, r2, r3, r4) := H
  have A3 := Aside0.mk A30
  clear A30
  replace H := Option.bind_eq_some_iff.mp H
  obtain ⟨⟨t210, t211, t212, t213⟩, A40, H⟩ := H
  replace H : (factotumref01_Reader_Num.l0 k t210 0 0 t211 t212 t213) = some (r1, r2, r3, r4) := H
  have A4 := Aside0.mk A40
  clear A40
  have H' := Aside0.mk H
  clear H
  go_enter Tryd.func38, Tryd.ntmps38
  go_wp2_with (first | ((with_reducible refine gate_callee (f := 43) rfl ?_); refine goesL_ (some 10) rfl rfl Tryd.func43 (by kernel_rfl) rfl #[.int .i64 a1] rfl (by (try simp only [List.map_toArray, List.map_cons, List.map_nil]); first | done | rfl | (simp only [List.length_drop, List.length_take]; rfl) | (simp (disch := omega) only [u64_in]; rfl)) ?_; (with_reducible refine (factotumref01_size.calls a1 t209 _ A3.out).mono ?_); rintro e w5 ⟨rfl, hb⟩; refine ⟨_, rfl, ?_⟩; have n0_ := Aside0.mk (IsS72.below (by repeat (first | (with_reducible first | exact HI0.out | apply IsS72.alloc | apply IsS72.drewN | apply IsS72.drew | apply IsS72.set_0 | apply IsS72.set_1 | apply IsS72.set_2) | exact HI0.out)) hb); have n1_ := Aside0.mk (KeepBut.trans (by repeat (first | (with_reducible first | exact HK.out | apply KeepBut.set_ | apply keep_drewN | apply keep_drew | apply keep_alloc) | exact HK.out)) (KeepBut.of_below hb g none) (.inl rfl)); have n2_ := Aside0.mk (below_step (by repeat (first | (with_reducible first | exact HB.out | apply below_alloc | apply pw_below_drewN | apply below_drew1 | refine below_set ?_ (IsS72.ge HI0.out)) | exact HB.out)) hb); clear HI0; clear HK; clear HB; have HI0 := n0_; have HK := n1_; have HB := n2_; clear n0_ n1_ n2_; (try clear hb); (try clear hb2); (try clear hk); (try clear hi)) | ((with_reducible refine gate_callee (f := 52) rfl ?_); refine goesL_ (some 11) rfl rfl Tryd.func52 (by kernel_rfl) rfl #[.pointer (some ⟨g, 0, none⟩), .int .i64 t209] rfl (by (try simp only [List.map_toArray, List.map_cons, List.map_nil]); first | done | rfl | (simp only [List.length_drop, List.length_take]; rfl) | (simp (disch := omega) only [u64_in]; rfl)) ?_; (with_reducible refine (factotumref01_Reader_Raw.calls g s0_0 s0_1 s0_2 t209 t210 t211 t212 t213 w0 _ ?side1 ?side2 A4.out).mono ?_); (case side1 => repeat (first | (with_reducible first | exact HI0.out | apply IsS72.alloc | apply IsS72.drewN | apply IsS72.drew | apply IsS72.set_0 | apply IsS72.set_1 | apply IsS72.set_2) | exact HI0.out)); (case side2 => repeat (first | (with_reducible first | exact HB.out | apply below_alloc | apply pw_below_drewN | apply below_drew1 | refine below_set ?_ (IsS72.ge HI0.out)) | exact HB.out)); rintro e w6 ⟨rfl, hi, hb, hk⟩; refine ⟨_, rfl, ?_⟩; have n0_ := Aside0.mk (KeepBut.trans (by repeat (first | (with_reducible first | exact HK.out | apply KeepBut.set_ | apply keep_drewN | apply keep_drew | apply keep_alloc) | exact HK.out)) hk (.inl rfl)); have n1_ := Aside0.mk (hb); have n2_ := Aside0.mk (hi); clear HK; clear HB; clear HI0; have HK := n0_; have HB := n1_; have HI0 := n2_; clear n0_ n1_ n2_; (try clear hb); (try clear hb2); (try clear hk); (try clear hi)))
  go_loopg [6, 7] k (fun kq v6 v7 w' => ∃ (x6_1 : Int) (x7_1 : Int), v6 = .int .u64 x6_1 ∧ v7 = .int .i64 x7_1 ∧ Aside0 (factotumref01_Reader_Num.l0 kq t210 x6_1 x7_1 t211 t212 t213 = some (r1, r2, r3, r4)) ∧ Aside0 (kq ≤ k) ∧ Aside0 (IsS72 w0 w' g t211 t212 t213) ∧ Aside0 (KeepBut w w' g none) ∧ Aside0 (Below w0.heap.size w0 w'))
  case atStart => exact ⟨(0), (0), (by first | (with_reducible rfl) | (simp; done) | (simp [*]; done) | rfl), (by first | (with_reducible rfl) | (simp; done) | (simp [*]; done) | rfl), H', ⟨Nat.le_refl _⟩, ⟨by repeat (first | (with_reducible first | exact HI0.out | apply IsS72.alloc | apply IsS72.drewN | apply IsS72.drew | apply IsS72.set_0 | apply IsS72.set_1 | apply IsS72.set_2) | exact HI0.out)⟩, ⟨by repeat (first | (with_reducible first | exact HK.out | apply KeepBut.set_ | apply keep_drewN | apply keep_drew | apply keep_alloc) | exact HK.out)⟩, ⟨by repeat (first | (with_reducible first | exact HB.out | apply below_alloc | apply pw_below_drewN | apply below_drew1 | refine below_set ?_ (IsS72.ge HI0.out)) | exact HB.out)⟩⟩
  case round =>
    clear H'
    try clear p2
    try clear c3
    try clear c4
    try clear c5
    obtain ⟨x6_1, x7_1, rfl, rfl, HA, HK1, HI0, HK, HB⟩ := hrel
    cases gk with
    | zero => exact absurd HA.out (by simp [factotumref01_Reader_Num.l0])
    | succ k1 =>
      have H := HA.out
      clear HA
      simp only [factotumref01_Reader_Num.l0] at H
      by_cases c7 : x7_1 < (t210.size : Int)
      · rw [if_pos c7] at H
        have c7b0 : decide (x7_1 < (t210.size : Int)) = true := decide_eq_true c7
        clear c7
        by_cases c8 : 0 ≤ x7_1
        · rw [if_pos c8] at H
          have c8b0 : decide (0 ≤ x7_1) = true := decide_eq_true c8
          clear c8
          have H' := Aside0.mk H
          clear H
          have p9 : 0 ≤ (x7_1 : Int) := of_decide_eq_true (by first | (with_reducible assumption) | assumption)
          have q9 : x7_1 < (t210.size : Int) := of_decide_eq_true (by first | (with_reducible assumption) | assumption)
          have hx9 := bt_at t210 x7_1
          replace p9 := eq_true p9
          replace q9 := eq_true q9
          go_wp2
          go_roundg k1
          case measure => have := HK1.out; omega
          case rel => exact ⟨(IntKind.u64.wrap ((IntKind.u64.wrap (256 * x6_1)) + (IntKind.u64.wrap (bt t210 x7_1)))), (wrap64 (x7_1 + 1)), (by first | (with_reducible rfl) | (simp; done) | (simp [*]; done) | rfl), (by first | (with_reducible rfl) | (simp; done) | (simp [*]; done) | rfl), H', ⟨by have := HK1.out; omega⟩, ⟨by repeat (first | (with_reducible first | exact HI0.out | apply IsS72.alloc | apply IsS72.drewN | apply IsS72.drew | apply IsS72.set_0 | apply IsS72.set_1 | apply IsS72.set_2) | exact HI0.out)⟩, ⟨by repeat (first | (with_reducible first | exact HK.out | apply KeepBut.set_ | apply keep_drewN | apply keep_drew | apply keep_alloc) | exact HK.out)⟩, ⟨by repeat (first | (with_reducible first | exact HB.out | apply below_alloc | apply pw_below_drewN | apply below_drew1 | refine below_set ?_ (IsS72.ge HI0.out)) | exact HB.out)⟩⟩
        · rw [if_neg c8] at H
          exact absurd H (by simp)
      · rw [if_neg c7] at H
        have c7b0 : decide (x7_1 < (t210.size : Int)) = false := decide_eq_false c7
        clear c7
        simp only [Option.some.injEq, Prod.mk.injEq] at H
        obtain ⟨rfl, rfl, rfl, rfl⟩ := H
        go_wp2
        go_ret
        exact ⟨by first | (with_reducible rfl) | (simp only [isEmpty_bne, Bool.not_not] <;> with_reducible rfl) | (simp [errW_none, errW_some] <;> with_reducible rfl) | (simp only [isEmpty_bne, Bool.not_not] <;> rfl) | rfl | (simp [errW_none, errW_some] <;> rfl) | (simp [*, errW_none, errW_some] <;> rfl), by repeat (first | (with_reducible first | exact HI0.out | apply IsS72.alloc | apply IsS72.drewN | apply IsS72.drew | apply IsS72.set_0 | apply IsS72.set_1 | apply IsS72.set_2) | exact HI0.out), by repeat (first | (with_reducible first | exact HB.out | apply below_alloc | apply pw_below_drewN | apply below_drew1 | refine below_set ?_ (IsS72.ge HI0.out)) | exact HB.out), by repeat (first | (with_reducible first | exact HK.out | apply KeepBut.set_ | apply keep_drewN | apply keep_drew | apply keep_alloc) | exact HK.out)⟩

/-! ### factotumref01_Reader_Str: function 46 -/
def factotumref01_Reader_Str.f (s0_0 : ByteArray) (s0_1 : Int) (s0_2 : Int) (a1 : Int) : Option (ByteArray × ByteArray × Int × Int) := if s0_2 = 0 then ((factotumref01_Reader_Left.f s0_0 s0_1 s0_2).bind fun bt214 => (if bt214.1 < 1 then (some ((⟨#[]⟩ : ByteArray), bt214.2.1, bt214.2.2.1, 2)) else (if 0 ≤ bt214.2.2.1 then (if bt214.2.2.1 < (bt214.2.1.size : Int) then (if (wrap64 (bt bt214.2.1 bt214.2.2.1)) > a1 then (some ((⟨#[]⟩ : ByteArray), bt214.2.1, bt214.2.2.1, 3)) else ((factotumref01_Reader_Left.f bt214.2.1 bt214.2.2.1 bt214.2.2.2).bind fun bt218 => (if bt218.1 < (wrap64 (1 + (wrap64 (bt bt214.2.1 bt214.2.2.1)))) then (some ((⟨#[]⟩ : ByteArray), bt218.2.1, bt218.2.2.1, 2)) else (if 0 ≤ (wrap64 ((wrap64 (bt218.2.2.1 + (wrap64 (1 + (wrap64 (bt bt214.2.1 bt214.2.2.1)))))) - (wrap64 (bt bt214.2.1 bt214.2.2.1)))) then (if (wrap64 ((wrap64 (bt218.2.2.1 + (wrap64 (1 + (wrap64 (bt bt214.2.1 bt214.2.2.1)))))) - (wrap64 (bt bt214.2.1 bt214.2.2.1)))) ≤ (wrap64 (bt218.2.2.1 + (wrap64 (1 + (wrap64 (bt bt214.2.1 bt214.2.2.1)))))) then (if (wrap64 (bt218.2.2.1 + (wrap64 (1 + (wrap64 (bt bt214.2.1 bt214.2.2.1)))))) ≤ (bt218.2.1.size : Int) then (some (bt218.2.1.extract ((wrap64 ((wrap64 (bt218.2.2.1 + (wrap64 (1 + (wrap64 (bt bt214.2.1 bt214.2.2.1)))))) - (wrap64 (bt bt214.2.1 bt214.2.2.1)))) : Int).toNat ((wrap64 (bt218.2.2.1 + (wrap64 (1 + (wrap64 (bt bt214.2.1 bt214.2.2.1)))))) : Int).toNat, bt218.2.1, wrap64 (bt218.2.2.1 + (wrap64 (1 + (wrap64 (bt bt214.2.1 bt214.2.2.1))))), bt218.2.2.2)) else (none)) else (none)) else (none))))) else (none)) else (none)))) else (some ((⟨#[]⟩ : ByteArray), s0_0, s0_1, s0_2))
set_option maxHeartbeats 8000000 in
set_option maxRecDepth 100000 in
theorem factotumref01_Reader_Str.calls (g : Nat) (s0_0 : ByteArray) (s0_1 : Int) (s0_2 : Int) (a1 : Int) (r1 : ByteArray) (r2 : ByteArray) (r3 : Int) (r4 : Int) (w0 w : World) (hI : IsS72 w0 w g s0_0 s0_1 s0_2) (hB : Below w0.heap.size w0 w) (h : factotumref01_Reader_Str.f s0_0 s0_1 s0_2 a1 = some (r1, r2, r3, r4)) :
    Calls Tryd.prog 46 #[.pointer (some ⟨g, 0, none⟩), .int .i64 a1] w fun e w' => e = .returned (.string r1) ∧ IsS72 w0 w' g r2 r3 r4 ∧ Below w0.heap.size w0 w' ∧ KeepBut w w' g none := by
  have HI0 := Aside0.mk hI
  have HK := Aside0.mk (KeepBut.refl w g none)
  have HL := Aside0.mk hB.size
  clear hI
  have HW0 := Aside0.mk hB.size
  have HB := Aside0.mk hB
  clear hB
  have H : (if s0_2 = 0 then ((factotumref01_Reader_Left.f s0_0 s0_1 s0_2).bind fun bt214 => (if bt214.1 < 1 then (some ((⟨#[]⟩ : ByteArray), bt214.2.1, bt214.2.2.1, 2)) else (if 0 ≤ bt214.2.2.1 then (if bt214.2.2.1 < (bt214.2.1.size : Int) then (if (wrap64 (bt bt214.2.1 bt214.2.2.1)) > a1 then (some ((⟨#[]⟩ : ByteArray), bt214.2.1, bt214.2.2.1, 3)) else ((factotumref01_Reader_Left.f bt214.2.1 bt214.2.2.1 bt214.2.2.2).bind fun bt218 => (if bt218.1 < (wrap64 (1 + (wrap64 (bt bt214.2.1 bt214.2.2.1)))) then (some ((⟨#[]⟩ : ByteArray), bt218.2.1, bt218.2.2.1, 2)) else (if 0 ≤ (wrap64 ((wrap64 (bt218.2.2.1 + (wrap64 (1 + (wrap64 (bt bt214.2.1 bt214.2.2.1)))))) - (wrap64 (bt bt214.2.1 bt214.2.2.1)))) then (if (wrap64 ((wrap64 (bt218.2.2.1 + (wrap64 (1 + (wrap64 (bt bt214.2.1 bt214.2.2.1)))))) - (wrap64 (bt bt214.2.1 bt214.2.2.1)))) ≤ (wrap64 (bt218.2.2.1 + (wrap64 (1 + (wrap64 (bt bt214.2.1 bt214.2.2.1)))))) then (if (wrap64 (bt218.2.2.1 + (wrap64 (1 + (wrap64 (bt bt214.2.1 bt214.2.2.1)))))) ≤ (bt218.2.1.size : Int) then (some (bt218.2.1.extract ((wrap64 ((wrap64 (bt218.2.2.1 + (wrap64 (1 + (wrap64 (bt bt214.2.1 bt214.2.2.1)))))) - (wrap64 (bt bt214.2.1 bt214.2.2.1)))) : Int).toNat ((wrap64 (bt218.2.2.1 + (wrap64 (1 + (wrap64 (bt bt214.2.1 bt214.2.2.1)))))) : Int).toNat, bt218.2.1, wrap64 (bt218.2.2.1 + (wrap64 (1 + (wrap64 (bt bt214.2.1 bt214.2.2.1))))), bt218.2.2.2)) else (none)) else (none)) else (none))))) else (none)) else (none)))) else (some ((⟨#[]⟩ : ByteArray), s0_0, s0_1, s0_2))) = some (r1, r2, r3, r4) := h
  clear h
  by_cases c3 : s0_2 = 0
  · rw [if_pos c3] at H
    have c3b0 : (s0_2 == 0) = true := beq_iff_eq.mpr c3
    have c3b1 : (s0_2 != 0) = false := bne_eq_false_iff_eq.mpr c3
    clear c3
    replace H := Option.bind_eq_some_iff.mp H
    obtain ⟨⟨t214, t215, t216, t217⟩, A40, H⟩ := H
    replace H : (if t214 < 1 then (some ((⟨#[]⟩ : ByteArray), t215, t216, 2)) else (if 0 ≤ t216 then (if t216 < (t215.size : Int) then (if (wrap64 (bt t215 t216)) > a1 then (some ((⟨#[]⟩ : ByteArray), t215, t216, 3)) else ((factotumref01_Reader_Left.f t215 t216 t217).bind fun bt218 => (if bt218.1 < (wrap64 (1 + (wrap64 (bt t215 t216)))) then (some ((⟨#[]⟩ : ByteArray), bt218.2.1, bt218.2.2.1, 2)) else (if 0 ≤ (wrap64 ((wrap64 (bt218.2.2.1 + (wrap64 (1 + (wrap64 (bt t215 t216)))))) - (wrap64 (bt t215 t216)))) then (if (wrap64 ((wrap64 (bt218.2.2.1 + (wrap64 (1 + (wrap64 (bt t215 t216)))))) - (wrap64 (bt t215 t216)))) ≤ (wrap64 (bt218.2.2.1 + (wrap64 (1 + (wrap64 (bt t215 t216)))))) then (if (wrap64 (bt218.2.2.1 + (wrap64 (1 + (wrap64 (bt t215 t216)))))) ≤ (bt218.2.1.size : Int) then (some (bt218.2.1.extract ((wrap64 ((wrap64 (bt218.2.2.1 + (wrap64 (1 + (wrap64 (bt t215 t216)))))) - (wrap64 (bt t215 t216)))) : Int).toNat ((wrap64 (bt218.2.2.1 + (wrap64 (1 + (wrap64 (bt t215 t216)))))) : Int).toNat, bt218.2.1, wrap64 (bt218.2.2.1 + (wrap64 (1 + (wrap64 (bt t215 t216))))), bt218.2.2.2)) else (none)) else (none)) else (none))))) else (none)) else (none))) = some (r1, r2, r3, r4) := H
    have A4 := Aside0.mk A40
    clear A40
    by_cases c5 : t214 < 1
    · rw [if_pos c5] at H
      have c5b0 : decide (t214 < 1) = true := decide_eq_true c5
      clear c5
      simp only [Option.some.injEq, Prod.mk.injEq] at H
      obtain ⟨rfl, rfl, rfl, rfl⟩ := H
      obtain ⟨HGz6, hgz6⟩ := HI0.out
      have hcz6_0 := cellS72_0 HGz6
      have hcz6_1 := cellS72_1 HGz6
      have hcz6_2 := cellS72_2 HGz6
      have hfz6_0 := blk_frozen HGz6 0
      have hfz6_1 := blk_frozen HGz6 1
      have hfz6_2 := blk_frozen HGz6 2
      clear HGz6 hgz6
      go_enter Tryd.func46, Tryd.ntmps46
      go_wp2_with (first | (go_at_call 47; (with_reducible refine (factotumref01_Reader_Left.calls g s0_0 s0_1 s0_2 t214 t215 t216 t217 w0 _ ?side1 ?side2 A4.out).mono ?_); (case side1 => repeat (first | (with_reducible first | exact HI0.out | apply IsS72.alloc | apply IsS72.drewN | apply IsS72.drew | apply IsS72.set_0 | apply IsS72.set_1 | apply IsS72.set_2) | exact HI0.out)); (case side2 => repeat (first | (with_reducible first | exact HB.out | apply below_alloc | apply pw_below_drewN | apply below_drew1 | refine below_set ?_ (IsS72.ge HI0.out)) | exact HB.out)); rintro e w7 ⟨rfl, hi, hb, hk⟩; have n0_ := Aside0.mk (KeepBut.trans (by repeat (first | (with_reducible first | exact HK.out | apply KeepBut.set_ | apply keep_drewN | apply keep_drew | apply keep_alloc) | exact HK.out)) hk (.inl rfl)); have n1_ := Aside0.mk (hb); have n2_ := Aside0.mk (hi); clear HK; clear HB; clear HI0; have HK := n0_; have HB := n1_; have HI0 := n2_; clear n0_ n1_ n2_; (try clear hb); (try clear hb2); (try clear hk); (try clear hi); obtain ⟨HGz8, hgz8⟩ := HI0.out; have hcz8_0 := cellS72_0 HGz8; have hcz8_1 := cellS72_1 HGz8; have hcz8_2 := cellS72_2 HGz8; have hfz8_0 := blk_frozen HGz8 0; have hfz8_1 := blk_frozen HGz8 1; have hfz8_2 := blk_frozen HGz8 2; clear HGz8 hgz8))
      repeat (go_quiet (first | (go_at_call 47; (with_reducible refine (factotumref01_Reader_Left.calls g s0_0 s0_1 s0_2 t214 t215 t216 t217 w0 _ ?side1 ?side2 A4.out).mono ?_); (case side1 => repeat (first | (with_reducible first | exact HI0.out | apply IsS72.alloc | apply IsS72.drewN | apply IsS72.drew | apply IsS72.set_0 | apply IsS72.set_1 | apply IsS72.set_2) | exact HI0.out)); (case side2 => repeat (first | (with_reducible first | exact HB.out | apply below_alloc | apply pw_below_drewN | apply below_drew1 | refine below_set ?_ (IsS72.ge HI0.out)) | exact HB.out)); rintro e w7 ⟨rfl, hi, hb, hk⟩; have n0_ := Aside0.mk (KeepBut.trans (by repeat (first | (with_reducible first | exact HK.out | apply KeepBut.set_ | apply keep_drewN | apply keep_drew | apply keep_alloc) | exact HK.out)) hk (.inl rfl)); have n1_ := Aside0.mk (hb); have n2_ := Aside0.mk (hi); clear HK; clear HB; clear HI0; have HK := n0_; have HB := n1_; have HI0 := n2_; clear n0_ n1_ n2_; (try clear hb); (try clear hb2); (try clear hk); (try clear hi); obtain ⟨HGz8, hgz8⟩ := HI0.out; have hcz8_0 := cellS72_0 HGz8; have hcz8_1 := cellS72_1 HGz8; have hcz8_2 := cellS72_2 HGz8; have hfz8_0 := blk_frozen HGz8 0; have hfz8_1 := blk_frozen HGz8 1; have hfz8_2 := blk_frozen HGz8 2; clear HGz8 hgz8)); try go_wp2_with (first | (go_at_call 47; (with_reducible refine (factotumref01_Reader_Left.calls g s0_0 s0_1 s0_2 t214 t215 t216 t217 w0 _ ?side1 ?side2 A4.out).mono ?_); (case side1 => repeat (first | (with_reducible first | exact HI0.out | apply IsS72.alloc | apply IsS72.drewN | apply IsS72.drew | apply IsS72.set_0 | apply IsS72.set_1 | apply IsS72.set_2) | exact HI0.out)); (case side2 => repeat (first | (with_reducible first | exact HB.out | apply below_alloc | apply pw_below_drewN | apply below_drew1 | refine below_set ?_ (IsS72.ge HI0.out)) | exact HB.out)); rintro e w7 ⟨rfl, hi, hb, hk⟩; have n0_ := Aside0.mk (KeepBut.trans (by repeat (first | (with_reducible first | exact HK.out | apply KeepBut.set_ | apply keep_drewN | apply keep_drew | apply keep_alloc) | exact HK.out)) hk (.inl rfl)); have n1_ := Aside0.mk (hb); have n2_ := Aside0.mk (hi); clear HK; clear HB; clear HI0; have HK := n0_; have HB := n1_; have HI0 := n2_; clear n0_ n1_ n2_; (try clear hb); (try clear hb2); (try clear hk); (try clear hi); obtain ⟨HGz8, hgz8⟩ := HI0.out; have hcz8_0 := cellS72_0 HGz8; have hcz8_1 := cellS72_1 HGz8; have hcz8_2 := cellS72_2 HGz8; have hfz8_0 := blk_frozen HGz8 0; have hfz8_1 := blk_frozen HGz8 1; have hfz8_2 := blk_frozen HGz8 2; clear HGz8 hgz8)))
      go_ret
      exact ⟨by first | (with_reducible rfl) | (simp only [isEmpty_bne, Bool.not_not] <;> with_reducible rfl) | (simp [errW_none, errW_some] <;> with_reducible rfl) | (simp only [isEmpty_bne, Bool.not_not] <;> rfl) | rfl | (simp [errW_none, errW_some] <;> rfl) | (simp [*, errW_none, errW_some] <;> rfl), by repeat (first | (with_reducible first | exact HI0.out | apply IsS72.alloc | apply IsS72.drewN | apply IsS72.drew | apply IsS72.set_0 | apply IsS72.set_1 | apply IsS72.set_2) | exact HI0.out), by repeat (first | (with_reducible first | exact HB.out | apply below_alloc | apply pw_below_drewN | apply below_drew1 | refine below_set ?_ (IsS72.ge HI0.out)) | exact HB.out), by repeat (first | (with_reducible first | exact HK.out | apply KeepBut.set_ | apply keep_drewN | apply keep_drew | apply keep_alloc) | exact HK.out)⟩
    · rw [if_neg c5] at H
      have c5b0 : decide (t214 < 1) = false := decide_eq_false c5
      clear c5
      by_cases c9 : 0 ≤ t216
      · rw [if_pos c9] at H
        have c9b0 : decide (0 ≤ t216) = true := decide_eq_true c9
        clear c9
        by_cases c10 : t216 < (t215.size : Int)
        · rw [if_pos c10] at H
          have c10b0 : decide (t216 < (t215.size : Int)) = true := decide_eq_true c10
          clear c10
          by_cases c12 : (wrap64 (bt t215 t216)) > a1
          · rw [if_pos c12] at H
            have c12b0 : decide (a1 < (wrap64 (bt t215 t216))) = true := decide_eq_true c12
            clear c12
            simp only [Option.some.injEq, Prod.mk.injEq] at H
            obtain ⟨rfl, rfl, rfl, rfl⟩ := H
            obtain ⟨HGz13, hgz13⟩ := HI0.out
            have hcz13_0 := cellS72_0 HGz13
            have hcz13_1 := cellS72_1 HGz13
            have hcz13_2 := cellS72_2 HGz13
            have hfz13_0 := blk_frozen HGz13 0
            have hfz13_1 := blk_frozen HGz13 1
            have hfz13_2 := blk_frozen HGz13 2
            clear HGz13 hgz13
            go_enter Tryd.func46, Tryd.ntmps46
            go_wp2_with (first | (go_at_call 47; (with_reducible refine (factotumref01_Reader_Left.calls g s0_0 s0_1 s0_2 t214 t215 t216 t217 w0 _ ?side1 ?side2 A4.out).mono ?_); (case side1 => repeat (first | (with_reducible first | exact HI0.out | apply IsS72.alloc | apply IsS72.drewN | apply IsS72.drew | apply IsS72.set_0 | apply IsS72.set_1 | apply IsS72.set_2) | exact HI0.out)); (case side2 => repeat (first | (with_reducible first | exact HB.out | apply below_alloc | apply pw_below_drewN | apply below_drew1 | refine below_set ?_ (IsS72.ge HI0.out)) | exact HB.out)); rintro e w14 ⟨rfl, hi, hb, hk⟩; have n0_ := Aside0.mk (KeepBut.trans (by repeat (first | (with_reducible first | exact HK.out | apply KeepBut.set_ | apply keep_drewN | apply keep_drew | apply keep_alloc) | exact HK.out)) hk (.inl rfl)); have n1_ := Aside0.mk (hb); have n2_ := Aside0.mk (hi); clear HK; clear HB; clear HI0; have HK := n0_; have HB := n1_; have HI0 := n2_; clear n0_ n1_ n2_; (try clear hb); (try clear hb2); (try clear hk); (try clear hi); obtain ⟨HGz15, hgz15⟩ := HI0.out; have hcz15_0 := cellS72_0 HGz15; have hcz15_1 := cellS72_1 HGz15; have hcz15_2 := cellS72_2 HGz15; have hfz15_0 := blk_frozen HGz15 0; have hfz15_1 := blk_frozen HGz15 1; have hfz15_2 := blk_frozen HGz15 2; clear HGz15 hgz15; have p11 : 0 ≤ (t216 : Int) := of_decide_eq_true (by first | (with_reducible assumption) | assumption); have q11 : t216 < (t215.size : Int) := of_decide_eq_true (by first | (with_reducible assumption) | assumption); have hx11 := bt_at t215 t216; replace p11 := eq_true p11; replace q11 := eq_true q11))
            repeat (go_quiet (first | (go_at_call 47; (with_reducible refine (factotumref01_Reader_Left.calls g s0_0 s0_1 s0_2 t214 t215 t216 t217 w0 _ ?side1 ?side2 A4.out).mono ?_); (case side1 => repeat (first | (with_reducible first | exact HI0.out | apply IsS72.alloc | apply IsS72.drewN | apply IsS72.drew | apply IsS72.set_0 | apply IsS72.set_1 | apply IsS72.set_2) | exact HI0.out)); (case side2 => repeat (first | (with_reducible first | exact HB.out | apply below_alloc | apply pw_below_drewN | apply below_drew1 | refine below_set ?_ (IsS72.ge HI0.out)) | exact HB.out)); rintro e w14 ⟨rfl, hi, hb, hk⟩; have n0_ := Aside0.mk (KeepBut.trans (by repeat (first | (with_reducible first | exact HK.out | apply KeepBut.set_ | apply keep_drewN | apply keep_drew | apply keep_alloc) | exact HK.out)) hk (.inl rfl)); have n1_ := Aside0.mk (hb); have n2_ := Aside0.mk (hi); clear HK; clear HB; clear HI0; have HK := n0_; have HB := n1_; have HI0 := n2_; clear n0_ n1_ n2_; (try clear hb); (try clear hb2); (try clear hk); (try clear hi); obtain ⟨HGz15, hgz15⟩ := HI0.out; have hcz15_0 := cellS72_0 HGz15; have hcz15_1 := cellS72_1 HGz15; have hcz15_2 := cellS72_2 HGz15; have hfz15_0 := blk_frozen HGz15 0; have hfz15_1 := blk_frozen HGz15 1; have hfz15_2 := blk_frozen HGz15 2; clear HGz15 hgz15; have p11 : 0 ≤ (t216 : Int) := of_decide_eq_true (by first | (with_reducible assumption) | assumption); have q11 : t216 < (t215.size : Int) := of_decide_eq_true (by first | (with_reducible assumption) | assumption); have hx11 := bt_at t215 t216; replace p11 := eq_true p11; replace q11 := eq_true q11)); try go_wp2_with (first | (go_at_call 47; (with_reducible refine (factotumref01_Reader_Left.calls g s0_0 s0_1 s0_2 t214 t215 t216 t217 w0 _ ?side1 ?side2 A4.out).mono ?_); (case side1 => repeat (first | (with_reducible first | exact HI0.out | apply IsS72.alloc | apply IsS72.drewN | apply IsS72.drew | apply IsS72.set_0 | apply IsS72.set_1 | apply IsS72.set_2) | exact HI0.out)); (case side2 => repeat (first | (with_reducible first | exact HB.out | apply below_alloc | apply pw_below_drewN | apply below_drew1 | refine below_set ?_ (IsS72.ge HI0.out)) | exact HB.out)); rintro e w14 ⟨rfl, hi, hb, hk⟩; have n0_ := Aside0.mk (KeepBut.trans (by repeat (first | (with_reducible first | exact HK.out | apply KeepBut.set_ | apply keep_drewN | apply keep_drew | apply keep_alloc) | exact HK.out)) hk (.inl rfl)); have n1_ := Aside0.mk (hb); have n2_ := Aside0.mk (hi); clear HK; clear HB; clear HI0; have HK := n0_; have HB := n1_; have HI0 := n2_; clear n0_ n1_ n2_; (try clear hb); (try clear hb2); (try clear hk); (try clear hi); obtain ⟨HGz15, hgz15⟩ := HI0.out; have hcz15_0 := cellS72_0 HGz15; have hcz15_1 := cellS72_1 HGz15; have hcz15_2 := cellS72_2 HGz15; have hfz15_0 := blk_frozen HGz15 0; have hfz15_1 := blk_frozen HGz15 1; have hfz15_2 := blk_frozen HGz15 2; clear HGz15 hgz15; have p11 : 0 ≤ (t216 : Int) := of_decide_eq_true (by first | (with_reducible assumption) | assumption); have q11 : t216 < (t215.size : Int) := of_decide_eq_true (by first | (with_reducible assumption) | assumption); have hx11 := bt_at t215 t216; replace p11 := eq_true p11; replace q11 := eq_true q11)))
            go_ret
            exact ⟨by first | (with_reducible rfl) | (simp only [isEmpty_bne, Bool.not_not] <;> with_reducible rfl) | (simp [errW_none, errW_some] <;> with_reducible rfl) | (simp only [isEmpty_bne, Bool.not_not] <;> rfl) | rfl | (simp [errW_none, errW_some] <;> rfl) | (simp [*, errW_none, errW_some] <;> rfl), by repeat (first | (with_reducible first | exact HI0.out | apply IsS72.alloc | apply IsS72.drewN | apply IsS72.drew | apply IsS72.set_0 | apply IsS72.set_1 | apply IsS72.set_2) | exact HI0.out), by repeat (first | (with_reducible first | exact HB.out | apply below_alloc | apply pw_below_drewN | apply below_drew1 | refine below_set ?_ (IsS72.ge HI0.out)) | exact HB.out), by repeat (first | (with_reducible first | exact HK.out | apply KeepBut.set_ | apply keep_drewN | apply keep_drew | apply keep_alloc) | exact HK.out)⟩
          · rw [if_neg c12] at H
            have c12b0 : decide (a1 < (wrap64 (bt t215 t216))) = false := decide_eq_false c12
            clear c12
            replace H := Option.bind_eq_some_iff.mp H
            obtain ⟨⟨t218, t219, t220, t221⟩, A160, H⟩ := H
            replace H : (if t218 < (wrap64 (1 + (wrap64 (bt t215 t216)))) then (some ((⟨#[]⟩ : ByteArray), t219, t220, 2)) else (if 0 ≤ (wrap64 ((wrap64 (t220 + (wrap64 (1 + (wrap64 (bt t215 t216)))))) - (wrap64 (bt t215 t216)))) then (if (wrap64 ((wrap64 (t220 + (wrap64 (1 + (wrap64 (bt t215 t216)))))) - (wrap64 (bt t215 t216)))) ≤ (wrap64 (t220 + (wrap64 (1 + (wrap64 (bt t215 t216)))))) then (if (wrap64 (t220 + (wrap64 (1 + (wrap64 (bt t215 t216)))))) ≤ (t219.size : Int) then (some (t219.extract ((wrap64 ((wrap64 (t220 + (wrap64 (1 + (wrap64 (bt t215 t216)))))) - (wrap64 (bt t215 t216)))) : Int).toNat ((wrap64 (t220 + (wrap64 (1 + (wrap64 (bt t215 t216)))))) : Int).toNat, t219, wrap64 (t220 + (wrap64 (1 + (wrap64 (bt t215 t216))))), t221)) else (none)) else (none)) else (none))) = some (r1, r2, r3, r4) := H
            have A16 := Aside0.mk A160
            clear A160
            by_cases c17 : t218 < (wrap64 (1 + (wrap64 (bt t215 t216))))
            · rw [if_pos c17] at H
              have c17b0 : decide (t218 < (wrap64 (1 + (wrap64 (bt t215 t216))))) = true := decide_eq_true c17
              clear c17
              simp only [Option.some.injEq, Prod.mk.injEq] at H
              obtain ⟨rfl, rfl, rfl, rfl⟩ := H
              obtain ⟨HGz18, hgz18⟩ := HI0.out
              have hcz18_0 := cellS72_0 HGz18
              have hcz18_1 := cellS72_1 HGz18
              have hcz18_2 := cellS72_2 HGz18
              have hfz18_0 := blk_frozen HGz18 0
              have hfz18_1 := blk_frozen HGz18 1
              have hfz18_2 := blk_frozen HGz18 2
              clear HGz18 hgz18
              go_enter Tryd.func46, Tryd.ntmps46
              go_wp2_with (first | (go_at_call 47; (with_reducible refine (factotumref01_Reader_Left.calls g s0_0 s0_1 s0_2 t214 t215 t216 t217 w0 _ ?side1 ?side2 A4.out).mono ?_); (case side1 => repeat (first | (with_reducible first | exact HI0.out | apply IsS72.alloc | apply IsS72.drewN | apply IsS72.drew | apply IsS72.set_0 | apply IsS72.set_1 | apply IsS72.set_2) | exact HI0.out)); (case side2 => repeat (first | (with_reducible first | exact HB.out | apply below_alloc | apply pw_below_drewN | apply below_drew1 | refine below_set ?_ (IsS72.ge HI0.out)) | exact HB.out)); rintro e w19 ⟨rfl, hi, hb, hk⟩; have n0_ := Aside0.mk (KeepBut.trans (by repeat (first | (with_reducible first | exact HK.out | apply KeepBut.set_ | apply keep_drewN | apply keep_drew | apply keep_alloc) | exact HK.out)) hk (.inl rfl)); have n1_ := Aside0.mk (hb); have n2_ := Aside0.mk (hi); clear HK; clear HB; clear HI0; have HK := n0_; have HB := n1_; have HI0 := n2_; clear n0_ n1_ n2_; (try clear hb); (try clear hb2); (try clear hk); (try clear hi); obtain ⟨HGz20, hgz20⟩ := HI0.out; have hcz20_0 := cellS72_0 HGz20; have hcz20_1 := cellS72_1 HGz20; have hcz20_2 := cellS72_2 HGz20; have hfz20_0 := blk_frozen HGz20 0; have hfz20_1 := blk_frozen HGz20 1; have hfz20_2 := blk_frozen HGz20 2; clear HGz20 hgz20; have p11 : 0 ≤ (t216 : Int) := of_decide_eq_true (by first | (with_reducible assumption) | assumption); have q11 : t216 < (t215.size : Int) := of_decide_eq_true (by first | (with_reducible assumption) | assumption); have hx11 := bt_at t215 t216; replace p11 := eq_true p11; replace q11 := eq_true q11) | (go_at_call 47; (with_reducible refine (factotumref01_Reader_Left.calls g t215 t216 t217 t218 t219 t220 t221 w0 _ ?side1 ?side2 A16.out).mono ?_); (case side1 => repeat (first | (with_reducible first | exact HI0.out | apply IsS72.alloc | apply IsS72.drewN | apply IsS72.drew | apply IsS72.set_0 | apply IsS72.set_1 | apply IsS72.set_2) | exact HI0.out)); (case side2 => repeat (first | (with_reducible first | exact HB.out | apply below_alloc | apply pw_below_drewN | apply below_drew1 | refine below_set ?_ (IsS72.ge HI0.out)) | exact HB.out)); rintro e w21 ⟨rfl, hi, hb, hk⟩; have n0_ := Aside0.mk (KeepBut.trans (by repeat (first | (with_reducible first | exact HK.out | apply KeepBut.set_ | apply keep_drewN | apply keep_drew | apply keep_alloc) | exact HK.out)) hk (.inl rfl)); have n1_ := Aside0.mk (hb); have n2_ := Aside0.mk (hi); clear HK; clear HB; clear HI0; have HK := n0_; have HB := n1_; have HI0 := n2_; clear n0_ n1_ n2_; (try clear hb); (try clear hb2); (try clear hk); (try clear hi); obtain ⟨HGz22, hgz22⟩ := HI0.out; have hcz22_0 := cellS72_0 HGz22; have hcz22_1 := cellS72_1 HGz22; have hcz22_2 := cellS72_2 HGz22; have hfz22_0 := blk_frozen HGz22 0; have hfz22_1 := blk_frozen HGz22 1; have hfz22_2 := blk_frozen HGz22 2; clear HGz22 hgz22))
              repeat (go_quiet (first | (go_at_call 47; (with_reducible refine (factotumref01_Reader_Left.calls g s0_0 s0_1 s0_2 t214 t215 t216 t217 w0 _ ?side1 ?side2 A4.out).mono ?_); (case side1 => repeat (first | (with_reducible first | exact HI0.out | apply IsS72.alloc | apply IsS72.drewN | apply IsS72.drew | apply IsS72.set_0 | apply IsS72.set_1 | apply IsS72.set_2) | exact HI0.out)); (case side2 => repeat (first | (with_reducible first | exact HB.out | apply below_alloc | apply pw_below_drewN | apply below_drew1 | refine below_set ?_ (IsS72.ge HI0.out)) | exact HB.out)); rintro e w19 ⟨rfl, hi, hb, hk⟩; have n0_ := Aside0.mk (KeepBut.trans (by repeat (first | (with_reducible first | exact HK.out | apply KeepBut.set_ | apply keep_drewN | apply keep_drew | apply keep_alloc) | exact HK.out)) hk (.inl rfl)); have n1_ := Aside0.mk (hb); have n2_ := Aside0.mk (hi); clear HK; clear HB; clear HI0; have HK := n0_; have HB := n1_; have HI0 := n2_; clear n0_ n1_ n2_; (try clear hb); (try clear hb2); (try clear hk); (try clear hi); obtain ⟨HGz20, hgz20⟩ := HI0.out; have hcz20_0 := cellS72_0 HGz20; have hcz20_1 := cellS72_1 HGz20; have hcz20_2 := cellS72_2 HGz20; have hfz20_0 := blk_frozen HGz20 0; have hfz20_1 := blk_frozen HGz20 1; have hfz20_2 := blk_frozen HGz20 2; clear HGz20 hgz20; have p11 : 0 ≤ (t216 : Int) := of_decide_eq_true (by first | (with_reducible assumption) | assumption); have q11 : t216 < (t215.size : Int) := of_decide_eq_true (by first | (with_reducible assumption) | assumption); have hx11 := bt_at t215 t216; replace p11 := eq_true p11; replace q11 := eq_true q11) | (go_at_call 47; (with_reducible refine (factotumref01_Reader_Left.calls g t215 t216 t217 t218 t219 t220 t221 w0 _ ?side1 ?side2 A16.out).mono ?_); (case side1 => repeat (first | (with_reducible first | exact HI0.out | apply IsS72.alloc | apply IsS72.drewN | apply IsS72.drew | apply IsS72.set_0 | apply IsS72.set_1 | apply IsS72.set_2) | exact HI0.out)); (case side2 => repeat (first | (with_reducible first | exact HB.out | apply below_alloc | apply pw_below_drewN | apply below_drew1 | refine below_set ?_ (IsS72.ge HI0.out)) | exact HB.out)); rintro e w21 ⟨rfl, hi, hb, hk⟩; have n0_ := Aside0.mk (KeepBut.trans (by repeat (first | (with_reducible first | exact HK.out | apply KeepBut.set_ | apply keep_drewN | apply keep_drew | apply keep_alloc) | exact HK.out)) hk (.inl rfl)); have n1_ := Aside0.mk (hb); have n2_ := Aside0.mk (hi); clear HK; clear HB; clear HI0; have HK := n0_; have HB := n1_; have HI0 := n2_; clear n0_ n1_ n2_; (try clear hb); (try clear hb2); (try clear hk); (try clear hi); obtain ⟨HGz22, hgz22⟩ := HI0.out; have hcz22_0 := cellS72_0 HGz22; have hcz22_1 := cellS72_1 HGz22; have hcz22_2 := cellS72_2 HGz22; have hfz22_0 := blk_frozen HGz22 0; have hfz22_1 := blk_frozen HGz22 1; have hfz22_2 := blk_frozen HGz22 2; clear HGz22 hgz22)); try go_wp2_with (first | (go_at_call 47; (with_reducible refine (factotumref01_Reader_Left.calls g s0_0 s0_1 s0_2 t214 t215 t216 t217 w0 _ ?side1 ?side2 A4.out).mono ?_); (case side1 => repeat (first | (with_reducible first | exact HI0.out | apply IsS72.alloc | apply IsS72.drewN | apply IsS72.drew | apply IsS72.set_0 | apply IsS72.set_1 | apply IsS72.set_2) | exact HI0.out)); (case side2 => repeat (first | (with_reducible first | exact HB.out | apply below_alloc | apply pw_below_drewN | apply below_drew1 | refine below_set ?_ (IsS72.ge HI0.out)) | exact HB.out)); rintro e w19 ⟨rfl, hi, hb, hk⟩; have n0_ := Aside0.mk (KeepBut.trans (by repeat (first | (with_reducible first | exact HK.out | apply KeepBut.set_ | apply keep_drewN | apply keep_drew | apply keep_alloc) | exact HK.out)) hk (.inl rfl)); have n1_ := Aside0.mk (hb); have n2_ := Aside0.mk (hi); clear HK; clear HB; clear HI0; have HK := n0_; have HB := n1_; have HI0 := n2_; clear n0_ n1_ n2_; (try clear hb); (try clear hb2); (try clear hk); (try clear hi); obtain ⟨HGz20, hgz20⟩ := HI0.out; have hcz20_0 := cellS72_0 HGz20; have hcz20_1 := cellS72_1 HGz20; have hcz20_2 := cellS72_2 HGz20; have hfz20_0 := blk_frozen HGz20 0; have hfz20_1 := blk_frozen HGz20 1; have hfz20_2 := blk_frozen HGz20 2; clear HGz20 hgz20; have p11 : 0 ≤ (t216 : Int) := of_decide_eq_true (by first | (with_reducible assumption) | assumption); have q11 : t216 < (t215.size : Int) := of_decide_eq_true (by first | (with_reducible assumption) | assumption); have hx11 := bt_at t215 t216; replace p11 := eq_true p11; replace q11 := eq_true q11) | (go_at_call 47; (with_reducible refine (factotumref01_Reader_Left.calls g t215 t216 t217 t218 t219 t220 t221 w0 _ ?side1 ?side2 A16.out).mono ?_); (case side1 => repeat (first | (with_reducible first | exact HI0.out | apply IsS72.alloc | apply IsS72.drewN | apply IsS72.drew | apply IsS72.set_0 | apply IsS72.set_1 | apply IsS72.set_2) | exact HI0.out)); (case side2 => repeat (first | (with_reducible first | exact HB.out | apply below_alloc | apply pw_below_drewN | apply below_drew1 | refine below_set ?_ (IsS72.ge HI0.out)) | exact HB.out)); rintro e w21 ⟨rfl, hi, hb, hk⟩; have n0_ := Aside0.mk (KeepBut.trans (by repeat (first | (with_reducible first | exact HK.out | apply KeepBut.set_ | apply keep_drewN | apply keep_drew | apply keep_alloc) | exact HK.out)) hk (.inl rfl)); have n1_ := Aside0.mk (hb); have n2_ := Aside0.mk (hi); clear HK; clear HB; clear HI0; have HK := n0_; have HB := n1_; have HI0 := n2_; clear n0_ n1_ n2_; (try clear hb); (try clear hb2); (try clear hk); (try clear hi); obtain ⟨HGz22, hgz22⟩ := HI0.out; have hcz22_0 := cellS72_0 HGz22; have hcz22_1 := cellS72_1 HGz22; have hcz22_2 := cellS72_2 HGz22; have hfz22_0 := blk_frozen HGz22 0; have hfz22_1 := blk_frozen HGz22 1; have hfz22_2 := blk_frozen HGz22 2; clear HGz22 hgz22)))
              go_ret
              exact ⟨by first | (with_reducible rfl) | (simp only [isEmpty_bne, Bool.not_not] <;> with_reducible rfl) | (simp [errW_none, errW_some] <;> with_reducible rfl) | (simp only [isEmpty_bne, Bool.not_not] <;> rfl) | rfl | (simp [errW_none, errW_some] <;> rfl) | (simp [*, errW_none, errW_some] <;> rfl), by repeat (first | (with_reducible first | exact HI0.out | apply IsS72.alloc | apply IsS72.drewN | apply IsS72.drew | apply IsS72.set_0 | apply IsS72.set_1 | apply IsS72.set_2) | exact HI0.out), by repeat (first | (with_reducible first | exact HB.out | apply below_alloc | apply pw_below_drewN | apply below_drew1 | refine below_set ?_ (IsS72.ge HI0.out)) | exact HB.out), by repeat (first | (with_reducible first | exact HK.out | apply KeepBut.set_ | apply keep_drewN | apply keep_drew | apply keep_alloc) | exact HK.out)⟩
            · rw [if_neg c17] at H
              have c17b0 : decide (t218 < (wrap64 (1 + (wrap64 (bt t215 t216))))) = false := decide_eq_false c17
              clear c17
              obtain ⟨ji23, hji23⟩ : ∃ j_ : Int, (wrap64 ((wrap64 (t220 + (wrap64 (1 + (wrap64 (bt t215 t216)))))) - (wrap64 (bt t215 t216)))) = j_ := ⟨_, rfl⟩
              replace H : (if 0 ≤ (ji23) then (if (ji23) ≤ (wrap64 (t220 + (wrap64 (1 + (wrap64 (bt t215 t216)))))) then (if (wrap64 (t220 + (wrap64 (1 + (wrap64 (bt t215 t216)))))) ≤ (t219.size : Int) then (some (t219.extract ((ji23) : Int).toNat ((wrap64 (t220 + (wrap64 (1 + (wrap64 (bt t215 t216)))))) : Int).toNat, t219, wrap64 (t220 + (wrap64 (1 + (wrap64 (bt t215 t216))))), t221)) else (none)) else (none)) else (none)) = some (r1, r2, r3, r4) := by first | (rw [hji23] at H; exact H) | (simp only [hji23] at H ⊢; exact H)
              (try rw [hji23] at A4)
              (try rw [hji23] at A16)
              have hji23w : (IntKind.i64.wrap ((wrap64 (t220 + (wrap64 (1 + (wrap64 (bt t215 t216)))))) - (wrap64 (bt t215 t216)))) = ji23 := (i64_w _).trans hji23
              by_cases c24 : 0 ≤ (ji23)
              · rw [if_pos c24] at H
                have c24b0 := eq_true c24
                have c24b1 : decide (0 ≤ (ji23)) = true := decide_eq_true c24
                clear c24
                by_cases c25 : (ji23) ≤ (wrap64 (t220 + (wrap64 (1 + (wrap64 (bt t215 t216))))))
                · rw [if_pos c25] at H
                  have c25b0 := eq_true c25
                  have c25b1 : decide ((ji23) ≤ (wrap64 (t220 + (wrap64 (1 + (wrap64 (bt t215 t216))))))) = true := decide_eq_true c25
                  by_cases c26 : (wrap64 (t220 + (wrap64 (1 + (wrap64 (bt t215 t216)))))) ≤ (t219.size : Int)
                  · rw [if_pos c26] at H
                    have c26b0 := eq_true c26
                    have c26b1 : decide ((wrap64 (t220 + (wrap64 (1 + (wrap64 (bt t215 t216)))))) ≤ (t219.size : Int)) = true := decide_eq_true c26
                    simp only [Option.some.injEq, Prod.mk.injEq] at H
                    obtain ⟨rfl, rfl, rfl, rfl⟩ := H
                    obtain ⟨HGz27, hgz27⟩ := HI0.out
                    have hcz27_0 := cellS72_0 HGz27
                    have hcz27_1 := cellS72_1 HGz27
                    have hcz27_2 := cellS72_2 HGz27
                    have hfz27_0 := blk_frozen HGz27 0
                    have hfz27_1 := blk_frozen HGz27 1
                    have hfz27_2 := blk_frozen HGz27 2
                    clear HGz27 hgz27
                    go_enter Tryd.func46, Tryd.ntmps46
                    go_wp2_with (first | (go_at_call 47; (with_reducible refine (factotumref01_Reader_Left.calls g s0_0 s0_1 s0_2 t214 t215 t216 t217 w0 _ ?side1 ?side2 A4.out).mono ?_); (case side1 => repeat (first | (with_reducible first | exact HI0.out | apply IsS72.alloc | apply IsS72.drewN | apply IsS72.drew | apply IsS72.set_0 | apply IsS72.set_1 | apply IsS72.set_2) | exact HI0.out)); (case side2 => repeat (first | (with_reducible first | exact HB.out | apply below_alloc | apply pw_below_drewN | apply below_drew1 | refine below_set ?_ (IsS72.ge HI0.out)) | exact HB.out)); rintro e w28 ⟨rfl, hi, hb, hk⟩; have n0_ := Aside0.mk (KeepBut.trans (by repeat (first | (with_reducible first | exact HK.out | apply KeepBut.set_ | apply keep_drewN | apply keep_drew | apply keep_alloc) | exact HK.out)) hk (.inl rfl)); have n1_ := Aside0.mk (hb); have n2_ := Aside0.mk (hi); clear HK; clear HB; clear HI0; have HK := n0_; have HB := n1_; have HI0 := n2_; clear n0_ n1_ n2_; (try clear hb); (try clear hb2); (try clear hk); (try clear hi); obtain ⟨HGz29, hgz29⟩ := HI0.out; have hcz29_0 := cellS72_0 HGz29; have hcz29_1 := cellS72_1 HGz29; have hcz29_2 := cellS72_2 HGz29; have hfz29_0 := blk_frozen HGz29 0; have hfz29_1 := blk_frozen HGz29 1; have hfz29_2 := blk_frozen HGz29 2; clear HGz29 hgz29; have p11 : 0 ≤ (t216 : Int) := of_decide_eq_true (by first | (with_reducible assumption) | assumption); have q11 : t216 < (t215.size : Int) := of_decide_eq_true (by first | (with_reducible assumption) | assumption); have hx11 := bt_at t215 t216; replace p11 := eq_true p11; replace q11 := eq_true q11) | (go_at_call 47; (with_reducible refine (factotumref01_Reader_Left.calls g t215 t216 t217 t218 t219 t220 t221 w0 _ ?side1 ?side2 A16.out).mono ?_); (case side1 => repeat (first | (with_reducible first | exact HI0.out | apply IsS72.alloc | apply IsS72.drewN | apply IsS72.drew | apply IsS72.set_0 | apply IsS72.set_1 | apply IsS72.set_2) | exact HI0.out)); (case side2 => repeat (first | (with_reducible first | exact HB.out | apply below_alloc | apply pw_below_drewN | apply below_drew1 | refine below_set ?_ (IsS72.ge HI0.out)) | exact HB.out)); rintro e w30 ⟨rfl, hi, hb, hk⟩; have n0_ := Aside0.mk (KeepBut.trans (by repeat (first | (with_reducible first | exact HK.out | apply KeepBut.set_ | apply keep_drewN | apply keep_drew | apply keep_alloc) | exact HK.out)) hk (.inl rfl)); have n1_ := Aside0.mk (hb); have n2_ := Aside0.mk (hi); clear HK; clear HB; clear HI0; have HK := n0_; have HB := n1_; have HI0 := n2_; clear n0_ n1_ n2_; (try clear hb); (try clear hb2); (try clear hk); (try clear hi); obtain ⟨HGz31, hgz31⟩ := HI0.out; have hcz31_0 := cellS72_0 HGz31; have hcz31_1 := cellS72_1 HGz31; have hcz31_2 := cellS72_2 HGz31; have hfz31_0 := blk_frozen HGz31 0; have hfz31_1 := blk_frozen HGz31 1; have hfz31_2 := blk_frozen HGz31 2; clear HGz31 hgz31))
                    repeat (go_quiet (first | (go_at_call 47; (with_reducible refine (factotumref01_Reader_Left.calls g s0_0 s0_1 s0_2 t214 t215 t216 t217 w0 _ ?side1 ?side2 A4.out).mono ?_); (case side1 => repeat (first | (with_reducible first | exact HI0.out | apply IsS72.alloc | apply IsS72.drewN | apply IsS72.drew | apply IsS72.set_0 | apply IsS72.set_1 | apply IsS72.set_2) | exact HI0.out)); (case side2 => repeat (first | (with_reducible first | exact HB.out | apply below_alloc | apply pw_below_drewN | apply below_drew1 | refine below_set ?_ (IsS72.ge HI0.out)) | exact HB.out)); rintro e w28 ⟨rfl, hi, hb, hk⟩; have n0_ := Aside0.mk (KeepBut.trans (by repeat (first | (with_reducible first | exact HK.out | apply KeepBut.set_ | apply keep_drewN | apply keep_drew | apply keep_alloc) | exact HK.out)) hk (.inl rfl)); have n1_ := Aside0.mk (hb); have n2_ := Aside0.mk (hi); clear HK; clear HB; clear HI0; have HK := n0_; have HB := n1_; have HI0 := n2_; clear n0_ n1_ n2_; (try clear hb); (try clear hb2); (try clear hk); (try clear hi); obtain ⟨HGz29, hgz29⟩ := HI0.out; have hcz29_0 := cellS72_0 HGz29; have hcz29_1 := cellS72_1 HGz29; have hcz29_2 := cellS72_2 HGz29; have hfz29_0 := blk_frozen HGz29 0; have hfz29_1 := blk_frozen HGz29 1; have hfz29_2 := blk_frozen HGz29 2; clear HGz29 hgz29; have p11 : 0 ≤ (t216 : Int) := of_decide_eq_true (by first | (with_reducible assumption) | assumption); have q11 : t216 < (t215.size : Int) := of_decide_eq_true (by first | (with_reducible assumption) | assumption); have hx11 := bt_at t215 t216; replace p11 := eq_true p11; replace q11 := eq_true q11) | (go_at_call 47; (with_reducible refine (factotumref01_Reader_Left.calls g t215 t216 t217 t218 t219 t220 t221 w0 _ ?side1 ?side2 A16.out).mono ?_); (case side1 => repeat (first | (with_reducible first | exact HI0.out | apply IsS72.alloc | apply IsS72.drewN | apply IsS72.drew | apply IsS72.set_0 | apply IsS72.set_1 | apply IsS72.set_2) | exact HI0.out)); (case side2 => repeat (first | (with_reducible first | exact HB.out | apply below_alloc | apply pw_below_drewN | apply below_drew1 | refine below_set ?_ (IsS72.ge HI0.out)) | exact HB.out)); rintro e w30 ⟨rfl, hi, hb, hk⟩; have n0_ := Aside0.mk (KeepBut.trans (by repeat (first | (with_reducible first | exact HK.out | apply KeepBut.set_ | apply keep_drewN | apply keep_drew | apply keep_alloc) | exact HK.out)) hk (.inl rfl)); have n1_ := Aside0.mk (hb); have n2_ := Aside0.mk (hi); clear HK; clear HB; clear HI0; have HK := n0_; have HB := n1_; have HI0 := n2_; clear n0_ n1_ n2_; (try clear hb); (try clear hb2); (try clear hk); (try clear hi); obtain ⟨HGz31, hgz31⟩ := HI0.out; have hcz31_0 := cellS72_0 HGz31; have hcz31_1 := cellS72_1 HGz31; have hcz31_2 := cellS72_2 HGz31; have hfz31_0 := blk_frozen HGz31 0; have hfz31_1 := blk_frozen HGz31 1; have hfz31_2 := blk_frozen HGz31 2; clear HGz31 hgz31)); try go_wp2_with (first | (go_at_call 47; (with_reducible refine (factotumref01_Reader_Left.calls g s0_0 s0_1 s0_2 t214 t215 t216 t217 w0 _ ?side1 ?side2 A4.out).mono ?_); (case side1 => repeat (first | (with_reducible first | exact HI0.out | apply IsS72.alloc | apply IsS72.drewN | apply IsS72.drew | apply IsS72.set_0 | apply IsS72.set_1 | apply IsS72.set_2) | exact HI0.out)); (case side2 => repeat (first | (with_reducible first | exact HB.out | apply below_alloc | apply pw_below_drewN | apply below_drew1 | refine below_set ?_ (IsS72.ge HI0.out)) | exact HB.out)); rintro e w28 ⟨rfl, hi, hb, hk⟩; have n0_ := Aside0.mk (KeepBut.trans (by repeat (first | (with_reducible first | exact HK.out | apply KeepBut.set_ | apply keep_drewN | apply keep_drew | apply keep_alloc) | exact HK.out)) hk (.inl rfl)); have n1_ := Aside0.mk (hb); have n2_ := Aside0.mk (hi); clear HK; clear HB; clear HI0; have HK := n0_; have HB := n1_; have HI0 := n2_; clear n0_ n1_ n2_; (try clear hb); (try clear hb2); (try clear hk); (try clear hi); obtain ⟨HGz29, hgz29⟩ := HI0.out; have hcz29_0 := cellS72_0 HGz29; have hcz29_1 := cellS72_1 HGz29; have hcz29_2 := cellS72_2 HGz29; have hfz29_0 := blk_frozen HGz29 0; have hfz29_1 := blk_frozen HGz29 1; have hfz29_2 := blk_frozen HGz29 2; clear HGz29 hgz29; have p11 : 0 ≤ (t216 : Int) := of_decide_eq_true (by first | (with_reducible assumption) | assumption); have q11 : t216 < (t215.size : Int) := of_decide_eq_true (by first | (with_reducible assumption) | assumption); have hx11 := bt_at t215 t216; replace p11 := eq_true p11; replace q11 := eq_true q11) | (go_at_call 47; (with_reducible refine (factotumref01_Reader_Left.calls g t215 t216 t217 t218 t219 t220 t221 w0 _ ?side1 ?side2 A16.out).mono ?_); (case side1 => repeat (first | (with_reducible first | exact HI0.out | apply IsS72.alloc | apply IsS72.drewN | apply IsS72.drew | apply IsS72.set_0 | apply IsS72.set_1 | apply IsS72.set_2) | exact HI0.out)); (case side2 => repeat (first | (with_reducible first | exact HB.out | apply below_alloc | apply pw_below_drewN | apply below_drew1 | refine below_set ?_ (IsS72.ge HI0.out)) | exact HB.out)); rintro e w30 ⟨rfl, hi, hb, hk⟩; have n0_ := Aside0.mk (KeepBut.trans (by repeat (first | (with_reducible first | exact HK.out | apply KeepBut.set_ | apply keep_drewN | apply keep_drew | apply keep_alloc) | exact HK.out)) hk (.inl rfl)); have n1_ := Aside0.mk (hb); have n2_ := Aside0.mk (hi); clear HK; clear HB; clear HI0; have HK := n0_; have HB := n1_; have HI0 := n2_; clear n0_ n1_ n2_; (try clear hb); (try clear hb2); (try clear hk); (try clear hi); obtain ⟨HGz31, hgz31⟩ := HI0.out; have hcz31_0 := cellS72_0 HGz31; have hcz31_1 := cellS72_1 HGz31; have hcz31_2 := cellS72_2 HGz31; have hfz31_0 := blk_frozen HGz31 0; have hfz31_1 := blk_frozen HGz31 1; have hfz31_2 := blk_frozen HGz31 2; clear HGz31 hgz31)))
                    go_ret
                    exact ⟨by first | (with_reducible rfl) | (simp only [isEmpty_bne, Bool.not_not] <;> with_reducible rfl) | (simp [errW_none, errW_some] <;> with_reducible rfl) | (simp only [isEmpty_bne, Bool.not_not] <;> rfl) | rfl | (simp [errW_none, errW_some] <;> rfl) | (simp only [← hji23]; first | rfl | (simp [errW_none, errW_some] <;> rfl)) | (simp [*, errW_none, errW_some] <;> rfl), by repeat (first | (with_reducible first | exact HI0.out | apply IsS72.alloc | apply IsS72.drewN | apply IsS72.drew | apply IsS72.set_0 | apply IsS72.set_1 | apply IsS72.set_2) | exact HI0.out), by repeat (first | (with_reducible first | exact HB.out | apply below_alloc | apply pw_below_drewN | apply below_drew1 | refine below_set ?_ (IsS72.ge HI0.out)) | exact HB.out), by repeat (first | (with_reducible first | exact HK.out | apply KeepBut.set_ | apply keep_drewN | apply keep_drew | apply keep_alloc) | exact HK.out)⟩
                  · rw [if_neg c26] at H
                    exact absurd H (by simp)
                · rw [if_neg c25] at H
                  exact absurd H (by simp)
              · rw [if_neg c24] at H
                exact absurd H (by simp)
        · rw [if_neg c10] at H
          exact absurd H (by simp)
      · rw [if_neg c9] at H
        exact absurd H (by simp)
  · rw [if_neg c3] at H
    have c3b0 : (s0_2 == 0) = false := beq_eq_false_iff_ne.mpr c3
    have c3b1 : (s0_2 != 0) = true := bne_iff_ne.mpr c3
    simp only [Option.some.injEq, Prod.mk.injEq] at H
    obtain ⟨rfl, rfl, rfl, rfl⟩ := H
    obtain ⟨HGz32, hgz32⟩ := HI0.out
    have hcz32_0 := cellS72_0 HGz32
    have hcz32_1 := cellS72_1 HGz32
    have hcz32_2 := cellS72_2 HGz32
    have hfz32_0 := blk_frozen HGz32 0
    have hfz32_1 := blk_frozen HGz32 1
    have hfz32_2 := blk_frozen HGz32 2
    clear HGz32 hgz32
    go_enter Tryd.func46, Tryd.ntmps46
    go_wp2
    repeat (go_quiet (fail); try go_wp2)
    go_ret
    exact ⟨by first | (with_reducible rfl) | (simp only [isEmpty_bne, Bool.not_not] <;> with_reducible rfl) | (simp [errW_none, errW_some] <;> with_reducible rfl) | (simp only [isEmpty_bne, Bool.not_not] <;> rfl) | rfl | (simp [errW_none, errW_some] <;> rfl) | (simp [*, errW_none, errW_some] <;> rfl), by repeat (first | (with_reducible first | exact HI0.out | apply IsS72.alloc | apply IsS72.drewN | apply IsS72.drew | apply IsS72.set_0 | apply IsS72.set_1 | apply IsS72.set_2) | exact HI0.out), by repeat (first | (with_reducible first | exact HB.out | apply below_alloc | apply pw_below_drewN | apply below_drew1 | refine below_set ?_ (IsS72.ge HI0.out)) | exact HB.out), by repeat (first | (with_reducible first | exact HK.out | apply KeepBut.set_ | apply keep_drewN | apply keep_drew | apply keep_alloc) | exact HK.out)⟩

/-! ### factotumref02_Right: function 42 -/
def factotumref02_Right.f (a0_0 : Int) (a0_1 : Int) (a0_2 : ByteArray) : Option (Bool) := if a0_0 = 1 then (if a0_2.toList = ([] : List UInt8) then (some true) else (if a0_0 = 2 then (some (a0_1 == 0)) else (some false))) else (if a0_0 = 2 then (some (a0_1 == 0)) else (some false))
set_option maxHeartbeats 8000000 in
set_option maxRecDepth 100000 in
theorem factotumref02_Right.calls (a0_0 : Int) (a0_1 : Int) (a0_2 : ByteArray) (r : Bool) (w : World) (h : factotumref02_Right.f a0_0 a0_1 a0_2 = some r) :
    Calls Tryd.prog 42 #[.agg #[.int .i64 a0_0, .int .i64 a0_1, .string a0_2]] w fun e w' => e = .returned (.bool r) ∧ Below w.heap.size w w' := by
  have hu24 := Tryd.underlying24
  have HB := Aside0.mk (Below.refl w.heap.size w)
  have H : (if a0_0 = 1 then (if a0_2.toList = ([] : List UInt8) then (some true) else (if a0_0 = 2 then (some (a0_1 == 0)) else (some false))) else (if a0_0 = 2 then (some (a0_1 == 0)) else (some false))) = some r := h
  clear h
  by_cases c2 : a0_0 = 1
  · rw [if_pos c2] at H
    have c2b0 : (a0_0 == 1) = true := beq_iff_eq.mpr c2
    have c2b1 : (a0_0 != 1) = false := bne_eq_false_iff_eq.mpr c2
    clear c2
    by_cases c3 : a0_2.toList = ([] : List UInt8)
    · rw [if_pos c3] at H
      have c3b0 : (a0_2.toList == ([] : List UInt8)) = true := beq_iff_eq.mpr c3
      (try (have c3b7 : (a0_2.toList.isEmpty) = true := by simp only [isEmpty_beq]; exact c3b0))
      have c3b1 : (a0_2.toList != ([] : List UInt8)) = false := bne_eq_false_iff_eq.mpr c3
      clear c3
      obtain rfl := Option.some.inj H
      go_enter Tryd.func42, Tryd.ntmps42
      go_wp2_with (first | ((with_reducible refine gate_dst (N := 1) rfl ?_); refine box_event ?hg (N := 1) ?hd (cs := #[.int .i64 a0_0, .int .i64 a0_1, .string a0_2]) (t := 24) ?hr ?_; (case hd => rfl); (case hg => rfl); (case hr => first | (go_simp; done) | (go_simp; rfl)); intro gb222 hg w4 hbox hb; have n0_ := Aside0.mk (below_step (by repeat (first | (with_reducible first | exact HB.out | apply below_alloc | apply pw_below_drewN | apply below_drew1) | exact HB.out)) hb); have n1_ := Aside0.mk (hbox); have n2_ := Aside0.mk ((by rw [hg]; exact (below_size (by repeat (first | (with_reducible first | exact HB.out | apply below_alloc | apply pw_below_drewN | apply below_drew1) | exact HB.out))) : w.heap.size ≤ gb222)); have n3_ := Aside0.mk ((by rw [hg]; exact (below_size (by repeat (first | (with_reducible first | exact HB.out | apply below_alloc | apply pw_below_drewN | apply below_drew1) | exact HB.out))) : w.heap.size ≤ gb222)); clear HB; have HB := n0_; have BK222 := n1_; have GW222 := n2_; have GE222 := n3_; clear n0_ n1_ n2_ n3_; clear hb hbox hg; have hcz5_0 : w4.cell? ⟨gb222, 0, none⟩ = some (.int .i64 a0_0) := (blk_cell BK222.out 0).trans rfl; have hcz5_1 : w4.cell? ⟨gb222, 1, none⟩ = some (.int .i64 a0_1) := (blk_cell BK222.out 1).trans rfl; have hcz5_2 : w4.cell? ⟨gb222, 2, none⟩ = some (.string a0_2) := (blk_cell BK222.out 2).trans rfl; have hfz5_0 := blk_frozen BK222.out 0; have hfz5_1 := blk_frozen BK222.out 1; have hfz5_2 := blk_frozen BK222.out 2))
      go_ret
      exact ⟨by first | (with_reducible rfl) | (simp only [isEmpty_bne, Bool.not_not] <;> with_reducible rfl) | (simp [errW_none, errW_some] <;> with_reducible rfl) | (simp only [isEmpty_bne, Bool.not_not] <;> rfl) | rfl | (simp [errW_none, errW_some] <;> rfl) | (simp [*, errW_none, errW_some] <;> rfl), by repeat (first | (with_reducible first | exact HB.out | apply below_alloc | apply pw_below_drewN | apply below_drew1 | refine below_set ?_ GE222.out) | exact HB.out)⟩
    · rw [if_neg c3] at H
      have c3b0 : (a0_2.toList == ([] : List UInt8)) = false := beq_eq_false_iff_ne.mpr c3
      (try (have c3b7 : (a0_2.toList.isEmpty) = false := by simp only [isEmpty_beq]; exact c3b0))
      have c3b1 : (a0_2.toList != ([] : List UInt8)) = true := bne_iff_ne.mpr c3
      by_cases c6 : a0_0 = 2
      · rw [if_pos c6] at H
        have c6b0 : (a0_0 == 2) = true := beq_iff_eq.mpr c6
        have c6b1 : (a0_0 != 2) = false := bne_eq_false_iff_eq.mpr c6
        clear c6
        obtain rfl := Option.some.inj H
        go_enter Tryd.func42, Tryd.ntmps42
        go_wp2_with (first | ((with_reducible refine gate_dst (N := 1) rfl ?_); refine box_event ?hg (N := 1) ?hd (cs := #[.int .i64 a0_0, .int .i64 a0_1, .string a0_2]) (t := 24) ?hr ?_; (case hd => rfl); (case hg => rfl); (case hr => first | (go_simp; done) | (go_simp; rfl)); intro gb222 hg w7 hbox hb; have n0_ := Aside0.mk (below_step (by repeat (first | (with_reducible first | exact HB.out | apply below_alloc | apply pw_below_drewN | apply below_drew1) | exact HB.out)) hb); have n1_ := Aside0.mk (hbox); have n2_ := Aside0.mk ((by rw [hg]; exact (below_size (by repeat (first | (with_reducible first | exact HB.out | apply below_alloc | apply pw_below_drewN | apply below_drew1) | exact HB.out))) : w.heap.size ≤ gb222)); have n3_ := Aside0.mk ((by rw [hg]; exact (below_size (by repeat (first | (with_reducible first | exact HB.out | apply below_alloc | apply pw_below_drewN | apply below_drew1) | exact HB.out))) : w.heap.size ≤ gb222)); clear HB; have HB := n0_; have BK222 := n1_; have GW222 := n2_; have GE222 := n3_; clear n0_ n1_ n2_ n3_; clear hb hbox hg; have hcz8_0 : w7.cell? ⟨gb222, 0, none⟩ = some (.int .i64 a0_0) := (blk_cell BK222.out 0).trans rfl; have hcz8_1 : w7.cell? ⟨gb222, 1, none⟩ = some (.int .i64 a0_1) := (blk_cell BK222.out 1).trans rfl; have hcz8_2 : w7.cell? ⟨gb222, 2, none⟩ = some (.string a0_2) := (blk_cell BK222.out 2).trans rfl; have hfz8_0 := blk_frozen BK222.out 0; have hfz8_1 := blk_frozen BK222.out 1; have hfz8_2 := blk_frozen BK222.out 2))
        go_ret
        exact ⟨by first | (with_reducible rfl) | (simp only [isEmpty_bne, Bool.not_not] <;> with_reducible rfl) | (simp [errW_none, errW_some] <;> with_reducible rfl) | (simp only [isEmpty_bne, Bool.not_not] <;> rfl) | rfl | (simp [errW_none, errW_some] <;> rfl) | (simp [*, errW_none, errW_some] <;> rfl), by repeat (first | (with_reducible first | exact HB.out | apply below_alloc | apply pw_below_drewN | apply below_drew1 | refine below_set ?_ GE222.out) | exact HB.out)⟩
      · rw [if_neg c6] at H
        have c6b0 : (a0_0 == 2) = false := beq_eq_false_iff_ne.mpr c6
        have c6b1 : (a0_0 != 2) = true := bne_iff_ne.mpr c6
        obtain rfl := Option.some.inj H
        go_enter Tryd.func42, Tryd.ntmps42
        go_wp2_with (first | ((with_reducible refine gate_dst (N := 1) rfl ?_); refine box_event ?hg (N := 1) ?hd (cs := #[.int .i64 a0_0, .int .i64 a0_1, .string a0_2]) (t := 24) ?hr ?_; (case hd => rfl); (case hg => rfl); (case hr => first | (go_simp; done) | (go_simp; rfl)); intro gb222 hg w9 hbox hb; have n0_ := Aside0.mk (below_step (by repeat (first | (with_reducible first | exact HB.out | apply below_alloc | apply pw_below_drewN | apply below_drew1) | exact HB.out)) hb); have n1_ := Aside0.mk (hbox); have n2_ := Aside0.mk ((by rw [hg]; exact (below_size (by repeat (first | (with_reducible first | exact HB.out | apply below_alloc | apply pw_below_drewN | apply below_drew1) | exact HB.out))) : w.heap.size ≤ gb222)); have n3_ := Aside0.mk ((by rw [hg]; exact (below_size (by repeat (first | (with_reducible first | exact HB.out | apply below_alloc | apply pw_below_drewN | apply below_drew1) | exact HB.out))) : w.heap.size ≤ gb222)); clear HB; have HB := n0_; have BK222 := n1_; have GW222 := n2_; have GE222 := n3_; clear n0_ n1_ n2_ n3_; clear hb hbox hg; have hcz10_0 : w9.cell? ⟨gb222, 0, none⟩ = some (.int .i64 a0_0) := (blk_cell BK222.out 0).trans rfl; have hcz10_1 : w9.cell? ⟨gb222, 1, none⟩ = some (.int .i64 a0_1) := (blk_cell BK222.out 1).trans rfl; have hcz10_2 : w9.cell? ⟨gb222, 2, none⟩ = some (.string a0_2) := (blk_cell BK222.out 2).trans rfl; have hfz10_0 := blk_frozen BK222.out 0; have hfz10_1 := blk_frozen BK222.out 1; have hfz10_2 := blk_frozen BK222.out 2))
        go_ret
        exact ⟨by first | (with_reducible rfl) | (simp only [isEmpty_bne, Bool.not_not] <;> with_reducible rfl) | (simp [errW_none, errW_some] <;> with_reducible rfl) | (simp only [isEmpty_bne, Bool.not_not] <;> rfl) | rfl | (simp [errW_none, errW_some] <;> rfl) | (simp [*, errW_none, errW_some] <;> rfl), by repeat (first | (with_reducible first | exact HB.out | apply below_alloc | apply pw_below_drewN | apply below_drew1 | refine below_set ?_ GE222.out) | exact HB.out)⟩
  · rw [if_neg c2] at H
    have c2b0 : (a0_0 == 1) = false := beq_eq_false_iff_ne.mpr c2
    have c2b1 : (a0_0 != 1) = true := bne_iff_ne.mpr c2
    by_cases c11 : a0_0 = 2
    · rw [if_pos c11] at H
      have c11b0 : (a0_0 == 2) = true := beq_iff_eq.mpr c11
      have c11b1 : (a0_0 != 2) = false := bne_eq_false_iff_eq.mpr c11
      clear c11
      obtain rfl := Option.some.inj H
      go_enter Tryd.func42, Tryd.ntmps42
      go_wp2_with (first | ((with_reducible refine gate_dst (N := 1) rfl ?_); refine box_event ?hg (N := 1) ?hd (cs := #[.int .i64 a0_0, .int .i64 a0_1, .string a0_2]) (t := 24) ?hr ?_; (case hd => rfl); (case hg => rfl); (case hr => first | (go_simp; done) | (go_simp; rfl)); intro gb222 hg w12 hbox hb; have n0_ := Aside0.mk (below_step (by repeat (first | (with_reducible first | exact HB.out | apply below_alloc | apply pw_below_drewN | apply below_drew1) | exact HB.out)) hb); have n1_ := Aside0.mk (hbox); have n2_ := Aside0.mk ((by rw [hg]; exact (below_size (by repeat (first | (with_reducible first | exact HB.out | apply below_alloc | apply pw_below_drewN | apply below_drew1) | exact HB.out))) : w.heap.size ≤ gb222)); have n3_ := Aside0.mk ((by rw [hg]; exact (below_size (by repeat (first | (with_reducible first | exact HB.out | apply below_alloc | apply pw_below_drewN | apply below_drew1) | exact HB.out))) : w.heap.size ≤ gb222)); clear HB; have HB := n0_; have BK222 := n1_; have GW222 := n2_; have GE222 := n3_; clear n0_ n1_ n2_ n3_; clear hb hbox hg; have hcz13_0 : w12.cell? ⟨gb222, 0, none⟩ = some (.int .i64 a0_0) := (blk_cell BK222.out 0).trans rfl; have hcz13_1 : w12.cell? ⟨gb222, 1, none⟩ = some (.int .i64 a0_1) := (blk_cell BK222.out 1).trans rfl; have hcz13_2 : w12.cell? ⟨gb222, 2, none⟩ = some (.string a0_2) := (blk_cell BK222.out 2).trans rfl; have hfz13_0 := blk_frozen BK222.out 0; have hfz13_1 := blk_frozen BK222.out 1; have hfz13_2 := blk_frozen BK222.out 2))
      go_ret
      exact ⟨by first | (with_reducible rfl) | (simp only [isEmpty_bne, Bool.not_not] <;> with_reducible rfl) | (simp [errW_none, errW_some] <;> with_reducible rfl) | (simp only [isEmpty_bne, Bool.not_not] <;> rfl) | rfl | (simp [errW_none, errW_some] <;> rfl) | (simp [*, errW_none, errW_some] <;> rfl), by repeat (first | (with_reducible first | exact HB.out | apply below_alloc | apply pw_below_drewN | apply below_drew1 | refine below_set ?_ GE222.out) | exact HB.out)⟩
    · rw [if_neg c11] at H
      have c11b0 : (a0_0 == 2) = false := beq_eq_false_iff_ne.mpr c11
      have c11b1 : (a0_0 != 2) = true := bne_iff_ne.mpr c11
      obtain rfl := Option.some.inj H
      go_enter Tryd.func42, Tryd.ntmps42
      go_wp2_with (first | ((with_reducible refine gate_dst (N := 1) rfl ?_); refine box_event ?hg (N := 1) ?hd (cs := #[.int .i64 a0_0, .int .i64 a0_1, .string a0_2]) (t := 24) ?hr ?_; (case hd => rfl); (case hg => rfl); (case hr => first | (go_simp; done) | (go_simp; rfl)); intro gb222 hg w14 hbox hb; have n0_ := Aside0.mk (below_step (by repeat (first | (with_reducible first | exact HB.out | apply below_alloc | apply pw_below_drewN | apply below_drew1) | exact HB.out)) hb); have n1_ := Aside0.mk (hbox); have n2_ := Aside0.mk ((by rw [hg]; exact (below_size (by repeat (first | (with_reducible first | exact HB.out | apply below_alloc | apply pw_below_drewN | apply below_drew1) | exact HB.out))) : w.heap.size ≤ gb222)); have n3_ := Aside0.mk ((by rw [hg]; exact (below_size (by repeat (first | (with_reducible first | exact HB.out | apply below_alloc | apply pw_below_drewN | apply below_drew1) | exact HB.out))) : w.heap.size ≤ gb222)); clear HB; have HB := n0_; have BK222 := n1_; have GW222 := n2_; have GE222 := n3_; clear n0_ n1_ n2_ n3_; clear hb hbox hg; have hcz15_0 : w14.cell? ⟨gb222, 0, none⟩ = some (.int .i64 a0_0) := (blk_cell BK222.out 0).trans rfl; have hcz15_1 : w14.cell? ⟨gb222, 1, none⟩ = some (.int .i64 a0_1) := (blk_cell BK222.out 1).trans rfl; have hcz15_2 : w14.cell? ⟨gb222, 2, none⟩ = some (.string a0_2) := (blk_cell BK222.out 2).trans rfl; have hfz15_0 := blk_frozen BK222.out 0; have hfz15_1 := blk_frozen BK222.out 1; have hfz15_2 := blk_frozen BK222.out 2))
      go_ret
      exact ⟨by first | (with_reducible rfl) | (simp only [isEmpty_bne, Bool.not_not] <;> with_reducible rfl) | (simp [errW_none, errW_some] <;> with_reducible rfl) | (simp only [isEmpty_bne, Bool.not_not] <;> rfl) | rfl | (simp [errW_none, errW_some] <;> rfl) | (simp [*, errW_none, errW_some] <;> rfl), by repeat (first | (with_reducible first | exact HB.out | apply below_alloc | apply pw_below_drewN | apply below_drew1 | refine below_set ?_ GE222.out) | exact HB.out)⟩

/-! ### factotumref16_Is: function 26 -/
def factotumref16_Is.f (a0_0 : Int) (a0_1 : Int) (a0_2 : ByteArray) : Option (Bool) := (factotumref02_Right.f a0_0 a0_1 a0_2).bind fun t224 => (if t224 = true then (some (decide ((a0_2.size : Int) ≤ 10))) else (some false))
set_option maxHeartbeats 8000000 in
set_option maxRecDepth 100000 in
theorem factotumref16_Is.calls (a0_0 : Int) (a0_1 : Int) (a0_2 : ByteArray) (r : Bool) (w : World) (h : factotumref16_Is.f a0_0 a0_1 a0_2 = some r) :
    Calls Tryd.prog 26 #[.agg #[.int .i64 a0_0, .int .i64 a0_1, .string a0_2]] w fun e w' => e = .returned (.bool r) ∧ Below w.heap.size w w' := by
  have hu24 := Tryd.underlying24
  have HB := Aside0.mk (Below.refl w.heap.size w)
  have H : ((factotumref02_Right.f a0_0 a0_1 a0_2).bind fun t224 => (if t224 = true then (some (decide ((a0_2.size : Int) ≤ 10))) else (some false))) = some r := h
  clear h
  replace H := Option.bind_eq_some_iff.mp H
  obtain ⟨t224, A20, H⟩ := H
  replace H : (if t224 = true then (some (decide ((a0_2.size : Int) ≤ 10))) else (some false)) = some r := H
  have A2 := Aside0.mk A20
  clear A20
  by_cases c3 : t224 = true
  · subst c3
    have H1 : (some (decide ((a0_2.size : Int) ≤ 10))) = some r := by rw [if_pos rfl] at H; exact H
    clear H
    have H := H1
    clear H1
    obtain rfl := Option.some.inj H
    go_enter Tryd.func26, Tryd.ntmps26
    go_wp2_with (first | ((with_reducible refine gate_dst (N := 1) rfl ?_); (try (refine gate_guard (by rfl) ?_; dsimp only)); refine box_event ?hg (N := 1) ?hd (cs := #[.int .i64 a0_0, .int .i64 a0_1, .string a0_2]) (t := 24) ?hr ?_; (case hd => rfl); (case hg => rfl); (case hr => first | (go_simp; done) | (go_simp; rfl)); intro gb223 hg w4 hbox hb; have n0_ := Aside0.mk (below_step (by repeat (first | (with_reducible first | exact HB.out | apply below_alloc | apply pw_below_drewN | apply below_drew1) | exact HB.out)) hb); have n1_ := Aside0.mk (hbox); have n2_ := Aside0.mk ((by rw [hg]; exact (below_size (by repeat (first | (with_reducible first | exact HB.out | apply below_alloc | apply pw_below_drewN | apply below_drew1) | exact HB.out))) : w.heap.size ≤ gb223)); have n3_ := Aside0.mk ((by rw [hg]; exact (below_size (by repeat (first | (with_reducible first | exact HB.out | apply below_alloc | apply pw_below_drewN | apply below_drew1) | exact HB.out))) : w.heap.size ≤ gb223)); clear HB; have HB := n0_; have BK223 := n1_; have GW223 := n2_; have GE223 := n3_; clear n0_ n1_ n2_ n3_; clear hb hbox hg; have hcz5_0 : w4.cell? ⟨gb223, 0, none⟩ = some (.int .i64 a0_0) := (blk_cell BK223.out 0).trans rfl; have hcz5_1 : w4.cell? ⟨gb223, 1, none⟩ = some (.int .i64 a0_1) := (blk_cell BK223.out 1).trans rfl; have hcz5_2 : w4.cell? ⟨gb223, 2, none⟩ = some (.string a0_2) := (blk_cell BK223.out 2).trans rfl; have hfz5_0 := blk_frozen BK223.out 0; have hfz5_1 := blk_frozen BK223.out 1; have hfz5_2 := blk_frozen BK223.out 2) | ((with_reducible refine gate_callee (f := 42) rfl ?_); refine goesL_ (some 4) rfl rfl Tryd.func42 (by kernel_rfl) rfl #[.agg #[.int .i64 a0_0, .int .i64 a0_1, .string a0_2]] rfl (by (try simp only [List.map_toArray, List.map_cons, List.map_nil]); first | done | rfl | (simp only [List.length_drop, List.length_take]; rfl) | (simp (disch := omega) only [u64_in]; rfl)) ?_; (with_reducible refine (factotumref02_Right.calls a0_0 a0_1 a0_2 true _ A2.out).mono ?_); rintro e w6 ⟨rfl, hb⟩; refine ⟨_, rfl, ?_⟩; have n0_ := Aside0.mk (blk_below (g := gb223) (o := .cells #[.int .i64 a0_0, .int .i64 a0_1, .string a0_2] 24 (0, 0)) (by (with_reducible repeat (first | refine blk_drewN ?_ _ | refine blk_drew ?_ | refine blk_alloc ?_ _)); exact BK223.out) hb); have n1_ := Aside0.mk (below_step (by repeat (first | (with_reducible first | exact HB.out | apply below_alloc | apply pw_below_drewN | apply below_drew1 | refine below_set ?_ GE223.out) | exact HB.out)) hb); clear BK223; clear HB; have BK223 := n0_; have HB := n1_; clear n0_ n1_; (try clear hb); (try clear hb2); (try clear hk); (try clear hi); have hcz7_0 : w6.cell? ⟨gb223, 0, none⟩ = some (.int .i64 a0_0) := (blk_cell BK223.out 0).trans rfl; have hcz7_1 : w6.cell? ⟨gb223, 1, none⟩ = some (.int .i64 a0_1) := (blk_cell BK223.out 1).trans rfl; have hcz7_2 : w6.cell? ⟨gb223, 2, none⟩ = some (.string a0_2) := (blk_cell BK223.out 2).trans rfl; have hfz7_0 := blk_frozen BK223.out 0; have hfz7_1 := blk_frozen BK223.out 1; have hfz7_2 := blk_frozen BK223.out 2))
    go_ret
    exact ⟨by first | (with_reducible rfl) | (simp only [isEmpty_bne, Bool.not_not] <;> with_reducible rfl) | (simp [errW_none, errW_some] <;> with_reducible rfl) | (simp only [isEmpty_bne, Bool.not_not] <;> rfl) | rfl | (simp [errW_none, errW_some] <;> rfl) | (simp [*, errW_none, errW_some] <;> rfl), by repeat (first | (with_reducible first | exact HB.out | apply below_alloc | apply pw_below_drewN | apply below_drew1 | refine below_set ?_ GE223.out) | exact HB.out)⟩
  · replace c3 := Bool.eq_false_iff.mpr c3
    subst c3
    have H1 : (some false) = some r := by rw [if_neg (show ¬ (false = true) by decide)] at H; exact H
    clear H
    have H := H1
    clear H1
    obtain rfl := Option.some.inj H
    go_enter Tryd.func26, Tryd.ntmps26
    go_wp2_with (first | ((with_reducible refine gate_dst (N := 1) rfl ?_); (try (refine gate_guard (by rfl) ?_; dsimp only)); refine box_event ?hg (N := 1) ?hd (cs := #[.int .i64 a0_0, .int .i64 a0_1, .string a0_2]) (t := 24) ?hr ?_; (case hd => rfl); (case hg => rfl); (case hr => first | (go_simp; done) | (go_simp; rfl)); intro gb223 hg w8 hbox hb; have n0_ := Aside0.mk (below_step (by repeat (first | (with_reducible first | exact HB.out | apply below_alloc | apply pw_below_drewN | apply below_drew1) | exact HB.out)) hb); have n1_ := Aside0.mk (hbox); have n2_ := Aside0.mk ((by rw [hg]; exact (below_size (by repeat (first | (with_reducible first | exact HB.out | apply below_alloc | apply pw_below_drewN | apply below_drew1) | exact HB.out))) : w.heap.size ≤ gb223)); have n3_ := Aside0.mk ((by rw [hg]; exact (below_size (by repeat (first | (with_reducible first | exact HB.out | apply below_alloc | apply pw_below_drewN | apply below_drew1) | exact HB.out))) : w.heap.size ≤ gb223)); clear HB; have HB := n0_; have BK223 := n1_; have GW223 := n2_; have GE223 := n3_; clear n0_ n1_ n2_ n3_; clear hb hbox hg; have hcz9_0 : w8.cell? ⟨gb223, 0, none⟩ = some (.int .i64 a0_0) := (blk_cell BK223.out 0).trans rfl; have hcz9_1 : w8.cell? ⟨gb223, 1, none⟩ = some (.int .i64 a0_1) := (blk_cell BK223.out 1).trans rfl; have hcz9_2 : w8.cell? ⟨gb223, 2, none⟩ = some (.string a0_2) := (blk_cell BK223.out 2).trans rfl; have hfz9_0 := blk_frozen BK223.out 0; have hfz9_1 := blk_frozen BK223.out 1; have hfz9_2 := blk_frozen BK223.out 2) | ((with_reducible refine gate_callee (f := 42) rfl ?_); refine goesL_ (some 4) rfl rfl Tryd.func42 (by kernel_rfl) rfl #[.agg #[.int .i64 a0_0, .int .i64 a0_1, .string a0_2]] rfl (by (try simp only [List.map_toArray, List.map_cons, List.map_nil]); first | done | rfl | (simp only [List.length_drop, List.length_take]; rfl) | (simp (disch := omega) only [u64_in]; rfl)) ?_; (with_reducible refine (factotumref02_Right.calls a0_0 a0_1 a0_2 false _ A2.out).mono ?_); rintro e w10 ⟨rfl, hb⟩; refine ⟨_, rfl, ?_⟩; have n0_ := Aside0.mk (blk_below (g := gb223) (o := .cells #[.int .i64 a0_0, .int .i64 a0_1, .string a0_2] 24 (0, 0)) (by (with_reducible repeat (first | refine blk_drewN ?_ _ | refine blk_drew ?_ | refine blk_alloc ?_ _)); exact BK223.out) hb); have n1_ := Aside0.mk (below_step (by repeat (first | (with_reducible first | exact HB.out | apply below_alloc | apply pw_below_drewN | apply below_drew1 | refine below_set ?_ GE223.out) | exact HB.out)) hb); clear BK223; clear HB; have BK223 := n0_; have HB := n1_; clear n0_ n1_; (try clear hb); (try clear hb2); (try clear hk); (try clear hi)))
    go_ret
    exact ⟨by first | (with_reducible rfl) | (simp only [isEmpty_bne, Bool.not_not] <;> with_reducible rfl) | (simp [errW_none, errW_some] <;> with_reducible rfl) | (simp only [isEmpty_bne, Bool.not_not] <;> rfl) | rfl | (simp [errW_none, errW_some] <;> rfl) | (simp [*, errW_none, errW_some] <;> rfl), by repeat (first | (with_reducible first | exact HB.out | apply below_alloc | apply pw_below_drewN | apply below_drew1 | refine below_set ?_ GE223.out) | exact HB.out)⟩

end Go.Proofs.YtjkjkebblkmpkaaDoor.PAll
