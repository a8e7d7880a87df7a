/- Printed walks of the functions that the laws reach: each function, what it computes, and that it does. No conditions. -/
import Derived.Test.YtljfichnlgfikaaDoorPAllx0
namespace Go.Proofs.YtljfichnlgfikaaDoor.PAll
open Go.RowKit Go.Proofs.YtljfichnlgfikaaDoor.XW Go.Proofs.YtljfichnlgfikaaDoor.XLib Go.Proofs.YtljfichnlgfikaaDoorW.PrintWords Go.Proofs.YtljfichnlgfikaaDoorW.PrintLast Go.Proofs.YtljfichnlgfikaaDoorW.PrintMore
attribute [local go_sem] max2_int min2_int max_two min_two max_three min_three max_four min_four   -- for this text's walks alone
set_option linter.unusedVariables false
set_option linter.unusedSimpArgs false

/-! ### factotumref13_Operands: function 15 -/
mutual
def factotumref13_Operands.j0:Nat→Int→Bool→Option (Int × Bool)
 | 0,_,_=>none
 | k + 1,x4,x7=>if x7=true then (some (1,true)) else (if x4=2 then (factotumref13_Operands.j1 k x4 (x4 == 2)) else (if x4=10 then (factotumref13_Operands.j1 k x4 (x4 == 10)) else (if x4=11 then (factotumref13_Operands.j1 k x4 (x4 == 11)) else (factotumref13_Operands.j1 k x4 (x4 == 12)))))
def factotumref13_Operands.j1:Nat→Int→Bool→Option (Int × Bool)
 | 0,_,_=>none
 | k + 1,x4,x15=>if x15=true then (some (2,true)) else (if x4=3 then (some (3,true)) else (if x4=4 then (some (3,true)) else (if x4=5 then (some (3,true)) else (if x4=6 then (some (3,true)) else (if x4=7 then (some (3,true)) else (if x4=8 then (some (3,true)) else (if x4=16 then (some (3,true)) else (some (0,false)))))))))
end
def factotumref13_Operands.f (k:Nat) (a0:Int):Option (Int × Bool):=if a0=17 then (some (0,true)) else (if a0=1 then (factotumref13_Operands.j0 k a0 (a0 == 1)) else (if a0=9 then (factotumref13_Operands.j0 k a0 (a0 == 9)) else (if a0=15 then (factotumref13_Operands.j0 k a0 (a0 == 15)) else (if a0=14 then (factotumref13_Operands.j0 k a0 (a0 == 14)) else (if a0=13 then (factotumref13_Operands.j0 k a0 (a0 == 13)) else (if a0=18 then (factotumref13_Operands.j0 k a0 (a0 == 18)) else (factotumref13_Operands.j0 k a0 (a0 == 19))))))))
theorem factotumref13_Operands.mono_l:∀ k,(∀ y0 y1,LeO (factotumref13_Operands.j0 k y0 y1) (factotumref13_Operands.j0 (k + 1) y0 y1))∧(∀ y0 y1,LeO (factotumref13_Operands.j1 k y0 y1) (factotumref13_Operands.j1 (k + 1) y0 y1))
 | 0=>⟨fun _ _ r h=>by simp [factotumref13_Operands.j0] at h,fun _ _ r h=>by simp [factotumref13_Operands.j1] at h⟩
 | k + 1=>by
  obtain ⟨ih0,ih1⟩:=factotumref13_Operands.mono_l k
  refine ⟨?_,?_⟩
  ·intro y0 y1
   unfold factotumref13_Operands.j0
   repeat' first
   | (with_reducible exact ih0 _ _)
   | (with_reducible exact ih1 _ _)
   | (with_reducible exact LeO.refl _)
   | (with_reducible exact LeO.none _)
   | (with_reducible refine LeO.ite ?_ ?_)
   | (with_reducible refine LeO.bind ?_ (fun _=>?_))
   | exact ih0 _ _
   | exact ih1 _ _
   | exact LeO.none _
   | refine LeO.ite ?_ ?_
   | refine LeO.bind ?_ (fun _=>?_)
  ·intro y0 y1
   unfold factotumref13_Operands.j1
   repeat' first
   | (with_reducible exact ih0 _ _)
   | (with_reducible exact ih1 _ _)
   | (with_reducible exact LeO.refl _)
   | (with_reducible exact LeO.none _)
   | (with_reducible refine LeO.ite ?_ ?_)
   | (with_reducible refine LeO.bind ?_ (fun _=>?_))
   | exact ih0 _ _
   | exact ih1 _ _
   | exact LeO.none _
   | refine LeO.ite ?_ ?_
   | refine LeO.bind ?_ (fun _=>?_)
theorem factotumref13_Operands.mono:∀ a0 k,LeO (factotumref13_Operands.f k a0) (factotumref13_Operands.f (k + 1) a0):=by
 intro a0 k
 obtain ⟨ih0,ih1⟩:=factotumref13_Operands.mono_l k
 unfold factotumref13_Operands.f
 repeat' first
   | (with_reducible exact ih0 _ _)
   | (with_reducible exact ih1 _ _)
   | (with_reducible exact LeO.refl _)
   | (with_reducible exact LeO.none _)
   | (with_reducible refine LeO.ite ?_ ?_)
   | (with_reducible refine LeO.bind ?_ (fun _=>?_))
   | exact ih0 _ _
   | exact ih1 _ _
   | exact LeO.none _
   | refine LeO.ite ?_ ?_
   | refine LeO.bind ?_ (fun _=>?_)
set_option maxHeartbeats 8000000 in
set_option maxRecDepth 100000 in
theorem factotumref13_Operands.calls (k:Nat) (a0:Int) (r1:Int) (r2:Bool) (w:World) (h:factotumref13_Operands.f k a0=some (r1,r2)) :
  Calls Tryd.prog 15 #[.int .i64 a0] w fun e w'=>e=.returned (.tuple #[.int .i64 r1,.bool r2])∧Drawn0 w w':=by
 have H:(if a0=17 then (some (0,true)) else (if a0=1 then (factotumref13_Operands.j0 k a0 (a0 == 1)) else (if a0=9 then (factotumref13_Operands.j0 k a0 (a0 == 9)) else (if a0=15 then (factotumref13_Operands.j0 k a0 (a0 == 15)) else (if a0=14 then (factotumref13_Operands.j0 k a0 (a0 == 14)) else (if a0=13 then (factotumref13_Operands.j0 k a0 (a0 == 13)) else (if a0=18 then (factotumref13_Operands.j0 k a0 (a0 == 18)) else (factotumref13_Operands.j0 k a0 (a0 == 19)))))))))=some (r1,r2):=h
 clear h
 by_cases c2:a0=17
 ·rw [if_pos c2] at H
  have c2b0:(a0 == 17)=true:=beq_iff_eq.mpr c2
  have c2b1:(a0 != 17)=false:=bne_eq_false_iff_eq.mpr c2
  clear c2
  simp only [Option.some.injEq,Prod.mk.injEq] at H
  obtain ⟨rfl,rfl⟩:=H
  go_enter Tryd.func15,Tryd.ntmps15
  go_wp2
  go_ret2
  exact ⟨by first|(with_reducible rfl)|(simp;done)|(simp [*];done)|rfl|(simp only [not_isEmpty_bne]),by repeat (first|exact Drawn0.refl _|apply Drawn0.step)⟩
 ·rw [if_neg c2] at H
  have c2b0:(a0 == 17)=false:=beq_eq_false_iff_ne.mpr c2
  have c2b1:(a0 != 17)=true:=bne_iff_ne.mpr c2
  have HC3:=Aside0.mk H
  clear H
  go_enter Tryd.func15,Tryd.ntmps15
  go_upto_if 7 with (fail)
  go_cut [7] (fun v7 wc=>∃ (kq:Nat) (x7_2:Bool),v7=.bool x7_2∧Aside0 (factotumref13_Operands.j0 kq a0 x7_2=some (r1,r2))∧Aside0 (kq≤k)∧Drawn0 w wc)
  case first =>
   have H:=HC3.out
   clear HC3
   by_cases c4:a0=1
   ·rw [if_pos c4] at H
    have c4b0:(a0 == 1)=true:=beq_iff_eq.mpr c4
    have c4b1:(a0 != 1)=false:=bne_eq_false_iff_eq.mpr c4
    clear c4
    (first|rw [c4b0]|(simp only [i64_w,i32_w];rw [c4b0])|skip)
    have H':=Aside0.mk H
    clear H
    go_wp2
    go_meet
    case rel=>exact ⟨_,((a0 == 1)),(by first|(with_reducible rfl)|(simp;done)|(simp [*];done)|rfl|(simp only [not_isEmpty_bne])),H',⟨by first|omega|exact Nat.le_refl _⟩,by repeat (first|exact Drawn0.refl _|apply Drawn0.step)⟩
   ·rw [if_neg c4] at H
    have c4b0:(a0 == 1)=false:=beq_eq_false_iff_ne.mpr c4
    have c4b1:(a0 != 1)=true:=bne_iff_ne.mpr c4
    (first|rw [c4b0]|(simp only [i64_w,i32_w];rw [c4b0])|skip)
    by_cases c5:a0=9
    ·rw [if_pos c5] at H
     have c5b0:(a0 == 9)=true:=beq_iff_eq.mpr c5
     have c5b1:(a0 != 9)=false:=bne_eq_false_iff_eq.mpr c5
     clear c5
     have H':=Aside0.mk H
     clear H
     go_wp2
     go_meet
     case rel=>exact ⟨_,((a0 == 9)),(by first|(with_reducible rfl)|(simp;done)|(simp [*];done)|rfl|(simp only [not_isEmpty_bne])),H',⟨by first|omega|exact Nat.le_refl _⟩,by repeat (first|exact Drawn0.refl _|apply Drawn0.step)⟩
    ·rw [if_neg c5] at H
     have c5b0:(a0 == 9)=false:=beq_eq_false_iff_ne.mpr c5
     have c5b1:(a0 != 9)=true:=bne_iff_ne.mpr c5
     by_cases c6:a0=15
     ·rw [if_pos c6] at H
      have c6b0:(a0 == 15)=true:=beq_iff_eq.mpr c6
      have c6b1:(a0 != 15)=false:=bne_eq_false_iff_eq.mpr c6
      clear c6
      have H':=Aside0.mk H
      clear H
      go_wp2
      go_meet
      case rel=>exact ⟨_,((a0 == 15)),(by first|(with_reducible rfl)|(simp;done)|(simp [*];done)|rfl|(simp only [not_isEmpty_bne])),H',⟨by first|omega|exact Nat.le_refl _⟩,by repeat (first|exact Drawn0.refl _|apply Drawn0.step)⟩
     ·rw [if_neg c6] at H
      have c6b0:(a0 == 15)=false:=beq_eq_false_iff_ne.mpr c6
      have c6b1:(a0 != 15)=true:=bne_iff_ne.mpr c6
      by_cases c7:a0=14
      ·rw [if_pos c7] at H
       have c7b0:(a0 == 14)=true:=beq_iff_eq.mpr c7
       have c7b1:(a0 != 14)=false:=bne_eq_false_iff_eq.mpr c7
       clear c7
       have H':=Aside0.mk H
       clear H
       go_wp2
       go_meet
       case rel=>exact ⟨_,((a0 == 14)),(by first|(with_reducible rfl)|(simp;done)|(simp [*];done)|rfl|(simp only [not_isEmpty_bne])),H',⟨by first|omega|exact Nat.le_refl _⟩,by repeat (first|exact Drawn0.refl _|apply Drawn0.step)⟩
      ·rw [if_neg c7] at H
       have c7b0:(a0 == 14)=false:=beq_eq_false_iff_ne.mpr c7
       have c7b1:(a0 != 14)=true:=bne_iff_ne.mpr c7
       by_cases c8:a0=13
       ·rw [if_pos c8] at H
        have c8b0:(a0 == 13)=true:=beq_iff_eq.mpr c8
        have c8b1:(a0 != 13)=false:=bne_eq_false_iff_eq.mpr c8
        clear c8
        have H':=Aside0.mk H
        clear H
        go_wp2
        go_meet
        case rel=>exact ⟨_,((a0 == 13)),(by first|(with_reducible rfl)|(simp;done)|(simp [*];done)|rfl|(simp only [not_isEmpty_bne])),H',⟨by first|omega|exact Nat.le_refl _⟩,by repeat (first|exact Drawn0.refl _|apply Drawn0.step)⟩
       ·rw [if_neg c8] at H
        have c8b0:(a0 == 13)=false:=beq_eq_false_iff_ne.mpr c8
        have c8b1:(a0 != 13)=true:=bne_iff_ne.mpr c8
        by_cases c9:a0=18
        ·rw [if_pos c9] at H
         have c9b0:(a0 == 18)=true:=beq_iff_eq.mpr c9
         have c9b1:(a0 != 18)=false:=bne_eq_false_iff_eq.mpr c9
         clear c9
         have H':=Aside0.mk H
         clear H
         go_wp2
         go_meet
         case rel=>exact ⟨_,((a0 == 18)),(by first|(with_reducible rfl)|(simp;done)|(simp [*];done)|rfl|(simp only [not_isEmpty_bne])),H',⟨by first|omega|exact Nat.le_refl _⟩,by repeat (first|exact Drawn0.refl _|apply Drawn0.step)⟩
        ·rw [if_neg c9] at H
         have c9b0:(a0 == 18)=false:=beq_eq_false_iff_ne.mpr c9
         have c9b1:(a0 != 18)=true:=bne_iff_ne.mpr c9
         have H':=Aside0.mk H
         clear H
         go_wp2
         go_meet
         case rel=>exact ⟨_,((a0 == 19)),(by first|(with_reducible rfl)|(simp;done)|(simp [*];done)|rfl|(simp only [not_isEmpty_bne])),H',⟨by first|omega|exact Nat.le_refl _⟩,by repeat (first|exact Drawn0.refl _|apply Drawn0.step)⟩
  case rest =>
   clear HC3
   try clear c1
   try clear c2
   try clear c2b0
   try clear c2b1
   try clear p2
   try clear c4
   try clear c4b0
   try clear c4b1
   try clear c5
   try clear c5b0
   try clear c5b1
   try clear c6
   try clear c6b0
   try clear c6b1
   try clear c7
   try clear c7b0
   try clear c7b1
   try clear c8
   try clear c8b0
   try clear c8b1
   try clear c9
   try clear c9b0
   try clear c9b1
   obtain ⟨kq,x7_2,rfl,HA,HJ2,⟨mc2,rfl⟩⟩:=hcut
   cases kq with
   | zero=>exact absurd HA.out (by simp [factotumref13_Operands.j0])
   | succ kj2 =>
    have H:=HA.out
    clear HA
    simp only [factotumref13_Operands.j0] at H
    by_cases c10:x7_2=true
    ·subst c10
     have H1:(some (1,true))=some (r1,r2):=by rw [if_pos rfl] at H;exact H
     clear H
     have H:=H1
     clear H1
     simp only [Option.some.injEq,Prod.mk.injEq] at H
     obtain ⟨rfl,rfl⟩:=H
     go_wp2
     go_ret2
     exact ⟨by first|(with_reducible rfl)|(simp;done)|(simp [*];done)|rfl|(simp only [not_isEmpty_bne]),by repeat (first|exact Drawn0.refl _|apply Drawn0.step)⟩
    ·replace c10:=Bool.eq_false_iff.mpr c10
     subst c10
     have H1:(if a0=2 then (factotumref13_Operands.j1 kj2 a0 (a0 == 2)) else (if a0=10 then (factotumref13_Operands.j1 kj2 a0 (a0 == 10)) else (if a0=11 then (factotumref13_Operands.j1 kj2 a0 (a0 == 11)) else (factotumref13_Operands.j1 kj2 a0 (a0 == 12)))))=some (r1,r2):=by rw [if_neg (show ¬ (false=true) by decide)] at H;exact H
     clear H
     have H:=H1
     clear H1
     have HC11:=Aside0.mk H
     clear H
     go_upto_if 15 with (fail)
     go_cut [15] (fun v15 wc=>∃ (kq:Nat) (x15_10:Bool),v15=.bool x15_10∧Aside0 (factotumref13_Operands.j1 kq a0 x15_10=some (r1,r2))∧Aside0 (kq≤kj2)∧Drawn0 w wc)
     case first =>
      have H:=HC11.out
      clear HC11
      by_cases c12:a0=2
      ·rw [if_pos c12] at H
       have c12b0:(a0 == 2)=true:=beq_iff_eq.mpr c12
       have c12b1:(a0 != 2)=false:=bne_eq_false_iff_eq.mpr c12
       clear c12
       (first|rw [c12b0]|(simp only [i64_w,i32_w];rw [c12b0])|skip)
       have H':=Aside0.mk H
       clear H
       go_wp2
       go_meet
       case rel=>exact ⟨_,((a0 == 2)),(by first|(with_reducible rfl)|(simp;done)|(simp [*];done)|rfl|(simp only [not_isEmpty_bne])),H',⟨by have:=HJ2.out;first|omega|exact Nat.le_refl _⟩,by repeat (first|exact Drawn0.refl _|apply Drawn0.step)⟩
      ·rw [if_neg c12] at H
       have c12b0:(a0 == 2)=false:=beq_eq_false_iff_ne.mpr c12
       have c12b1:(a0 != 2)=true:=bne_iff_ne.mpr c12
       (first|rw [c12b0]|(simp only [i64_w,i32_w];rw [c12b0])|skip)
       by_cases c13:a0=10
       ·rw [if_pos c13] at H
        have c13b0:(a0 == 10)=true:=beq_iff_eq.mpr c13
        have c13b1:(a0 != 10)=false:=bne_eq_false_iff_eq.mpr c13
        clear c13
        have H':=Aside0.mk H
        clear H
        go_wp2
        go_meet
        case rel=>exact ⟨_,((a0 == 10)),(by first|(with_reducible rfl)|(simp;done)|(simp [*];done)|rfl|(simp only [not_isEmpty_bne])),H',⟨by have:=HJ2.out;first|omega|exact Nat.le_refl _⟩,by repeat (first|exact Drawn0.refl _|apply Drawn0.step)⟩
       ·rw [if_neg c13] at H
        have c13b0:(a0 == 10)=false:=beq_eq_false_iff_ne.mpr c13
        have c13b1:(a0 != 10)=true:=bne_iff_ne.mpr c13
        by_cases c14:a0=11
        ·rw [if_pos c14] at H
         have c14b0:(a0 == 11)=true:=beq_iff_eq.mpr c14
         have c14b1:(a0 != 11)=false:=bne_eq_false_iff_eq.mpr c14
         clear c14
         have H':=Aside0.mk H
         clear H
         go_wp2
         go_meet
         case rel=>exact ⟨_,((a0 == 11)),(by first|(with_reducible rfl)|(simp;done)|(simp [*];done)|rfl|(simp only [not_isEmpty_bne])),H',⟨by have:=HJ2.out;first|omega|exact Nat.le_refl _⟩,by repeat (first|exact Drawn0.refl _|apply Drawn0.step)⟩
        ·rw [if_neg c14] at H
         have c14b0:(a0 == 11)=false:=beq_eq_false_iff_ne.mpr c14
         have c14b1:(a0 != 11)=true:=bne_iff_ne.mpr c14
         have H':=Aside0.mk H
         clear H
         go_wp2
         go_meet
         case rel=>exact ⟨_,((a0 == 12)),(by first|(with_reducible rfl)|(simp;done)|(simp [*];done)|rfl|(simp only [not_isEmpty_bne])),H',⟨by have:=HJ2.out;first|omega|exact Nat.le_refl _⟩,by repeat (first|exact Drawn0.refl _|apply Drawn0.step)⟩
     case rest =>
      clear HC11
      try clear c1
      try clear c2
      try clear c2b0
      try clear c2b1
      try clear p2
      try clear c4
      try clear c4b0
      try clear c4b1
      try clear c5
      try clear c5b0
      try clear c5b1
      try clear c6
      try clear c6b0
      try clear c6b1
      try clear c7
      try clear c7b0
      try clear c7b1
      try clear c8
      try clear c8b0
      try clear c8b1
      try clear c9
      try clear c9b0
      try clear c9b1
      try clear c10
      try clear c12
      try clear c12b0
      try clear c12b1
      try clear c13
      try clear c13b0
      try clear c13b1
      try clear c14
      try clear c14b0
      try clear c14b1
      try clear p2
      obtain ⟨kq,x15_10,rfl,HA,HJ10,⟨mc10,rfl⟩⟩:=hcut
      cases kq with
      | zero=>exact absurd HA.out (by simp [factotumref13_Operands.j1])
      | succ kj10 =>
       have H:=HA.out
       clear HA
       simp only [factotumref13_Operands.j1] at H
       by_cases c15:x15_10=true
       ·subst c15
        have H1:(some (2,true))=some (r1,r2):=by rw [if_pos rfl] at H;exact H
        clear H
        have H:=H1
        clear H1
        simp only [Option.some.injEq,Prod.mk.injEq] at H
        obtain ⟨rfl,rfl⟩:=H
        go_wp2
        go_ret2
        exact ⟨by first|(with_reducible rfl)|(simp;done)|(simp [*];done)|rfl|(simp only [not_isEmpty_bne]),by repeat (first|exact Drawn0.refl _|apply Drawn0.step)⟩
       ·replace c15:=Bool.eq_false_iff.mpr c15
        subst c15
        have H1:(if a0=3 then (some (3,true)) else (if a0=4 then (some (3,true)) else (if a0=5 then (some (3,true)) else (if a0=6 then (some (3,true)) else (if a0=7 then (some (3,true)) else (if a0=8 then (some (3,true)) else (if a0=16 then (some (3,true)) else (some (0,false)))))))))=some (r1,r2):=by rw [if_neg (show ¬ (false=true) by decide)] at H;exact H
        clear H
        have H:=H1
        clear H1
        by_cases c16:a0=3
        ·rw [if_pos c16] at H
         have c16b0:(a0 == 3)=true:=beq_iff_eq.mpr c16
         have c16b1:(a0 != 3)=false:=bne_eq_false_iff_eq.mpr c16
         clear c16
         simp only [Option.some.injEq,Prod.mk.injEq] at H
         obtain ⟨rfl,rfl⟩:=H
         go_wp2
         go_ret2
         exact ⟨by first|(with_reducible rfl)|(simp;done)|(simp [*];done)|rfl|(simp only [not_isEmpty_bne]),by repeat (first|exact Drawn0.refl _|apply Drawn0.step)⟩
        ·rw [if_neg c16] at H
         have c16b0:(a0 == 3)=false:=beq_eq_false_iff_ne.mpr c16
         have c16b1:(a0 != 3)=true:=bne_iff_ne.mpr c16
         by_cases c17:a0=4
         ·rw [if_pos c17] at H
          have c17b0:(a0 == 4)=true:=beq_iff_eq.mpr c17
          have c17b1:(a0 != 4)=false:=bne_eq_false_iff_eq.mpr c17
          clear c17
          simp only [Option.some.injEq,Prod.mk.injEq] at H
          obtain ⟨rfl,rfl⟩:=H
          go_wp2
          go_ret2
          exact ⟨by first|(with_reducible rfl)|(simp;done)|(simp [*];done)|rfl|(simp only [not_isEmpty_bne]),by repeat (first|exact Drawn0.refl _|apply Drawn0.step)⟩
         ·rw [if_neg c17] at H
          have c17b0:(a0 == 4)=false:=beq_eq_false_iff_ne.mpr c17
          have c17b1:(a0 != 4)=true:=bne_iff_ne.mpr c17
          by_cases c18:a0=5
          ·rw [if_pos c18] at H
           have c18b0:(a0 == 5)=true:=beq_iff_eq.mpr c18
           have c18b1:(a0 != 5)=false:=bne_eq_false_iff_eq.mpr c18
           clear c18
           simp only [Option.some.injEq,Prod.mk.injEq] at H
           obtain ⟨rfl,rfl⟩:=H
           go_wp2
           go_ret2
           exact ⟨by first|(with_reducible rfl)|(simp;done)|(simp [*];done)|rfl|(simp only [not_isEmpty_bne]),by repeat (first|exact Drawn0.refl _|apply Drawn0.step)⟩
          ·rw [if_neg c18] at H
           have c18b0:(a0 == 5)=false:=beq_eq_false_iff_ne.mpr c18
           have c18b1:(a0 != 5)=true:=bne_iff_ne.mpr c18
           by_cases c19:a0=6
           ·rw [if_pos c19] at H
            have c19b0:(a0 == 6)=true:=beq_iff_eq.mpr c19
            have c19b1:(a0 != 6)=false:=bne_eq_false_iff_eq.mpr c19
            clear c19
            simp only [Option.some.injEq,Prod.mk.injEq] at H
            obtain ⟨rfl,rfl⟩:=H
            go_wp2
            go_ret2
            exact ⟨by first|(with_reducible rfl)|(simp;done)|(simp [*];done)|rfl|(simp only [not_isEmpty_bne]),by repeat (first|exact Drawn0.refl _|apply Drawn0.step)⟩
           ·rw [if_neg c19] at H
            have c19b0:(a0 == 6)=false:=beq_eq_false_iff_ne.mpr c19
            have c19b1:(a0 != 6)=true:=bne_iff_ne.mpr c19
            by_cases c20:a0=7
            ·rw [if_pos c20] at H
             have c20b0:(a0 == 7)=true:=beq_iff_eq.mpr c20
             have c20b1:(a0 != 7)=false:=bne_eq_false_iff_eq.mpr c20
             clear c20
             simp only [Option.some.injEq,Prod.mk.injEq] at H
             obtain ⟨rfl,rfl⟩:=H
             go_wp2
             go_ret2
             exact ⟨by first|(with_reducible rfl)|(simp;done)|(simp [*];done)|rfl|(simp only [not_isEmpty_bne]),by repeat (first|exact Drawn0.refl _|apply Drawn0.step)⟩
            ·rw [if_neg c20] at H
             have c20b0:(a0 == 7)=false:=beq_eq_false_iff_ne.mpr c20
             have c20b1:(a0 != 7)=true:=bne_iff_ne.mpr c20
             by_cases c21:a0=8
             ·rw [if_pos c21] at H
              have c21b0:(a0 == 8)=true:=beq_iff_eq.mpr c21
              have c21b1:(a0 != 8)=false:=bne_eq_false_iff_eq.mpr c21
              clear c21
              simp only [Option.some.injEq,Prod.mk.injEq] at H
              obtain ⟨rfl,rfl⟩:=H
              go_wp2
              go_ret2
              exact ⟨by first|(with_reducible rfl)|(simp;done)|(simp [*];done)|rfl|(simp only [not_isEmpty_bne]),by repeat (first|exact Drawn0.refl _|apply Drawn0.step)⟩
             ·rw [if_neg c21] at H
              have c21b0:(a0 == 8)=false:=beq_eq_false_iff_ne.mpr c21
              have c21b1:(a0 != 8)=true:=bne_iff_ne.mpr c21
              by_cases c22:a0=16
              ·rw [if_pos c22] at H
               have c22b0:(a0 == 16)=true:=beq_iff_eq.mpr c22
               have c22b1:(a0 != 16)=false:=bne_eq_false_iff_eq.mpr c22
               clear c22
               simp only [Option.some.injEq,Prod.mk.injEq] at H
               obtain ⟨rfl,rfl⟩:=H
               go_wp2
               go_ret2
               exact ⟨by first|(with_reducible rfl)|(simp;done)|(simp [*];done)|rfl|(simp only [not_isEmpty_bne]),by repeat (first|exact Drawn0.refl _|apply Drawn0.step)⟩
              ·rw [if_neg c22] at H
               have c22b0:(a0 == 16)=false:=beq_eq_false_iff_ne.mpr c22
               have c22b1:(a0 != 16)=true:=bne_iff_ne.mpr c22
               simp only [Option.some.injEq,Prod.mk.injEq] at H
               obtain ⟨rfl,rfl⟩:=H
               go_wp2
               go_ret2
               exact ⟨by first|(with_reducible rfl)|(simp;done)|(simp [*];done)|rfl|(simp only [not_isEmpty_bne]),by repeat (first|exact Drawn0.refl _|apply Drawn0.step)⟩

end Go.Proofs.YtljfichnlgfikaaDoor.PAll
