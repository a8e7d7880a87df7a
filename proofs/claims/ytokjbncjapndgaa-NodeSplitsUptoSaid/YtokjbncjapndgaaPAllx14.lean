/- Printed walks of the functions that the laws reach: each function, what it computes, and that it does. No conditions. -/
import Derived.Test.YtokjbncjapndgaaPAllx0
namespace Go.Proofs.Ytokjbncjapndgaa.PAll
open Go.RowKit Go.Proofs.Ytokjbncjapndgaa.XW Go.Proofs.Ytokjbncjapndgaa.XLib Go.Proofs.YtokjbncjapndgaaW.PrintWords Go.Proofs.YtokjbncjapndgaaW.PrintLast Go.Proofs.YtokjbncjapndgaaW.PrintMore
attribute [local go_sem] max2_int min2_int max_two min_two max_three min_three max_four min_four   -- for this text's walks alone
set_option linter.unusedVariables false
set_option linter.unusedSimpArgs false

/-! ### node_half: function 33 -/
mutual
def node_half.l0:Nat→List ByteArray→Int→Int→Int→List ByteArray→Int→Int→Option (Int)
 | 0,_,_,_,_,_,_,_=>none
 | k + 1,x0,x3,x4,x5,x8,x9,x10=>if x10 < x9 then (if 0≤x10 then (if x10 < (x8.length:Int) then (node_half.l0 k x0 (wrap64 (x3 + (wrap64 (3 + ((rdOf ByteArray.empty x8 x10).size:Int))))) x4 x5 x8 x9 (wrap64 (x10 + 1))) else (none)) else (none)) else (node_half.l1 k x0 x3 x4 x5)
def node_half.l1:Nat→List ByteArray→Int→Int→Int→Option (Int)
 | 0,_,_,_,_=>none
 | k + 1,x0,x3,x4,x5=>if x5=0 then (if 0≤x5 then (if x5 < (x0.length:Int) then (node_half.l1 k x0 x3 (wrap64 (x4 + (wrap64 (3 + ((rdOf ByteArray.empty x0 x5).size:Int))))) (wrap64 (x5 + 1))) else (none)) else (none)) else (if x5 < (wrap64 ((x0.length:Int) - 2)) then (if (wrap64 (2 * x4)) < x3 then (if 0≤x5 then (if x5 < (x0.length:Int) then (node_half.l1 k x0 x3 (wrap64 (x4 + (wrap64 (3 + ((rdOf ByteArray.empty x0 x5).size:Int))))) (wrap64 (x5 + 1))) else (none)) else (none)) else (some x5)) else (some x5))
end
def node_half.f (k:Nat) (l0:List ByteArray):Option (Int):=node_half.l0 k l0 0 0 0 l0 (l0.length:Int) 0
theorem node_half.mono_l:∀ k,(∀ y0 y1 y2 y3 y4 y5 y6,LeO (node_half.l0 k y0 y1 y2 y3 y4 y5 y6) (node_half.l0 (k + 1) y0 y1 y2 y3 y4 y5 y6))∧(∀ y0 y1 y2 y3,LeO (node_half.l1 k y0 y1 y2 y3) (node_half.l1 (k + 1) y0 y1 y2 y3))
 | 0=>⟨fun _ _ _ _ _ _ _ r h=>by simp [node_half.l0] at h,fun _ _ _ _ r h=>by simp [node_half.l1] at h⟩
 | k + 1=>by
  obtain ⟨ih0,ih1⟩:=node_half.mono_l k
  refine ⟨?_,?_⟩
  ·intro y0 y1 y2 y3 y4 y5 y6
   unfold node_half.l0
   repeat' first
   | (with_reducible exact ih0 _ _ _ _ _ _ _)
   | (with_reducible exact ih1 _ _ _ _)
   | (with_reducible exact LeO.refl _)
   | (with_reducible exact LeO.none _)
   | (with_reducible refine LeO.ite ?_ ?_)
   | (with_reducible refine LeO.bind ?_ (fun _=>?_))
   | exact ih0 _ _ _ _ _ _ _
   | exact ih1 _ _ _ _
   | exact LeO.none _
   | refine LeO.ite ?_ ?_
   | refine LeO.bind ?_ (fun _=>?_)
  ·intro y0 y1 y2 y3
   unfold node_half.l1
   repeat' first
   | (with_reducible exact ih0 _ _ _ _ _ _ _)
   | (with_reducible exact ih1 _ _ _ _)
   | (with_reducible exact LeO.refl _)
   | (with_reducible exact LeO.none _)
   | (with_reducible refine LeO.ite ?_ ?_)
   | (with_reducible refine LeO.bind ?_ (fun _=>?_))
   | exact ih0 _ _ _ _ _ _ _
   | exact ih1 _ _ _ _
   | exact LeO.none _
   | refine LeO.ite ?_ ?_
   | refine LeO.bind ?_ (fun _=>?_)
theorem node_half.mono:∀ a0 k,LeO (node_half.f k a0) (node_half.f (k + 1) a0):=by
 intro a0 k
 obtain ⟨ih0,ih1⟩:=node_half.mono_l k
 unfold node_half.f
 repeat' first
   | (with_reducible exact ih0 _ _ _ _ _ _ _)
   | (with_reducible exact ih1 _ _ _ _)
   | (with_reducible exact LeO.refl _)
   | (with_reducible exact LeO.none _)
   | (with_reducible refine LeO.ite ?_ ?_)
   | (with_reducible refine LeO.bind ?_ (fun _=>?_))
   | exact ih0 _ _ _ _ _ _ _
   | exact ih1 _ _ _ _
   | exact LeO.none _
   | refine LeO.ite ?_ ?_
   | refine LeO.bind ?_ (fun _=>?_)
set_option maxHeartbeats 8000000 in
set_option maxRecDepth 100000 in
theorem node_half.calls (k:Nat) (A0:Option Addr) (c0:Nat) (l0:List ByteArray) (r:Int) (w:World) (hr0:Kd.C Kd.string w A0 l0.length l0) (hc0:l0.length≤c0) (h:node_half.f k l0=some r) :
  Calls Try.prog 33 #[.slice A0 l0.length c0] w fun e w'=>e=.returned (.int .i64 r)∧Drawn0 w w':=by
 have HR0:=Aside0.mk hr0
 have HC0:=Aside0.mk hc0
 clear hr0 hc0
 have H:(node_half.l0 k l0 0 0 0 l0 (l0.length:Int) 0)=some r:=h
 clear h
 have H':=Aside0.mk H
 clear H
 go_enter Try.func33,Try.ntmps33
 go_wp2
 go_loopg [3,10] k (fun kq v3 v10 w'=>∃ (x3_1:Int) (x10_1:Int),v3=.int .i64 x3_1∧v10=.int .i64 x10_1∧Aside0 (node_half.l0 kq l0 x3_1 0 0 l0 (l0.length:Int) x10_1=some r)∧Aside0 (kq≤k)∧Drawn0 w w')
 case atStart=>exact ⟨(0),(0),(by first|(with_reducible rfl)|(simp;done)|(simp [*];done)|rfl|(simp only [not_isEmpty_bne])),(by first|(with_reducible rfl)|(simp;done)|(simp [*];done)|rfl|(simp only [not_isEmpty_bne])),H',⟨Nat.le_refl _⟩,by repeat (first|exact Drawn0.refl _|apply Drawn0.step)⟩
 case round =>
  clear H'
  obtain ⟨x3_1,x10_1,rfl,rfl,HA,HK1,⟨m1,rfl⟩⟩:=hrel
  cases gk with
  | zero=>exact absurd HA.out (by simp [node_half.l0])
  | succ k1 =>
   have H:=HA.out
   clear HA
   simp only [node_half.l0] at H
   by_cases c2:x10_1 < (l0.length:Int)
   ·rw [if_pos c2] at H
    have c2b0:decide (x10_1 < (l0.length:Int))=true:=decide_eq_true c2
    clear c2
    by_cases c3:0≤x10_1
    ·rw [if_pos c3] at H
     have c3b0:decide (0≤x10_1)=true:=decide_eq_true c3
     clear c3
     by_cases c4:x10_1 < (l0.length:Int)
     ·rw [if_pos c4] at H
      have c4b0:decide (x10_1 < (l0.length:Int))=true:=decide_eq_true c4
      clear c4
      have H':=Aside0.mk H
      clear H
      have p264:0≤(x10_1:Int):=of_decide_eq_true (by first|(with_reducible assumption)|assumption)
      have q264:x10_1 < (l0.length:Int):=of_decide_eq_true (by first|(with_reducible assumption)|assumption)
      obtain ⟨ad264,e264,hx264_0⟩:=Kd.at_string HR0.out x10_1 p264 q264
      cases e264
      replace p264:=eq_true p264
      replace q264:=eq_true q264
      go_wp2
      go_roundg k1
      case measure=>have:=HK1.out;omega
      case rel=>exact ⟨(wrap64 (x3_1 + (wrap64 (3 + ((rdOf ByteArray.empty l0 x10_1).size:Int))))),(wrap64 (x10_1 + 1)),(by first|(with_reducible rfl)|(simp;done)|(simp [*];done)|rfl|(simp only [not_isEmpty_bne])),(by first|(with_reducible rfl)|(simp;done)|(simp [*];done)|rfl|(simp only [not_isEmpty_bne])),H',⟨by have:=HK1.out;omega⟩,by repeat (first|exact Drawn0.refl _|apply Drawn0.step)⟩
     ·rw [if_neg c4] at H
      exact absurd H (by simp)
    ·rw [if_neg c3] at H
     exact absurd H (by simp)
   ·rw [if_neg c2] at H
    have c2b0:decide (x10_1 < (l0.length:Int))=false:=decide_eq_false c2
    clear c2
    have H':=Aside0.mk H
    clear H
    go_wp2
    go_loopg [4,5] k1 (fun kq v4 v5 w'=>∃ (x4_2:Int) (x5_2:Int),v4=.int .i64 x4_2∧v5=.int .i64 x5_2∧Aside0 (node_half.l1 kq l0 x3_1 x4_2 x5_2=some r)∧Aside0 (kq≤k1)∧Drawn0 w w')
    case atStart=>exact ⟨(0),(0),(by first|(with_reducible rfl)|(simp;done)|(simp [*];done)|rfl|(simp only [not_isEmpty_bne])),(by first|(with_reducible rfl)|(simp;done)|(simp [*];done)|rfl|(simp only [not_isEmpty_bne])),H',⟨Nat.le_refl _⟩,by repeat (first|exact Drawn0.refl _|apply Drawn0.step)⟩
    case round =>
     clear H'
     try clear c2
     try clear c2b0
     try clear p2
     try clear q2
     try clear hx2
     try clear c3
     try clear c3b0
     try clear c4
     try clear c4b0
     try clear hx264_0
     try clear p264
     try clear q264
     obtain ⟨x4_2,x5_2,rfl,rfl,HA,HK2,⟨m2,rfl⟩⟩:=hrel
     cases gk with
     | zero=>exact absurd HA.out (by simp [node_half.l1])
     | succ k2 =>
      have H:=HA.out
      clear HA
      simp only [node_half.l1] at H
      by_cases c5:x5_2=0
      ·rw [if_pos c5] at H
       have c5b0:(x5_2 == 0)=true:=beq_iff_eq.mpr c5
       have c5b1:(x5_2 != 0)=false:=bne_eq_false_iff_eq.mpr c5
       clear c5
       by_cases c6:0≤x5_2
       ·rw [if_pos c6] at H
        have c6b0:decide (0≤x5_2)=true:=decide_eq_true c6
        clear c6
        by_cases c7:x5_2 < (l0.length:Int)
        ·rw [if_pos c7] at H
         have c7b0:decide (x5_2 < (l0.length:Int))=true:=decide_eq_true c7
         clear c7
         have H':=Aside0.mk H
         clear H
         have p265:0≤(x5_2:Int):=of_decide_eq_true (by first|(with_reducible assumption)|assumption)
         have q265:x5_2 < (l0.length:Int):=of_decide_eq_true (by first|(with_reducible assumption)|assumption)
         obtain ⟨ad265,e265,hx265_0⟩:=Kd.at_string HR0.out x5_2 p265 q265
         cases e265
         replace p265:=eq_true p265
         replace q265:=eq_true q265
         go_wp2
         go_roundg k2
         case measure=>have:=HK1.out;have:=HK2.out;omega
         case rel=>exact ⟨(wrap64 (x4_2 + (wrap64 (3 + ((rdOf ByteArray.empty l0 x5_2).size:Int))))),(wrap64 (x5_2 + 1)),(by first|(with_reducible rfl)|(simp;done)|(simp [*];done)|rfl|(simp only [not_isEmpty_bne])),(by first|(with_reducible rfl)|(simp;done)|(simp [*];done)|rfl|(simp only [not_isEmpty_bne])),H',⟨by have:=HK1.out;have:=HK2.out;omega⟩,by repeat (first|exact Drawn0.refl _|apply Drawn0.step)⟩
        ·rw [if_neg c7] at H
         exact absurd H (by simp)
       ·rw [if_neg c6] at H
        exact absurd H (by simp)
      ·rw [if_neg c5] at H
       have c5b0:(x5_2 == 0)=false:=beq_eq_false_iff_ne.mpr c5
       have c5b1:(x5_2 != 0)=true:=bne_iff_ne.mpr c5
       by_cases c8:x5_2 < (wrap64 ((l0.length:Int) - 2))
       ·rw [if_pos c8] at H
        have c8b0:decide (x5_2 < (wrap64 ((l0.length:Int) - 2)))=true:=decide_eq_true c8
        clear c8
        by_cases c9:(wrap64 (2 * x4_2)) < x3_1
        ·rw [if_pos c9] at H
         have c9b0:decide ((wrap64 (2 * x4_2)) < x3_1)=true:=decide_eq_true c9
         clear c9
         by_cases c10:0≤x5_2
         ·rw [if_pos c10] at H
          have c10b0:decide (0≤x5_2)=true:=decide_eq_true c10
          clear c10
          by_cases c11:x5_2 < (l0.length:Int)
          ·rw [if_pos c11] at H
           have c11b0:decide (x5_2 < (l0.length:Int))=true:=decide_eq_true c11
           clear c11
           have H':=Aside0.mk H
           clear H
           have p266:0≤(x5_2:Int):=of_decide_eq_true (by first|(with_reducible assumption)|assumption)
           have q266:x5_2 < (l0.length:Int):=of_decide_eq_true (by first|(with_reducible assumption)|assumption)
           obtain ⟨ad266,e266,hx266_0⟩:=Kd.at_string HR0.out x5_2 p266 q266
           cases e266
           replace p266:=eq_true p266
           replace q266:=eq_true q266
           go_wp2
           go_roundg k2
           case measure=>have:=HK1.out;have:=HK2.out;omega
           case rel=>exact ⟨(wrap64 (x4_2 + (wrap64 (3 + ((rdOf ByteArray.empty l0 x5_2).size:Int))))),(wrap64 (x5_2 + 1)),(by first|(with_reducible rfl)|(simp;done)|(simp [*];done)|rfl|(simp only [not_isEmpty_bne])),(by first|(with_reducible rfl)|(simp;done)|(simp [*];done)|rfl|(simp only [not_isEmpty_bne])),H',⟨by have:=HK1.out;have:=HK2.out;omega⟩,by repeat (first|exact Drawn0.refl _|apply Drawn0.step)⟩
          ·rw [if_neg c11] at H
           exact absurd H (by simp)
         ·rw [if_neg c10] at H
          exact absurd H (by simp)
        ·rw [if_neg c9] at H
         have c9b0:decide ((wrap64 (2 * x4_2)) < x3_1)=false:=decide_eq_false c9
         clear c9
         obtain rfl:=Option.some.inj H
         go_wp2
         go_ret
         exact ⟨by first|(with_reducible rfl)|(simp;done)|(simp [*];done)|rfl|(simp only [not_isEmpty_bne]),by repeat (first|exact Drawn0.refl _|apply Drawn0.step)⟩
       ·rw [if_neg c8] at H
        have c8b0:decide (x5_2 < (wrap64 ((l0.length:Int) - 2)))=false:=decide_eq_false c8
        clear c8
        obtain rfl:=Option.some.inj H
        go_wp2
        go_ret
        exact ⟨by first|(with_reducible rfl)|(simp;done)|(simp [*];done)|rfl|(simp only [not_isEmpty_bne]),by repeat (first|exact Drawn0.refl _|apply Drawn0.step)⟩

end Go.Proofs.Ytokjbncjapndgaa.PAll
