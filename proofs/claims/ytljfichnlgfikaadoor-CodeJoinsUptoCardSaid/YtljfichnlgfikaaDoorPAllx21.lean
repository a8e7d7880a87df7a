/- Printed walks of the functions that the laws reach: each function, what it computes, and that it does. No conditions. -/
import Derived.Test.YtljfichnlgfikaaDoorPAllx0
import Derived.Test.YtljfichnlgfikaaDoorPAllx9
import Derived.Test.YtljfichnlgfikaaDoorPAllx14
import Derived.Test.YtljfichnlgfikaaDoorPAllx17
import Derived.Test.YtljfichnlgfikaaDoorPAllx20
namespace Go.Proofs.YtljfichnlgfikaaDoor.PAll
open Go.RowKit Go.Proofs.YtljfichnlgfikaaDoor.XW Go.Proofs.YtljfichnlgfikaaDoor.XLib Go.Proofs.YtljfichnlgfikaaDoorW.PrintWords Go.Proofs.YtljfichnlgfikaaDoorW.PrintLast Go.Proofs.YtljfichnlgfikaaDoorW.PrintMore
attribute [local go_sem] max2_int min2_int max_two min_two max_three min_three max_four min_four   -- for this text's walks alone
set_option linter.unusedVariables false
set_option linter.unusedSimpArgs false

/-! ### factotumref13_Write: function 10 -/
def factotumref13_Write.l0:Nat→List (S42)→ByteArray→Int→Option (ByteArray × Int)
 | 0,_,_,_=>none
 | k + 1,x0,x4,x5=>if x5 < (x0.length:Int) then (if 0≤x5 then ((factotumref13_Right.f k ((rd_T42 x0 x5).f0) ((rd_T42 x0 x5).f1) ((rd_T42 x0 x5).f2) ((rd_T42 x0 x5).f3) ((rd_T42 x0 x5).f4.f0) ((rd_T42 x0 x5).f4.f1) ((rd_T42 x0 x5).f4.f2)).bind fun t220=>(if t220=true then ((factotumref13_one.f k ((rd_T42 x0 x5).f0) ((rd_T42 x0 x5).f1) ((rd_T42 x0 x5).f2) ((rd_T42 x0 x5).f3) ((rd_T42 x0 x5).f4.f0) ((rd_T42 x0 x5).f4.f1) ((rd_T42 x0 x5).f4.f2)).bind fun t222=>(if x4.size + t222.size≤9223372036854775807 then (factotumref13_Write.l0 k x0 (x4 ++ t222) (wrap64 (x5 + 1))) else (none))) else (some ((⟨#[]⟩:ByteArray),4)))) else (none)) else (some (x4,0))
def factotumref13_Write.f (k:Nat) (l0:List (S42)):Option (ByteArray × Int):=if (l0.length:Int) > 64 then (some ((⟨#[]⟩:ByteArray),3)) else (factotumref13_Write.l0 k l0 (⟨#[]⟩:ByteArray) 0)
theorem factotumref13_Write.mono_l:∀ k,(∀ y0 y1 y2,LeO (factotumref13_Write.l0 k y0 y1 y2) (factotumref13_Write.l0 (k + 1) y0 y1 y2))
 | 0=>fun _ _ _ r h=>by simp [factotumref13_Write.l0] at h
 | k + 1=>by
  have ih0:=factotumref13_Write.mono_l k
  ·intro y0 y1 y2
   unfold factotumref13_Write.l0
   repeat' first
   | (with_reducible exact ih0 _ _ _)
   | (with_reducible exact factotumref13_Right.mono _ _ _ _ _ _ _ _)
   | (with_reducible exact factotumref13_one.mono _ _ _ _ _ _ _ _)
   | (with_reducible exact LeO.refl _)
   | (with_reducible exact LeO.none _)
   | (with_reducible refine LeO.ite ?_ ?_)
   | (with_reducible refine LeO.bind ?_ (fun _=>?_))
   | exact ih0 _ _ _
   | exact factotumref13_Right.mono _ _ _ _ _ _ _ _
   | exact factotumref13_one.mono _ _ _ _ _ _ _ _
   | exact LeO.none _
   | refine LeO.ite ?_ ?_
   | refine LeO.bind ?_ (fun _=>?_)
theorem factotumref13_Write.mono:∀ a0 k,LeO (factotumref13_Write.f k a0) (factotumref13_Write.f (k + 1) a0):=by
 intro a0 k
 have ih0:=factotumref13_Write.mono_l k
 unfold factotumref13_Write.f
 repeat' first
   | (with_reducible exact ih0 _ _ _)
   | (with_reducible exact factotumref13_Right.mono _ _ _ _ _ _ _ _)
   | (with_reducible exact factotumref13_one.mono _ _ _ _ _ _ _ _)
   | (with_reducible exact LeO.refl _)
   | (with_reducible exact LeO.none _)
   | (with_reducible refine LeO.ite ?_ ?_)
   | (with_reducible refine LeO.bind ?_ (fun _=>?_))
   | exact ih0 _ _ _
   | exact factotumref13_Right.mono _ _ _ _ _ _ _ _
   | exact factotumref13_one.mono _ _ _ _ _ _ _ _
   | exact LeO.none _
   | refine LeO.ite ?_ ?_
   | refine LeO.bind ?_ (fun _=>?_)
set_option maxHeartbeats 8000000 in
set_option maxRecDepth 100000 in
theorem factotumref13_Write.calls (k:Nat) (A0:Option Addr) (c0:Nat) (l0:List (S42)) (r1:ByteArray) (r2:Int) (w:World) (hr0:Kd.C k42 w A0 l0.length l0) (hc0:l0.length≤c0) (h:factotumref13_Write.f k l0=some (r1,r2)) :
  Calls Tryd.prog 10 #[.slice A0 l0.length c0] w fun e w'=>e=.returned (.tuple #[.string r1,.int .i64 r2])∧Below w.heap.size w w':=by
 have hu42:=Tryd.underlying42
 have HR0:=Aside0.mk hr0
 have HC0:=Aside0.mk hc0
 clear hr0 hc0
 have HB:=Aside0.mk (Below.refl w.heap.size w)
 have H:(if (l0.length:Int) > 64 then (some ((⟨#[]⟩:ByteArray),3)) else (factotumref13_Write.l0 k l0 (⟨#[]⟩:ByteArray) 0))=some (r1,r2):=h
 clear h
 by_cases c2:(l0.length:Int) > 64
 ·rw [if_pos c2] at H
  have c2b0:decide (64 < (l0.length:Int))=true:=decide_eq_true c2
  have c2b1:decide (64 < l0.length)=true:=decide_eq_true (by omega)
  clear c2
  simp only [Option.some.injEq,Prod.mk.injEq] at H
  obtain ⟨rfl,rfl⟩:=H
  go_enter Tryd.func10,Tryd.ntmps10
  go_wp2
  go_ret2
  exact ⟨by first|(with_reducible rfl)|(simp only [isEmpty_bne,Bool.not_not] <;> rfl)|rfl|(simp [*,errW_none,errW_some] <;> rfl),by repeat (first|(with_reducible first|exact HB.out|apply zl1|apply zl2|apply zl3)|exact HB.out)⟩
 ·rw [if_neg c2] at H
  have c2b0:decide (64 < (l0.length:Int))=false:=decide_eq_false c2
  have c2b1:decide (64 < l0.length)=false:=decide_eq_false (by omega)
  clear c2
  have H':=Aside0.mk H
  clear H
  go_enter Tryd.func10,Tryd.ntmps10
  go_wp2
  go_loopg [4,5] k (fun kq v4 v5 w'=>∃ (x4_1:ByteArray) (x5_1:Int),v4=.string x4_1∧v5=.int .i64 x5_1∧Aside0 (factotumref13_Write.l0 kq l0 x4_1 x5_1=some (r1,r2))∧Aside0 (kq≤k)∧Aside0 (Below w.heap.size w w'))
  case atStart=>exact ⟨((⟨#[]⟩:ByteArray)),(0),(by first|(with_reducible rfl)|(simp;done)|(simp [*];done)|rfl|(simp only [not_isEmpty_bne])),(by first|(with_reducible rfl)|(simp;done)|(simp [*];done)|rfl|(simp only [not_isEmpty_bne])),H',⟨Nat.le_refl _⟩,⟨by repeat (first|(with_reducible first|exact HB.out|apply zl1|apply zl2|apply zl3)|exact HB.out)⟩⟩
  case round =>
   clear H'
   try clear c1
   try clear c2
   try clear c2b0
   try clear c2b1
   try clear p2
   obtain ⟨x4_1,x5_1,rfl,rfl,HA,HK1,HB⟩:=hrel
   cases gk with
   | zero=>exact absurd HA.out (by simp [factotumref13_Write.l0])
   | succ k1 =>
    have H:=HA.out
    clear HA
    simp only [factotumref13_Write.l0] at H
    by_cases c3:x5_1 < (l0.length:Int)
    ·rw [if_pos c3] at H
     have c3b0:decide (x5_1 < (l0.length:Int))=true:=decide_eq_true c3
     clear c3
     by_cases c4:0≤x5_1
     ·rw [if_pos c4] at H
      have c4b0:decide (0≤x5_1)=true:=decide_eq_true c4
      clear c4
      replace H:=Option.bind_eq_some_iff.mp H
      obtain ⟨t220,A50,H⟩:=H
      replace H:(if t220=true then ((factotumref13_one.f k1 ((rd_T42 l0 x5_1).f0) ((rd_T42 l0 x5_1).f1) ((rd_T42 l0 x5_1).f2) ((rd_T42 l0 x5_1).f3) ((rd_T42 l0 x5_1).f4.f0) ((rd_T42 l0 x5_1).f4.f1) ((rd_T42 l0 x5_1).f4.f2)).bind fun t222=>(if x4_1.size + t222.size≤9223372036854775807 then (factotumref13_Write.l0 k1 l0 (x4_1 ++ t222) (wrap64 (x5_1 + 1))) else (none))) else (some ((⟨#[]⟩:ByteArray),4)))=some (r1,r2):=H
      have A5:=Aside0.mk A50
      clear A50
      by_cases c6:t220=true
      ·subst c6
       have H1:((factotumref13_one.f k1 ((rd_T42 l0 x5_1).f0) ((rd_T42 l0 x5_1).f1) ((rd_T42 l0 x5_1).f2) ((rd_T42 l0 x5_1).f3) ((rd_T42 l0 x5_1).f4.f0) ((rd_T42 l0 x5_1).f4.f1) ((rd_T42 l0 x5_1).f4.f2)).bind fun t222=>(if x4_1.size + t222.size≤9223372036854775807 then (factotumref13_Write.l0 k1 l0 (x4_1 ++ t222) (wrap64 (x5_1 + 1))) else (none)))=some (r1,r2):=by rw [if_pos rfl] at H;exact H
       clear H
       have H:=H1
       clear H1
       replace H:=Option.bind_eq_some_iff.mp H
       obtain ⟨t222,A70,H⟩:=H
       replace H:(if x4_1.size + t222.size≤9223372036854775807 then (factotumref13_Write.l0 k1 l0 (x4_1 ++ t222) (wrap64 (x5_1 + 1))) else (none))=some (r1,r2):=H
       have A7:=Aside0.mk A70
       clear A70
       by_cases c8:x4_1.size + t222.size≤9223372036854775807
       ·rw [if_pos c8] at H
        have c8b0:=eq_true c8
        have c8b1:decide (x4_1.size + t222.size≤9223372036854775807)=true:=decide_eq_true c8
        try have c8b2:(9223372036854775807 < x4_1.size + t222.size)=False:=eq_false (Nat.not_lt.2 c8)
        have H':=Aside0.mk H
        clear H
        have p219:0≤(x5_1:Int):=of_decide_eq_true (by first|(with_reducible assumption)|assumption)
        have q219:x5_1 < (l0.length:Int):=of_decide_eq_true (by first|(with_reducible assumption)|assumption)
        obtain ⟨ad219,e219,hx219_0,hx219_1,hx219_2,hx219_3,hx219_4,hx219_5,hx219_6⟩:=at_T42 HR0.out x5_1 p219 q219
        cases e219
        replace hx219_0:=(HB.out.cell (World.block_lt_of_cell? w _ hx219_0)).trans hx219_0
        replace hx219_1:=(HB.out.cell (World.block_lt_of_cell? w _ hx219_1)).trans hx219_1
        replace hx219_2:=(HB.out.cell (World.block_lt_of_cell? w _ hx219_2)).trans hx219_2
        replace hx219_3:=(HB.out.cell (World.block_lt_of_cell? w _ hx219_3)).trans hx219_3
        replace hx219_4:=(HB.out.cell (World.block_lt_of_cell? w _ hx219_4)).trans hx219_4
        replace hx219_5:=(HB.out.cell (World.block_lt_of_cell? w _ hx219_5)).trans hx219_5
        replace hx219_6:=(HB.out.cell (World.block_lt_of_cell? w _ hx219_6)).trans hx219_6
        replace p219:=eq_true p219
        replace q219:=eq_true q219
        go_wp2_with (first|((with_reducible refine gate_callee (f:=19) rfl ?_);refine goesL_ (some 19) rfl rfl Tryd.func19 (by kernel_rfl) rfl #[.agg #[.int .i64 ((rd_T42 l0 x5_1).f0),.int .i64 ((rd_T42 l0 x5_1).f1),.int .i64 ((rd_T42 l0 x5_1).f2),.int .i64 ((rd_T42 l0 x5_1).f3),.int .i64 ((rd_T42 l0 x5_1).f4.f0),.int .i64 ((rd_T42 l0 x5_1).f4.f1),.string ((rd_T42 l0 x5_1).f4.f2)]] rfl (by (try simp only [List.map_toArray,List.map_cons,List.map_nil]);first|done|rfl|(simp only [List.length_drop,List.length_take];rfl)|(simp (disch:=omega) only [u64_in];rfl)) ?_;(with_reducible refine (factotumref13_Right.calls k1 ((rd_T42 l0 x5_1).f0) ((rd_T42 l0 x5_1).f1) ((rd_T42 l0 x5_1).f2) ((rd_T42 l0 x5_1).f3) ((rd_T42 l0 x5_1).f4.f0) ((rd_T42 l0 x5_1).f4.f1) ((rd_T42 l0 x5_1).f4.f2) true _ A5.out).mono ?_);rintro e w9 ⟨rfl,hb⟩;refine ⟨_,rfl,?_⟩;replace HB:=Aside0.mk (below_step (by repeat (first|(with_reducible first|exact HB.out|apply zl1|apply zl2|apply zl3)|exact HB.out)) hb);(try clear hb);have p221:0≤(x5_1:Int):=of_decide_eq_true (by first|(with_reducible assumption)|assumption);have q221:x5_1 < (l0.length:Int):=of_decide_eq_true (by first|(with_reducible assumption)|assumption);obtain ⟨ad221,e221,hx221_0,hx221_1,hx221_2,hx221_3,hx221_4,hx221_5,hx221_6⟩:=at_T42 HR0.out x5_1 p221 q221;obtain rfl:ad219=ad221:=(by injection e221);replace hx221_0:=(HB.out.cell (World.block_lt_of_cell? w _ hx221_0)).trans hx221_0;replace hx221_1:=(HB.out.cell (World.block_lt_of_cell? w _ hx221_1)).trans hx221_1;replace hx221_2:=(HB.out.cell (World.block_lt_of_cell? w _ hx221_2)).trans hx221_2;replace hx221_3:=(HB.out.cell (World.block_lt_of_cell? w _ hx221_3)).trans hx221_3;replace hx221_4:=(HB.out.cell (World.block_lt_of_cell? w _ hx221_4)).trans hx221_4;replace hx221_5:=(HB.out.cell (World.block_lt_of_cell? w _ hx221_5)).trans hx221_5;replace hx221_6:=(HB.out.cell (World.block_lt_of_cell? w _ hx221_6)).trans hx221_6;replace p221:=eq_true p221;replace q221:=eq_true q221)|((with_reducible refine gate_callee (f:=20) rfl ?_);refine goesL_ (some 26) rfl rfl Tryd.func20 (by kernel_rfl) rfl #[.agg #[.int .i64 ((rd_T42 l0 x5_1).f0),.int .i64 ((rd_T42 l0 x5_1).f1),.int .i64 ((rd_T42 l0 x5_1).f2),.int .i64 ((rd_T42 l0 x5_1).f3),.int .i64 ((rd_T42 l0 x5_1).f4.f0),.int .i64 ((rd_T42 l0 x5_1).f4.f1),.string ((rd_T42 l0 x5_1).f4.f2)]] rfl (by (try simp only [List.map_toArray,List.map_cons,List.map_nil]);first|done|rfl|(simp only [List.length_drop,List.length_take];rfl)|(simp (disch:=omega) only [u64_in];rfl)) ?_;(with_reducible refine (factotumref13_one.calls k1 ((rd_T42 l0 x5_1).f0) ((rd_T42 l0 x5_1).f1) ((rd_T42 l0 x5_1).f2) ((rd_T42 l0 x5_1).f3) ((rd_T42 l0 x5_1).f4.f0) ((rd_T42 l0 x5_1).f4.f1) ((rd_T42 l0 x5_1).f4.f2) t222 _ A7.out).mono ?_);rintro e w10 ⟨rfl,hb⟩;refine ⟨_,rfl,?_⟩;replace HB:=Aside0.mk (below_step (by repeat (first|(with_reducible first|exact HB.out|apply zl1|apply zl2|apply zl3)|exact HB.out)) hb);(try clear hb)))
        go_roundg k1
        case measure=>have:=HK1.out;omega
        case rel=>exact ⟨(x4_1 ++ t222),(wrap64 (x5_1 + 1)),(by first|(with_reducible rfl)|(simp;done)|(simp [*];done)|rfl|(simp only [not_isEmpty_bne])),(by first|(with_reducible rfl)|(simp;done)|(simp [*];done)|rfl|(simp only [not_isEmpty_bne])),H',⟨by have:=HK1.out;omega⟩,⟨by repeat (first|(with_reducible first|exact HB.out|apply zl1|apply zl2|apply zl3)|exact HB.out)⟩⟩
       ·rw [if_neg c8] at H
        exact absurd H (by simp)
      ·replace c6:=Bool.eq_false_iff.mpr c6
       subst c6
       have H1:(some ((⟨#[]⟩:ByteArray),4))=some (r1,r2):=by rw [if_neg (show ¬ (false=true) by decide)] at H;exact H
       clear H
       have H:=H1
       clear H1
       simp only [Option.some.injEq,Prod.mk.injEq] at H
       obtain ⟨rfl,rfl⟩:=H
       have p219:0≤(x5_1:Int):=of_decide_eq_true (by first|(with_reducible assumption)|assumption)
       have q219:x5_1 < (l0.length:Int):=of_decide_eq_true (by first|(with_reducible assumption)|assumption)
       obtain ⟨ad219,e219,hx219_0,hx219_1,hx219_2,hx219_3,hx219_4,hx219_5,hx219_6⟩:=at_T42 HR0.out x5_1 p219 q219
       cases e219
       replace hx219_0:=(HB.out.cell (World.block_lt_of_cell? w _ hx219_0)).trans hx219_0
       replace hx219_1:=(HB.out.cell (World.block_lt_of_cell? w _ hx219_1)).trans hx219_1
       replace hx219_2:=(HB.out.cell (World.block_lt_of_cell? w _ hx219_2)).trans hx219_2
       replace hx219_3:=(HB.out.cell (World.block_lt_of_cell? w _ hx219_3)).trans hx219_3
       replace hx219_4:=(HB.out.cell (World.block_lt_of_cell? w _ hx219_4)).trans hx219_4
       replace hx219_5:=(HB.out.cell (World.block_lt_of_cell? w _ hx219_5)).trans hx219_5
       replace hx219_6:=(HB.out.cell (World.block_lt_of_cell? w _ hx219_6)).trans hx219_6
       replace p219:=eq_true p219
       replace q219:=eq_true q219
       go_wp2_with (first|((with_reducible refine gate_callee (f:=19) rfl ?_);refine goesL_ (some 19) rfl rfl Tryd.func19 (by kernel_rfl) rfl #[.agg #[.int .i64 ((rd_T42 l0 x5_1).f0),.int .i64 ((rd_T42 l0 x5_1).f1),.int .i64 ((rd_T42 l0 x5_1).f2),.int .i64 ((rd_T42 l0 x5_1).f3),.int .i64 ((rd_T42 l0 x5_1).f4.f0),.int .i64 ((rd_T42 l0 x5_1).f4.f1),.string ((rd_T42 l0 x5_1).f4.f2)]] rfl (by (try simp only [List.map_toArray,List.map_cons,List.map_nil]);first|done|rfl|(simp only [List.length_drop,List.length_take];rfl)|(simp (disch:=omega) only [u64_in];rfl)) ?_;(with_reducible refine (factotumref13_Right.calls k1 ((rd_T42 l0 x5_1).f0) ((rd_T42 l0 x5_1).f1) ((rd_T42 l0 x5_1).f2) ((rd_T42 l0 x5_1).f3) ((rd_T42 l0 x5_1).f4.f0) ((rd_T42 l0 x5_1).f4.f1) ((rd_T42 l0 x5_1).f4.f2) false _ A5.out).mono ?_);rintro e w11 ⟨rfl,hb⟩;refine ⟨_,rfl,?_⟩;replace HB:=Aside0.mk (below_step (by repeat (first|(with_reducible first|exact HB.out|apply zl1|apply zl2|apply zl3)|exact HB.out)) hb);(try clear hb)))
       go_ret2
       exact ⟨by first|(with_reducible rfl)|(simp only [isEmpty_bne,Bool.not_not] <;> rfl)|rfl|(simp [*,errW_none,errW_some] <;> rfl),by repeat (first|(with_reducible first|exact HB.out|apply zl1|apply zl2|apply zl3)|exact HB.out)⟩
     ·rw [if_neg c4] at H
      exact absurd H (by simp)
    ·rw [if_neg c3] at H
     have c3b0:decide (x5_1 < (l0.length:Int))=false:=decide_eq_false c3
     clear c3
     simp only [Option.some.injEq,Prod.mk.injEq] at H
     obtain ⟨rfl,rfl⟩:=H
     go_wp2
     go_ret2
     exact ⟨by first|(with_reducible rfl)|(simp only [isEmpty_bne,Bool.not_not] <;> rfl)|rfl|(simp [*,errW_none,errW_some] <;> rfl),by repeat (first|(with_reducible first|exact HB.out|apply zl1|apply zl2|apply zl3)|exact HB.out)⟩

/-! ### factotumlaw13_CodeWrites: function 3 -/
def factotumlaw13_CodeWrites.f (k:Nat) (l0:List (S42)):Option (Bool):=(factotumlaw13_lives.f k).bind fun t223=>(if t223=true then ((code_Write.f k l0).bind fun bt224=>((factotumref13_Write.f k l0).bind fun bt226=>(if bt224.1.toList=bt226.1.toList then (some (bt224.2 == bt226.2)) else (none)))) else (none))
theorem factotumlaw13_CodeWrites.mono:∀ a0 k,LeO (factotumlaw13_CodeWrites.f k a0) (factotumlaw13_CodeWrites.f (k + 1) a0):=by
 intro a0 k
 unfold factotumlaw13_CodeWrites.f
 repeat' first
   | (with_reducible exact code_Write.mono _ _)
   | (with_reducible exact factotumlaw13_lives.mono _)
   | (with_reducible exact factotumref13_Write.mono _ _)
   | (with_reducible exact LeO.refl _)
   | (with_reducible exact LeO.none _)
   | (with_reducible refine LeO.ite ?_ ?_)
   | (with_reducible refine LeO.bind ?_ (fun _=>?_))
   | exact code_Write.mono _ _
   | exact factotumlaw13_lives.mono _
   | exact factotumref13_Write.mono _ _
   | exact LeO.none _
   | refine LeO.ite ?_ ?_
   | refine LeO.bind ?_ (fun _=>?_)
set_option maxHeartbeats 8000000 in
set_option maxRecDepth 100000 in
theorem factotumlaw13_CodeWrites.calls (k:Nat) (A0:Option Addr) (c0:Nat) (l0:List (S42)) (r:Bool) (w:World) (hr0:Kd.C k42 w A0 l0.length l0) (hc0:l0.length≤c0) (h:factotumlaw13_CodeWrites.f k l0=some r) :
  Calls Tryd.prog 3 #[.slice A0 l0.length c0] w fun e w'=>e=.returned (.bool r)∧Below w.heap.size w w':=by
 have HR0:=Aside0.mk hr0
 have HC0:=Aside0.mk hc0
 clear hr0 hc0
 have HB:=Aside0.mk (Below.refl w.heap.size w)
 have H:((factotumlaw13_lives.f k).bind fun t223=>(if t223=true then ((code_Write.f k l0).bind fun bt224=>((factotumref13_Write.f k l0).bind fun bt226=>(if bt224.1.toList=bt226.1.toList then (some (bt224.2 == bt226.2)) else (none)))) else (none)))=some r:=h
 clear h
 replace H:=Option.bind_eq_some_iff.mp H
 obtain ⟨t223,A20,H⟩:=H
 replace H:(if t223=true then ((code_Write.f k l0).bind fun bt224=>((factotumref13_Write.f k l0).bind fun bt226=>(if bt224.1.toList=bt226.1.toList then (some (bt224.2 == bt226.2)) else (none)))) else (none))=some r:=H
 have A2:=Aside0.mk A20
 clear A20
 by_cases c3:t223=true
 ·subst c3
  have H1:((code_Write.f k l0).bind fun bt224=>((factotumref13_Write.f k l0).bind fun bt226=>(if bt224.1.toList=bt226.1.toList then (some (bt224.2 == bt226.2)) else (none))))=some r:=by rw [if_pos rfl] at H;exact H
  clear H
  have H:=H1
  clear H1
  replace H:=Option.bind_eq_some_iff.mp H
  obtain ⟨⟨t224,t225⟩,A40,H⟩:=H
  replace H:((factotumref13_Write.f k l0).bind fun bt226=>(if t224.toList=bt226.1.toList then (some (t225 == bt226.2)) else (none)))=some r:=H
  have A4:=Aside0.mk A40
  clear A40
  replace H:=Option.bind_eq_some_iff.mp H
  obtain ⟨⟨t226,t227⟩,A50,H⟩:=H
  replace H:(if t224.toList=t226.toList then (some (t225 == t227)) else (none))=some r:=H
  have A5:=Aside0.mk A50
  clear A50
  by_cases c6:t224.toList=t226.toList
  ·rw [if_pos c6] at H
   have c6b0:(t224.toList == t226.toList)=true:=beq_iff_eq.mpr c6
   have c6b1:(t224.toList != t226.toList)=false:=bne_eq_false_iff_eq.mpr c6
   clear c6
   obtain rfl:=Option.some.inj H
   go_enter Tryd.func3,Tryd.ntmps3
   go_wp2_with (first|((with_reducible refine gate_callee (f:=8) rfl ?_);refine goesL_ (some 7) rfl rfl Tryd.func8 (by kernel_rfl) rfl #[] rfl (by (try simp only [List.map_toArray,List.map_cons,List.map_nil]);first|done|rfl|(simp only [List.length_drop,List.length_take];rfl)|(simp (disch:=omega) only [u64_in];rfl)) ?_;(with_reducible refine (factotumlaw13_lives.calls k  true _ A2.out).mono ?_);rintro e w7 ⟨rfl,hb⟩;refine ⟨_,rfl,?_⟩;replace HB:=Aside0.mk (below_step (by repeat (first|(with_reducible first|exact HB.out|apply zl1|apply zl2|apply zl3)|exact HB.out)) hb);(try clear hb))|((with_reducible refine gate_callee (f:=9) rfl ?_);refine goesL_ (some 11) rfl rfl Tryd.func9 (by kernel_rfl) rfl #[.slice A0 l0.length c0] rfl (by (try simp only [List.map_toArray,List.map_cons,List.map_nil]);first|done|rfl|(simp only [List.length_drop,List.length_take];rfl)|(simp (disch:=omega) only [u64_in];rfl)) ?_;(with_reducible refine (code_Write.calls k _ _ l0 t224 t225 _ ?side1 ?side2 A4.out).mono ?_);(case side1=>repeat (first|exact (Kd.C_below HR0.out HB.out)|(with_reducible refine Kd.C_alloc ?_ _)|(with_reducible refine Kd.C_drewN ?_ _)|(with_reducible refine Kd.C_drew ?_)));(case side2=>exact HC0.out);rintro e w8 ⟨rfl,hb⟩;refine ⟨_,rfl,?_⟩;replace HB:=Aside0.mk (below_step (by repeat (first|(with_reducible first|exact HB.out|apply zl1|apply zl2|apply zl3)|exact HB.out)) hb);(try clear hb))|((with_reducible refine gate_callee (f:=10) rfl ?_);refine goesL_ (some 16) rfl rfl Tryd.func10 (by kernel_rfl) rfl #[.slice A0 l0.length c0] rfl (by (try simp only [List.map_toArray,List.map_cons,List.map_nil]);first|done|rfl|(simp only [List.length_drop,List.length_take];rfl)|(simp (disch:=omega) only [u64_in];rfl)) ?_;(with_reducible refine (factotumref13_Write.calls k _ _ l0 t226 t227 _ ?side1 ?side2 A5.out).mono ?_);(case side1=>repeat (first|exact (Kd.C_below HR0.out HB.out)|(with_reducible refine Kd.C_alloc ?_ _)|(with_reducible refine Kd.C_drewN ?_ _)|(with_reducible refine Kd.C_drew ?_)));(case side2=>exact HC0.out);rintro e w9 ⟨rfl,hb⟩;refine ⟨_,rfl,?_⟩;replace HB:=Aside0.mk (below_step (by repeat (first|(with_reducible first|exact HB.out|apply zl1|apply zl2|apply zl3)|exact HB.out)) hb);(try clear hb)))
   go_ret
   exact ⟨by first|(with_reducible rfl)|(simp only [isEmpty_bne,Bool.not_not] <;> rfl)|rfl|(simp [*,errW_none,errW_some] <;> rfl),by repeat (first|(with_reducible first|exact HB.out|apply zl1|apply zl2|apply zl3)|exact HB.out)⟩
  ·rw [if_neg c6] at H
   exact absurd H (by simp)
 ·replace c3:=Bool.eq_false_iff.mpr c3
  subst c3
  have H1:(none)=some r:=by rw [if_neg (show ¬ (false=true) by decide)] at H;exact H
  clear H
  have H:=H1
  clear H1
  exact absurd H (by simp)

end Go.Proofs.YtljfichnlgfikaaDoor.PAll
