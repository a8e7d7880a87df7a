/- Printed walks of the functions that the laws reach: each function, what it computes, and that it does. No conditions. -/
import Derived.Test.YtobjnhkjahhfnaaDoorPAllx0
import Derived.Test.YtobjnhkjahhfnaaDoorPAllx1
import Derived.Test.YtobjnhkjahhfnaaDoorPAllx13
import Derived.Test.YtobjnhkjahhfnaaDoorPAllx14
namespace Go.Proofs.YtobjnhkjahhfnaaDoor.PAll
open Go.RowKit Go.Proofs.YtobjnhkjahhfnaaDoor.XW Go.Proofs.YtobjnhkjahhfnaaDoor.XLib Go.Proofs.YtobjnhkjahhfnaaDoorW.PrintWords Go.Proofs.YtobjnhkjahhfnaaDoorW.PrintLast Go.Proofs.YtobjnhkjahhfnaaDoorW.PrintMore
attribute [local go_sem] max2_int min2_int max_two min_two max_three min_three max_four min_four   -- for this text's walks alone
set_option linter.unusedVariables false
set_option linter.unusedSimpArgs false

attribute [local go_sem high] eqA24
/-! ### factotumref21_Right: function 18 -/
mutual
def factotumref21_Right.j0:Nat→Bool→Int→Int→Int→Int→ByteArray→Int→Int→Int→Int→Int→ByteArray→Int→List (S24)→Bool→Option (Bool)
 | 0,_,_,_,_,_,_,_,_,_,_,_,_,_,_,_=>none
 | k + 1,x42,x273000,x273001,x273002,x273003,x273004,x273005,x273006,x273007,x273008,x273009,x273010,x273011,x273012,x273013=>if x42=true then (some false) else (if x273011=0 then (factotumref21_Right.j1 k (x273008 == 0 && (x273009 == 0 && (x273010.toList == ([]:List UInt8)))) ((x273012.length:Int) == 0) x273000 x273001 x273002 x273003 x273004 x273005 x273006 x273007 x273008 x273009 x273010 x273011 x273012 x273013) else (factotumref21_Right.j1 k (x273008 == 0 && (x273009 == 0 && (x273010.toList == ([]:List UInt8)))) false x273000 x273001 x273002 x273003 x273004 x273005 x273006 x273007 x273008 x273009 x273010 x273011 x273012 x273013))
def factotumref21_Right.j1:Nat→Bool→Bool→Int→Int→Int→Int→ByteArray→Int→Int→Int→Int→Int→ByteArray→Int→List (S24)→Bool→Option (Bool)
 | 0,_,_,_,_,_,_,_,_,_,_,_,_,_,_,_,_=>none
 | k + 1,x3,x4,x273000,x273001,x273002,x273003,x273004,x273005,x273006,x273007,x273008,x273009,x273010,x273011,x273012,x273013=>if x273005=1 then (if x273007=0 then (if x3=true then ((factotumref21_frame.f k x273011 x273012).bind fun t274=>(some t274)) else (some false)) else (some false)) else (if x273005=2 then (if x273007 ≥ 0 then (if x273007≤1152921504606846976 then (if x3=true then ((factotumref21_frame.f k x273011 x273012).bind fun t275=>(some t275)) else (some false)) else (some false)) else (some false)) else (if x273005=3 then (if x273007=0 then ((factotumref16_Is.f x273008 x273009 x273010).bind fun t276=>(if t276=true then (some x4) else (some false))) else (some false)) else (if x273005=4 then (if x273007=0 then ((factotumref16_Is.f x273008 x273009 x273010).bind fun t277=>(if t277=true then (some x4) else (some false))) else (some false)) else (if x273005=5 then (if x273007=0 then (if x3=true then (some x4) else (some false)) else (some false)) else (some false)))))
end
def factotumref21_Right.f (k:Nat) (a0_0:Int) (a0_1:Int) (a0_2:Int) (a0_3:Int) (a0_4:ByteArray) (a0_5:Int) (a0_6:Int) (a0_7:Int) (a0_8:Int) (a0_9:Int) (a0_10:ByteArray) (a0_11:Int) (l0_12:List (S24)) (a0_13:Bool):Option (Bool):=if a0_0 < 0 then (factotumref21_Right.j0 k true a0_0 a0_1 a0_2 a0_3 a0_4 a0_5 a0_6 a0_7 a0_8 a0_9 a0_10 a0_11 l0_12 a0_13) else (if a0_0 > 65535 then (factotumref21_Right.j0 k true a0_0 a0_1 a0_2 a0_3 a0_4 a0_5 a0_6 a0_7 a0_8 a0_9 a0_10 a0_11 l0_12 a0_13) else (if a0_1 < 0 then (factotumref21_Right.j0 k true a0_0 a0_1 a0_2 a0_3 a0_4 a0_5 a0_6 a0_7 a0_8 a0_9 a0_10 a0_11 l0_12 a0_13) else (if a0_1 > 255 then (factotumref21_Right.j0 k true a0_0 a0_1 a0_2 a0_3 a0_4 a0_5 a0_6 a0_7 a0_8 a0_9 a0_10 a0_11 l0_12 a0_13) else ((factotumref16_Is.f a0_2 a0_3 a0_4).bind fun t273=>(if t273=true then (if a0_6 < 0 then (factotumref21_Right.j0 k true a0_0 a0_1 a0_2 a0_3 a0_4 a0_5 a0_6 a0_7 a0_8 a0_9 a0_10 a0_11 l0_12 a0_13) else (if a0_6 > 24 then (factotumref21_Right.j0 k true a0_0 a0_1 a0_2 a0_3 a0_4 a0_5 a0_6 a0_7 a0_8 a0_9 a0_10 a0_11 l0_12 a0_13) else (factotumref21_Right.j0 k a0_13 a0_0 a0_1 a0_2 a0_3 a0_4 a0_5 a0_6 a0_7 a0_8 a0_9 a0_10 a0_11 l0_12 a0_13))) else (factotumref21_Right.j0 k true a0_0 a0_1 a0_2 a0_3 a0_4 a0_5 a0_6 a0_7 a0_8 a0_9 a0_10 a0_11 l0_12 a0_13))))))
theorem factotumref21_Right.mono_l:∀ k,(∀ y0 y1 y2 y3 y4 y5 y6 y7 y8 y9 y10 y11 y12 y13 y14,LeO (factotumref21_Right.j0 k y0 y1 y2 y3 y4 y5 y6 y7 y8 y9 y10 y11 y12 y13 y14) (factotumref21_Right.j0 (k + 1) y0 y1 y2 y3 y4 y5 y6 y7 y8 y9 y10 y11 y12 y13 y14))∧(∀ y0 y1 y2 y3 y4 y5 y6 y7 y8 y9 y10 y11 y12 y13 y14 y15,LeO (factotumref21_Right.j1 k y0 y1 y2 y3 y4 y5 y6 y7 y8 y9 y10 y11 y12 y13 y14 y15) (factotumref21_Right.j1 (k + 1) y0 y1 y2 y3 y4 y5 y6 y7 y8 y9 y10 y11 y12 y13 y14 y15))
 | 0=>⟨fun _ _ _ _ _ _ _ _ _ _ _ _ _ _ _ r h=>by simp [factotumref21_Right.j0] at h,fun _ _ _ _ _ _ _ _ _ _ _ _ _ _ _ _ r h=>by simp [factotumref21_Right.j1] at h⟩
 | k + 1=>by
  obtain ⟨ih0,ih1⟩:=factotumref21_Right.mono_l k
  refine ⟨?_,?_⟩
  ·intro y0 y1 y2 y3 y4 y5 y6 y7 y8 y9 y10 y11 y12 y13 y14
   unfold factotumref21_Right.j0
   repeat' first
   | (with_reducible exact ih0 _ _ _ _ _ _ _ _ _ _ _ _ _ _ _)
   | (with_reducible exact ih1 _ _ _ _ _ _ _ _ _ _ _ _ _ _ _ _)
   | (with_reducible exact factotumref21_frame.mono _ _ _)
   | (with_reducible exact LeO.refl _)
   | (with_reducible exact LeO.none _)
   | (with_reducible refine LeO.ite ?_ ?_)
   | (with_reducible refine LeO.bind ?_ (fun _=>?_))
   | exact ih0 _ _ _ _ _ _ _ _ _ _ _ _ _ _ _
   | exact ih1 _ _ _ _ _ _ _ _ _ _ _ _ _ _ _ _
   | exact factotumref21_frame.mono _ _ _
   | exact LeO.none _
   | refine LeO.ite ?_ ?_
   | refine LeO.bind ?_ (fun _=>?_)
  ·intro y0 y1 y2 y3 y4 y5 y6 y7 y8 y9 y10 y11 y12 y13 y14 y15
   unfold factotumref21_Right.j1
   repeat' first
   | (with_reducible exact ih0 _ _ _ _ _ _ _ _ _ _ _ _ _ _ _)
   | (with_reducible exact ih1 _ _ _ _ _ _ _ _ _ _ _ _ _ _ _ _)
   | (with_reducible exact factotumref21_frame.mono _ _ _)
   | (with_reducible exact LeO.refl _)
   | (with_reducible exact LeO.none _)
   | (with_reducible refine LeO.ite ?_ ?_)
   | (with_reducible refine LeO.bind ?_ (fun _=>?_))
   | exact ih0 _ _ _ _ _ _ _ _ _ _ _ _ _ _ _
   | exact ih1 _ _ _ _ _ _ _ _ _ _ _ _ _ _ _ _
   | exact factotumref21_frame.mono _ _ _
   | exact LeO.none _
   | refine LeO.ite ?_ ?_
   | refine LeO.bind ?_ (fun _=>?_)
theorem factotumref21_Right.mono:∀ a0 a1 a2 a3 a4 a5 a6 a7 a8 a9 a10 a11 a12 a13 k,LeO (factotumref21_Right.f k a0 a1 a2 a3 a4 a5 a6 a7 a8 a9 a10 a11 a12 a13) (factotumref21_Right.f (k + 1) a0 a1 a2 a3 a4 a5 a6 a7 a8 a9 a10 a11 a12 a13):=by
 intro a0 a1 a2 a3 a4 a5 a6 a7 a8 a9 a10 a11 a12 a13 k
 obtain ⟨ih0,ih1⟩:=factotumref21_Right.mono_l k
 unfold factotumref21_Right.f
 repeat' first
   | (with_reducible exact ih0 _ _ _ _ _ _ _ _ _ _ _ _ _ _ _)
   | (with_reducible exact ih1 _ _ _ _ _ _ _ _ _ _ _ _ _ _ _ _)
   | (with_reducible exact factotumref21_frame.mono _ _ _)
   | (with_reducible exact LeO.refl _)
   | (with_reducible exact LeO.none _)
   | (with_reducible refine LeO.ite ?_ ?_)
   | (with_reducible refine LeO.bind ?_ (fun _=>?_))
   | exact ih0 _ _ _ _ _ _ _ _ _ _ _ _ _ _ _
   | exact ih1 _ _ _ _ _ _ _ _ _ _ _ _ _ _ _ _
   | exact factotumref21_frame.mono _ _ _
   | exact LeO.none _
   | refine LeO.ite ?_ ?_
   | refine LeO.bind ?_ (fun _=>?_)
set_option maxHeartbeats 8000000 in
set_option maxRecDepth 100000 in
theorem factotumref21_Right.calls (k:Nat) (a0_0:Int) (a0_1:Int) (a0_2:Int) (a0_3:Int) (a0_4:ByteArray) (a0_5:Int) (a0_6:Int) (a0_7:Int) (a0_8:Int) (a0_9:Int) (a0_10:ByteArray) (a0_11:Int) (A0_12:Option Addr) (c0_12:Nat) (l0_12:List (S24)) (a0_13:Bool) (r:Bool) (w:World) (hr0_12:Kd.C k24 w A0_12 l0_12.length l0_12) (hc0_12:l0_12.length≤c0_12) (h:factotumref21_Right.f k a0_0 a0_1 a0_2 a0_3 a0_4 a0_5 a0_6 a0_7 a0_8 a0_9 a0_10 a0_11 l0_12 a0_13=some r) :
  Calls Tryd.prog 18 #[.agg #[.int .i64 a0_0,.int .i64 a0_1,.int .i64 a0_2,.int .i64 a0_3,.string a0_4,.int .i64 a0_5,.int .i64 a0_6,.int .i64 a0_7,.int .i64 a0_8,.int .i64 a0_9,.string a0_10,.int .i64 a0_11,.slice A0_12 l0_12.length c0_12,.bool a0_13]] w fun e w'=>e=.returned (.bool r)∧Below w.heap.size w w':=by
 have hu30:=Tryd.underlying30
 have hu24:=Tryd.underlying24
 have hu28:=Tryd.underlying28
 have HR0_12:=Aside0.mk hr0_12
 have HC0_12:=Aside0.mk hc0_12
 clear hr0_12 hc0_12
 have HB:=Aside0.mk (Below.refl w.heap.size w)
 have H:(if a0_0 < 0 then (factotumref21_Right.j0 k true a0_0 a0_1 a0_2 a0_3 a0_4 a0_5 a0_6 a0_7 a0_8 a0_9 a0_10 a0_11 l0_12 a0_13) else (if a0_0 > 65535 then (factotumref21_Right.j0 k true a0_0 a0_1 a0_2 a0_3 a0_4 a0_5 a0_6 a0_7 a0_8 a0_9 a0_10 a0_11 l0_12 a0_13) else (if a0_1 < 0 then (factotumref21_Right.j0 k true a0_0 a0_1 a0_2 a0_3 a0_4 a0_5 a0_6 a0_7 a0_8 a0_9 a0_10 a0_11 l0_12 a0_13) else (if a0_1 > 255 then (factotumref21_Right.j0 k true a0_0 a0_1 a0_2 a0_3 a0_4 a0_5 a0_6 a0_7 a0_8 a0_9 a0_10 a0_11 l0_12 a0_13) else ((factotumref16_Is.f a0_2 a0_3 a0_4).bind fun t273=>(if t273=true then (if a0_6 < 0 then (factotumref21_Right.j0 k true a0_0 a0_1 a0_2 a0_3 a0_4 a0_5 a0_6 a0_7 a0_8 a0_9 a0_10 a0_11 l0_12 a0_13) else (if a0_6 > 24 then (factotumref21_Right.j0 k true a0_0 a0_1 a0_2 a0_3 a0_4 a0_5 a0_6 a0_7 a0_8 a0_9 a0_10 a0_11 l0_12 a0_13) else (factotumref21_Right.j0 k a0_13 a0_0 a0_1 a0_2 a0_3 a0_4 a0_5 a0_6 a0_7 a0_8 a0_9 a0_10 a0_11 l0_12 a0_13))) else (factotumref21_Right.j0 k true a0_0 a0_1 a0_2 a0_3 a0_4 a0_5 a0_6 a0_7 a0_8 a0_9 a0_10 a0_11 l0_12 a0_13)))))))=some r:=h
 clear h
 have HC2:=Aside0.mk H
 clear H
 go_enter Tryd.func18,Tryd.ntmps18
 go_upto_region 1 with (first|((with_reducible refine gate_dst (N:=1) rfl ?_);(try (refine gate_guard (by rfl) ?_;dsimp only));refine box_event ?hg (N:=1) ?hd (cs:=#[.int .i64 a0_0,.int .i64 a0_1,.int .i64 a0_2,.int .i64 a0_3,.string a0_4,.int .i64 a0_5,.int .i64 a0_6,.int .i64 a0_7,.int .i64 a0_8,.int .i64 a0_9,.string a0_10,.int .i64 a0_11,.slice A0_12 l0_12.length c0_12,.bool a0_13]) (t:=30) ?hr ?_;(case hd=>rfl);(case hg=>rfl);(case hr=>first|(go_simp;done)|(go_simp;rfl));intro gb272 hg w3 hbox hb;have BK272:=Aside0.mk (hbox);have GW272:=Aside0.mk ((by rw [hg];exact (below_size (by repeat (first|(with_reducible first|exact HB.out|apply zl1|apply zl2|apply zl3)|exact HB.out))):w.heap.size≤gb272));have GE272:=Aside0.mk ((by rw [hg];exact (below_size (by repeat (first|(with_reducible first|exact HB.out|apply zl1|apply zl2|apply zl3)|exact HB.out))):w.heap.size≤gb272));replace HB:=Aside0.mk (below_step (by repeat (first|(with_reducible first|exact HB.out|apply zl1|apply zl2|apply zl3)|exact HB.out)) hb);clear hb hbox hg))
 (try simp only [Act.put,List.setIfInBounds_toArray,List.set_cons_zero,List.set_cons_succ])
 go_cut [42] (fun v42 wc=>∃ (kq:Nat) (x42_1:Bool),v42=.bool x42_1∧Aside0 (factotumref21_Right.j0 kq x42_1 a0_0 a0_1 a0_2 a0_3 a0_4 a0_5 a0_6 a0_7 a0_8 a0_9 a0_10 a0_11 l0_12 a0_13=some r)∧Aside0 (kq≤k)∧Aside0 (wc.heap[gb272]?=some (.cells #[.int .i64 a0_0,.int .i64 a0_1,.int .i64 a0_2,.int .i64 a0_3,.string a0_4,.int .i64 a0_5,.int .i64 a0_6,.int .i64 a0_7,.int .i64 a0_8,.int .i64 a0_9,.string a0_10,.int .i64 a0_11,(.slice A0_12 l0_12.length c0_12),.bool a0_13] 30 (0,0)))∧Aside0 (Below w.heap.size w wc))
 case first =>
  have H:=HC2.out
  clear HC2
  by_cases c4:a0_0 < 0
  ·rw [if_pos c4] at H
   have c4b0:decide (a0_0 < 0)=true:=decide_eq_true c4
   clear c4
   (first|rw [c4b0]|(simp only [i64_w,i32_w];rw [c4b0])|skip)
   have H':=Aside0.mk H
   clear H
   obtain ⟨hcz5_0,hcz5_1,hcz5_2,hcz5_3,hcz5_4,hcz5_5,hcz5_6,hcz5_7,hcz5_8,hcz5_9,hcz5_10,hcz5_11,hcz5_12,hcz5_13⟩:=zc14 BK272.out
   obtain ⟨hfz5_0,hfz5_1,hfz5_2,hfz5_3,hfz5_4,hfz5_5,hfz5_6,hfz5_7,hfz5_8,hfz5_9,hfz5_10,hfz5_11,hfz5_12,hfz5_13⟩:=zf14 BK272.out
   go_wp2
   go_meet
   case rel=>exact ⟨_,(true),(by first|(with_reducible rfl)|(simp;done)|(simp [*];done)|rfl|(simp only [not_isEmpty_bne])),H',⟨by first|omega|exact Nat.le_refl _⟩,⟨by (with_reducible repeat (first|apply zb1|apply zb2|apply zb3));exact BK272.out⟩,⟨by repeat (first|(with_reducible first|exact HB.out|apply zl1|apply zl2|apply zl3|refine below_set ?_ GE272.out)|exact HB.out)⟩⟩
  ·rw [if_neg c4] at H
   have c4b0:decide (a0_0 < 0)=false:=decide_eq_false c4
   clear c4
   (first|rw [c4b0]|(simp only [i64_w,i32_w];rw [c4b0])|skip)
   by_cases c6:a0_0 > 65535
   ·rw [if_pos c6] at H
    have c6b0:decide (65535 < a0_0)=true:=decide_eq_true c6
    clear c6
    have H':=Aside0.mk H
    clear H
    obtain ⟨hcz7_0,hcz7_1,hcz7_2,hcz7_3,hcz7_4,hcz7_5,hcz7_6,hcz7_7,hcz7_8,hcz7_9,hcz7_10,hcz7_11,hcz7_12,hcz7_13⟩:=zc14 BK272.out
    obtain ⟨hfz7_0,hfz7_1,hfz7_2,hfz7_3,hfz7_4,hfz7_5,hfz7_6,hfz7_7,hfz7_8,hfz7_9,hfz7_10,hfz7_11,hfz7_12,hfz7_13⟩:=zf14 BK272.out
    go_wp2
    go_meet
    case rel=>exact ⟨_,(true),(by first|(with_reducible rfl)|(simp;done)|(simp [*];done)|rfl|(simp only [not_isEmpty_bne])),H',⟨by first|omega|exact Nat.le_refl _⟩,⟨by (with_reducible repeat (first|apply zb1|apply zb2|apply zb3));exact BK272.out⟩,⟨by repeat (first|(with_reducible first|exact HB.out|apply zl1|apply zl2|apply zl3|refine below_set ?_ GE272.out)|exact HB.out)⟩⟩
   ·rw [if_neg c6] at H
    have c6b0:decide (65535 < a0_0)=false:=decide_eq_false c6
    clear c6
    by_cases c8:a0_1 < 0
    ·rw [if_pos c8] at H
     have c8b0:decide (a0_1 < 0)=true:=decide_eq_true c8
     clear c8
     have H':=Aside0.mk H
     clear H
     obtain ⟨hcz9_0,hcz9_1,hcz9_2,hcz9_3,hcz9_4,hcz9_5,hcz9_6,hcz9_7,hcz9_8,hcz9_9,hcz9_10,hcz9_11,hcz9_12,hcz9_13⟩:=zc14 BK272.out
     obtain ⟨hfz9_0,hfz9_1,hfz9_2,hfz9_3,hfz9_4,hfz9_5,hfz9_6,hfz9_7,hfz9_8,hfz9_9,hfz9_10,hfz9_11,hfz9_12,hfz9_13⟩:=zf14 BK272.out
     go_wp2
     go_meet
     case rel=>exact ⟨_,(true),(by first|(with_reducible rfl)|(simp;done)|(simp [*];done)|rfl|(simp only [not_isEmpty_bne])),H',⟨by first|omega|exact Nat.le_refl _⟩,⟨by (with_reducible repeat (first|apply zb1|apply zb2|apply zb3));exact BK272.out⟩,⟨by repeat (first|(with_reducible first|exact HB.out|apply zl1|apply zl2|apply zl3|refine below_set ?_ GE272.out)|exact HB.out)⟩⟩
    ·rw [if_neg c8] at H
     have c8b0:decide (a0_1 < 0)=false:=decide_eq_false c8
     clear c8
     by_cases c10:a0_1 > 255
     ·rw [if_pos c10] at H
      have c10b0:decide (255 < a0_1)=true:=decide_eq_true c10
      clear c10
      have H':=Aside0.mk H
      clear H
      obtain ⟨hcz11_0,hcz11_1,hcz11_2,hcz11_3,hcz11_4,hcz11_5,hcz11_6,hcz11_7,hcz11_8,hcz11_9,hcz11_10,hcz11_11,hcz11_12,hcz11_13⟩:=zc14 BK272.out
      obtain ⟨hfz11_0,hfz11_1,hfz11_2,hfz11_3,hfz11_4,hfz11_5,hfz11_6,hfz11_7,hfz11_8,hfz11_9,hfz11_10,hfz11_11,hfz11_12,hfz11_13⟩:=zf14 BK272.out
      go_wp2
      go_meet
      case rel=>exact ⟨_,(true),(by first|(with_reducible rfl)|(simp;done)|(simp [*];done)|rfl|(simp only [not_isEmpty_bne])),H',⟨by first|omega|exact Nat.le_refl _⟩,⟨by (with_reducible repeat (first|apply zb1|apply zb2|apply zb3));exact BK272.out⟩,⟨by repeat (first|(with_reducible first|exact HB.out|apply zl1|apply zl2|apply zl3|refine below_set ?_ GE272.out)|exact HB.out)⟩⟩
     ·rw [if_neg c10] at H
      have c10b0:decide (255 < a0_1)=false:=decide_eq_false c10
      clear c10
      replace H:=Option.bind_eq_some_iff.mp H
      obtain ⟨t273,A120,H⟩:=H
      replace H:(if t273=true then (if a0_6 < 0 then (factotumref21_Right.j0 k true a0_0 a0_1 a0_2 a0_3 a0_4 a0_5 a0_6 a0_7 a0_8 a0_9 a0_10 a0_11 l0_12 a0_13) else (if a0_6 > 24 then (factotumref21_Right.j0 k true a0_0 a0_1 a0_2 a0_3 a0_4 a0_5 a0_6 a0_7 a0_8 a0_9 a0_10 a0_11 l0_12 a0_13) else (factotumref21_Right.j0 k a0_13 a0_0 a0_1 a0_2 a0_3 a0_4 a0_5 a0_6 a0_7 a0_8 a0_9 a0_10 a0_11 l0_12 a0_13))) else (factotumref21_Right.j0 k true a0_0 a0_1 a0_2 a0_3 a0_4 a0_5 a0_6 a0_7 a0_8 a0_9 a0_10 a0_11 l0_12 a0_13))=some r:=H
      have A12:=Aside0.mk A120
      clear A120
      by_cases c13:t273=true
      ·subst c13
       have H1:(if a0_6 < 0 then (factotumref21_Right.j0 k true a0_0 a0_1 a0_2 a0_3 a0_4 a0_5 a0_6 a0_7 a0_8 a0_9 a0_10 a0_11 l0_12 a0_13) else (if a0_6 > 24 then (factotumref21_Right.j0 k true a0_0 a0_1 a0_2 a0_3 a0_4 a0_5 a0_6 a0_7 a0_8 a0_9 a0_10 a0_11 l0_12 a0_13) else (factotumref21_Right.j0 k a0_13 a0_0 a0_1 a0_2 a0_3 a0_4 a0_5 a0_6 a0_7 a0_8 a0_9 a0_10 a0_11 l0_12 a0_13)))=some r:=by rw [if_pos rfl] at H;exact H
       clear H
       have H:=H1
       clear H1
       by_cases c14:a0_6 < 0
       ·rw [if_pos c14] at H
        have c14b0:decide (a0_6 < 0)=true:=decide_eq_true c14
        clear c14
        have H':=Aside0.mk H
        clear H
        obtain ⟨hcz15_0,hcz15_1,hcz15_2,hcz15_3,hcz15_4,hcz15_5,hcz15_6,hcz15_7,hcz15_8,hcz15_9,hcz15_10,hcz15_11,hcz15_12,hcz15_13⟩:=zc14 BK272.out
        obtain ⟨hfz15_0,hfz15_1,hfz15_2,hfz15_3,hfz15_4,hfz15_5,hfz15_6,hfz15_7,hfz15_8,hfz15_9,hfz15_10,hfz15_11,hfz15_12,hfz15_13⟩:=zf14 BK272.out
        go_wp2_with (first|(go_at_call 14;(with_reducible refine (factotumref16_Is.calls a0_2 a0_3 a0_4 true _ A12.out).mono ?_);rintro e w16 ⟨rfl,hb⟩;replace BK272:=Aside0.mk (blk_below (g:=gb272) (o:=.cells #[.int .i64 a0_0,.int .i64 a0_1,.int .i64 a0_2,.int .i64 a0_3,.string a0_4,.int .i64 a0_5,.int .i64 a0_6,.int .i64 a0_7,.int .i64 a0_8,.int .i64 a0_9,.string a0_10,.int .i64 a0_11,.slice A0_12 l0_12.length c0_12,.bool a0_13] 30 (0,0)) (by (with_reducible repeat (first|apply zb1|apply zb2|apply zb3));exact BK272.out) hb);replace HB:=Aside0.mk (below_step (by repeat (first|(with_reducible first|exact HB.out|apply zl1|apply zl2|apply zl3|refine below_set ?_ GE272.out)|exact HB.out)) hb);(try clear hb);obtain ⟨hcz17_0,hcz17_1,hcz17_2,hcz17_3,hcz17_4,hcz17_5,hcz17_6,hcz17_7,hcz17_8,hcz17_9,hcz17_10,hcz17_11,hcz17_12,hcz17_13⟩:=zc14 BK272.out;obtain ⟨hfz17_0,hfz17_1,hfz17_2,hfz17_3,hfz17_4,hfz17_5,hfz17_6,hfz17_7,hfz17_8,hfz17_9,hfz17_10,hfz17_11,hfz17_12,hfz17_13⟩:=zf14 BK272.out))
        go_meet
        case rel=>exact ⟨_,(true),(by first|(with_reducible rfl)|(simp;done)|(simp [*];done)|rfl|(simp only [not_isEmpty_bne])),H',⟨by first|omega|exact Nat.le_refl _⟩,⟨by (with_reducible repeat (first|apply zb1|apply zb2|apply zb3));exact BK272.out⟩,⟨by repeat (first|(with_reducible first|exact HB.out|apply zl1|apply zl2|apply zl3|refine below_set ?_ GE272.out)|exact HB.out)⟩⟩
       ·rw [if_neg c14] at H
        have c14b0:decide (a0_6 < 0)=false:=decide_eq_false c14
        clear c14
        by_cases c18:a0_6 > 24
        ·rw [if_pos c18] at H
         have c18b0:decide (24 < a0_6)=true:=decide_eq_true c18
         clear c18
         have H':=Aside0.mk H
         clear H
         obtain ⟨hcz19_0,hcz19_1,hcz19_2,hcz19_3,hcz19_4,hcz19_5,hcz19_6,hcz19_7,hcz19_8,hcz19_9,hcz19_10,hcz19_11,hcz19_12,hcz19_13⟩:=zc14 BK272.out
         obtain ⟨hfz19_0,hfz19_1,hfz19_2,hfz19_3,hfz19_4,hfz19_5,hfz19_6,hfz19_7,hfz19_8,hfz19_9,hfz19_10,hfz19_11,hfz19_12,hfz19_13⟩:=zf14 BK272.out
         go_wp2_with (first|(go_at_call 14;(with_reducible refine (factotumref16_Is.calls a0_2 a0_3 a0_4 true _ A12.out).mono ?_);rintro e w20 ⟨rfl,hb⟩;replace BK272:=Aside0.mk (blk_below (g:=gb272) (o:=.cells #[.int .i64 a0_0,.int .i64 a0_1,.int .i64 a0_2,.int .i64 a0_3,.string a0_4,.int .i64 a0_5,.int .i64 a0_6,.int .i64 a0_7,.int .i64 a0_8,.int .i64 a0_9,.string a0_10,.int .i64 a0_11,.slice A0_12 l0_12.length c0_12,.bool a0_13] 30 (0,0)) (by (with_reducible repeat (first|apply zb1|apply zb2|apply zb3));exact BK272.out) hb);replace HB:=Aside0.mk (below_step (by repeat (first|(with_reducible first|exact HB.out|apply zl1|apply zl2|apply zl3|refine below_set ?_ GE272.out)|exact HB.out)) hb);(try clear hb);obtain ⟨hcz21_0,hcz21_1,hcz21_2,hcz21_3,hcz21_4,hcz21_5,hcz21_6,hcz21_7,hcz21_8,hcz21_9,hcz21_10,hcz21_11,hcz21_12,hcz21_13⟩:=zc14 BK272.out;obtain ⟨hfz21_0,hfz21_1,hfz21_2,hfz21_3,hfz21_4,hfz21_5,hfz21_6,hfz21_7,hfz21_8,hfz21_9,hfz21_10,hfz21_11,hfz21_12,hfz21_13⟩:=zf14 BK272.out))
         go_meet
         case rel=>exact ⟨_,(true),(by first|(with_reducible rfl)|(simp;done)|(simp [*];done)|rfl|(simp only [not_isEmpty_bne])),H',⟨by first|omega|exact Nat.le_refl _⟩,⟨by (with_reducible repeat (first|apply zb1|apply zb2|apply zb3));exact BK272.out⟩,⟨by repeat (first|(with_reducible first|exact HB.out|apply zl1|apply zl2|apply zl3|refine below_set ?_ GE272.out)|exact HB.out)⟩⟩
        ·rw [if_neg c18] at H
         have c18b0:decide (24 < a0_6)=false:=decide_eq_false c18
         clear c18
         have H':=Aside0.mk H
         clear H
         obtain ⟨hcz22_0,hcz22_1,hcz22_2,hcz22_3,hcz22_4,hcz22_5,hcz22_6,hcz22_7,hcz22_8,hcz22_9,hcz22_10,hcz22_11,hcz22_12,hcz22_13⟩:=zc14 BK272.out
         obtain ⟨hfz22_0,hfz22_1,hfz22_2,hfz22_3,hfz22_4,hfz22_5,hfz22_6,hfz22_7,hfz22_8,hfz22_9,hfz22_10,hfz22_11,hfz22_12,hfz22_13⟩:=zf14 BK272.out
         go_wp2_with (first|(go_at_call 14;(with_reducible refine (factotumref16_Is.calls a0_2 a0_3 a0_4 true _ A12.out).mono ?_);rintro e w23 ⟨rfl,hb⟩;replace BK272:=Aside0.mk (blk_below (g:=gb272) (o:=.cells #[.int .i64 a0_0,.int .i64 a0_1,.int .i64 a0_2,.int .i64 a0_3,.string a0_4,.int .i64 a0_5,.int .i64 a0_6,.int .i64 a0_7,.int .i64 a0_8,.int .i64 a0_9,.string a0_10,.int .i64 a0_11,.slice A0_12 l0_12.length c0_12,.bool a0_13] 30 (0,0)) (by (with_reducible repeat (first|apply zb1|apply zb2|apply zb3));exact BK272.out) hb);replace HB:=Aside0.mk (below_step (by repeat (first|(with_reducible first|exact HB.out|apply zl1|apply zl2|apply zl3|refine below_set ?_ GE272.out)|exact HB.out)) hb);(try clear hb);obtain ⟨hcz24_0,hcz24_1,hcz24_2,hcz24_3,hcz24_4,hcz24_5,hcz24_6,hcz24_7,hcz24_8,hcz24_9,hcz24_10,hcz24_11,hcz24_12,hcz24_13⟩:=zc14 BK272.out;obtain ⟨hfz24_0,hfz24_1,hfz24_2,hfz24_3,hfz24_4,hfz24_5,hfz24_6,hfz24_7,hfz24_8,hfz24_9,hfz24_10,hfz24_11,hfz24_12,hfz24_13⟩:=zf14 BK272.out))
         go_meet
         case rel=>exact ⟨_,(a0_13),(by first|(with_reducible rfl)|(simp;done)|(simp [*];done)|rfl|(simp only [not_isEmpty_bne])),H',⟨by first|omega|exact Nat.le_refl _⟩,⟨by (with_reducible repeat (first|apply zb1|apply zb2|apply zb3));exact BK272.out⟩,⟨by repeat (first|(with_reducible first|exact HB.out|apply zl1|apply zl2|apply zl3|refine below_set ?_ GE272.out)|exact HB.out)⟩⟩
      ·replace c13:=Bool.eq_false_iff.mpr c13
       subst c13
       have H1:(factotumref21_Right.j0 k true a0_0 a0_1 a0_2 a0_3 a0_4 a0_5 a0_6 a0_7 a0_8 a0_9 a0_10 a0_11 l0_12 a0_13)=some r:=by rw [if_neg (show ¬ (false=true) by decide)] at H;exact H
       clear H
       have H:=H1
       clear H1
       have H':=Aside0.mk H
       clear H
       obtain ⟨hcz25_0,hcz25_1,hcz25_2,hcz25_3,hcz25_4,hcz25_5,hcz25_6,hcz25_7,hcz25_8,hcz25_9,hcz25_10,hcz25_11,hcz25_12,hcz25_13⟩:=zc14 BK272.out
       obtain ⟨hfz25_0,hfz25_1,hfz25_2,hfz25_3,hfz25_4,hfz25_5,hfz25_6,hfz25_7,hfz25_8,hfz25_9,hfz25_10,hfz25_11,hfz25_12,hfz25_13⟩:=zf14 BK272.out
       go_wp2_with (first|(go_at_call 14;(with_reducible refine (factotumref16_Is.calls a0_2 a0_3 a0_4 false _ A12.out).mono ?_);rintro e w26 ⟨rfl,hb⟩;replace BK272:=Aside0.mk (blk_below (g:=gb272) (o:=.cells #[.int .i64 a0_0,.int .i64 a0_1,.int .i64 a0_2,.int .i64 a0_3,.string a0_4,.int .i64 a0_5,.int .i64 a0_6,.int .i64 a0_7,.int .i64 a0_8,.int .i64 a0_9,.string a0_10,.int .i64 a0_11,.slice A0_12 l0_12.length c0_12,.bool a0_13] 30 (0,0)) (by (with_reducible repeat (first|apply zb1|apply zb2|apply zb3));exact BK272.out) hb);replace HB:=Aside0.mk (below_step (by repeat (first|(with_reducible first|exact HB.out|apply zl1|apply zl2|apply zl3|refine below_set ?_ GE272.out)|exact HB.out)) hb);(try clear hb)))
       go_meet
       case rel=>exact ⟨_,(true),(by first|(with_reducible rfl)|(simp;done)|(simp [*];done)|rfl|(simp only [not_isEmpty_bne])),H',⟨by first|omega|exact Nat.le_refl _⟩,⟨by (with_reducible repeat (first|apply zb1|apply zb2|apply zb3));exact BK272.out⟩,⟨by repeat (first|(with_reducible first|exact HB.out|apply zl1|apply zl2|apply zl3|refine below_set ?_ GE272.out)|exact HB.out)⟩⟩
 case rest =>
  clear HC2
  try clear hcz11_0 hcz11_1 hcz11_10 hcz11_11 hcz11_12 hcz11_13 hcz11_2 hcz11_3 hcz11_4 hcz11_5 hcz11_6 hcz11_7 hcz11_8 hcz11_9 hcz15_0
  try clear c1
  try clear p2
  try clear c4
  try clear c4b0
  try clear c6
  try clear c6b0
  try clear c8
  try clear c8b0
  try clear c10
  try clear c10b0
  try clear c13
  try clear c14
  try clear c14b0
  try clear c18
  try clear c18b0
  try clear hcz15_1 hcz15_10 hcz15_11 hcz15_12 hcz15_13 hcz15_2 hcz15_3 hcz15_4 hcz15_5 hcz15_6 hcz15_7 hcz15_8 hcz15_9 hcz17_0 hcz17_1 hcz17_10 hcz17_11 hcz17_12 hcz17_13 hcz17_2 hcz17_3 hcz17_4 hcz17_5 hcz17_6 hcz17_7 hcz17_8 hcz17_9 hcz19_0 hcz19_1 hcz19_10
  try clear hcz19_11 hcz19_12 hcz19_13 hcz19_2 hcz19_3 hcz19_4 hcz19_5 hcz19_6 hcz19_7 hcz19_8 hcz19_9 hcz21_0 hcz21_1 hcz21_10 hcz21_11 hcz21_12 hcz21_13 hcz21_2 hcz21_3 hcz21_4 hcz21_5 hcz21_6 hcz21_7 hcz21_8 hcz21_9 hcz22_0 hcz22_1 hcz22_10 hcz22_11 hcz22_12
  try clear hcz22_13 hcz22_2 hcz22_3 hcz22_4 hcz22_5 hcz22_6 hcz22_7 hcz22_8 hcz22_9 hcz24_0 hcz24_1 hcz24_10 hcz24_11 hcz24_12 hcz24_13 hcz24_2 hcz24_3 hcz24_4 hcz24_5 hcz24_6 hcz24_7 hcz24_8 hcz24_9 hcz25_0 hcz25_1 hcz25_10 hcz25_11 hcz25_12 hcz25_13 hcz25_2
  try clear hcz25_3 hcz25_4 hcz25_5 hcz25_6 hcz25_7 hcz25_8 hcz25_9 hcz5_0 hcz5_1 hcz5_10 hcz5_11 hcz5_12 hcz5_13 hcz5_2 hcz5_3 hcz5_4 hcz5_5 hcz5_6 hcz5_7 hcz5_8 hcz5_9 hcz7_0 hcz7_1 hcz7_10 hcz7_11 hcz7_12 hcz7_13 hcz7_2 hcz7_3 hcz7_4
  try clear hfz11_0 hfz11_1 hfz11_10 hfz11_11 hfz11_12 hfz11_13 hfz11_2 hfz11_3 hfz11_4 hfz11_5 hfz11_6
  try clear hcz7_5 hcz7_6 hcz7_7 hcz7_8 hcz7_9 hcz9_0 hcz9_1 hcz9_10 hcz9_11 hcz9_12 hcz9_13 hcz9_2 hcz9_3 hcz9_4 hcz9_5 hcz9_6 hcz9_7 hcz9_8 hcz9_9
  try clear hfz11_7 hfz11_8 hfz11_9 hfz15_0 hfz15_1 hfz15_10 hfz15_11 hfz15_12 hfz15_13 hfz15_2 hfz15_3 hfz15_4 hfz15_5 hfz15_6 hfz15_7 hfz15_8 hfz15_9 hfz17_0 hfz17_1 hfz17_10 hfz17_11 hfz17_12 hfz17_13 hfz17_2 hfz17_3 hfz17_4 hfz17_5 hfz17_6 hfz17_7 hfz17_8
  try clear hfz17_9 hfz19_0 hfz19_1 hfz19_10 hfz19_11 hfz19_12 hfz19_13 hfz19_2 hfz19_3 hfz19_4 hfz19_5 hfz19_6 hfz19_7 hfz19_8 hfz19_9 hfz21_0 hfz21_1 hfz21_10 hfz21_11 hfz21_12 hfz21_13 hfz21_2 hfz21_3 hfz21_4 hfz21_5 hfz21_6 hfz21_7 hfz21_8 hfz21_9 hfz22_0
  try clear hfz22_1 hfz22_10 hfz22_11 hfz22_12 hfz22_13 hfz22_2 hfz22_3 hfz22_4 hfz22_5 hfz22_6 hfz22_7 hfz22_8 hfz22_9 hfz24_0 hfz24_1 hfz24_10 hfz24_11 hfz24_12 hfz24_13 hfz24_2 hfz24_3 hfz24_4 hfz24_5 hfz24_6 hfz24_7 hfz24_8 hfz24_9 hfz25_0 hfz25_1 hfz25_10
  try clear hfz25_11 hfz25_12 hfz25_13 hfz25_2 hfz25_3 hfz25_4 hfz25_5 hfz25_6 hfz25_7 hfz25_8 hfz25_9 hfz5_0 hfz5_1 hfz5_10 hfz5_11 hfz5_12 hfz5_13 hfz5_2 hfz5_3 hfz5_4 hfz5_5 hfz5_6 hfz5_7 hfz5_8 hfz5_9 hfz7_0 hfz7_1 hfz7_10 hfz7_11 hfz7_12
  try clear hfz7_13 hfz7_2 hfz7_3 hfz7_4 hfz7_5 hfz7_6 hfz7_7 hfz7_8 hfz7_9 hfz9_0 hfz9_1 hfz9_10 hfz9_11 hfz9_12 hfz9_13 hfz9_2 hfz9_3 hfz9_4 hfz9_5 hfz9_6 hfz9_7 hfz9_8 hfz9_9
  obtain ⟨kq,x42_1,rfl,HA,HJ1,BK272,HB⟩:=hcut
  cases kq with
  | zero=>exact absurd HA.out (by simp [factotumref21_Right.j0])
  | succ kj1 =>
   have H:=HA.out
   clear HA
   simp only [factotumref21_Right.j0] at H
   by_cases c27:x42_1=true
   ·subst c27
    have H1:(some false)=some r:=by rw [if_pos rfl] at H;exact H
    clear H
    have H:=H1
    clear H1
    obtain rfl:=Option.some.inj H
    go_wp2
    go_ret
    exact ⟨by first|(with_reducible rfl)|(simp only [isEmpty_bne,Bool.not_not] <;> rfl)|rfl|(simp [*,errW_none,errW_some] <;> rfl),by repeat (first|(with_reducible first|exact HB.out|apply zl1|apply zl2|apply zl3|refine below_set ?_ GE272.out)|exact HB.out)⟩
   ·replace c27:=Bool.eq_false_iff.mpr c27
    subst c27
    have H1:(if a0_11=0 then (factotumref21_Right.j1 kj1 (a0_8 == 0 && (a0_9 == 0 && (a0_10.toList == ([]:List UInt8)))) ((l0_12.length:Int) == 0) a0_0 a0_1 a0_2 a0_3 a0_4 a0_5 a0_6 a0_7 a0_8 a0_9 a0_10 a0_11 l0_12 a0_13) else (factotumref21_Right.j1 kj1 (a0_8 == 0 && (a0_9 == 0 && (a0_10.toList == ([]:List UInt8)))) false a0_0 a0_1 a0_2 a0_3 a0_4 a0_5 a0_6 a0_7 a0_8 a0_9 a0_10 a0_11 l0_12 a0_13))=some r:=by rw [if_neg (show ¬ (false=true) by decide)] at H;exact H
    clear H
    have H:=H1
    clear H1
    have HC28:=Aside0.mk H
    clear H
    obtain ⟨hcz29_0,hcz29_1,hcz29_2,hcz29_3,hcz29_4,hcz29_5,hcz29_6,hcz29_7,hcz29_8,hcz29_9,hcz29_10,hcz29_11,hcz29_12,hcz29_13⟩:=zc14 BK272.out
    obtain ⟨hfz29_0,hfz29_1,hfz29_2,hfz29_3,hfz29_4,hfz29_5,hfz29_6,hfz29_7,hfz29_8,hfz29_9,hfz29_10,hfz29_11,hfz29_12,hfz29_13⟩:=zf14 BK272.out
    go_upto_region 4 with (fail)
    go_cut [4] (fun v4 wc=>∃ (kq:Nat) (x4_27:Bool),v4=.bool x4_27∧Aside0 (factotumref21_Right.j1 kq (a0_8 == 0 && (a0_9 == 0 && (a0_10.toList == ([]:List UInt8)))) x4_27 a0_0 a0_1 a0_2 a0_3 a0_4 a0_5 a0_6 a0_7 a0_8 a0_9 a0_10 a0_11 l0_12 a0_13=some r)∧Aside0 (kq≤kj1)∧Aside0 (wc.heap[gb272]?=some (.cells #[.int .i64 a0_0,.int .i64 a0_1,.int .i64 a0_2,.int .i64 a0_3,.string a0_4,.int .i64 a0_5,.int .i64 a0_6,.int .i64 a0_7,.int .i64 a0_8,.int .i64 a0_9,.string a0_10,.int .i64 a0_11,(.slice A0_12 l0_12.length c0_12),.bool a0_13] 30 (0,0)))∧Aside0 (Below w.heap.size w wc))
    case first =>
     have H:=HC28.out
     clear HC28
     by_cases c30:a0_11=0
     ·rw [if_pos c30] at H
      have c30b0:(a0_11 == 0)=true:=beq_iff_eq.mpr c30
      have c30b1:(a0_11 != 0)=false:=bne_eq_false_iff_eq.mpr c30
      clear c30
      (first|rw [c30b0]|(simp only [i64_w,i32_w];rw [c30b0])|skip)
      have H':=Aside0.mk H
      clear H
      obtain ⟨hcz31_0,hcz31_1,hcz31_2,hcz31_3,hcz31_4,hcz31_5,hcz31_6,hcz31_7,hcz31_8,hcz31_9,hcz31_10,hcz31_11,hcz31_12,hcz31_13⟩:=zc14 BK272.out
      obtain ⟨hfz31_0,hfz31_1,hfz31_2,hfz31_3,hfz31_4,hfz31_5,hfz31_6,hfz31_7,hfz31_8,hfz31_9,hfz31_10,hfz31_11,hfz31_12,hfz31_13⟩:=zf14 BK272.out
      go_wp2
      go_meet
      case rel=>exact ⟨_,(((l0_12.length:Int) == 0)),(by first|(with_reducible rfl)|(simp;done)|(simp [*];done)|rfl|(simp only [not_isEmpty_bne])),H',⟨by have:=HJ1.out;first|omega|exact Nat.le_refl _⟩,⟨by (with_reducible repeat (first|apply zb1|apply zb2|apply zb3));exact BK272.out⟩,⟨by repeat (first|(with_reducible first|exact HB.out|apply zl1|apply zl2|apply zl3|refine below_set ?_ GE272.out)|exact HB.out)⟩⟩
     ·rw [if_neg c30] at H
      have c30b0:(a0_11 == 0)=false:=beq_eq_false_iff_ne.mpr c30
      have c30b1:(a0_11 != 0)=true:=bne_iff_ne.mpr c30
      (first|rw [c30b0]|(simp only [i64_w,i32_w];rw [c30b0])|skip)
      have H':=Aside0.mk H
      clear H
      obtain ⟨hcz32_0,hcz32_1,hcz32_2,hcz32_3,hcz32_4,hcz32_5,hcz32_6,hcz32_7,hcz32_8,hcz32_9,hcz32_10,hcz32_11,hcz32_12,hcz32_13⟩:=zc14 BK272.out
      obtain ⟨hfz32_0,hfz32_1,hfz32_2,hfz32_3,hfz32_4,hfz32_5,hfz32_6,hfz32_7,hfz32_8,hfz32_9,hfz32_10,hfz32_11,hfz32_12,hfz32_13⟩:=zf14 BK272.out
      go_wp2
      go_meet
      case rel=>exact ⟨_,(false),(by first|(with_reducible rfl)|(simp;done)|(simp [*];done)|rfl|(simp only [not_isEmpty_bne])),H',⟨by have:=HJ1.out;first|omega|exact Nat.le_refl _⟩,⟨by (with_reducible repeat (first|apply zb1|apply zb2|apply zb3));exact BK272.out⟩,⟨by repeat (first|(with_reducible first|exact HB.out|apply zl1|apply zl2|apply zl3|refine below_set ?_ GE272.out)|exact HB.out)⟩⟩
    case rest =>
     clear HC28
     try clear hcz11_0 hcz11_1 hcz11_10 hcz11_11 hcz11_12 hcz11_13 hcz11_2 hcz11_3 hcz11_4
     try clear c1
     try clear c2
     try clear p2
     try clear c3
     try clear c4
     try clear c4b0
     try clear c6
     try clear c6b0
     try clear c8
     try clear c8b0
     try clear c10
     try clear c10b0
     try clear c13
     try clear c14
     try clear c14b0
     try clear c18
     try clear c18b0
     try clear c27
     try clear c30
     try clear c30b0
     try clear c30b1
     try clear hcz11_5 hcz11_6 hcz11_7 hcz11_8 hcz11_9 hcz15_0 hcz15_1 hcz15_10 hcz15_11 hcz15_12 hcz15_13 hcz15_2 hcz15_3 hcz15_4 hcz15_5 hcz15_6 hcz15_7 hcz15_8 hcz15_9 hcz17_0 hcz17_1 hcz17_10 hcz17_11 hcz17_12 hcz17_13 hcz17_2 hcz17_3 hcz17_4 hcz17_5 hcz17_6
     try clear hcz17_7 hcz17_8 hcz17_9 hcz19_0 hcz19_1 hcz19_10 hcz19_11 hcz19_12 hcz19_13 hcz19_2 hcz19_3 hcz19_4 hcz19_5 hcz19_6 hcz19_7 hcz19_8 hcz19_9 hcz21_0 hcz21_1 hcz21_10 hcz21_11 hcz21_12 hcz21_13 hcz21_2 hcz21_3 hcz21_4 hcz21_5 hcz21_6 hcz21_7 hcz21_8
     try clear hcz21_9 hcz22_0 hcz22_1 hcz22_10 hcz22_11 hcz22_12 hcz22_13 hcz22_2 hcz22_3 hcz22_4 hcz22_5 hcz22_6 hcz22_7 hcz22_8 hcz22_9 hcz24_0 hcz24_1 hcz24_10 hcz24_11 hcz24_12 hcz24_13 hcz24_2 hcz24_3 hcz24_4 hcz24_5 hcz24_6 hcz24_7 hcz24_8 hcz24_9 hcz25_0
     try clear hcz25_1 hcz25_10 hcz25_11 hcz25_12 hcz25_13 hcz25_2 hcz25_3 hcz25_4 hcz25_5 hcz25_6 hcz25_7 hcz25_8 hcz25_9 hcz29_0 hcz29_1 hcz29_10 hcz29_11 hcz29_12 hcz29_13 hcz29_2 hcz29_3 hcz29_4 hcz29_5 hcz29_6 hcz29_7 hcz29_8 hcz29_9 hcz31_0 hcz31_1 hcz31_10
     try clear hcz31_11 hcz31_12 hcz31_13 hcz31_2 hcz31_3 hcz31_4 hcz31_5 hcz31_6 hcz31_7 hcz31_8 hcz31_9 hcz32_0 hcz32_1 hcz32_10 hcz32_11 hcz32_12 hcz32_13 hcz32_2 hcz32_3 hcz32_4 hcz32_5 hcz32_6 hcz32_7 hcz32_8 hcz32_9 hcz5_0 hcz5_1 hcz5_10 hcz5_11 hcz5_12
     try clear hcz5_13 hcz5_2 hcz5_3 hcz5_4 hcz5_5 hcz5_6 hcz5_7 hcz5_8 hcz5_9 hcz7_0 hcz7_1 hcz7_10 hcz7_11 hcz7_12 hcz7_13 hcz7_2 hcz7_3 hcz7_4 hcz7_5 hcz7_6 hcz7_7 hcz7_8 hcz7_9 hcz9_0 hcz9_1 hcz9_10 hcz9_11 hcz9_12 hcz9_13 hcz9_2
     try clear hfz11_0 hfz11_1 hfz11_10 hfz11_11 hfz11_12 hfz11_13 hfz11_2 hfz11_3 hfz11_4 hfz11_5 hfz11_6 hfz11_7 hfz11_8 hfz11_9 hfz15_0 hfz15_1 hfz15_10 hfz15_11 hfz15_12 hfz15_13 hfz15_2 hfz15_3 hfz15_4
     try clear hcz9_3 hcz9_4 hcz9_5 hcz9_6 hcz9_7 hcz9_8 hcz9_9
     try clear hfz15_5 hfz15_6 hfz15_7 hfz15_8 hfz15_9 hfz17_0 hfz17_1 hfz17_10 hfz17_11 hfz17_12 hfz17_13 hfz17_2 hfz17_3 hfz17_4 hfz17_5 hfz17_6 hfz17_7 hfz17_8 hfz17_9 hfz19_0 hfz19_1 hfz19_10 hfz19_11 hfz19_12 hfz19_13 hfz19_2 hfz19_3 hfz19_4 hfz19_5 hfz19_6
     try clear hfz19_7 hfz19_8 hfz19_9 hfz21_0 hfz21_1 hfz21_10 hfz21_11 hfz21_12 hfz21_13 hfz21_2 hfz21_3 hfz21_4 hfz21_5 hfz21_6 hfz21_7 hfz21_8 hfz21_9 hfz22_0 hfz22_1 hfz22_10 hfz22_11 hfz22_12 hfz22_13 hfz22_2 hfz22_3 hfz22_4 hfz22_5 hfz22_6 hfz22_7 hfz22_8
     try clear hfz22_9 hfz24_0 hfz24_1 hfz24_10 hfz24_11 hfz24_12 hfz24_13 hfz24_2 hfz24_3 hfz24_4 hfz24_5 hfz24_6 hfz24_7 hfz24_8 hfz24_9 hfz25_0 hfz25_1 hfz25_10 hfz25_11 hfz25_12 hfz25_13 hfz25_2 hfz25_3 hfz25_4 hfz25_5 hfz25_6 hfz25_7 hfz25_8 hfz25_9 hfz29_0
     try clear hfz29_1 hfz29_10 hfz29_11 hfz29_12 hfz29_13 hfz29_2 hfz29_3 hfz29_4 hfz29_5 hfz29_6 hfz29_7 hfz29_8 hfz29_9 hfz31_0 hfz31_1 hfz31_10 hfz31_11 hfz31_12 hfz31_13 hfz31_2 hfz31_3 hfz31_4 hfz31_5 hfz31_6 hfz31_7 hfz31_8 hfz31_9 hfz32_0 hfz32_1 hfz32_10
     try clear hfz32_11 hfz32_12 hfz32_13 hfz32_2 hfz32_3 hfz32_4 hfz32_5 hfz32_6 hfz32_7 hfz32_8 hfz32_9 hfz5_0 hfz5_1 hfz5_10 hfz5_11 hfz5_12 hfz5_13 hfz5_2 hfz5_3 hfz5_4 hfz5_5 hfz5_6 hfz5_7 hfz5_8 hfz5_9 hfz7_0 hfz7_1 hfz7_10 hfz7_11 hfz7_12
     try clear hfz7_13 hfz7_2 hfz7_3 hfz7_4 hfz7_5 hfz7_6 hfz7_7 hfz7_8 hfz7_9 hfz9_0 hfz9_1 hfz9_10 hfz9_11 hfz9_12 hfz9_13 hfz9_2 hfz9_3 hfz9_4 hfz9_5 hfz9_6 hfz9_7 hfz9_8 hfz9_9
     try clear p2
     obtain ⟨kq,x4_27,rfl,HA,HJ27,BK272,HB⟩:=hcut
     cases kq with
     | zero=>exact absurd HA.out (by simp [factotumref21_Right.j1])
     | succ kj27 =>
      have H:=HA.out
      clear HA
      simp only [factotumref21_Right.j1] at H
      by_cases c33:a0_5=1
      ·rw [if_pos c33] at H
       have c33b0:(a0_5 == 1)=true:=beq_iff_eq.mpr c33
       have c33b1:(a0_5 != 1)=false:=bne_eq_false_iff_eq.mpr c33
       clear c33
       by_cases c34:a0_7=0
       ·rw [if_pos c34] at H
        have c34b0:(a0_7 == 0)=true:=beq_iff_eq.mpr c34
        have c34b1:(a0_7 != 0)=false:=bne_eq_false_iff_eq.mpr c34
        clear c34
        by_cases c35:(a0_8 == 0 && (a0_9 == 0 && (a0_10.toList == ([]:List UInt8))))=true
        ·rw [if_pos c35] at H
         have c35b0:(a0_8 == 0 && (a0_9 == 0 && (a0_10.toList == ([]:List UInt8))))=true:=c35
         (try (have c35b7:(a0_8 == 0 && (a0_9 == 0 && (a0_10.toList.isEmpty)))=true:=by simp only [isEmpty_beq];exact c35b0))
         (try (have c35b1:decide (a0_8=0 && (a0_9 == 0 && (a0_10.toList == ([]:List UInt8))))=true:=by simpa using c35))
         (try (have c35b2:(a0_8 == 0 && (a0_9 == 0 && (a0_10.toList == ([]:List UInt8))))=true:=by simpa using c35))
         clear c35
         replace H:=Option.bind_eq_some_iff.mp H
         obtain ⟨t274,A360,H⟩:=H
         replace H:(some t274)=some r:=H
         have A36:=Aside0.mk A360
         clear A360
         obtain rfl:=Option.some.inj H
         obtain ⟨hcz37_0,hcz37_1,hcz37_2,hcz37_3,hcz37_4,hcz37_5,hcz37_6,hcz37_7,hcz37_8,hcz37_9,hcz37_10,hcz37_11,hcz37_12,hcz37_13⟩:=zc14 BK272.out
         obtain ⟨hfz37_0,hfz37_1,hfz37_2,hfz37_3,hfz37_4,hfz37_5,hfz37_6,hfz37_7,hfz37_8,hfz37_9,hfz37_10,hfz37_11,hfz37_12,hfz37_13⟩:=zf14 BK272.out
         go_wp2_with (first|(go_at_call 38;(with_reducible refine (factotumref21_frame.calls kj27 a0_11 _ _ l0_12 t274 _ ?side1 ?side2 A36.out).mono ?_);(case side1=>repeat (first|exact (Kd.C_below HR0_12.out HB.out)|(with_reducible refine Kd.C_alloc ?_ _)|(with_reducible refine Kd.C_drewN ?_ _)|(with_reducible refine Kd.C_drew ?_)));(case side2=>exact HC0_12.out);rintro e w38 ⟨rfl,hb⟩;replace BK272:=Aside0.mk (blk_below (g:=gb272) (o:=.cells #[.int .i64 a0_0,.int .i64 a0_1,.int .i64 a0_2,.int .i64 a0_3,.string a0_4,.int .i64 a0_5,.int .i64 a0_6,.int .i64 a0_7,.int .i64 a0_8,.int .i64 a0_9,.string a0_10,.int .i64 a0_11,.slice A0_12 l0_12.length c0_12,.bool a0_13] 30 (0,0)) (by (with_reducible repeat (first|apply zb1|apply zb2|apply zb3));exact BK272.out) hb);replace HB:=Aside0.mk (below_step (by repeat (first|(with_reducible first|exact HB.out|apply zl1|apply zl2|apply zl3|refine below_set ?_ GE272.out)|exact HB.out)) hb);(try clear hb)))
         go_ret
         exact ⟨by first|(with_reducible rfl)|(simp only [isEmpty_bne,Bool.not_not] <;> rfl)|rfl|(simp [*,errW_none,errW_some] <;> rfl),by repeat (first|(with_reducible first|exact HB.out|apply zl1|apply zl2|apply zl3|refine below_set ?_ GE272.out)|exact HB.out)⟩
        ·rw [if_neg c35] at H
         have c35b0:(a0_8 == 0 && (a0_9 == 0 && (a0_10.toList == ([]:List UInt8))))=false:=by simpa using c35
         (try (have c35b7:(a0_8 == 0 && (a0_9 == 0 && (a0_10.toList.isEmpty)))=false:=by simp only [isEmpty_beq];exact c35b0))
         (try (have c35b1:decide (a0_8=0 && (a0_9 == 0 && (a0_10.toList == ([]:List UInt8))))=false:=by simpa using c35))
         (try (have c35b2:(a0_8 == 0 && (a0_9 == 0 && (a0_10.toList == ([]:List UInt8))))=false:=by simpa using c35))
         (try (have c35b3:¬ (a0_8=0 && (a0_9 == 0 && (a0_10.toList == ([]:List UInt8)))):=by simpa using c35))
         clear c35
         obtain rfl:=Option.some.inj H
         obtain ⟨hcz39_0,hcz39_1,hcz39_2,hcz39_3,hcz39_4,hcz39_5,hcz39_6,hcz39_7,hcz39_8,hcz39_9,hcz39_10,hcz39_11,hcz39_12,hcz39_13⟩:=zc14 BK272.out
         obtain ⟨hfz39_0,hfz39_1,hfz39_2,hfz39_3,hfz39_4,hfz39_5,hfz39_6,hfz39_7,hfz39_8,hfz39_9,hfz39_10,hfz39_11,hfz39_12,hfz39_13⟩:=zf14 BK272.out
         go_wp2
         go_ret
         exact ⟨by first|(with_reducible rfl)|(simp only [isEmpty_bne,Bool.not_not] <;> rfl)|rfl|(simp [*,errW_none,errW_some] <;> rfl),by repeat (first|(with_reducible first|exact HB.out|apply zl1|apply zl2|apply zl3|refine below_set ?_ GE272.out)|exact HB.out)⟩
       ·rw [if_neg c34] at H
        have c34b0:(a0_7 == 0)=false:=beq_eq_false_iff_ne.mpr c34
        have c34b1:(a0_7 != 0)=true:=bne_iff_ne.mpr c34
        obtain rfl:=Option.some.inj H
        obtain ⟨hcz40_0,hcz40_1,hcz40_2,hcz40_3,hcz40_4,hcz40_5,hcz40_6,hcz40_7,hcz40_8,hcz40_9,hcz40_10,hcz40_11,hcz40_12,hcz40_13⟩:=zc14 BK272.out
        obtain ⟨hfz40_0,hfz40_1,hfz40_2,hfz40_3,hfz40_4,hfz40_5,hfz40_6,hfz40_7,hfz40_8,hfz40_9,hfz40_10,hfz40_11,hfz40_12,hfz40_13⟩:=zf14 BK272.out
        go_wp2
        go_ret
        exact ⟨by first|(with_reducible rfl)|(simp only [isEmpty_bne,Bool.not_not] <;> rfl)|rfl|(simp [*,errW_none,errW_some] <;> rfl),by repeat (first|(with_reducible first|exact HB.out|apply zl1|apply zl2|apply zl3|refine below_set ?_ GE272.out)|exact HB.out)⟩
      ·rw [if_neg c33] at H
       have c33b0:(a0_5 == 1)=false:=beq_eq_false_iff_ne.mpr c33
       have c33b1:(a0_5 != 1)=true:=bne_iff_ne.mpr c33
       by_cases c41:a0_5=2
       ·rw [if_pos c41] at H
        have c41b0:(a0_5 == 2)=true:=beq_iff_eq.mpr c41
        have c41b1:(a0_5 != 2)=false:=bne_eq_false_iff_eq.mpr c41
        clear c41
        by_cases c42:a0_7 ≥ 0
        ·rw [if_pos c42] at H
         have c42b0:decide (0≤a0_7)=true:=decide_eq_true c42
         clear c42
         by_cases c43:a0_7≤1152921504606846976
         ·rw [if_pos c43] at H
          have c43b0:decide (a0_7≤1152921504606846976)=true:=decide_eq_true c43
          clear c43
          by_cases c44:(a0_8 == 0 && (a0_9 == 0 && (a0_10.toList == ([]:List UInt8))))=true
          ·rw [if_pos c44] at H
           have c44b0:(a0_8 == 0 && (a0_9 == 0 && (a0_10.toList == ([]:List UInt8))))=true:=c44
           (try (have c44b7:(a0_8 == 0 && (a0_9 == 0 && (a0_10.toList.isEmpty)))=true:=by simp only [isEmpty_beq];exact c44b0))
           (try (have c44b1:decide (a0_8=0 && (a0_9 == 0 && (a0_10.toList == ([]:List UInt8))))=true:=by simpa using c44))
           (try (have c44b2:(a0_8 == 0 && (a0_9 == 0 && (a0_10.toList == ([]:List UInt8))))=true:=by simpa using c44))
           clear c44
           replace H:=Option.bind_eq_some_iff.mp H
           obtain ⟨t275,A450,H⟩:=H
           replace H:(some t275)=some r:=H
           have A45:=Aside0.mk A450
           clear A450
           obtain rfl:=Option.some.inj H
           obtain ⟨hcz46_0,hcz46_1,hcz46_2,hcz46_3,hcz46_4,hcz46_5,hcz46_6,hcz46_7,hcz46_8,hcz46_9,hcz46_10,hcz46_11,hcz46_12,hcz46_13⟩:=zc14 BK272.out
           obtain ⟨hfz46_0,hfz46_1,hfz46_2,hfz46_3,hfz46_4,hfz46_5,hfz46_6,hfz46_7,hfz46_8,hfz46_9,hfz46_10,hfz46_11,hfz46_12,hfz46_13⟩:=zf14 BK272.out
           go_wp2_with (first|(go_at_call 38;(with_reducible refine (factotumref21_frame.calls kj27 a0_11 _ _ l0_12 t275 _ ?side1 ?side2 A45.out).mono ?_);(case side1=>repeat (first|exact (Kd.C_below HR0_12.out HB.out)|(with_reducible refine Kd.C_alloc ?_ _)|(with_reducible refine Kd.C_drewN ?_ _)|(with_reducible refine Kd.C_drew ?_)));(case side2=>exact HC0_12.out);rintro e w47 ⟨rfl,hb⟩;replace BK272:=Aside0.mk (blk_below (g:=gb272) (o:=.cells #[.int .i64 a0_0,.int .i64 a0_1,.int .i64 a0_2,.int .i64 a0_3,.string a0_4,.int .i64 a0_5,.int .i64 a0_6,.int .i64 a0_7,.int .i64 a0_8,.int .i64 a0_9,.string a0_10,.int .i64 a0_11,.slice A0_12 l0_12.length c0_12,.bool a0_13] 30 (0,0)) (by (with_reducible repeat (first|apply zb1|apply zb2|apply zb3));exact BK272.out) hb);replace HB:=Aside0.mk (below_step (by repeat (first|(with_reducible first|exact HB.out|apply zl1|apply zl2|apply zl3|refine below_set ?_ GE272.out)|exact HB.out)) hb);(try clear hb)))
           go_ret
           exact ⟨by first|(with_reducible rfl)|(simp only [isEmpty_bne,Bool.not_not] <;> rfl)|rfl|(simp [*,errW_none,errW_some] <;> rfl),by repeat (first|(with_reducible first|exact HB.out|apply zl1|apply zl2|apply zl3|refine below_set ?_ GE272.out)|exact HB.out)⟩
          ·rw [if_neg c44] at H
           have c44b0:(a0_8 == 0 && (a0_9 == 0 && (a0_10.toList == ([]:List UInt8))))=false:=by simpa using c44
           (try (have c44b7:(a0_8 == 0 && (a0_9 == 0 && (a0_10.toList.isEmpty)))=false:=by simp only [isEmpty_beq];exact c44b0))
           (try (have c44b1:decide (a0_8=0 && (a0_9 == 0 && (a0_10.toList == ([]:List UInt8))))=false:=by simpa using c44))
           (try (have c44b2:(a0_8 == 0 && (a0_9 == 0 && (a0_10.toList == ([]:List UInt8))))=false:=by simpa using c44))
           (try (have c44b3:¬ (a0_8=0 && (a0_9 == 0 && (a0_10.toList == ([]:List UInt8)))):=by simpa using c44))
           clear c44
           obtain rfl:=Option.some.inj H
           obtain ⟨hcz48_0,hcz48_1,hcz48_2,hcz48_3,hcz48_4,hcz48_5,hcz48_6,hcz48_7,hcz48_8,hcz48_9,hcz48_10,hcz48_11,hcz48_12,hcz48_13⟩:=zc14 BK272.out
           obtain ⟨hfz48_0,hfz48_1,hfz48_2,hfz48_3,hfz48_4,hfz48_5,hfz48_6,hfz48_7,hfz48_8,hfz48_9,hfz48_10,hfz48_11,hfz48_12,hfz48_13⟩:=zf14 BK272.out
           go_wp2
           go_ret
           exact ⟨by first|(with_reducible rfl)|(simp only [isEmpty_bne,Bool.not_not] <;> rfl)|rfl|(simp [*,errW_none,errW_some] <;> rfl),by repeat (first|(with_reducible first|exact HB.out|apply zl1|apply zl2|apply zl3|refine below_set ?_ GE272.out)|exact HB.out)⟩
         ·rw [if_neg c43] at H
          have c43b0:decide (a0_7≤1152921504606846976)=false:=decide_eq_false c43
          clear c43
          obtain rfl:=Option.some.inj H
          obtain ⟨hcz49_0,hcz49_1,hcz49_2,hcz49_3,hcz49_4,hcz49_5,hcz49_6,hcz49_7,hcz49_8,hcz49_9,hcz49_10,hcz49_11,hcz49_12,hcz49_13⟩:=zc14 BK272.out
          obtain ⟨hfz49_0,hfz49_1,hfz49_2,hfz49_3,hfz49_4,hfz49_5,hfz49_6,hfz49_7,hfz49_8,hfz49_9,hfz49_10,hfz49_11,hfz49_12,hfz49_13⟩:=zf14 BK272.out
          go_wp2
          go_ret
          exact ⟨by first|(with_reducible rfl)|(simp only [isEmpty_bne,Bool.not_not] <;> rfl)|rfl|(simp [*,errW_none,errW_some] <;> rfl),by repeat (first|(with_reducible first|exact HB.out|apply zl1|apply zl2|apply zl3|refine below_set ?_ GE272.out)|exact HB.out)⟩
        ·rw [if_neg c42] at H
         have c42b0:decide (0≤a0_7)=false:=decide_eq_false c42
         clear c42
         obtain rfl:=Option.some.inj H
         obtain ⟨hcz50_0,hcz50_1,hcz50_2,hcz50_3,hcz50_4,hcz50_5,hcz50_6,hcz50_7,hcz50_8,hcz50_9,hcz50_10,hcz50_11,hcz50_12,hcz50_13⟩:=zc14 BK272.out
         obtain ⟨hfz50_0,hfz50_1,hfz50_2,hfz50_3,hfz50_4,hfz50_5,hfz50_6,hfz50_7,hfz50_8,hfz50_9,hfz50_10,hfz50_11,hfz50_12,hfz50_13⟩:=zf14 BK272.out
         go_wp2
         go_ret
         exact ⟨by first|(with_reducible rfl)|(simp only [isEmpty_bne,Bool.not_not] <;> rfl)|rfl|(simp [*,errW_none,errW_some] <;> rfl),by repeat (first|(with_reducible first|exact HB.out|apply zl1|apply zl2|apply zl3|refine below_set ?_ GE272.out)|exact HB.out)⟩
       ·rw [if_neg c41] at H
        have c41b0:(a0_5 == 2)=false:=beq_eq_false_iff_ne.mpr c41
        have c41b1:(a0_5 != 2)=true:=bne_iff_ne.mpr c41
        by_cases c51:a0_5=3
        ·rw [if_pos c51] at H
         have c51b0:(a0_5 == 3)=true:=beq_iff_eq.mpr c51
         have c51b1:(a0_5 != 3)=false:=bne_eq_false_iff_eq.mpr c51
         clear c51
         by_cases c52:a0_7=0
         ·rw [if_pos c52] at H
          have c52b0:(a0_7 == 0)=true:=beq_iff_eq.mpr c52
          have c52b1:(a0_7 != 0)=false:=bne_eq_false_iff_eq.mpr c52
          clear c52
          replace H:=Option.bind_eq_some_iff.mp H
          obtain ⟨t276,A530,H⟩:=H
          replace H:(if t276=true then (some x4_27) else (some false))=some r:=H
          have A53:=Aside0.mk A530
          clear A530
          by_cases c54:t276=true
          ·subst c54
           have H1:(some x4_27)=some r:=by rw [if_pos rfl] at H;exact H
           clear H
           have H:=H1
           clear H1
           obtain rfl:=Option.some.inj H
           obtain ⟨hcz55_0,hcz55_1,hcz55_2,hcz55_3,hcz55_4,hcz55_5,hcz55_6,hcz55_7,hcz55_8,hcz55_9,hcz55_10,hcz55_11,hcz55_12,hcz55_13⟩:=zc14 BK272.out
           obtain ⟨hfz55_0,hfz55_1,hfz55_2,hfz55_3,hfz55_4,hfz55_5,hfz55_6,hfz55_7,hfz55_8,hfz55_9,hfz55_10,hfz55_11,hfz55_12,hfz55_13⟩:=zf14 BK272.out
           go_wp2_with (first|(go_at_call 14;(with_reducible refine (factotumref16_Is.calls a0_8 a0_9 a0_10 true _ A53.out).mono ?_);rintro e w56 ⟨rfl,hb⟩;replace BK272:=Aside0.mk (blk_below (g:=gb272) (o:=.cells #[.int .i64 a0_0,.int .i64 a0_1,.int .i64 a0_2,.int .i64 a0_3,.string a0_4,.int .i64 a0_5,.int .i64 a0_6,.int .i64 a0_7,.int .i64 a0_8,.int .i64 a0_9,.string a0_10,.int .i64 a0_11,.slice A0_12 l0_12.length c0_12,.bool a0_13] 30 (0,0)) (by (with_reducible repeat (first|apply zb1|apply zb2|apply zb3));exact BK272.out) hb);replace HB:=Aside0.mk (below_step (by repeat (first|(with_reducible first|exact HB.out|apply zl1|apply zl2|apply zl3|refine below_set ?_ GE272.out)|exact HB.out)) hb);(try clear hb)))
           go_ret
           exact ⟨by first|(with_reducible rfl)|(simp only [isEmpty_bne,Bool.not_not] <;> rfl)|rfl|(simp [*,errW_none,errW_some] <;> rfl),by repeat (first|(with_reducible first|exact HB.out|apply zl1|apply zl2|apply zl3|refine below_set ?_ GE272.out)|exact HB.out)⟩
          ·replace c54:=Bool.eq_false_iff.mpr c54
           subst c54
           have H1:(some false)=some r:=by rw [if_neg (show ¬ (false=true) by decide)] at H;exact H
           clear H
           have H:=H1
           clear H1
           obtain rfl:=Option.some.inj H
           obtain ⟨hcz57_0,hcz57_1,hcz57_2,hcz57_3,hcz57_4,hcz57_5,hcz57_6,hcz57_7,hcz57_8,hcz57_9,hcz57_10,hcz57_11,hcz57_12,hcz57_13⟩:=zc14 BK272.out
           obtain ⟨hfz57_0,hfz57_1,hfz57_2,hfz57_3,hfz57_4,hfz57_5,hfz57_6,hfz57_7,hfz57_8,hfz57_9,hfz57_10,hfz57_11,hfz57_12,hfz57_13⟩:=zf14 BK272.out
           go_wp2_with (first|(go_at_call 14;(with_reducible refine (factotumref16_Is.calls a0_8 a0_9 a0_10 false _ A53.out).mono ?_);rintro e w58 ⟨rfl,hb⟩;replace BK272:=Aside0.mk (blk_below (g:=gb272) (o:=.cells #[.int .i64 a0_0,.int .i64 a0_1,.int .i64 a0_2,.int .i64 a0_3,.string a0_4,.int .i64 a0_5,.int .i64 a0_6,.int .i64 a0_7,.int .i64 a0_8,.int .i64 a0_9,.string a0_10,.int .i64 a0_11,.slice A0_12 l0_12.length c0_12,.bool a0_13] 30 (0,0)) (by (with_reducible repeat (first|apply zb1|apply zb2|apply zb3));exact BK272.out) hb);replace HB:=Aside0.mk (below_step (by repeat (first|(with_reducible first|exact HB.out|apply zl1|apply zl2|apply zl3|refine below_set ?_ GE272.out)|exact HB.out)) hb);(try clear hb)))
           go_ret
           exact ⟨by first|(with_reducible rfl)|(simp only [isEmpty_bne,Bool.not_not] <;> rfl)|rfl|(simp [*,errW_none,errW_some] <;> rfl),by repeat (first|(with_reducible first|exact HB.out|apply zl1|apply zl2|apply zl3|refine below_set ?_ GE272.out)|exact HB.out)⟩
         ·rw [if_neg c52] at H
          have c52b0:(a0_7 == 0)=false:=beq_eq_false_iff_ne.mpr c52
          have c52b1:(a0_7 != 0)=true:=bne_iff_ne.mpr c52
          obtain rfl:=Option.some.inj H
          obtain ⟨hcz59_0,hcz59_1,hcz59_2,hcz59_3,hcz59_4,hcz59_5,hcz59_6,hcz59_7,hcz59_8,hcz59_9,hcz59_10,hcz59_11,hcz59_12,hcz59_13⟩:=zc14 BK272.out
          obtain ⟨hfz59_0,hfz59_1,hfz59_2,hfz59_3,hfz59_4,hfz59_5,hfz59_6,hfz59_7,hfz59_8,hfz59_9,hfz59_10,hfz59_11,hfz59_12,hfz59_13⟩:=zf14 BK272.out
          go_wp2
          go_ret
          exact ⟨by first|(with_reducible rfl)|(simp only [isEmpty_bne,Bool.not_not] <;> rfl)|rfl|(simp [*,errW_none,errW_some] <;> rfl),by repeat (first|(with_reducible first|exact HB.out|apply zl1|apply zl2|apply zl3|refine below_set ?_ GE272.out)|exact HB.out)⟩
        ·rw [if_neg c51] at H
         have c51b0:(a0_5 == 3)=false:=beq_eq_false_iff_ne.mpr c51
         have c51b1:(a0_5 != 3)=true:=bne_iff_ne.mpr c51
         by_cases c60:a0_5=4
         ·rw [if_pos c60] at H
          have c60b0:(a0_5 == 4)=true:=beq_iff_eq.mpr c60
          have c60b1:(a0_5 != 4)=false:=bne_eq_false_iff_eq.mpr c60
          clear c60
          by_cases c61:a0_7=0
          ·rw [if_pos c61] at H
           have c61b0:(a0_7 == 0)=true:=beq_iff_eq.mpr c61
           have c61b1:(a0_7 != 0)=false:=bne_eq_false_iff_eq.mpr c61
           clear c61
           replace H:=Option.bind_eq_some_iff.mp H
           obtain ⟨t277,A620,H⟩:=H
           replace H:(if t277=true then (some x4_27) else (some false))=some r:=H
           have A62:=Aside0.mk A620
           clear A620
           by_cases c63:t277=true
           ·subst c63
            have H1:(some x4_27)=some r:=by rw [if_pos rfl] at H;exact H
            clear H
            have H:=H1
            clear H1
            obtain rfl:=Option.some.inj H
            obtain ⟨hcz64_0,hcz64_1,hcz64_2,hcz64_3,hcz64_4,hcz64_5,hcz64_6,hcz64_7,hcz64_8,hcz64_9,hcz64_10,hcz64_11,hcz64_12,hcz64_13⟩:=zc14 BK272.out
            obtain ⟨hfz64_0,hfz64_1,hfz64_2,hfz64_3,hfz64_4,hfz64_5,hfz64_6,hfz64_7,hfz64_8,hfz64_9,hfz64_10,hfz64_11,hfz64_12,hfz64_13⟩:=zf14 BK272.out
            go_wp2_with (first|(go_at_call 14;(with_reducible refine (factotumref16_Is.calls a0_8 a0_9 a0_10 true _ A62.out).mono ?_);rintro e w65 ⟨rfl,hb⟩;replace BK272:=Aside0.mk (blk_below (g:=gb272) (o:=.cells #[.int .i64 a0_0,.int .i64 a0_1,.int .i64 a0_2,.int .i64 a0_3,.string a0_4,.int .i64 a0_5,.int .i64 a0_6,.int .i64 a0_7,.int .i64 a0_8,.int .i64 a0_9,.string a0_10,.int .i64 a0_11,.slice A0_12 l0_12.length c0_12,.bool a0_13] 30 (0,0)) (by (with_reducible repeat (first|apply zb1|apply zb2|apply zb3));exact BK272.out) hb);replace HB:=Aside0.mk (below_step (by repeat (first|(with_reducible first|exact HB.out|apply zl1|apply zl2|apply zl3|refine below_set ?_ GE272.out)|exact HB.out)) hb);(try clear hb)))
            go_ret
            exact ⟨by first|(with_reducible rfl)|(simp only [isEmpty_bne,Bool.not_not] <;> rfl)|rfl|(simp [*,errW_none,errW_some] <;> rfl),by repeat (first|(with_reducible first|exact HB.out|apply zl1|apply zl2|apply zl3|refine below_set ?_ GE272.out)|exact HB.out)⟩
           ·replace c63:=Bool.eq_false_iff.mpr c63
            subst c63
            have H1:(some false)=some r:=by rw [if_neg (show ¬ (false=true) by decide)] at H;exact H
            clear H
            have H:=H1
            clear H1
            obtain rfl:=Option.some.inj H
            obtain ⟨hcz66_0,hcz66_1,hcz66_2,hcz66_3,hcz66_4,hcz66_5,hcz66_6,hcz66_7,hcz66_8,hcz66_9,hcz66_10,hcz66_11,hcz66_12,hcz66_13⟩:=zc14 BK272.out
            obtain ⟨hfz66_0,hfz66_1,hfz66_2,hfz66_3,hfz66_4,hfz66_5,hfz66_6,hfz66_7,hfz66_8,hfz66_9,hfz66_10,hfz66_11,hfz66_12,hfz66_13⟩:=zf14 BK272.out
            go_wp2_with (first|(go_at_call 14;(with_reducible refine (factotumref16_Is.calls a0_8 a0_9 a0_10 false _ A62.out).mono ?_);rintro e w67 ⟨rfl,hb⟩;replace BK272:=Aside0.mk (blk_below (g:=gb272) (o:=.cells #[.int .i64 a0_0,.int .i64 a0_1,.int .i64 a0_2,.int .i64 a0_3,.string a0_4,.int .i64 a0_5,.int .i64 a0_6,.int .i64 a0_7,.int .i64 a0_8,.int .i64 a0_9,.string a0_10,.int .i64 a0_11,.slice A0_12 l0_12.length c0_12,.bool a0_13] 30 (0,0)) (by (with_reducible repeat (first|apply zb1|apply zb2|apply zb3));exact BK272.out) hb);replace HB:=Aside0.mk (below_step (by repeat (first|(with_reducible first|exact HB.out|apply zl1|apply zl2|apply zl3|refine below_set ?_ GE272.out)|exact HB.out)) hb);(try clear hb)))
            go_ret
            exact ⟨by first|(with_reducible rfl)|(simp only [isEmpty_bne,Bool.not_not] <;> rfl)|rfl|(simp [*,errW_none,errW_some] <;> rfl),by repeat (first|(with_reducible first|exact HB.out|apply zl1|apply zl2|apply zl3|refine below_set ?_ GE272.out)|exact HB.out)⟩
          ·rw [if_neg c61] at H
           have c61b0:(a0_7 == 0)=false:=beq_eq_false_iff_ne.mpr c61
           have c61b1:(a0_7 != 0)=true:=bne_iff_ne.mpr c61
           obtain rfl:=Option.some.inj H
           obtain ⟨hcz68_0,hcz68_1,hcz68_2,hcz68_3,hcz68_4,hcz68_5,hcz68_6,hcz68_7,hcz68_8,hcz68_9,hcz68_10,hcz68_11,hcz68_12,hcz68_13⟩:=zc14 BK272.out
           obtain ⟨hfz68_0,hfz68_1,hfz68_2,hfz68_3,hfz68_4,hfz68_5,hfz68_6,hfz68_7,hfz68_8,hfz68_9,hfz68_10,hfz68_11,hfz68_12,hfz68_13⟩:=zf14 BK272.out
           go_wp2
           go_ret
           exact ⟨by first|(with_reducible rfl)|(simp only [isEmpty_bne,Bool.not_not] <;> rfl)|rfl|(simp [*,errW_none,errW_some] <;> rfl),by repeat (first|(with_reducible first|exact HB.out|apply zl1|apply zl2|apply zl3|refine below_set ?_ GE272.out)|exact HB.out)⟩
         ·rw [if_neg c60] at H
          have c60b0:(a0_5 == 4)=false:=beq_eq_false_iff_ne.mpr c60
          have c60b1:(a0_5 != 4)=true:=bne_iff_ne.mpr c60
          by_cases c69:a0_5=5
          ·rw [if_pos c69] at H
           have c69b0:(a0_5 == 5)=true:=beq_iff_eq.mpr c69
           have c69b1:(a0_5 != 5)=false:=bne_eq_false_iff_eq.mpr c69
           clear c69
           by_cases c70:a0_7=0
           ·rw [if_pos c70] at H
            have c70b0:(a0_7 == 0)=true:=beq_iff_eq.mpr c70
            have c70b1:(a0_7 != 0)=false:=bne_eq_false_iff_eq.mpr c70
            clear c70
            by_cases c71:(a0_8 == 0 && (a0_9 == 0 && (a0_10.toList == ([]:List UInt8))))=true
            ·rw [if_pos c71] at H
             have c71b0:(a0_8 == 0 && (a0_9 == 0 && (a0_10.toList == ([]:List UInt8))))=true:=c71
             (try (have c71b7:(a0_8 == 0 && (a0_9 == 0 && (a0_10.toList.isEmpty)))=true:=by simp only [isEmpty_beq];exact c71b0))
             (try (have c71b1:decide (a0_8=0 && (a0_9 == 0 && (a0_10.toList == ([]:List UInt8))))=true:=by simpa using c71))
             (try (have c71b2:(a0_8 == 0 && (a0_9 == 0 && (a0_10.toList == ([]:List UInt8))))=true:=by simpa using c71))
             clear c71
             obtain rfl:=Option.some.inj H
             obtain ⟨hcz72_0,hcz72_1,hcz72_2,hcz72_3,hcz72_4,hcz72_5,hcz72_6,hcz72_7,hcz72_8,hcz72_9,hcz72_10,hcz72_11,hcz72_12,hcz72_13⟩:=zc14 BK272.out
             obtain ⟨hfz72_0,hfz72_1,hfz72_2,hfz72_3,hfz72_4,hfz72_5,hfz72_6,hfz72_7,hfz72_8,hfz72_9,hfz72_10,hfz72_11,hfz72_12,hfz72_13⟩:=zf14 BK272.out
             go_wp2
             go_ret
             exact ⟨by first|(with_reducible rfl)|(simp only [isEmpty_bne,Bool.not_not] <;> rfl)|rfl|(simp [*,errW_none,errW_some] <;> rfl),by repeat (first|(with_reducible first|exact HB.out|apply zl1|apply zl2|apply zl3|refine below_set ?_ GE272.out)|exact HB.out)⟩
            ·rw [if_neg c71] at H
             have c71b0:(a0_8 == 0 && (a0_9 == 0 && (a0_10.toList == ([]:List UInt8))))=false:=by simpa using c71
             (try (have c71b7:(a0_8 == 0 && (a0_9 == 0 && (a0_10.toList.isEmpty)))=false:=by simp only [isEmpty_beq];exact c71b0))
             (try (have c71b1:decide (a0_8=0 && (a0_9 == 0 && (a0_10.toList == ([]:List UInt8))))=false:=by simpa using c71))
             (try (have c71b2:(a0_8 == 0 && (a0_9 == 0 && (a0_10.toList == ([]:List UInt8))))=false:=by simpa using c71))
             (try (have c71b3:¬ (a0_8=0 && (a0_9 == 0 && (a0_10.toList == ([]:List UInt8)))):=by simpa using c71))
             clear c71
             obtain rfl:=Option.some.inj H
             obtain ⟨hcz73_0,hcz73_1,hcz73_2,hcz73_3,hcz73_4,hcz73_5,hcz73_6,hcz73_7,hcz73_8,hcz73_9,hcz73_10,hcz73_11,hcz73_12,hcz73_13⟩:=zc14 BK272.out
             obtain ⟨hfz73_0,hfz73_1,hfz73_2,hfz73_3,hfz73_4,hfz73_5,hfz73_6,hfz73_7,hfz73_8,hfz73_9,hfz73_10,hfz73_11,hfz73_12,hfz73_13⟩:=zf14 BK272.out
             go_wp2
             go_ret
             exact ⟨by first|(with_reducible rfl)|(simp only [isEmpty_bne,Bool.not_not] <;> rfl)|rfl|(simp [*,errW_none,errW_some] <;> rfl),by repeat (first|(with_reducible first|exact HB.out|apply zl1|apply zl2|apply zl3|refine below_set ?_ GE272.out)|exact HB.out)⟩
           ·rw [if_neg c70] at H
            have c70b0:(a0_7 == 0)=false:=beq_eq_false_iff_ne.mpr c70
            have c70b1:(a0_7 != 0)=true:=bne_iff_ne.mpr c70
            obtain rfl:=Option.some.inj H
            obtain ⟨hcz74_0,hcz74_1,hcz74_2,hcz74_3,hcz74_4,hcz74_5,hcz74_6,hcz74_7,hcz74_8,hcz74_9,hcz74_10,hcz74_11,hcz74_12,hcz74_13⟩:=zc14 BK272.out
            obtain ⟨hfz74_0,hfz74_1,hfz74_2,hfz74_3,hfz74_4,hfz74_5,hfz74_6,hfz74_7,hfz74_8,hfz74_9,hfz74_10,hfz74_11,hfz74_12,hfz74_13⟩:=zf14 BK272.out
            go_wp2
            go_ret
            exact ⟨by first|(with_reducible rfl)|(simp only [isEmpty_bne,Bool.not_not] <;> rfl)|rfl|(simp [*,errW_none,errW_some] <;> rfl),by repeat (first|(with_reducible first|exact HB.out|apply zl1|apply zl2|apply zl3|refine below_set ?_ GE272.out)|exact HB.out)⟩
          ·rw [if_neg c69] at H
           have c69b0:(a0_5 == 5)=false:=beq_eq_false_iff_ne.mpr c69
           have c69b1:(a0_5 != 5)=true:=bne_iff_ne.mpr c69
           obtain rfl:=Option.some.inj H
           obtain ⟨hcz75_0,hcz75_1,hcz75_2,hcz75_3,hcz75_4,hcz75_5,hcz75_6,hcz75_7,hcz75_8,hcz75_9,hcz75_10,hcz75_11,hcz75_12,hcz75_13⟩:=zc14 BK272.out
           obtain ⟨hfz75_0,hfz75_1,hfz75_2,hfz75_3,hfz75_4,hfz75_5,hfz75_6,hfz75_7,hfz75_8,hfz75_9,hfz75_10,hfz75_11,hfz75_12,hfz75_13⟩:=zf14 BK272.out
           go_wp2
           go_ret
           exact ⟨by first|(with_reducible rfl)|(simp only [isEmpty_bne,Bool.not_not] <;> rfl)|rfl|(simp [*,errW_none,errW_some] <;> rfl),by repeat (first|(with_reducible first|exact HB.out|apply zl1|apply zl2|apply zl3|refine below_set ?_ GE272.out)|exact HB.out)⟩

end Go.Proofs.YtobjnhkjahhfnaaDoor.PAll
