/- Printed walks of the functions that the laws reach: each function, what it computes, and that it does. No conditions. -/
import Derived.Test.YtobjnhkjahhfnaaDoorPAllx0
import Derived.Test.YtobjnhkjahhfnaaDoorPAllx1
import Derived.Test.YtobjnhkjahhfnaaDoorPAllx14
import Derived.Test.YtobjnhkjahhfnaaDoorPAllx15
namespace Go.Proofs.YtobjnhkjahhfnaaDoor.PAll
open Go.RowKit Go.Proofs.YtobjnhkjahhfnaaDoor.XW Go.Proofs.YtobjnhkjahhfnaaDoor.XLib Go.Proofs.YtobjnhkjahhfnaaDoorW.PrintWords Go.Proofs.YtobjnhkjahhfnaaDoorW.PrintLast Go.Proofs.YtobjnhkjahhfnaaDoorW.PrintMore
attribute [local go_sem] max2_int min2_int max_two min_two max_three min_three max_four min_four   -- for this text's walks alone
set_option linter.unusedVariables false
set_option linter.unusedSimpArgs false

attribute [local go_sem high] eqA24
/-! ### factotumref21_Right: function 18 -/
mutual
def factotumref21_Right.j0:Nat→Bool→Int→Int→Int→Int→ByteArray→Int→Int→Int→Int→Int→ByteArray→Int→List (S24)→Bool→Option (Bool)
 | 0,_,_,_,_,_,_,_,_,_,_,_,_,_,_,_=>none
 | k + 1,x42,x286000,x286001,x286002,x286003,x286004,x286005,x286006,x286007,x286008,x286009,x286010,x286011,x286012,x286013=>if x42=true then (some false) else (if x286011=0 then (factotumref21_Right.j1 k (x286008 == 0 && (x286009 == 0 && (x286010.toList == ([]:List UInt8)))) ((x286012.length:Int) == 0) x286000 x286001 x286002 x286003 x286004 x286005 x286006 x286007 x286008 x286009 x286010 x286011 x286012 x286013) else (factotumref21_Right.j1 k (x286008 == 0 && (x286009 == 0 && (x286010.toList == ([]:List UInt8)))) false x286000 x286001 x286002 x286003 x286004 x286005 x286006 x286007 x286008 x286009 x286010 x286011 x286012 x286013))
def factotumref21_Right.j1:Nat→Bool→Bool→Int→Int→Int→Int→ByteArray→Int→Int→Int→Int→Int→ByteArray→Int→List (S24)→Bool→Option (Bool)
 | 0,_,_,_,_,_,_,_,_,_,_,_,_,_,_,_,_=>none
 | k + 1,x3,x4,x286000,x286001,x286002,x286003,x286004,x286005,x286006,x286007,x286008,x286009,x286010,x286011,x286012,x286013=>if x286005=1 then (if x286007=0 then (if x3=true then ((factotumref21_frame.f k x286011 x286012).bind fun t287=>(some t287)) else (some false)) else (some false)) else (if x286005=2 then (if x286007 ≥ 0 then (if x286007≤1152921504606846976 then (if x3=true then ((factotumref21_frame.f k x286011 x286012).bind fun t288=>(some t288)) else (some false)) else (some false)) else (some false)) else (if x286005=3 then (if x286007=0 then ((factotumref16_Is.f x286008 x286009 x286010).bind fun t289=>(if t289=true then (some x4) else (some false))) else (some false)) else (if x286005=4 then (if x286007=0 then ((factotumref16_Is.f x286008 x286009 x286010).bind fun t290=>(if t290=true then (some x4) else (some false))) else (some false)) else (if x286005=5 then (if x286007=0 then (if x3=true then (some x4) else (some false)) else (some false)) else (some false)))))
end
def factotumref21_Right.f (k:Nat) (a0_0:Int) (a0_1:Int) (a0_2:Int) (a0_3:Int) (a0_4:ByteArray) (a0_5:Int) (a0_6:Int) (a0_7:Int) (a0_8:Int) (a0_9:Int) (a0_10:ByteArray) (a0_11:Int) (l0_12:List (S24)) (a0_13:Bool):Option (Bool):=if a0_0 < 0 then (factotumref21_Right.j0 k true a0_0 a0_1 a0_2 a0_3 a0_4 a0_5 a0_6 a0_7 a0_8 a0_9 a0_10 a0_11 l0_12 a0_13) else (if a0_0 > 65535 then (factotumref21_Right.j0 k true a0_0 a0_1 a0_2 a0_3 a0_4 a0_5 a0_6 a0_7 a0_8 a0_9 a0_10 a0_11 l0_12 a0_13) else (if a0_1 < 0 then (factotumref21_Right.j0 k true a0_0 a0_1 a0_2 a0_3 a0_4 a0_5 a0_6 a0_7 a0_8 a0_9 a0_10 a0_11 l0_12 a0_13) else (if a0_1 > 255 then (factotumref21_Right.j0 k true a0_0 a0_1 a0_2 a0_3 a0_4 a0_5 a0_6 a0_7 a0_8 a0_9 a0_10 a0_11 l0_12 a0_13) else ((factotumref16_Is.f a0_2 a0_3 a0_4).bind fun t286=>(if t286=true then (if a0_6 < 0 then (factotumref21_Right.j0 k true a0_0 a0_1 a0_2 a0_3 a0_4 a0_5 a0_6 a0_7 a0_8 a0_9 a0_10 a0_11 l0_12 a0_13) else (if a0_6 > 24 then (factotumref21_Right.j0 k true a0_0 a0_1 a0_2 a0_3 a0_4 a0_5 a0_6 a0_7 a0_8 a0_9 a0_10 a0_11 l0_12 a0_13) else (factotumref21_Right.j0 k a0_13 a0_0 a0_1 a0_2 a0_3 a0_4 a0_5 a0_6 a0_7 a0_8 a0_9 a0_10 a0_11 l0_12 a0_13))) else (factotumref21_Right.j0 k true a0_0 a0_1 a0_2 a0_3 a0_4 a0_5 a0_6 a0_7 a0_8 a0_9 a0_10 a0_11 l0_12 a0_13))))))
theorem factotumref21_Right.mono_l:∀ k,(∀ y0 y1 y2 y3 y4 y5 y6 y7 y8 y9 y10 y11 y12 y13 y14,LeO (factotumref21_Right.j0 k y0 y1 y2 y3 y4 y5 y6 y7 y8 y9 y10 y11 y12 y13 y14) (factotumref21_Right.j0 (k + 1) y0 y1 y2 y3 y4 y5 y6 y7 y8 y9 y10 y11 y12 y13 y14))∧(∀ y0 y1 y2 y3 y4 y5 y6 y7 y8 y9 y10 y11 y12 y13 y14 y15,LeO (factotumref21_Right.j1 k y0 y1 y2 y3 y4 y5 y6 y7 y8 y9 y10 y11 y12 y13 y14 y15) (factotumref21_Right.j1 (k + 1) y0 y1 y2 y3 y4 y5 y6 y7 y8 y9 y10 y11 y12 y13 y14 y15))
 | 0=>⟨fun _ _ _ _ _ _ _ _ _ _ _ _ _ _ _ r h=>by simp [factotumref21_Right.j0] at h,fun _ _ _ _ _ _ _ _ _ _ _ _ _ _ _ _ r h=>by simp [factotumref21_Right.j1] at h⟩
 | k + 1=>by
  obtain ⟨ih0,ih1⟩:=factotumref21_Right.mono_l k
  refine ⟨?_,?_⟩
  ·intro y0 y1 y2 y3 y4 y5 y6 y7 y8 y9 y10 y11 y12 y13 y14
   unfold factotumref21_Right.j0
   repeat' first
   | (with_reducible exact ih0 _ _ _ _ _ _ _ _ _ _ _ _ _ _ _)
   | (with_reducible exact ih1 _ _ _ _ _ _ _ _ _ _ _ _ _ _ _ _)
   | (with_reducible exact factotumref21_frame.mono _ _ _)
   | (with_reducible exact LeO.refl _)
   | (with_reducible exact LeO.none _)
   | (with_reducible refine LeO.ite ?_ ?_)
   | (with_reducible refine LeO.bind ?_ (fun _=>?_))
   | exact ih0 _ _ _ _ _ _ _ _ _ _ _ _ _ _ _
   | exact ih1 _ _ _ _ _ _ _ _ _ _ _ _ _ _ _ _
   | exact factotumref21_frame.mono _ _ _
   | exact LeO.none _
   | refine LeO.ite ?_ ?_
   | refine LeO.bind ?_ (fun _=>?_)
  ·intro y0 y1 y2 y3 y4 y5 y6 y7 y8 y9 y10 y11 y12 y13 y14 y15
   unfold factotumref21_Right.j1
   repeat' first
   | (with_reducible exact ih0 _ _ _ _ _ _ _ _ _ _ _ _ _ _ _)
   | (with_reducible exact ih1 _ _ _ _ _ _ _ _ _ _ _ _ _ _ _ _)
   | (with_reducible exact factotumref21_frame.mono _ _ _)
   | (with_reducible exact LeO.refl _)
   | (with_reducible exact LeO.none _)
   | (with_reducible refine LeO.ite ?_ ?_)
   | (with_reducible refine LeO.bind ?_ (fun _=>?_))
   | exact ih0 _ _ _ _ _ _ _ _ _ _ _ _ _ _ _
   | exact ih1 _ _ _ _ _ _ _ _ _ _ _ _ _ _ _ _
   | exact factotumref21_frame.mono _ _ _
   | exact LeO.none _
   | refine LeO.ite ?_ ?_
   | refine LeO.bind ?_ (fun _=>?_)
theorem factotumref21_Right.mono:∀ a0 a1 a2 a3 a4 a5 a6 a7 a8 a9 a10 a11 a12 a13 k,LeO (factotumref21_Right.f k a0 a1 a2 a3 a4 a5 a6 a7 a8 a9 a10 a11 a12 a13) (factotumref21_Right.f (k + 1) a0 a1 a2 a3 a4 a5 a6 a7 a8 a9 a10 a11 a12 a13):=by
 intro a0 a1 a2 a3 a4 a5 a6 a7 a8 a9 a10 a11 a12 a13 k
 obtain ⟨ih0,ih1⟩:=factotumref21_Right.mono_l k
 unfold factotumref21_Right.f
 repeat' first
   | (with_reducible exact ih0 _ _ _ _ _ _ _ _ _ _ _ _ _ _ _)
   | (with_reducible exact ih1 _ _ _ _ _ _ _ _ _ _ _ _ _ _ _ _)
   | (with_reducible exact factotumref21_frame.mono _ _ _)
   | (with_reducible exact LeO.refl _)
   | (with_reducible exact LeO.none _)
   | (with_reducible refine LeO.ite ?_ ?_)
   | (with_reducible refine LeO.bind ?_ (fun _=>?_))
   | exact ih0 _ _ _ _ _ _ _ _ _ _ _ _ _ _ _
   | exact ih1 _ _ _ _ _ _ _ _ _ _ _ _ _ _ _ _
   | exact factotumref21_frame.mono _ _ _
   | exact LeO.none _
   | refine LeO.ite ?_ ?_
   | refine LeO.bind ?_ (fun _=>?_)
set_option maxHeartbeats 8000000 in
set_option maxRecDepth 100000 in
theorem factotumref21_Right.calls (k:Nat) (a0_0:Int) (a0_1:Int) (a0_2:Int) (a0_3:Int) (a0_4:ByteArray) (a0_5:Int) (a0_6:Int) (a0_7:Int) (a0_8:Int) (a0_9:Int) (a0_10:ByteArray) (a0_11:Int) (A0_12:Option Addr) (c0_12:Nat) (l0_12:List (S24)) (a0_13:Bool) (r:Bool) (w:World) (hr0_12:Kd.C k24 w A0_12 l0_12.length l0_12) (hc0_12:l0_12.length≤c0_12) (h:factotumref21_Right.f k a0_0 a0_1 a0_2 a0_3 a0_4 a0_5 a0_6 a0_7 a0_8 a0_9 a0_10 a0_11 l0_12 a0_13=some r) :
  Calls Tryd.prog 18 #[.agg #[.int .i64 a0_0,.int .i64 a0_1,.int .i64 a0_2,.int .i64 a0_3,.string a0_4,.int .i64 a0_5,.int .i64 a0_6,.int .i64 a0_7,.int .i64 a0_8,.int .i64 a0_9,.string a0_10,.int .i64 a0_11,.slice A0_12 l0_12.length c0_12,.bool a0_13]] w fun e w'=>e=.returned (.bool r)∧Below w.heap.size w w':=by
 have hu30:=Tryd.underlying30
 have hu24:=Tryd.underlying24
 have hu28:=Tryd.underlying28
 have HR0_12:=Aside0.mk hr0_12
 have HC0_12:=Aside0.mk hc0_12
 clear hr0_12 hc0_12
 have HB:=Aside0.mk (Below.refl w.heap.size w)
 have H:(if a0_0 < 0 then (factotumref21_Right.j0 k true a0_0 a0_1 a0_2 a0_3 a0_4 a0_5 a0_6 a0_7 a0_8 a0_9 a0_10 a0_11 l0_12 a0_13) else (if a0_0 > 65535 then (factotumref21_Right.j0 k true a0_0 a0_1 a0_2 a0_3 a0_4 a0_5 a0_6 a0_7 a0_8 a0_9 a0_10 a0_11 l0_12 a0_13) else (if a0_1 < 0 then (factotumref21_Right.j0 k true a0_0 a0_1 a0_2 a0_3 a0_4 a0_5 a0_6 a0_7 a0_8 a0_9 a0_10 a0_11 l0_12 a0_13) else (if a0_1 > 255 then (factotumref21_Right.j0 k true a0_0 a0_1 a0_2 a0_3 a0_4 a0_5 a0_6 a0_7 a0_8 a0_9 a0_10 a0_11 l0_12 a0_13) else ((factotumref16_Is.f a0_2 a0_3 a0_4).bind fun t286=>(if t286=true then (if a0_6 < 0 then (factotumref21_Right.j0 k true a0_0 a0_1 a0_2 a0_3 a0_4 a0_5 a0_6 a0_7 a0_8 a0_9 a0_10 a0_11 l0_12 a0_13) else (if a0_6 > 24 then (factotumref21_Right.j0 k true a0_0 a0_1 a0_2 a0_3 a0_4 a0_5 a0_6 a0_7 a0_8 a0_9 a0_10 a0_11 l0_12 a0_13) else (factotumref21_Right.j0 k a0_13 a0_0 a0_1 a0_2 a0_3 a0_4 a0_5 a0_6 a0_7 a0_8 a0_9 a0_10 a0_11 l0_12 a0_13))) else (factotumref21_Right.j0 k true a0_0 a0_1 a0_2 a0_3 a0_4 a0_5 a0_6 a0_7 a0_8 a0_9 a0_10 a0_11 l0_12 a0_13)))))))=some r:=h
 clear h
 have HC2:=Aside0.mk H
 clear H
 go_enter Tryd.func18,Tryd.ntmps18
 go_upto_region 1 with (first|((with_reducible refine gate_dst (N:=1) rfl ?_);(try (refine gate_guard (by rfl) ?_;dsimp only));refine box_event ?hg (N:=1) ?hd (cs:=#[.int .i64 a0_0,.int .i64 a0_1,.int .i64 a0_2,.int .i64 a0_3,.string a0_4,.int .i64 a0_5,.int .i64 a0_6,.int .i64 a0_7,.int .i64 a0_8,.int .i64 a0_9,.string a0_10,.int .i64 a0_11,.slice A0_12 l0_12.length c0_12,.bool a0_13]) (t:=30) ?hr ?_;(case hd=>rfl);(case hg=>rfl);(case hr=>first|(go_simp;done)|(go_simp;rfl));intro gb285 hg w3 hbox hb;have BK285:=Aside0.mk (hbox);have GW285:=Aside0.mk ((by rw [hg];exact (below_size (by repeat (first|(with_reducible first|exact HB.out|apply zl1|apply zl2|apply zl3)|exact HB.out))):w.heap.size≤gb285));have GE285:=Aside0.mk ((by rw [hg];exact (below_size (by repeat (first|(with_reducible first|exact HB.out|apply zl1|apply zl2|apply zl3)|exact HB.out))):w.heap.size≤gb285));replace HB:=Aside0.mk (below_step (by repeat (first|(with_reducible first|exact HB.out|apply zl1|apply zl2|apply zl3)|exact HB.out)) hb);clear hb hbox hg))
 (try simp only [Act.put,List.setIfInBounds_toArray,List.set_cons_zero,List.set_cons_succ])
 go_cut [42] (fun v42 wc=>∃ (kq:Nat) (x42_1:Bool),v42=.bool x42_1∧Aside0 (factotumref21_Right.j0 kq x42_1 a0_0 a0_1 a0_2 a0_3 a0_4 a0_5 a0_6 a0_7 a0_8 a0_9 a0_10 a0_11 l0_12 a0_13=some r)∧Aside0 (kq≤k)∧Aside0 (wc.heap[gb285]?=some (.cells #[.int .i64 a0_0,.int .i64 a0_1,.int .i64 a0_2,.int .i64 a0_3,.string a0_4,.int .i64 a0_5,.int .i64 a0_6,.int .i64 a0_7,.int .i64 a0_8,.int .i64 a0_9,.string a0_10,.int .i64 a0_11,(.slice A0_12 l0_12.length c0_12),.bool a0_13] 30 (0,0)))∧Aside0 (Below w.heap.size w wc))
 case first =>
  have H:=HC2.out
  clear HC2
  by_cases c4:a0_0 < 0
  ·rw [if_pos c4] at H
   have c4b0:decide (a0_0 < 0)=true:=decide_eq_true c4
   clear c4
   (first|rw [c4b0]|(simp only [i64_w,i32_w];rw [c4b0])|skip)
   have H':=Aside0.mk H
   clear H
   have hcz5_0:w3.cell? ⟨gb285,0,none⟩=some (.int .i64 a0_0):=(blk_cell BK285.out 0).trans rfl
   have hcz5_1:w3.cell? ⟨gb285,1,none⟩=some (.int .i64 a0_1):=(blk_cell BK285.out 1).trans rfl
   have hcz5_2:w3.cell? ⟨gb285,2,none⟩=some (.int .i64 a0_2):=(blk_cell BK285.out 2).trans rfl
   have hcz5_3:w3.cell? ⟨gb285,3,none⟩=some (.int .i64 a0_3):=(blk_cell BK285.out 3).trans rfl
   have hcz5_4:w3.cell? ⟨gb285,4,none⟩=some (.string a0_4):=(blk_cell BK285.out 4).trans rfl
   have hcz5_5:w3.cell? ⟨gb285,5,none⟩=some (.int .i64 a0_5):=(blk_cell BK285.out 5).trans rfl
   have hcz5_6:w3.cell? ⟨gb285,6,none⟩=some (.int .i64 a0_6):=(blk_cell BK285.out 6).trans rfl
   have hcz5_7:w3.cell? ⟨gb285,7,none⟩=some (.int .i64 a0_7):=(blk_cell BK285.out 7).trans rfl
   have hcz5_8:w3.cell? ⟨gb285,8,none⟩=some (.int .i64 a0_8):=(blk_cell BK285.out 8).trans rfl
   have hcz5_9:w3.cell? ⟨gb285,9,none⟩=some (.int .i64 a0_9):=(blk_cell BK285.out 9).trans rfl
   have hcz5_10:w3.cell? ⟨gb285,10,none⟩=some (.string a0_10):=(blk_cell BK285.out 10).trans rfl
   have hcz5_11:w3.cell? ⟨gb285,11,none⟩=some (.int .i64 a0_11):=(blk_cell BK285.out 11).trans rfl
   have hcz5_12:w3.cell? ⟨gb285,12,none⟩=some (.slice A0_12 l0_12.length c0_12):=(blk_cell BK285.out 12).trans rfl
   have hcz5_13:w3.cell? ⟨gb285,13,none⟩=some (.bool a0_13):=(blk_cell BK285.out 13).trans rfl
   have hfz5_0:=blk_frozen BK285.out 0
   have hfz5_1:=blk_frozen BK285.out 1
   have hfz5_2:=blk_frozen BK285.out 2
   have hfz5_3:=blk_frozen BK285.out 3
   have hfz5_4:=blk_frozen BK285.out 4
   have hfz5_5:=blk_frozen BK285.out 5
   have hfz5_6:=blk_frozen BK285.out 6
   have hfz5_7:=blk_frozen BK285.out 7
   have hfz5_8:=blk_frozen BK285.out 8
   have hfz5_9:=blk_frozen BK285.out 9
   have hfz5_10:=blk_frozen BK285.out 10
   have hfz5_11:=blk_frozen BK285.out 11
   have hfz5_12:=blk_frozen BK285.out 12
   have hfz5_13:=blk_frozen BK285.out 13
   go_wp2
   go_meet
   case rel=>exact ⟨_,(true),(by first|(with_reducible rfl)|(simp;done)|(simp [*];done)|rfl|(simp only [not_isEmpty_bne])),H',⟨by first|omega|exact Nat.le_refl _⟩,⟨by (with_reducible repeat (first|apply zb1|apply zb2|apply zb3));exact BK285.out⟩,⟨by repeat (first|(with_reducible first|exact HB.out|apply zl1|apply zl2|apply zl3|refine below_set ?_ GE285.out)|exact HB.out)⟩⟩
  ·rw [if_neg c4] at H
   have c4b0:decide (a0_0 < 0)=false:=decide_eq_false c4
   clear c4
   (first|rw [c4b0]|(simp only [i64_w,i32_w];rw [c4b0])|skip)
   by_cases c6:a0_0 > 65535
   ·rw [if_pos c6] at H
    have c6b0:decide (65535 < a0_0)=true:=decide_eq_true c6
    clear c6
    have H':=Aside0.mk H
    clear H
    have hcz7_0:w3.cell? ⟨gb285,0,none⟩=some (.int .i64 a0_0):=(blk_cell BK285.out 0).trans rfl
    have hcz7_1:w3.cell? ⟨gb285,1,none⟩=some (.int .i64 a0_1):=(blk_cell BK285.out 1).trans rfl
    have hcz7_2:w3.cell? ⟨gb285,2,none⟩=some (.int .i64 a0_2):=(blk_cell BK285.out 2).trans rfl
    have hcz7_3:w3.cell? ⟨gb285,3,none⟩=some (.int .i64 a0_3):=(blk_cell BK285.out 3).trans rfl
    have hcz7_4:w3.cell? ⟨gb285,4,none⟩=some (.string a0_4):=(blk_cell BK285.out 4).trans rfl
    have hcz7_5:w3.cell? ⟨gb285,5,none⟩=some (.int .i64 a0_5):=(blk_cell BK285.out 5).trans rfl
    have hcz7_6:w3.cell? ⟨gb285,6,none⟩=some (.int .i64 a0_6):=(blk_cell BK285.out 6).trans rfl
    have hcz7_7:w3.cell? ⟨gb285,7,none⟩=some (.int .i64 a0_7):=(blk_cell BK285.out 7).trans rfl
    have hcz7_8:w3.cell? ⟨gb285,8,none⟩=some (.int .i64 a0_8):=(blk_cell BK285.out 8).trans rfl
    have hcz7_9:w3.cell? ⟨gb285,9,none⟩=some (.int .i64 a0_9):=(blk_cell BK285.out 9).trans rfl
    have hcz7_10:w3.cell? ⟨gb285,10,none⟩=some (.string a0_10):=(blk_cell BK285.out 10).trans rfl
    have hcz7_11:w3.cell? ⟨gb285,11,none⟩=some (.int .i64 a0_11):=(blk_cell BK285.out 11).trans rfl
    have hcz7_12:w3.cell? ⟨gb285,12,none⟩=some (.slice A0_12 l0_12.length c0_12):=(blk_cell BK285.out 12).trans rfl
    have hcz7_13:w3.cell? ⟨gb285,13,none⟩=some (.bool a0_13):=(blk_cell BK285.out 13).trans rfl
    have hfz7_0:=blk_frozen BK285.out 0
    have hfz7_1:=blk_frozen BK285.out 1
    have hfz7_2:=blk_frozen BK285.out 2
    have hfz7_3:=blk_frozen BK285.out 3
    have hfz7_4:=blk_frozen BK285.out 4
    have hfz7_5:=blk_frozen BK285.out 5
    have hfz7_6:=blk_frozen BK285.out 6
    have hfz7_7:=blk_frozen BK285.out 7
    have hfz7_8:=blk_frozen BK285.out 8
    have hfz7_9:=blk_frozen BK285.out 9
    have hfz7_10:=blk_frozen BK285.out 10
    have hfz7_11:=blk_frozen BK285.out 11
    have hfz7_12:=blk_frozen BK285.out 12
    have hfz7_13:=blk_frozen BK285.out 13
    go_wp2
    go_meet
    case rel=>exact ⟨_,(true),(by first|(with_reducible rfl)|(simp;done)|(simp [*];done)|rfl|(simp only [not_isEmpty_bne])),H',⟨by first|omega|exact Nat.le_refl _⟩,⟨by (with_reducible repeat (first|apply zb1|apply zb2|apply zb3));exact BK285.out⟩,⟨by repeat (first|(with_reducible first|exact HB.out|apply zl1|apply zl2|apply zl3|refine below_set ?_ GE285.out)|exact HB.out)⟩⟩
   ·rw [if_neg c6] at H
    have c6b0:decide (65535 < a0_0)=false:=decide_eq_false c6
    clear c6
    by_cases c8:a0_1 < 0
    ·rw [if_pos c8] at H
     have c8b0:decide (a0_1 < 0)=true:=decide_eq_true c8
     clear c8
     have H':=Aside0.mk H
     clear H
     have hcz9_0:w3.cell? ⟨gb285,0,none⟩=some (.int .i64 a0_0):=(blk_cell BK285.out 0).trans rfl
     have hcz9_1:w3.cell? ⟨gb285,1,none⟩=some (.int .i64 a0_1):=(blk_cell BK285.out 1).trans rfl
     have hcz9_2:w3.cell? ⟨gb285,2,none⟩=some (.int .i64 a0_2):=(blk_cell BK285.out 2).trans rfl
     have hcz9_3:w3.cell? ⟨gb285,3,none⟩=some (.int .i64 a0_3):=(blk_cell BK285.out 3).trans rfl
     have hcz9_4:w3.cell? ⟨gb285,4,none⟩=some (.string a0_4):=(blk_cell BK285.out 4).trans rfl
     have hcz9_5:w3.cell? ⟨gb285,5,none⟩=some (.int .i64 a0_5):=(blk_cell BK285.out 5).trans rfl
     have hcz9_6:w3.cell? ⟨gb285,6,none⟩=some (.int .i64 a0_6):=(blk_cell BK285.out 6).trans rfl
     have hcz9_7:w3.cell? ⟨gb285,7,none⟩=some (.int .i64 a0_7):=(blk_cell BK285.out 7).trans rfl
     have hcz9_8:w3.cell? ⟨gb285,8,none⟩=some (.int .i64 a0_8):=(blk_cell BK285.out 8).trans rfl
     have hcz9_9:w3.cell? ⟨gb285,9,none⟩=some (.int .i64 a0_9):=(blk_cell BK285.out 9).trans rfl
     have hcz9_10:w3.cell? ⟨gb285,10,none⟩=some (.string a0_10):=(blk_cell BK285.out 10).trans rfl
     have hcz9_11:w3.cell? ⟨gb285,11,none⟩=some (.int .i64 a0_11):=(blk_cell BK285.out 11).trans rfl
     have hcz9_12:w3.cell? ⟨gb285,12,none⟩=some (.slice A0_12 l0_12.length c0_12):=(blk_cell BK285.out 12).trans rfl
     have hcz9_13:w3.cell? ⟨gb285,13,none⟩=some (.bool a0_13):=(blk_cell BK285.out 13).trans rfl
     have hfz9_0:=blk_frozen BK285.out 0
     have hfz9_1:=blk_frozen BK285.out 1
     have hfz9_2:=blk_frozen BK285.out 2
     have hfz9_3:=blk_frozen BK285.out 3
     have hfz9_4:=blk_frozen BK285.out 4
     have hfz9_5:=blk_frozen BK285.out 5
     have hfz9_6:=blk_frozen BK285.out 6
     have hfz9_7:=blk_frozen BK285.out 7
     have hfz9_8:=blk_frozen BK285.out 8
     have hfz9_9:=blk_frozen BK285.out 9
     have hfz9_10:=blk_frozen BK285.out 10
     have hfz9_11:=blk_frozen BK285.out 11
     have hfz9_12:=blk_frozen BK285.out 12
     have hfz9_13:=blk_frozen BK285.out 13
     go_wp2
     go_meet
     case rel=>exact ⟨_,(true),(by first|(with_reducible rfl)|(simp;done)|(simp [*];done)|rfl|(simp only [not_isEmpty_bne])),H',⟨by first|omega|exact Nat.le_refl _⟩,⟨by (with_reducible repeat (first|apply zb1|apply zb2|apply zb3));exact BK285.out⟩,⟨by repeat (first|(with_reducible first|exact HB.out|apply zl1|apply zl2|apply zl3|refine below_set ?_ GE285.out)|exact HB.out)⟩⟩
    ·rw [if_neg c8] at H
     have c8b0:decide (a0_1 < 0)=false:=decide_eq_false c8
     clear c8
     by_cases c10:a0_1 > 255
     ·rw [if_pos c10] at H
      have c10b0:decide (255 < a0_1)=true:=decide_eq_true c10
      clear c10
      have H':=Aside0.mk H
      clear H
      have hcz11_0:w3.cell? ⟨gb285,0,none⟩=some (.int .i64 a0_0):=(blk_cell BK285.out 0).trans rfl
      have hcz11_1:w3.cell? ⟨gb285,1,none⟩=some (.int .i64 a0_1):=(blk_cell BK285.out 1).trans rfl
      have hcz11_2:w3.cell? ⟨gb285,2,none⟩=some (.int .i64 a0_2):=(blk_cell BK285.out 2).trans rfl
      have hcz11_3:w3.cell? ⟨gb285,3,none⟩=some (.int .i64 a0_3):=(blk_cell BK285.out 3).trans rfl
      have hcz11_4:w3.cell? ⟨gb285,4,none⟩=some (.string a0_4):=(blk_cell BK285.out 4).trans rfl
      have hcz11_5:w3.cell? ⟨gb285,5,none⟩=some (.int .i64 a0_5):=(blk_cell BK285.out 5).trans rfl
      have hcz11_6:w3.cell? ⟨gb285,6,none⟩=some (.int .i64 a0_6):=(blk_cell BK285.out 6).trans rfl
      have hcz11_7:w3.cell? ⟨gb285,7,none⟩=some (.int .i64 a0_7):=(blk_cell BK285.out 7).trans rfl
      have hcz11_8:w3.cell? ⟨gb285,8,none⟩=some (.int .i64 a0_8):=(blk_cell BK285.out 8).trans rfl
      have hcz11_9:w3.cell? ⟨gb285,9,none⟩=some (.int .i64 a0_9):=(blk_cell BK285.out 9).trans rfl
      have hcz11_10:w3.cell? ⟨gb285,10,none⟩=some (.string a0_10):=(blk_cell BK285.out 10).trans rfl
      have hcz11_11:w3.cell? ⟨gb285,11,none⟩=some (.int .i64 a0_11):=(blk_cell BK285.out 11).trans rfl
      have hcz11_12:w3.cell? ⟨gb285,12,none⟩=some (.slice A0_12 l0_12.length c0_12):=(blk_cell BK285.out 12).trans rfl
      have hcz11_13:w3.cell? ⟨gb285,13,none⟩=some (.bool a0_13):=(blk_cell BK285.out 13).trans rfl
      have hfz11_0:=blk_frozen BK285.out 0
      have hfz11_1:=blk_frozen BK285.out 1
      have hfz11_2:=blk_frozen BK285.out 2
      have hfz11_3:=blk_frozen BK285.out 3
      have hfz11_4:=blk_frozen BK285.out 4
      have hfz11_5:=blk_frozen BK285.out 5
      have hfz11_6:=blk_frozen BK285.out 6
      have hfz11_7:=blk_frozen BK285.out 7
      have hfz11_8:=blk_frozen BK285.out 8
      have hfz11_9:=blk_frozen BK285.out 9
      have hfz11_10:=blk_frozen BK285.out 10
      have hfz11_11:=blk_frozen BK285.out 11
      have hfz11_12:=blk_frozen BK285.out 12
      have hfz11_13:=blk_frozen BK285.out 13
      go_wp2
      go_meet
      case rel=>exact ⟨_,(true),(by first|(with_reducible rfl)|(simp;done)|(simp [*];done)|rfl|(simp only [not_isEmpty_bne])),H',⟨by first|omega|exact Nat.le_refl _⟩,⟨by (with_reducible repeat (first|apply zb1|apply zb2|apply zb3));exact BK285.out⟩,⟨by repeat (first|(with_reducible first|exact HB.out|apply zl1|apply zl2|apply zl3|refine below_set ?_ GE285.out)|exact HB.out)⟩⟩
     ·rw [if_neg c10] at H
      have c10b0:decide (255 < a0_1)=false:=decide_eq_false c10
      clear c10
      replace H:=Option.bind_eq_some_iff.mp H
      obtain ⟨t286,A120,H⟩:=H
      replace H:(if t286=true then (if a0_6 < 0 then (factotumref21_Right.j0 k true a0_0 a0_1 a0_2 a0_3 a0_4 a0_5 a0_6 a0_7 a0_8 a0_9 a0_10 a0_11 l0_12 a0_13) else (if a0_6 > 24 then (factotumref21_Right.j0 k true a0_0 a0_1 a0_2 a0_3 a0_4 a0_5 a0_6 a0_7 a0_8 a0_9 a0_10 a0_11 l0_12 a0_13) else (factotumref21_Right.j0 k a0_13 a0_0 a0_1 a0_2 a0_3 a0_4 a0_5 a0_6 a0_7 a0_8 a0_9 a0_10 a0_11 l0_12 a0_13))) else (factotumref21_Right.j0 k true a0_0 a0_1 a0_2 a0_3 a0_4 a0_5 a0_6 a0_7 a0_8 a0_9 a0_10 a0_11 l0_12 a0_13))=some r:=H
      have A12:=Aside0.mk A120
      clear A120
      by_cases c13:t286=true
      ·subst c13
       have H1:(if a0_6 < 0 then (factotumref21_Right.j0 k true a0_0 a0_1 a0_2 a0_3 a0_4 a0_5 a0_6 a0_7 a0_8 a0_9 a0_10 a0_11 l0_12 a0_13) else (if a0_6 > 24 then (factotumref21_Right.j0 k true a0_0 a0_1 a0_2 a0_3 a0_4 a0_5 a0_6 a0_7 a0_8 a0_9 a0_10 a0_11 l0_12 a0_13) else (factotumref21_Right.j0 k a0_13 a0_0 a0_1 a0_2 a0_3 a0_4 a0_5 a0_6 a0_7 a0_8 a0_9 a0_10 a0_11 l0_12 a0_13)))=some r:=by rw [if_pos rfl] at H;exact H
       clear H
       have H:=H1
       clear H1
       by_cases c14:a0_6 < 0
       ·rw [if_pos c14] at H
        have c14b0:decide (a0_6 < 0)=true:=decide_eq_true c14
        clear c14
        have H':=Aside0.mk H
        clear H
        have hcz15_0:w3.cell? ⟨gb285,0,none⟩=some (.int .i64 a0_0):=(blk_cell BK285.out 0).trans rfl
        have hcz15_1:w3.cell? ⟨gb285,1,none⟩=some (.int .i64 a0_1):=(blk_cell BK285.out 1).trans rfl
        have hcz15_2:w3.cell? ⟨gb285,2,none⟩=some (.int .i64 a0_2):=(blk_cell BK285.out 2).trans rfl
        have hcz15_3:w3.cell? ⟨gb285,3,none⟩=some (.int .i64 a0_3):=(blk_cell BK285.out 3).trans rfl
        have hcz15_4:w3.cell? ⟨gb285,4,none⟩=some (.string a0_4):=(blk_cell BK285.out 4).trans rfl
        have hcz15_5:w3.cell? ⟨gb285,5,none⟩=some (.int .i64 a0_5):=(blk_cell BK285.out 5).trans rfl
        have hcz15_6:w3.cell? ⟨gb285,6,none⟩=some (.int .i64 a0_6):=(blk_cell BK285.out 6).trans rfl
        have hcz15_7:w3.cell? ⟨gb285,7,none⟩=some (.int .i64 a0_7):=(blk_cell BK285.out 7).trans rfl
        have hcz15_8:w3.cell? ⟨gb285,8,none⟩=some (.int .i64 a0_8):=(blk_cell BK285.out 8).trans rfl
        have hcz15_9:w3.cell? ⟨gb285,9,none⟩=some (.int .i64 a0_9):=(blk_cell BK285.out 9).trans rfl
        have hcz15_10:w3.cell? ⟨gb285,10,none⟩=some (.string a0_10):=(blk_cell BK285.out 10).trans rfl
        have hcz15_11:w3.cell? ⟨gb285,11,none⟩=some (.int .i64 a0_11):=(blk_cell BK285.out 11).trans rfl
        have hcz15_12:w3.cell? ⟨gb285,12,none⟩=some (.slice A0_12 l0_12.length c0_12):=(blk_cell BK285.out 12).trans rfl
        have hcz15_13:w3.cell? ⟨gb285,13,none⟩=some (.bool a0_13):=(blk_cell BK285.out 13).trans rfl
        have hfz15_0:=blk_frozen BK285.out 0
        have hfz15_1:=blk_frozen BK285.out 1
        have hfz15_2:=blk_frozen BK285.out 2
        have hfz15_3:=blk_frozen BK285.out 3
        have hfz15_4:=blk_frozen BK285.out 4
        have hfz15_5:=blk_frozen BK285.out 5
        have hfz15_6:=blk_frozen BK285.out 6
        have hfz15_7:=blk_frozen BK285.out 7
        have hfz15_8:=blk_frozen BK285.out 8
        have hfz15_9:=blk_frozen BK285.out 9
        have hfz15_10:=blk_frozen BK285.out 10
        have hfz15_11:=blk_frozen BK285.out 11
        have hfz15_12:=blk_frozen BK285.out 12
        have hfz15_13:=blk_frozen BK285.out 13
        go_wp2_with (first|(go_at_call 14;(with_reducible refine (factotumref16_Is.calls a0_2 a0_3 a0_4 true _ A12.out).mono ?_);rintro e w16 ⟨rfl,hb⟩;replace BK285:=Aside0.mk (blk_below (g:=gb285) (o:=.cells #[.int .i64 a0_0,.int .i64 a0_1,.int .i64 a0_2,.int .i64 a0_3,.string a0_4,.int .i64 a0_5,.int .i64 a0_6,.int .i64 a0_7,.int .i64 a0_8,.int .i64 a0_9,.string a0_10,.int .i64 a0_11,.slice A0_12 l0_12.length c0_12,.bool a0_13] 30 (0,0)) (by (with_reducible repeat (first|apply zb1|apply zb2|apply zb3));exact BK285.out) hb);replace HB:=Aside0.mk (below_step (by repeat (first|(with_reducible first|exact HB.out|apply zl1|apply zl2|apply zl3|refine below_set ?_ GE285.out)|exact HB.out)) hb);(try clear hb);have hcz17_0:w16.cell? ⟨gb285,0,none⟩=some (.int .i64 a0_0):=(blk_cell BK285.out 0).trans rfl;have hcz17_1:w16.cell? ⟨gb285,1,none⟩=some (.int .i64 a0_1):=(blk_cell BK285.out 1).trans rfl;have hcz17_2:w16.cell? ⟨gb285,2,none⟩=some (.int .i64 a0_2):=(blk_cell BK285.out 2).trans rfl;have hcz17_3:w16.cell? ⟨gb285,3,none⟩=some (.int .i64 a0_3):=(blk_cell BK285.out 3).trans rfl;have hcz17_4:w16.cell? ⟨gb285,4,none⟩=some (.string a0_4):=(blk_cell BK285.out 4).trans rfl;have hcz17_5:w16.cell? ⟨gb285,5,none⟩=some (.int .i64 a0_5):=(blk_cell BK285.out 5).trans rfl;have hcz17_6:w16.cell? ⟨gb285,6,none⟩=some (.int .i64 a0_6):=(blk_cell BK285.out 6).trans rfl;have hcz17_7:w16.cell? ⟨gb285,7,none⟩=some (.int .i64 a0_7):=(blk_cell BK285.out 7).trans rfl;have hcz17_8:w16.cell? ⟨gb285,8,none⟩=some (.int .i64 a0_8):=(blk_cell BK285.out 8).trans rfl;have hcz17_9:w16.cell? ⟨gb285,9,none⟩=some (.int .i64 a0_9):=(blk_cell BK285.out 9).trans rfl;have hcz17_10:w16.cell? ⟨gb285,10,none⟩=some (.string a0_10):=(blk_cell BK285.out 10).trans rfl;have hcz17_11:w16.cell? ⟨gb285,11,none⟩=some (.int .i64 a0_11):=(blk_cell BK285.out 11).trans rfl;have hcz17_12:w16.cell? ⟨gb285,12,none⟩=some (.slice A0_12 l0_12.length c0_12):=(blk_cell BK285.out 12).trans rfl;have hcz17_13:w16.cell? ⟨gb285,13,none⟩=some (.bool a0_13):=(blk_cell BK285.out 13).trans rfl;have hfz17_0:=blk_frozen BK285.out 0;have hfz17_1:=blk_frozen BK285.out 1;have hfz17_2:=blk_frozen BK285.out 2;have hfz17_3:=blk_frozen BK285.out 3;have hfz17_4:=blk_frozen BK285.out 4;have hfz17_5:=blk_frozen BK285.out 5;have hfz17_6:=blk_frozen BK285.out 6;have hfz17_7:=blk_frozen BK285.out 7;have hfz17_8:=blk_frozen BK285.out 8;have hfz17_9:=blk_frozen BK285.out 9;have hfz17_10:=blk_frozen BK285.out 10;have hfz17_11:=blk_frozen BK285.out 11;have hfz17_12:=blk_frozen BK285.out 12;have hfz17_13:=blk_frozen BK285.out 13))
        go_meet
        case rel=>exact ⟨_,(true),(by first|(with_reducible rfl)|(simp;done)|(simp [*];done)|rfl|(simp only [not_isEmpty_bne])),H',⟨by first|omega|exact Nat.le_refl _⟩,⟨by (with_reducible repeat (first|apply zb1|apply zb2|apply zb3));exact BK285.out⟩,⟨by repeat (first|(with_reducible first|exact HB.out|apply zl1|apply zl2|apply zl3|refine below_set ?_ GE285.out)|exact HB.out)⟩⟩
       ·rw [if_neg c14] at H
        have c14b0:decide (a0_6 < 0)=false:=decide_eq_false c14
        clear c14
        by_cases c18:a0_6 > 24
        ·rw [if_pos c18] at H
         have c18b0:decide (24 < a0_6)=true:=decide_eq_true c18
         clear c18
         have H':=Aside0.mk H
         clear H
         have hcz19_0:w3.cell? ⟨gb285,0,none⟩=some (.int .i64 a0_0):=(blk_cell BK285.out 0).trans rfl
         have hcz19_1:w3.cell? ⟨gb285,1,none⟩=some (.int .i64 a0_1):=(blk_cell BK285.out 1).trans rfl
         have hcz19_2:w3.cell? ⟨gb285,2,none⟩=some (.int .i64 a0_2):=(blk_cell BK285.out 2).trans rfl
         have hcz19_3:w3.cell? ⟨gb285,3,none⟩=some (.int .i64 a0_3):=(blk_cell BK285.out 3).trans rfl
         have hcz19_4:w3.cell? ⟨gb285,4,none⟩=some (.string a0_4):=(blk_cell BK285.out 4).trans rfl
         have hcz19_5:w3.cell? ⟨gb285,5,none⟩=some (.int .i64 a0_5):=(blk_cell BK285.out 5).trans rfl
         have hcz19_6:w3.cell? ⟨gb285,6,none⟩=some (.int .i64 a0_6):=(blk_cell BK285.out 6).trans rfl
         have hcz19_7:w3.cell? ⟨gb285,7,none⟩=some (.int .i64 a0_7):=(blk_cell BK285.out 7).trans rfl
         have hcz19_8:w3.cell? ⟨gb285,8,none⟩=some (.int .i64 a0_8):=(blk_cell BK285.out 8).trans rfl
         have hcz19_9:w3.cell? ⟨gb285,9,none⟩=some (.int .i64 a0_9):=(blk_cell BK285.out 9).trans rfl
         have hcz19_10:w3.cell? ⟨gb285,10,none⟩=some (.string a0_10):=(blk_cell BK285.out 10).trans rfl
         have hcz19_11:w3.cell? ⟨gb285,11,none⟩=some (.int .i64 a0_11):=(blk_cell BK285.out 11).trans rfl
         have hcz19_12:w3.cell? ⟨gb285,12,none⟩=some (.slice A0_12 l0_12.length c0_12):=(blk_cell BK285.out 12).trans rfl
         have hcz19_13:w3.cell? ⟨gb285,13,none⟩=some (.bool a0_13):=(blk_cell BK285.out 13).trans rfl
         have hfz19_0:=blk_frozen BK285.out 0
         have hfz19_1:=blk_frozen BK285.out 1
         have hfz19_2:=blk_frozen BK285.out 2
         have hfz19_3:=blk_frozen BK285.out 3
         have hfz19_4:=blk_frozen BK285.out 4
         have hfz19_5:=blk_frozen BK285.out 5
         have hfz19_6:=blk_frozen BK285.out 6
         have hfz19_7:=blk_frozen BK285.out 7
         have hfz19_8:=blk_frozen BK285.out 8
         have hfz19_9:=blk_frozen BK285.out 9
         have hfz19_10:=blk_frozen BK285.out 10
         have hfz19_11:=blk_frozen BK285.out 11
         have hfz19_12:=blk_frozen BK285.out 12
         have hfz19_13:=blk_frozen BK285.out 13
         go_wp2_with (first|(go_at_call 14;(with_reducible refine (factotumref16_Is.calls a0_2 a0_3 a0_4 true _ A12.out).mono ?_);rintro e w20 ⟨rfl,hb⟩;replace BK285:=Aside0.mk (blk_below (g:=gb285) (o:=.cells #[.int .i64 a0_0,.int .i64 a0_1,.int .i64 a0_2,.int .i64 a0_3,.string a0_4,.int .i64 a0_5,.int .i64 a0_6,.int .i64 a0_7,.int .i64 a0_8,.int .i64 a0_9,.string a0_10,.int .i64 a0_11,.slice A0_12 l0_12.length c0_12,.bool a0_13] 30 (0,0)) (by (with_reducible repeat (first|apply zb1|apply zb2|apply zb3));exact BK285.out) hb);replace HB:=Aside0.mk (below_step (by repeat (first|(with_reducible first|exact HB.out|apply zl1|apply zl2|apply zl3|refine below_set ?_ GE285.out)|exact HB.out)) hb);(try clear hb);have hcz21_0:w20.cell? ⟨gb285,0,none⟩=some (.int .i64 a0_0):=(blk_cell BK285.out 0).trans rfl;have hcz21_1:w20.cell? ⟨gb285,1,none⟩=some (.int .i64 a0_1):=(blk_cell BK285.out 1).trans rfl;have hcz21_2:w20.cell? ⟨gb285,2,none⟩=some (.int .i64 a0_2):=(blk_cell BK285.out 2).trans rfl;have hcz21_3:w20.cell? ⟨gb285,3,none⟩=some (.int .i64 a0_3):=(blk_cell BK285.out 3).trans rfl;have hcz21_4:w20.cell? ⟨gb285,4,none⟩=some (.string a0_4):=(blk_cell BK285.out 4).trans rfl;have hcz21_5:w20.cell? ⟨gb285,5,none⟩=some (.int .i64 a0_5):=(blk_cell BK285.out 5).trans rfl;have hcz21_6:w20.cell? ⟨gb285,6,none⟩=some (.int .i64 a0_6):=(blk_cell BK285.out 6).trans rfl;have hcz21_7:w20.cell? ⟨gb285,7,none⟩=some (.int .i64 a0_7):=(blk_cell BK285.out 7).trans rfl;have hcz21_8:w20.cell? ⟨gb285,8,none⟩=some (.int .i64 a0_8):=(blk_cell BK285.out 8).trans rfl;have hcz21_9:w20.cell? ⟨gb285,9,none⟩=some (.int .i64 a0_9):=(blk_cell BK285.out 9).trans rfl;have hcz21_10:w20.cell? ⟨gb285,10,none⟩=some (.string a0_10):=(blk_cell BK285.out 10).trans rfl;have hcz21_11:w20.cell? ⟨gb285,11,none⟩=some (.int .i64 a0_11):=(blk_cell BK285.out 11).trans rfl;have hcz21_12:w20.cell? ⟨gb285,12,none⟩=some (.slice A0_12 l0_12.length c0_12):=(blk_cell BK285.out 12).trans rfl;have hcz21_13:w20.cell? ⟨gb285,13,none⟩=some (.bool a0_13):=(blk_cell BK285.out 13).trans rfl;have hfz21_0:=blk_frozen BK285.out 0;have hfz21_1:=blk_frozen BK285.out 1;have hfz21_2:=blk_frozen BK285.out 2;have hfz21_3:=blk_frozen BK285.out 3;have hfz21_4:=blk_frozen BK285.out 4;have hfz21_5:=blk_frozen BK285.out 5;have hfz21_6:=blk_frozen BK285.out 6;have hfz21_7:=blk_frozen BK285.out 7;have hfz21_8:=blk_frozen BK285.out 8;have hfz21_9:=blk_frozen BK285.out 9;have hfz21_10:=blk_frozen BK285.out 10;have hfz21_11:=blk_frozen BK285.out 11;have hfz21_12:=blk_frozen BK285.out 12;have hfz21_13:=blk_frozen BK285.out 13))
         go_meet
         case rel=>exact ⟨_,(true),(by first|(with_reducible rfl)|(simp;done)|(simp [*];done)|rfl|(simp only [not_isEmpty_bne])),H',⟨by first|omega|exact Nat.le_refl _⟩,⟨by (with_reducible repeat (first|apply zb1|apply zb2|apply zb3));exact BK285.out⟩,⟨by repeat (first|(with_reducible first|exact HB.out|apply zl1|apply zl2|apply zl3|refine below_set ?_ GE285.out)|exact HB.out)⟩⟩
        ·rw [if_neg c18] at H
         have c18b0:decide (24 < a0_6)=false:=decide_eq_false c18
         clear c18
         have H':=Aside0.mk H
         clear H
         have hcz22_0:w3.cell? ⟨gb285,0,none⟩=some (.int .i64 a0_0):=(blk_cell BK285.out 0).trans rfl
         have hcz22_1:w3.cell? ⟨gb285,1,none⟩=some (.int .i64 a0_1):=(blk_cell BK285.out 1).trans rfl
         have hcz22_2:w3.cell? ⟨gb285,2,none⟩=some (.int .i64 a0_2):=(blk_cell BK285.out 2).trans rfl
         have hcz22_3:w3.cell? ⟨gb285,3,none⟩=some (.int .i64 a0_3):=(blk_cell BK285.out 3).trans rfl
         have hcz22_4:w3.cell? ⟨gb285,4,none⟩=some (.string a0_4):=(blk_cell BK285.out 4).trans rfl
         have hcz22_5:w3.cell? ⟨gb285,5,none⟩=some (.int .i64 a0_5):=(blk_cell BK285.out 5).trans rfl
         have hcz22_6:w3.cell? ⟨gb285,6,none⟩=some (.int .i64 a0_6):=(blk_cell BK285.out 6).trans rfl
         have hcz22_7:w3.cell? ⟨gb285,7,none⟩=some (.int .i64 a0_7):=(blk_cell BK285.out 7).trans rfl
         have hcz22_8:w3.cell? ⟨gb285,8,none⟩=some (.int .i64 a0_8):=(blk_cell BK285.out 8).trans rfl
         have hcz22_9:w3.cell? ⟨gb285,9,none⟩=some (.int .i64 a0_9):=(blk_cell BK285.out 9).trans rfl
         have hcz22_10:w3.cell? ⟨gb285,10,none⟩=some (.string a0_10):=(blk_cell BK285.out 10).trans rfl
         have hcz22_11:w3.cell? ⟨gb285,11,none⟩=some (.int .i64 a0_11):=(blk_cell BK285.out 11).trans rfl
         have hcz22_12:w3.cell? ⟨gb285,12,none⟩=some (.slice A0_12 l0_12.length c0_12):=(blk_cell BK285.out 12).trans rfl
         have hcz22_13:w3.cell? ⟨gb285,13,none⟩=some (.bool a0_13):=(blk_cell BK285.out 13).trans rfl
         have hfz22_0:=blk_frozen BK285.out 0
         have hfz22_1:=blk_frozen BK285.out 1
         have hfz22_2:=blk_frozen BK285.out 2
         have hfz22_3:=blk_frozen BK285.out 3
         have hfz22_4:=blk_frozen BK285.out 4
         have hfz22_5:=blk_frozen BK285.out 5
         have hfz22_6:=blk_frozen BK285.out 6
         have hfz22_7:=blk_frozen BK285.out 7
         have hfz22_8:=blk_frozen BK285.out 8
         have hfz22_9:=blk_frozen BK285.out 9
         have hfz22_10:=blk_frozen BK285.out 10
         have hfz22_11:=blk_frozen BK285.out 11
         have hfz22_12:=blk_frozen BK285.out 12
         have hfz22_13:=blk_frozen BK285.out 13
         go_wp2_with (first|(go_at_call 14;(with_reducible refine (factotumref16_Is.calls a0_2 a0_3 a0_4 true _ A12.out).mono ?_);rintro e w23 ⟨rfl,hb⟩;replace BK285:=Aside0.mk (blk_below (g:=gb285) (o:=.cells #[.int .i64 a0_0,.int .i64 a0_1,.int .i64 a0_2,.int .i64 a0_3,.string a0_4,.int .i64 a0_5,.int .i64 a0_6,.int .i64 a0_7,.int .i64 a0_8,.int .i64 a0_9,.string a0_10,.int .i64 a0_11,.slice A0_12 l0_12.length c0_12,.bool a0_13] 30 (0,0)) (by (with_reducible repeat (first|apply zb1|apply zb2|apply zb3));exact BK285.out) hb);replace HB:=Aside0.mk (below_step (by repeat (first|(with_reducible first|exact HB.out|apply zl1|apply zl2|apply zl3|refine below_set ?_ GE285.out)|exact HB.out)) hb);(try clear hb);have hcz24_0:w23.cell? ⟨gb285,0,none⟩=some (.int .i64 a0_0):=(blk_cell BK285.out 0).trans rfl;have hcz24_1:w23.cell? ⟨gb285,1,none⟩=some (.int .i64 a0_1):=(blk_cell BK285.out 1).trans rfl;have hcz24_2:w23.cell? ⟨gb285,2,none⟩=some (.int .i64 a0_2):=(blk_cell BK285.out 2).trans rfl;have hcz24_3:w23.cell? ⟨gb285,3,none⟩=some (.int .i64 a0_3):=(blk_cell BK285.out 3).trans rfl;have hcz24_4:w23.cell? ⟨gb285,4,none⟩=some (.string a0_4):=(blk_cell BK285.out 4).trans rfl;have hcz24_5:w23.cell? ⟨gb285,5,none⟩=some (.int .i64 a0_5):=(blk_cell BK285.out 5).trans rfl;have hcz24_6:w23.cell? ⟨gb285,6,none⟩=some (.int .i64 a0_6):=(blk_cell BK285.out 6).trans rfl;have hcz24_7:w23.cell? ⟨gb285,7,none⟩=some (.int .i64 a0_7):=(blk_cell BK285.out 7).trans rfl;have hcz24_8:w23.cell? ⟨gb285,8,none⟩=some (.int .i64 a0_8):=(blk_cell BK285.out 8).trans rfl;have hcz24_9:w23.cell? ⟨gb285,9,none⟩=some (.int .i64 a0_9):=(blk_cell BK285.out 9).trans rfl;have hcz24_10:w23.cell? ⟨gb285,10,none⟩=some (.string a0_10):=(blk_cell BK285.out 10).trans rfl;have hcz24_11:w23.cell? ⟨gb285,11,none⟩=some (.int .i64 a0_11):=(blk_cell BK285.out 11).trans rfl;have hcz24_12:w23.cell? ⟨gb285,12,none⟩=some (.slice A0_12 l0_12.length c0_12):=(blk_cell BK285.out 12).trans rfl;have hcz24_13:w23.cell? ⟨gb285,13,none⟩=some (.bool a0_13):=(blk_cell BK285.out 13).trans rfl;have hfz24_0:=blk_frozen BK285.out 0;have hfz24_1:=blk_frozen BK285.out 1;have hfz24_2:=blk_frozen BK285.out 2;have hfz24_3:=blk_frozen BK285.out 3;have hfz24_4:=blk_frozen BK285.out 4;have hfz24_5:=blk_frozen BK285.out 5;have hfz24_6:=blk_frozen BK285.out 6;have hfz24_7:=blk_frozen BK285.out 7;have hfz24_8:=blk_frozen BK285.out 8;have hfz24_9:=blk_frozen BK285.out 9;have hfz24_10:=blk_frozen BK285.out 10;have hfz24_11:=blk_frozen BK285.out 11;have hfz24_12:=blk_frozen BK285.out 12;have hfz24_13:=blk_frozen BK285.out 13))
         go_meet
         case rel=>exact ⟨_,(a0_13),(by first|(with_reducible rfl)|(simp;done)|(simp [*];done)|rfl|(simp only [not_isEmpty_bne])),H',⟨by first|omega|exact Nat.le_refl _⟩,⟨by (with_reducible repeat (first|apply zb1|apply zb2|apply zb3));exact BK285.out⟩,⟨by repeat (first|(with_reducible first|exact HB.out|apply zl1|apply zl2|apply zl3|refine below_set ?_ GE285.out)|exact HB.out)⟩⟩
      ·replace c13:=Bool.eq_false_iff.mpr c13
       subst c13
       have H1:(factotumref21_Right.j0 k true a0_0 a0_1 a0_2 a0_3 a0_4 a0_5 a0_6 a0_7 a0_8 a0_9 a0_10 a0_11 l0_12 a0_13)=some r:=by rw [if_neg (show ¬ (false=true) by decide)] at H;exact H
       clear H
       have H:=H1
       clear H1
       have H':=Aside0.mk H
       clear H
       have hcz25_0:w3.cell? ⟨gb285,0,none⟩=some (.int .i64 a0_0):=(blk_cell BK285.out 0).trans rfl
       have hcz25_1:w3.cell? ⟨gb285,1,none⟩=some (.int .i64 a0_1):=(blk_cell BK285.out 1).trans rfl
       have hcz25_2:w3.cell? ⟨gb285,2,none⟩=some (.int .i64 a0_2):=(blk_cell BK285.out 2).trans rfl
       have hcz25_3:w3.cell? ⟨gb285,3,none⟩=some (.int .i64 a0_3):=(blk_cell BK285.out 3).trans rfl
       have hcz25_4:w3.cell? ⟨gb285,4,none⟩=some (.string a0_4):=(blk_cell BK285.out 4).trans rfl
       have hcz25_5:w3.cell? ⟨gb285,5,none⟩=some (.int .i64 a0_5):=(blk_cell BK285.out 5).trans rfl
       have hcz25_6:w3.cell? ⟨gb285,6,none⟩=some (.int .i64 a0_6):=(blk_cell BK285.out 6).trans rfl
       have hcz25_7:w3.cell? ⟨gb285,7,none⟩=some (.int .i64 a0_7):=(blk_cell BK285.out 7).trans rfl
       have hcz25_8:w3.cell? ⟨gb285,8,none⟩=some (.int .i64 a0_8):=(blk_cell BK285.out 8).trans rfl
       have hcz25_9:w3.cell? ⟨gb285,9,none⟩=some (.int .i64 a0_9):=(blk_cell BK285.out 9).trans rfl
       have hcz25_10:w3.cell? ⟨gb285,10,none⟩=some (.string a0_10):=(blk_cell BK285.out 10).trans rfl
       have hcz25_11:w3.cell? ⟨gb285,11,none⟩=some (.int .i64 a0_11):=(blk_cell BK285.out 11).trans rfl
       have hcz25_12:w3.cell? ⟨gb285,12,none⟩=some (.slice A0_12 l0_12.length c0_12):=(blk_cell BK285.out 12).trans rfl
       have hcz25_13:w3.cell? ⟨gb285,13,none⟩=some (.bool a0_13):=(blk_cell BK285.out 13).trans rfl
       have hfz25_0:=blk_frozen BK285.out 0
       have hfz25_1:=blk_frozen BK285.out 1
       have hfz25_2:=blk_frozen BK285.out 2
       have hfz25_3:=blk_frozen BK285.out 3
       have hfz25_4:=blk_frozen BK285.out 4
       have hfz25_5:=blk_frozen BK285.out 5
       have hfz25_6:=blk_frozen BK285.out 6
       have hfz25_7:=blk_frozen BK285.out 7
       have hfz25_8:=blk_frozen BK285.out 8
       have hfz25_9:=blk_frozen BK285.out 9
       have hfz25_10:=blk_frozen BK285.out 10
       have hfz25_11:=blk_frozen BK285.out 11
       have hfz25_12:=blk_frozen BK285.out 12
       have hfz25_13:=blk_frozen BK285.out 13
       go_wp2_with (first|(go_at_call 14;(with_reducible refine (factotumref16_Is.calls a0_2 a0_3 a0_4 false _ A12.out).mono ?_);rintro e w26 ⟨rfl,hb⟩;replace BK285:=Aside0.mk (blk_below (g:=gb285) (o:=.cells #[.int .i64 a0_0,.int .i64 a0_1,.int .i64 a0_2,.int .i64 a0_3,.string a0_4,.int .i64 a0_5,.int .i64 a0_6,.int .i64 a0_7,.int .i64 a0_8,.int .i64 a0_9,.string a0_10,.int .i64 a0_11,.slice A0_12 l0_12.length c0_12,.bool a0_13] 30 (0,0)) (by (with_reducible repeat (first|apply zb1|apply zb2|apply zb3));exact BK285.out) hb);replace HB:=Aside0.mk (below_step (by repeat (first|(with_reducible first|exact HB.out|apply zl1|apply zl2|apply zl3|refine below_set ?_ GE285.out)|exact HB.out)) hb);(try clear hb)))
       go_meet
       case rel=>exact ⟨_,(true),(by first|(with_reducible rfl)|(simp;done)|(simp [*];done)|rfl|(simp only [not_isEmpty_bne])),H',⟨by first|omega|exact Nat.le_refl _⟩,⟨by (with_reducible repeat (first|apply zb1|apply zb2|apply zb3));exact BK285.out⟩,⟨by repeat (first|(with_reducible first|exact HB.out|apply zl1|apply zl2|apply zl3|refine below_set ?_ GE285.out)|exact HB.out)⟩⟩
 case rest =>
  clear HC2
  try clear hcz11_0 hcz11_1 hcz11_10 hcz11_11 hcz11_12 hcz11_13 hcz11_2 hcz11_3 hcz11_4 hcz11_5 hcz11_6 hcz11_7 hcz11_8 hcz11_9 hcz15_0
  try clear c1
  try clear p2
  try clear c4
  try clear c4b0
  try clear c6
  try clear c6b0
  try clear c8
  try clear c8b0
  try clear c10
  try clear c10b0
  try clear c13
  try clear c14
  try clear c14b0
  try clear c18
  try clear c18b0
  try clear hcz15_1 hcz15_10 hcz15_11 hcz15_12 hcz15_13 hcz15_2 hcz15_3 hcz15_4 hcz15_5 hcz15_6 hcz15_7 hcz15_8 hcz15_9 hcz17_0 hcz17_1 hcz17_10 hcz17_11 hcz17_12 hcz17_13 hcz17_2 hcz17_3 hcz17_4 hcz17_5 hcz17_6 hcz17_7 hcz17_8 hcz17_9 hcz19_0 hcz19_1 hcz19_10
  try clear hcz19_11 hcz19_12 hcz19_13 hcz19_2 hcz19_3 hcz19_4 hcz19_5 hcz19_6 hcz19_7 hcz19_8 hcz19_9 hcz21_0 hcz21_1 hcz21_10 hcz21_11 hcz21_12 hcz21_13 hcz21_2 hcz21_3 hcz21_4 hcz21_5 hcz21_6 hcz21_7 hcz21_8 hcz21_9 hcz22_0 hcz22_1 hcz22_10 hcz22_11 hcz22_12
  try clear hcz22_13 hcz22_2 hcz22_3 hcz22_4 hcz22_5 hcz22_6 hcz22_7 hcz22_8 hcz22_9 hcz24_0 hcz24_1 hcz24_10 hcz24_11 hcz24_12 hcz24_13 hcz24_2 hcz24_3 hcz24_4 hcz24_5 hcz24_6 hcz24_7 hcz24_8 hcz24_9 hcz25_0 hcz25_1 hcz25_10 hcz25_11 hcz25_12 hcz25_13 hcz25_2
  try clear hcz25_3 hcz25_4 hcz25_5 hcz25_6 hcz25_7 hcz25_8 hcz25_9 hcz5_0 hcz5_1 hcz5_10 hcz5_11 hcz5_12 hcz5_13 hcz5_2 hcz5_3 hcz5_4 hcz5_5 hcz5_6 hcz5_7 hcz5_8 hcz5_9 hcz7_0 hcz7_1 hcz7_10 hcz7_11 hcz7_12 hcz7_13 hcz7_2 hcz7_3 hcz7_4
  try clear hfz11_0 hfz11_1 hfz11_10 hfz11_11 hfz11_12 hfz11_13 hfz11_2 hfz11_3 hfz11_4 hfz11_5 hfz11_6
  try clear hcz7_5 hcz7_6 hcz7_7 hcz7_8 hcz7_9 hcz9_0 hcz9_1 hcz9_10 hcz9_11 hcz9_12 hcz9_13 hcz9_2 hcz9_3 hcz9_4 hcz9_5 hcz9_6 hcz9_7 hcz9_8 hcz9_9
  try clear hfz11_7 hfz11_8 hfz11_9 hfz15_0 hfz15_1 hfz15_10 hfz15_11 hfz15_12 hfz15_13 hfz15_2 hfz15_3 hfz15_4 hfz15_5 hfz15_6 hfz15_7 hfz15_8 hfz15_9 hfz17_0 hfz17_1 hfz17_10 hfz17_11 hfz17_12 hfz17_13 hfz17_2 hfz17_3 hfz17_4 hfz17_5 hfz17_6 hfz17_7 hfz17_8
  try clear hfz17_9 hfz19_0 hfz19_1 hfz19_10 hfz19_11 hfz19_12 hfz19_13 hfz19_2 hfz19_3 hfz19_4 hfz19_5 hfz19_6 hfz19_7 hfz19_8 hfz19_9 hfz21_0 hfz21_1 hfz21_10 hfz21_11 hfz21_12 hfz21_13 hfz21_2 hfz21_3 hfz21_4 hfz21_5 hfz21_6 hfz21_7 hfz21_8 hfz21_9 hfz22_0
  try clear hfz22_1 hfz22_10 hfz22_11 hfz22_12 hfz22_13 hfz22_2 hfz22_3 hfz22_4 hfz22_5 hfz22_6 hfz22_7 hfz22_8 hfz22_9 hfz24_0 hfz24_1 hfz24_10 hfz24_11 hfz24_12 hfz24_13 hfz24_2 hfz24_3 hfz24_4 hfz24_5 hfz24_6 hfz24_7 hfz24_8 hfz24_9 hfz25_0 hfz25_1 hfz25_10
  try clear hfz25_11 hfz25_12 hfz25_13 hfz25_2 hfz25_3 hfz25_4 hfz25_5 hfz25_6 hfz25_7 hfz25_8 hfz25_9 hfz5_0 hfz5_1 hfz5_10 hfz5_11 hfz5_12 hfz5_13 hfz5_2 hfz5_3 hfz5_4 hfz5_5 hfz5_6 hfz5_7 hfz5_8 hfz5_9 hfz7_0 hfz7_1 hfz7_10 hfz7_11 hfz7_12
  try clear hfz7_13 hfz7_2 hfz7_3 hfz7_4 hfz7_5 hfz7_6 hfz7_7 hfz7_8 hfz7_9 hfz9_0 hfz9_1 hfz9_10 hfz9_11 hfz9_12 hfz9_13 hfz9_2 hfz9_3 hfz9_4 hfz9_5 hfz9_6 hfz9_7 hfz9_8 hfz9_9
  obtain ⟨kq,x42_1,rfl,HA,HJ1,BK285,HB⟩:=hcut
  cases kq with
  | zero=>exact absurd HA.out (by simp [factotumref21_Right.j0])
  | succ kj1 =>
   have H:=HA.out
   clear HA
   simp only [factotumref21_Right.j0] at H
   by_cases c27:x42_1=true
   ·subst c27
    have H1:(some false)=some r:=by rw [if_pos rfl] at H;exact H
    clear H
    have H:=H1
    clear H1
    obtain rfl:=Option.some.inj H
    go_wp2
    go_ret
    exact ⟨by first|(with_reducible rfl)|(simp only [isEmpty_bne,Bool.not_not] <;> rfl)|rfl|(simp [*,errW_none,errW_some] <;> rfl),by repeat (first|(with_reducible first|exact HB.out|apply zl1|apply zl2|apply zl3|refine below_set ?_ GE285.out)|exact HB.out)⟩
   ·replace c27:=Bool.eq_false_iff.mpr c27
    subst c27
    have H1:(if a0_11=0 then (factotumref21_Right.j1 kj1 (a0_8 == 0 && (a0_9 == 0 && (a0_10.toList == ([]:List UInt8)))) ((l0_12.length:Int) == 0) a0_0 a0_1 a0_2 a0_3 a0_4 a0_5 a0_6 a0_7 a0_8 a0_9 a0_10 a0_11 l0_12 a0_13) else (factotumref21_Right.j1 kj1 (a0_8 == 0 && (a0_9 == 0 && (a0_10.toList == ([]:List UInt8)))) false a0_0 a0_1 a0_2 a0_3 a0_4 a0_5 a0_6 a0_7 a0_8 a0_9 a0_10 a0_11 l0_12 a0_13))=some r:=by rw [if_neg (show ¬ (false=true) by decide)] at H;exact H
    clear H
    have H:=H1
    clear H1
    have HC28:=Aside0.mk H
    clear H
    have hcz29_0:wc.cell? ⟨gb285,0,none⟩=some (.int .i64 a0_0):=(blk_cell BK285.out 0).trans rfl
    have hcz29_1:wc.cell? ⟨gb285,1,none⟩=some (.int .i64 a0_1):=(blk_cell BK285.out 1).trans rfl
    have hcz29_2:wc.cell? ⟨gb285,2,none⟩=some (.int .i64 a0_2):=(blk_cell BK285.out 2).trans rfl
    have hcz29_3:wc.cell? ⟨gb285,3,none⟩=some (.int .i64 a0_3):=(blk_cell BK285.out 3).trans rfl
    have hcz29_4:wc.cell? ⟨gb285,4,none⟩=some (.string a0_4):=(blk_cell BK285.out 4).trans rfl
    have hcz29_5:wc.cell? ⟨gb285,5,none⟩=some (.int .i64 a0_5):=(blk_cell BK285.out 5).trans rfl
    have hcz29_6:wc.cell? ⟨gb285,6,none⟩=some (.int .i64 a0_6):=(blk_cell BK285.out 6).trans rfl
    have hcz29_7:wc.cell? ⟨gb285,7,none⟩=some (.int .i64 a0_7):=(blk_cell BK285.out 7).trans rfl
    have hcz29_8:wc.cell? ⟨gb285,8,none⟩=some (.int .i64 a0_8):=(blk_cell BK285.out 8).trans rfl
    have hcz29_9:wc.cell? ⟨gb285,9,none⟩=some (.int .i64 a0_9):=(blk_cell BK285.out 9).trans rfl
    have hcz29_10:wc.cell? ⟨gb285,10,none⟩=some (.string a0_10):=(blk_cell BK285.out 10).trans rfl
    have hcz29_11:wc.cell? ⟨gb285,11,none⟩=some (.int .i64 a0_11):=(blk_cell BK285.out 11).trans rfl
    have hcz29_12:wc.cell? ⟨gb285,12,none⟩=some (.slice A0_12 l0_12.length c0_12):=(blk_cell BK285.out 12).trans rfl
    have hcz29_13:wc.cell? ⟨gb285,13,none⟩=some (.bool a0_13):=(blk_cell BK285.out 13).trans rfl
    have hfz29_0:=blk_frozen BK285.out 0
    have hfz29_1:=blk_frozen BK285.out 1
    have hfz29_2:=blk_frozen BK285.out 2
    have hfz29_3:=blk_frozen BK285.out 3
    have hfz29_4:=blk_frozen BK285.out 4
    have hfz29_5:=blk_frozen BK285.out 5
    have hfz29_6:=blk_frozen BK285.out 6
    have hfz29_7:=blk_frozen BK285.out 7
    have hfz29_8:=blk_frozen BK285.out 8
    have hfz29_9:=blk_frozen BK285.out 9
    have hfz29_10:=blk_frozen BK285.out 10
    have hfz29_11:=blk_frozen BK285.out 11
    have hfz29_12:=blk_frozen BK285.out 12
    have hfz29_13:=blk_frozen BK285.out 13
    go_upto_region 4 with (fail)
    go_cut [4] (fun v4 wc=>∃ (kq:Nat) (x4_27:Bool),v4=.bool x4_27∧Aside0 (factotumref21_Right.j1 kq (a0_8 == 0 && (a0_9 == 0 && (a0_10.toList == ([]:List UInt8)))) x4_27 a0_0 a0_1 a0_2 a0_3 a0_4 a0_5 a0_6 a0_7 a0_8 a0_9 a0_10 a0_11 l0_12 a0_13=some r)∧Aside0 (kq≤kj1)∧Aside0 (wc.heap[gb285]?=some (.cells #[.int .i64 a0_0,.int .i64 a0_1,.int .i64 a0_2,.int .i64 a0_3,.string a0_4,.int .i64 a0_5,.int .i64 a0_6,.int .i64 a0_7,.int .i64 a0_8,.int .i64 a0_9,.string a0_10,.int .i64 a0_11,(.slice A0_12 l0_12.length c0_12),.bool a0_13] 30 (0,0)))∧Aside0 (Below w.heap.size w wc))
    case first =>
     have H:=HC28.out
     clear HC28
     by_cases c30:a0_11=0
     ·rw [if_pos c30] at H
      have c30b0:(a0_11 == 0)=true:=beq_iff_eq.mpr c30
      have c30b1:(a0_11 != 0)=false:=bne_eq_false_iff_eq.mpr c30
      clear c30
      (first|rw [c30b0]|(simp only [i64_w,i32_w];rw [c30b0])|skip)
      have H':=Aside0.mk H
      clear H
      have hcz31_0:wc.cell? ⟨gb285,0,none⟩=some (.int .i64 a0_0):=(blk_cell BK285.out 0).trans rfl
      have hcz31_1:wc.cell? ⟨gb285,1,none⟩=some (.int .i64 a0_1):=(blk_cell BK285.out 1).trans rfl
      have hcz31_2:wc.cell? ⟨gb285,2,none⟩=some (.int .i64 a0_2):=(blk_cell BK285.out 2).trans rfl
      have hcz31_3:wc.cell? ⟨gb285,3,none⟩=some (.int .i64 a0_3):=(blk_cell BK285.out 3).trans rfl
      have hcz31_4:wc.cell? ⟨gb285,4,none⟩=some (.string a0_4):=(blk_cell BK285.out 4).trans rfl
      have hcz31_5:wc.cell? ⟨gb285,5,none⟩=some (.int .i64 a0_5):=(blk_cell BK285.out 5).trans rfl
      have hcz31_6:wc.cell? ⟨gb285,6,none⟩=some (.int .i64 a0_6):=(blk_cell BK285.out 6).trans rfl
      have hcz31_7:wc.cell? ⟨gb285,7,none⟩=some (.int .i64 a0_7):=(blk_cell BK285.out 7).trans rfl
      have hcz31_8:wc.cell? ⟨gb285,8,none⟩=some (.int .i64 a0_8):=(blk_cell BK285.out 8).trans rfl
      have hcz31_9:wc.cell? ⟨gb285,9,none⟩=some (.int .i64 a0_9):=(blk_cell BK285.out 9).trans rfl
      have hcz31_10:wc.cell? ⟨gb285,10,none⟩=some (.string a0_10):=(blk_cell BK285.out 10).trans rfl
      have hcz31_11:wc.cell? ⟨gb285,11,none⟩=some (.int .i64 a0_11):=(blk_cell BK285.out 11).trans rfl
      have hcz31_12:wc.cell? ⟨gb285,12,none⟩=some (.slice A0_12 l0_12.length c0_12):=(blk_cell BK285.out 12).trans rfl
      have hcz31_13:wc.cell? ⟨gb285,13,none⟩=some (.bool a0_13):=(blk_cell BK285.out 13).trans rfl
      have hfz31_0:=blk_frozen BK285.out 0
      have hfz31_1:=blk_frozen BK285.out 1
      have hfz31_2:=blk_frozen BK285.out 2
      have hfz31_3:=blk_frozen BK285.out 3
      have hfz31_4:=blk_frozen BK285.out 4
      have hfz31_5:=blk_frozen BK285.out 5
      have hfz31_6:=blk_frozen BK285.out 6
      have hfz31_7:=blk_frozen BK285.out 7
      have hfz31_8:=blk_frozen BK285.out 8
      have hfz31_9:=blk_frozen BK285.out 9
      have hfz31_10:=blk_frozen BK285.out 10
      have hfz31_11:=blk_frozen BK285.out 11
      have hfz31_12:=blk_frozen BK285.out 12
      have hfz31_13:=blk_frozen BK285.out 13
      go_wp2
      go_meet
      case rel=>exact ⟨_,(((l0_12.length:Int) == 0)),(by first|(with_reducible rfl)|(simp;done)|(simp [*];done)|rfl|(simp only [not_isEmpty_bne])),H',⟨by have:=HJ1.out;first|omega|exact Nat.le_refl _⟩,⟨by (with_reducible repeat (first|apply zb1|apply zb2|apply zb3));exact BK285.out⟩,⟨by repeat (first|(with_reducible first|exact HB.out|apply zl1|apply zl2|apply zl3|refine below_set ?_ GE285.out)|exact HB.out)⟩⟩
     ·rw [if_neg c30] at H
      have c30b0:(a0_11 == 0)=false:=beq_eq_false_iff_ne.mpr c30
      have c30b1:(a0_11 != 0)=true:=bne_iff_ne.mpr c30
      (first|rw [c30b0]|(simp only [i64_w,i32_w];rw [c30b0])|skip)
      have H':=Aside0.mk H
      clear H
      have hcz32_0:wc.cell? ⟨gb285,0,none⟩=some (.int .i64 a0_0):=(blk_cell BK285.out 0).trans rfl
      have hcz32_1:wc.cell? ⟨gb285,1,none⟩=some (.int .i64 a0_1):=(blk_cell BK285.out 1).trans rfl
      have hcz32_2:wc.cell? ⟨gb285,2,none⟩=some (.int .i64 a0_2):=(blk_cell BK285.out 2).trans rfl
      have hcz32_3:wc.cell? ⟨gb285,3,none⟩=some (.int .i64 a0_3):=(blk_cell BK285.out 3).trans rfl
      have hcz32_4:wc.cell? ⟨gb285,4,none⟩=some (.string a0_4):=(blk_cell BK285.out 4).trans rfl
      have hcz32_5:wc.cell? ⟨gb285,5,none⟩=some (.int .i64 a0_5):=(blk_cell BK285.out 5).trans rfl
      have hcz32_6:wc.cell? ⟨gb285,6,none⟩=some (.int .i64 a0_6):=(blk_cell BK285.out 6).trans rfl
      have hcz32_7:wc.cell? ⟨gb285,7,none⟩=some (.int .i64 a0_7):=(blk_cell BK285.out 7).trans rfl
      have hcz32_8:wc.cell? ⟨gb285,8,none⟩=some (.int .i64 a0_8):=(blk_cell BK285.out 8).trans rfl
      have hcz32_9:wc.cell? ⟨gb285,9,none⟩=some (.int .i64 a0_9):=(blk_cell BK285.out 9).trans rfl
      have hcz32_10:wc.cell? ⟨gb285,10,none⟩=some (.string a0_10):=(blk_cell BK285.out 10).trans rfl
      have hcz32_11:wc.cell? ⟨gb285,11,none⟩=some (.int .i64 a0_11):=(blk_cell BK285.out 11).trans rfl
      have hcz32_12:wc.cell? ⟨gb285,12,none⟩=some (.slice A0_12 l0_12.length c0_12):=(blk_cell BK285.out 12).trans rfl
      have hcz32_13:wc.cell? ⟨gb285,13,none⟩=some (.bool a0_13):=(blk_cell BK285.out 13).trans rfl
      have hfz32_0:=blk_frozen BK285.out 0
      have hfz32_1:=blk_frozen BK285.out 1
      have hfz32_2:=blk_frozen BK285.out 2
      have hfz32_3:=blk_frozen BK285.out 3
      have hfz32_4:=blk_frozen BK285.out 4
      have hfz32_5:=blk_frozen BK285.out 5
      have hfz32_6:=blk_frozen BK285.out 6
      have hfz32_7:=blk_frozen BK285.out 7
      have hfz32_8:=blk_frozen BK285.out 8
      have hfz32_9:=blk_frozen BK285.out 9
      have hfz32_10:=blk_frozen BK285.out 10
      have hfz32_11:=blk_frozen BK285.out 11
      have hfz32_12:=blk_frozen BK285.out 12
      have hfz32_13:=blk_frozen BK285.out 13
      go_wp2
      go_meet
      case rel=>exact ⟨_,(false),(by first|(with_reducible rfl)|(simp;done)|(simp [*];done)|rfl|(simp only [not_isEmpty_bne])),H',⟨by have:=HJ1.out;first|omega|exact Nat.le_refl _⟩,⟨by (with_reducible repeat (first|apply zb1|apply zb2|apply zb3));exact BK285.out⟩,⟨by repeat (first|(with_reducible first|exact HB.out|apply zl1|apply zl2|apply zl3|refine below_set ?_ GE285.out)|exact HB.out)⟩⟩
    case rest =>
     clear HC28
     try clear hcz11_0 hcz11_1 hcz11_10 hcz11_11 hcz11_12 hcz11_13 hcz11_2 hcz11_3 hcz11_4
     try clear c1
     try clear c2
     try clear p2
     try clear c3
     try clear c4
     try clear c4b0
     try clear c6
     try clear c6b0
     try clear c8
     try clear c8b0
     try clear c10
     try clear c10b0
     try clear c13
     try clear c14
     try clear c14b0
     try clear c18
     try clear c18b0
     try clear c27
     try clear c30
     try clear c30b0
     try clear c30b1
     try clear hcz11_5 hcz11_6 hcz11_7 hcz11_8 hcz11_9 hcz15_0 hcz15_1 hcz15_10 hcz15_11 hcz15_12 hcz15_13 hcz15_2 hcz15_3 hcz15_4 hcz15_5 hcz15_6 hcz15_7 hcz15_8 hcz15_9 hcz17_0 hcz17_1 hcz17_10 hcz17_11 hcz17_12 hcz17_13 hcz17_2 hcz17_3 hcz17_4 hcz17_5 hcz17_6
     try clear hcz17_7 hcz17_8 hcz17_9 hcz19_0 hcz19_1 hcz19_10 hcz19_11 hcz19_12 hcz19_13 hcz19_2 hcz19_3 hcz19_4 hcz19_5 hcz19_6 hcz19_7 hcz19_8 hcz19_9 hcz21_0 hcz21_1 hcz21_10 hcz21_11 hcz21_12 hcz21_13 hcz21_2 hcz21_3 hcz21_4 hcz21_5 hcz21_6 hcz21_7 hcz21_8
     try clear hcz21_9 hcz22_0 hcz22_1 hcz22_10 hcz22_11 hcz22_12 hcz22_13 hcz22_2 hcz22_3 hcz22_4 hcz22_5 hcz22_6 hcz22_7 hcz22_8 hcz22_9 hcz24_0 hcz24_1 hcz24_10 hcz24_11 hcz24_12 hcz24_13 hcz24_2 hcz24_3 hcz24_4 hcz24_5 hcz24_6 hcz24_7 hcz24_8 hcz24_9 hcz25_0
     try clear hcz25_1 hcz25_10 hcz25_11 hcz25_12 hcz25_13 hcz25_2 hcz25_3 hcz25_4 hcz25_5 hcz25_6 hcz25_7 hcz25_8 hcz25_9 hcz29_0 hcz29_1 hcz29_10 hcz29_11 hcz29_12 hcz29_13 hcz29_2 hcz29_3 hcz29_4 hcz29_5 hcz29_6 hcz29_7 hcz29_8 hcz29_9 hcz31_0 hcz31_1 hcz31_10
     try clear hcz31_11 hcz31_12 hcz31_13 hcz31_2 hcz31_3 hcz31_4 hcz31_5 hcz31_6 hcz31_7 hcz31_8 hcz31_9 hcz32_0 hcz32_1 hcz32_10 hcz32_11 hcz32_12 hcz32_13 hcz32_2 hcz32_3 hcz32_4 hcz32_5 hcz32_6 hcz32_7 hcz32_8 hcz32_9 hcz5_0 hcz5_1 hcz5_10 hcz5_11 hcz5_12
     try clear hcz5_13 hcz5_2 hcz5_3 hcz5_4 hcz5_5 hcz5_6 hcz5_7 hcz5_8 hcz5_9 hcz7_0 hcz7_1 hcz7_10 hcz7_11 hcz7_12 hcz7_13 hcz7_2 hcz7_3 hcz7_4 hcz7_5 hcz7_6 hcz7_7 hcz7_8 hcz7_9 hcz9_0 hcz9_1 hcz9_10 hcz9_11 hcz9_12 hcz9_13 hcz9_2
     try clear hfz11_0 hfz11_1 hfz11_10 hfz11_11 hfz11_12 hfz11_13 hfz11_2 hfz11_3 hfz11_4 hfz11_5 hfz11_6 hfz11_7 hfz11_8 hfz11_9 hfz15_0 hfz15_1 hfz15_10 hfz15_11 hfz15_12 hfz15_13 hfz15_2 hfz15_3 hfz15_4
     try clear hcz9_3 hcz9_4 hcz9_5 hcz9_6 hcz9_7 hcz9_8 hcz9_9
     try clear hfz15_5 hfz15_6 hfz15_7 hfz15_8 hfz15_9 hfz17_0 hfz17_1 hfz17_10 hfz17_11 hfz17_12 hfz17_13 hfz17_2 hfz17_3 hfz17_4 hfz17_5 hfz17_6 hfz17_7 hfz17_8 hfz17_9 hfz19_0 hfz19_1 hfz19_10 hfz19_11 hfz19_12 hfz19_13 hfz19_2 hfz19_3 hfz19_4 hfz19_5 hfz19_6
     try clear hfz19_7 hfz19_8 hfz19_9 hfz21_0 hfz21_1 hfz21_10 hfz21_11 hfz21_12 hfz21_13 hfz21_2 hfz21_3 hfz21_4 hfz21_5 hfz21_6 hfz21_7 hfz21_8 hfz21_9 hfz22_0 hfz22_1 hfz22_10 hfz22_11 hfz22_12 hfz22_13 hfz22_2 hfz22_3 hfz22_4 hfz22_5 hfz22_6 hfz22_7 hfz22_8
     try clear hfz22_9 hfz24_0 hfz24_1 hfz24_10 hfz24_11 hfz24_12 hfz24_13 hfz24_2 hfz24_3 hfz24_4 hfz24_5 hfz24_6 hfz24_7 hfz24_8 hfz24_9 hfz25_0 hfz25_1 hfz25_10 hfz25_11 hfz25_12 hfz25_13 hfz25_2 hfz25_3 hfz25_4 hfz25_5 hfz25_6 hfz25_7 hfz25_8 hfz25_9 hfz29_0
     try clear hfz29_1 hfz29_10 hfz29_11 hfz29_12 hfz29_13 hfz29_2 hfz29_3 hfz29_4 hfz29_5 hfz29_6 hfz29_7 hfz29_8 hfz29_9 hfz31_0 hfz31_1 hfz31_10 hfz31_11 hfz31_12 hfz31_13 hfz31_2 hfz31_3 hfz31_4 hfz31_5 hfz31_6 hfz31_7 hfz31_8 hfz31_9 hfz32_0 hfz32_1 hfz32_10
     try clear hfz32_11 hfz32_12 hfz32_13 hfz32_2 hfz32_3 hfz32_4 hfz32_5 hfz32_6 hfz32_7 hfz32_8 hfz32_9 hfz5_0 hfz5_1 hfz5_10 hfz5_11 hfz5_12 hfz5_13 hfz5_2 hfz5_3 hfz5_4 hfz5_5 hfz5_6 hfz5_7 hfz5_8 hfz5_9 hfz7_0 hfz7_1 hfz7_10 hfz7_11 hfz7_12
     try clear hfz7_13 hfz7_2 hfz7_3 hfz7_4 hfz7_5 hfz7_6 hfz7_7 hfz7_8 hfz7_9 hfz9_0 hfz9_1 hfz9_10 hfz9_11 hfz9_12 hfz9_13 hfz9_2 hfz9_3 hfz9_4 hfz9_5 hfz9_6 hfz9_7 hfz9_8 hfz9_9
     try clear p2
     obtain ⟨kq,x4_27,rfl,HA,HJ27,BK285,HB⟩:=hcut
     cases kq with
     | zero=>exact absurd HA.out (by simp [factotumref21_Right.j1])
     | succ kj27 =>
      have H:=HA.out
      clear HA
      simp only [factotumref21_Right.j1] at H
      by_cases c33:a0_5=1
      ·rw [if_pos c33] at H
       have c33b0:(a0_5 == 1)=true:=beq_iff_eq.mpr c33
       have c33b1:(a0_5 != 1)=false:=bne_eq_false_iff_eq.mpr c33
       clear c33
       by_cases c34:a0_7=0
       ·rw [if_pos c34] at H
        have c34b0:(a0_7 == 0)=true:=beq_iff_eq.mpr c34
        have c34b1:(a0_7 != 0)=false:=bne_eq_false_iff_eq.mpr c34
        clear c34
        by_cases c35:(a0_8 == 0 && (a0_9 == 0 && (a0_10.toList == ([]:List UInt8))))=true
        ·rw [if_pos c35] at H
         have c35b0:(a0_8 == 0 && (a0_9 == 0 && (a0_10.toList == ([]:List UInt8))))=true:=c35
         (try (have c35b7:(a0_8 == 0 && (a0_9 == 0 && (a0_10.toList.isEmpty)))=true:=by simp only [isEmpty_beq];exact c35b0))
         (try (have c35b1:decide (a0_8=0 && (a0_9 == 0 && (a0_10.toList == ([]:List UInt8))))=true:=by simpa using c35))
         (try (have c35b2:(a0_8 == 0 && (a0_9 == 0 && (a0_10.toList == ([]:List UInt8))))=true:=by simpa using c35))
         clear c35
         replace H:=Option.bind_eq_some_iff.mp H
         obtain ⟨t287,A360,H⟩:=H
         replace H:(some t287)=some r:=H
         have A36:=Aside0.mk A360
         clear A360
         obtain rfl:=Option.some.inj H
         have hcz37_0:wc.cell? ⟨gb285,0,none⟩=some (.int .i64 a0_0):=(blk_cell BK285.out 0).trans rfl
         have hcz37_1:wc.cell? ⟨gb285,1,none⟩=some (.int .i64 a0_1):=(blk_cell BK285.out 1).trans rfl
         have hcz37_2:wc.cell? ⟨gb285,2,none⟩=some (.int .i64 a0_2):=(blk_cell BK285.out 2).trans rfl
         have hcz37_3:wc.cell? ⟨gb285,3,none⟩=some (.int .i64 a0_3):=(blk_cell BK285.out 3).trans rfl
         have hcz37_4:wc.cell? ⟨gb285,4,none⟩=some (.string a0_4):=(blk_cell BK285.out 4).trans rfl
         have hcz37_5:wc.cell? ⟨gb285,5,none⟩=some (.int .i64 a0_5):=(blk_cell BK285.out 5).trans rfl
         have hcz37_6:wc.cell? ⟨gb285,6,none⟩=some (.int .i64 a0_6):=(blk_cell BK285.out 6).trans rfl
         have hcz37_7:wc.cell? ⟨gb285,7,none⟩=some (.int .i64 a0_7):=(blk_cell BK285.out 7).trans rfl
         have hcz37_8:wc.cell? ⟨gb285,8,none⟩=some (.int .i64 a0_8):=(blk_cell BK285.out 8).trans rfl
         have hcz37_9:wc.cell? ⟨gb285,9,none⟩=some (.int .i64 a0_9):=(blk_cell BK285.out 9).trans rfl
         have hcz37_10:wc.cell? ⟨gb285,10,none⟩=some (.string a0_10):=(blk_cell BK285.out 10).trans rfl
         have hcz37_11:wc.cell? ⟨gb285,11,none⟩=some (.int .i64 a0_11):=(blk_cell BK285.out 11).trans rfl
         have hcz37_12:wc.cell? ⟨gb285,12,none⟩=some (.slice A0_12 l0_12.length c0_12):=(blk_cell BK285.out 12).trans rfl
         have hcz37_13:wc.cell? ⟨gb285,13,none⟩=some (.bool a0_13):=(blk_cell BK285.out 13).trans rfl
         have hfz37_0:=blk_frozen BK285.out 0
         have hfz37_1:=blk_frozen BK285.out 1
         have hfz37_2:=blk_frozen BK285.out 2
         have hfz37_3:=blk_frozen BK285.out 3
         have hfz37_4:=blk_frozen BK285.out 4
         have hfz37_5:=blk_frozen BK285.out 5
         have hfz37_6:=blk_frozen BK285.out 6
         have hfz37_7:=blk_frozen BK285.out 7
         have hfz37_8:=blk_frozen BK285.out 8
         have hfz37_9:=blk_frozen BK285.out 9
         have hfz37_10:=blk_frozen BK285.out 10
         have hfz37_11:=blk_frozen BK285.out 11
         have hfz37_12:=blk_frozen BK285.out 12
         have hfz37_13:=blk_frozen BK285.out 13
         go_wp2_with (first|(go_at_call 38;(with_reducible refine (factotumref21_frame.calls kj27 a0_11 _ _ l0_12 t287 _ ?side1 ?side2 A36.out).mono ?_);(case side1=>repeat (first|exact (Kd.C_below HR0_12.out HB.out)|(with_reducible refine Kd.C_alloc ?_ _)|(with_reducible refine Kd.C_drewN ?_ _)|(with_reducible refine Kd.C_drew ?_)));(case side2=>exact HC0_12.out);rintro e w38 ⟨rfl,hb⟩;replace BK285:=Aside0.mk (blk_below (g:=gb285) (o:=.cells #[.int .i64 a0_0,.int .i64 a0_1,.int .i64 a0_2,.int .i64 a0_3,.string a0_4,.int .i64 a0_5,.int .i64 a0_6,.int .i64 a0_7,.int .i64 a0_8,.int .i64 a0_9,.string a0_10,.int .i64 a0_11,.slice A0_12 l0_12.length c0_12,.bool a0_13] 30 (0,0)) (by (with_reducible repeat (first|apply zb1|apply zb2|apply zb3));exact BK285.out) hb);replace HB:=Aside0.mk (below_step (by repeat (first|(with_reducible first|exact HB.out|apply zl1|apply zl2|apply zl3|refine below_set ?_ GE285.out)|exact HB.out)) hb);(try clear hb)))
         go_ret
         exact ⟨by first|(with_reducible rfl)|(simp only [isEmpty_bne,Bool.not_not] <;> rfl)|rfl|(simp [*,errW_none,errW_some] <;> rfl),by repeat (first|(with_reducible first|exact HB.out|apply zl1|apply zl2|apply zl3|refine below_set ?_ GE285.out)|exact HB.out)⟩
        ·rw [if_neg c35] at H
         have c35b0:(a0_8 == 0 && (a0_9 == 0 && (a0_10.toList == ([]:List UInt8))))=false:=by simpa using c35
         (try (have c35b7:(a0_8 == 0 && (a0_9 == 0 && (a0_10.toList.isEmpty)))=false:=by simp only [isEmpty_beq];exact c35b0))
         (try (have c35b1:decide (a0_8=0 && (a0_9 == 0 && (a0_10.toList == ([]:List UInt8))))=false:=by simpa using c35))
         (try (have c35b2:(a0_8 == 0 && (a0_9 == 0 && (a0_10.toList == ([]:List UInt8))))=false:=by simpa using c35))
         (try (have c35b3:¬ (a0_8=0 && (a0_9 == 0 && (a0_10.toList == ([]:List UInt8)))):=by simpa using c35))
         clear c35
         obtain rfl:=Option.some.inj H
         have hcz39_0:wc.cell? ⟨gb285,0,none⟩=some (.int .i64 a0_0):=(blk_cell BK285.out 0).trans rfl
         have hcz39_1:wc.cell? ⟨gb285,1,none⟩=some (.int .i64 a0_1):=(blk_cell BK285.out 1).trans rfl
         have hcz39_2:wc.cell? ⟨gb285,2,none⟩=some (.int .i64 a0_2):=(blk_cell BK285.out 2).trans rfl
         have hcz39_3:wc.cell? ⟨gb285,3,none⟩=some (.int .i64 a0_3):=(blk_cell BK285.out 3).trans rfl
         have hcz39_4:wc.cell? ⟨gb285,4,none⟩=some (.string a0_4):=(blk_cell BK285.out 4).trans rfl
         have hcz39_5:wc.cell? ⟨gb285,5,none⟩=some (.int .i64 a0_5):=(blk_cell BK285.out 5).trans rfl
         have hcz39_6:wc.cell? ⟨gb285,6,none⟩=some (.int .i64 a0_6):=(blk_cell BK285.out 6).trans rfl
         have hcz39_7:wc.cell? ⟨gb285,7,none⟩=some (.int .i64 a0_7):=(blk_cell BK285.out 7).trans rfl
         have hcz39_8:wc.cell? ⟨gb285,8,none⟩=some (.int .i64 a0_8):=(blk_cell BK285.out 8).trans rfl
         have hcz39_9:wc.cell? ⟨gb285,9,none⟩=some (.int .i64 a0_9):=(blk_cell BK285.out 9).trans rfl
         have hcz39_10:wc.cell? ⟨gb285,10,none⟩=some (.string a0_10):=(blk_cell BK285.out 10).trans rfl
         have hcz39_11:wc.cell? ⟨gb285,11,none⟩=some (.int .i64 a0_11):=(blk_cell BK285.out 11).trans rfl
         have hcz39_12:wc.cell? ⟨gb285,12,none⟩=some (.slice A0_12 l0_12.length c0_12):=(blk_cell BK285.out 12).trans rfl
         have hcz39_13:wc.cell? ⟨gb285,13,none⟩=some (.bool a0_13):=(blk_cell BK285.out 13).trans rfl
         have hfz39_0:=blk_frozen BK285.out 0
         have hfz39_1:=blk_frozen BK285.out 1
         have hfz39_2:=blk_frozen BK285.out 2
         have hfz39_3:=blk_frozen BK285.out 3
         have hfz39_4:=blk_frozen BK285.out 4
         have hfz39_5:=blk_frozen BK285.out 5
         have hfz39_6:=blk_frozen BK285.out 6
         have hfz39_7:=blk_frozen BK285.out 7
         have hfz39_8:=blk_frozen BK285.out 8
         have hfz39_9:=blk_frozen BK285.out 9
         have hfz39_10:=blk_frozen BK285.out 10
         have hfz39_11:=blk_frozen BK285.out 11
         have hfz39_12:=blk_frozen BK285.out 12
         have hfz39_13:=blk_frozen BK285.out 13
         go_wp2
         go_ret
         exact ⟨by first|(with_reducible rfl)|(simp only [isEmpty_bne,Bool.not_not] <;> rfl)|rfl|(simp [*,errW_none,errW_some] <;> rfl),by repeat (first|(with_reducible first|exact HB.out|apply zl1|apply zl2|apply zl3|refine below_set ?_ GE285.out)|exact HB.out)⟩
       ·rw [if_neg c34] at H
        have c34b0:(a0_7 == 0)=false:=beq_eq_false_iff_ne.mpr c34
        have c34b1:(a0_7 != 0)=true:=bne_iff_ne.mpr c34
        obtain rfl:=Option.some.inj H
        have hcz40_0:wc.cell? ⟨gb285,0,none⟩=some (.int .i64 a0_0):=(blk_cell BK285.out 0).trans rfl
        have hcz40_1:wc.cell? ⟨gb285,1,none⟩=some (.int .i64 a0_1):=(blk_cell BK285.out 1).trans rfl
        have hcz40_2:wc.cell? ⟨gb285,2,none⟩=some (.int .i64 a0_2):=(blk_cell BK285.out 2).trans rfl
        have hcz40_3:wc.cell? ⟨gb285,3,none⟩=some (.int .i64 a0_3):=(blk_cell BK285.out 3).trans rfl
        have hcz40_4:wc.cell? ⟨gb285,4,none⟩=some (.string a0_4):=(blk_cell BK285.out 4).trans rfl
        have hcz40_5:wc.cell? ⟨gb285,5,none⟩=some (.int .i64 a0_5):=(blk_cell BK285.out 5).trans rfl
        have hcz40_6:wc.cell? ⟨gb285,6,none⟩=some (.int .i64 a0_6):=(blk_cell BK285.out 6).trans rfl
        have hcz40_7:wc.cell? ⟨gb285,7,none⟩=some (.int .i64 a0_7):=(blk_cell BK285.out 7).trans rfl
        have hcz40_8:wc.cell? ⟨gb285,8,none⟩=some (.int .i64 a0_8):=(blk_cell BK285.out 8).trans rfl
        have hcz40_9:wc.cell? ⟨gb285,9,none⟩=some (.int .i64 a0_9):=(blk_cell BK285.out 9).trans rfl
        have hcz40_10:wc.cell? ⟨gb285,10,none⟩=some (.string a0_10):=(blk_cell BK285.out 10).trans rfl
        have hcz40_11:wc.cell? ⟨gb285,11,none⟩=some (.int .i64 a0_11):=(blk_cell BK285.out 11).trans rfl
        have hcz40_12:wc.cell? ⟨gb285,12,none⟩=some (.slice A0_12 l0_12.length c0_12):=(blk_cell BK285.out 12).trans rfl
        have hcz40_13:wc.cell? ⟨gb285,13,none⟩=some (.bool a0_13):=(blk_cell BK285.out 13).trans rfl
        have hfz40_0:=blk_frozen BK285.out 0
        have hfz40_1:=blk_frozen BK285.out 1
        have hfz40_2:=blk_frozen BK285.out 2
        have hfz40_3:=blk_frozen BK285.out 3
        have hfz40_4:=blk_frozen BK285.out 4
        have hfz40_5:=blk_frozen BK285.out 5
        have hfz40_6:=blk_frozen BK285.out 6
        have hfz40_7:=blk_frozen BK285.out 7
        have hfz40_8:=blk_frozen BK285.out 8
        have hfz40_9:=blk_frozen BK285.out 9
        have hfz40_10:=blk_frozen BK285.out 10
        have hfz40_11:=blk_frozen BK285.out 11
        have hfz40_12:=blk_frozen BK285.out 12
        have hfz40_13:=blk_frozen BK285.out 13
        go_wp2
        go_ret
        exact ⟨by first|(with_reducible rfl)|(simp only [isEmpty_bne,Bool.not_not] <;> rfl)|rfl|(simp [*,errW_none,errW_some] <;> rfl),by repeat (first|(with_reducible first|exact HB.out|apply zl1|apply zl2|apply zl3|refine below_set ?_ GE285.out)|exact HB.out)⟩
      ·rw [if_neg c33] at H
       have c33b0:(a0_5 == 1)=false:=beq_eq_false_iff_ne.mpr c33
       have c33b1:(a0_5 != 1)=true:=bne_iff_ne.mpr c33
       by_cases c41:a0_5=2
       ·rw [if_pos c41] at H
        have c41b0:(a0_5 == 2)=true:=beq_iff_eq.mpr c41
        have c41b1:(a0_5 != 2)=false:=bne_eq_false_iff_eq.mpr c41
        clear c41
        by_cases c42:a0_7 ≥ 0
        ·rw [if_pos c42] at H
         have c42b0:decide (0≤a0_7)=true:=decide_eq_true c42
         clear c42
         by_cases c43:a0_7≤1152921504606846976
         ·rw [if_pos c43] at H
          have c43b0:decide (a0_7≤1152921504606846976)=true:=decide_eq_true c43
          clear c43
          by_cases c44:(a0_8 == 0 && (a0_9 == 0 && (a0_10.toList == ([]:List UInt8))))=true
          ·rw [if_pos c44] at H
           have c44b0:(a0_8 == 0 && (a0_9 == 0 && (a0_10.toList == ([]:List UInt8))))=true:=c44
           (try (have c44b7:(a0_8 == 0 && (a0_9 == 0 && (a0_10.toList.isEmpty)))=true:=by simp only [isEmpty_beq];exact c44b0))
           (try (have c44b1:decide (a0_8=0 && (a0_9 == 0 && (a0_10.toList == ([]:List UInt8))))=true:=by simpa using c44))
           (try (have c44b2:(a0_8 == 0 && (a0_9 == 0 && (a0_10.toList == ([]:List UInt8))))=true:=by simpa using c44))
           clear c44
           replace H:=Option.bind_eq_some_iff.mp H
           obtain ⟨t288,A450,H⟩:=H
           replace H:(some t288)=some r:=H
           have A45:=Aside0.mk A450
           clear A450
           obtain rfl:=Option.some.inj H
           have hcz46_0:wc.cell? ⟨gb285,0,none⟩=some (.int .i64 a0_0):=(blk_cell BK285.out 0).trans rfl
           have hcz46_1:wc.cell? ⟨gb285,1,none⟩=some (.int .i64 a0_1):=(blk_cell BK285.out 1).trans rfl
           have hcz46_2:wc.cell? ⟨gb285,2,none⟩=some (.int .i64 a0_2):=(blk_cell BK285.out 2).trans rfl
           have hcz46_3:wc.cell? ⟨gb285,3,none⟩=some (.int .i64 a0_3):=(blk_cell BK285.out 3).trans rfl
           have hcz46_4:wc.cell? ⟨gb285,4,none⟩=some (.string a0_4):=(blk_cell BK285.out 4).trans rfl
           have hcz46_5:wc.cell? ⟨gb285,5,none⟩=some (.int .i64 a0_5):=(blk_cell BK285.out 5).trans rfl
           have hcz46_6:wc.cell? ⟨gb285,6,none⟩=some (.int .i64 a0_6):=(blk_cell BK285.out 6).trans rfl
           have hcz46_7:wc.cell? ⟨gb285,7,none⟩=some (.int .i64 a0_7):=(blk_cell BK285.out 7).trans rfl
           have hcz46_8:wc.cell? ⟨gb285,8,none⟩=some (.int .i64 a0_8):=(blk_cell BK285.out 8).trans rfl
           have hcz46_9:wc.cell? ⟨gb285,9,none⟩=some (.int .i64 a0_9):=(blk_cell BK285.out 9).trans rfl
           have hcz46_10:wc.cell? ⟨gb285,10,none⟩=some (.string a0_10):=(blk_cell BK285.out 10).trans rfl
           have hcz46_11:wc.cell? ⟨gb285,11,none⟩=some (.int .i64 a0_11):=(blk_cell BK285.out 11).trans rfl
           have hcz46_12:wc.cell? ⟨gb285,12,none⟩=some (.slice A0_12 l0_12.length c0_12):=(blk_cell BK285.out 12).trans rfl
           have hcz46_13:wc.cell? ⟨gb285,13,none⟩=some (.bool a0_13):=(blk_cell BK285.out 13).trans rfl
           have hfz46_0:=blk_frozen BK285.out 0
           have hfz46_1:=blk_frozen BK285.out 1
           have hfz46_2:=blk_frozen BK285.out 2
           have hfz46_3:=blk_frozen BK285.out 3
           have hfz46_4:=blk_frozen BK285.out 4
           have hfz46_5:=blk_frozen BK285.out 5
           have hfz46_6:=blk_frozen BK285.out 6
           have hfz46_7:=blk_frozen BK285.out 7
           have hfz46_8:=blk_frozen BK285.out 8
           have hfz46_9:=blk_frozen BK285.out 9
           have hfz46_10:=blk_frozen BK285.out 10
           have hfz46_11:=blk_frozen BK285.out 11
           have hfz46_12:=blk_frozen BK285.out 12
           have hfz46_13:=blk_frozen BK285.out 13
           go_wp2_with (first|(go_at_call 38;(with_reducible refine (factotumref21_frame.calls kj27 a0_11 _ _ l0_12 t288 _ ?side1 ?side2 A45.out).mono ?_);(case side1=>repeat (first|exact (Kd.C_below HR0_12.out HB.out)|(with_reducible refine Kd.C_alloc ?_ _)|(with_reducible refine Kd.C_drewN ?_ _)|(with_reducible refine Kd.C_drew ?_)));(case side2=>exact HC0_12.out);rintro e w47 ⟨rfl,hb⟩;replace BK285:=Aside0.mk (blk_below (g:=gb285) (o:=.cells #[.int .i64 a0_0,.int .i64 a0_1,.int .i64 a0_2,.int .i64 a0_3,.string a0_4,.int .i64 a0_5,.int .i64 a0_6,.int .i64 a0_7,.int .i64 a0_8,.int .i64 a0_9,.string a0_10,.int .i64 a0_11,.slice A0_12 l0_12.length c0_12,.bool a0_13] 30 (0,0)) (by (with_reducible repeat (first|apply zb1|apply zb2|apply zb3));exact BK285.out) hb);replace HB:=Aside0.mk (below_step (by repeat (first|(with_reducible first|exact HB.out|apply zl1|apply zl2|apply zl3|refine below_set ?_ GE285.out)|exact HB.out)) hb);(try clear hb)))
           go_ret
           exact ⟨by first|(with_reducible rfl)|(simp only [isEmpty_bne,Bool.not_not] <;> rfl)|rfl|(simp [*,errW_none,errW_some] <;> rfl),by repeat (first|(with_reducible first|exact HB.out|apply zl1|apply zl2|apply zl3|refine below_set ?_ GE285.out)|exact HB.out)⟩
          ·rw [if_neg c44] at H
           have c44b0:(a0_8 == 0 && (a0_9 == 0 && (a0_10.toList == ([]:List UInt8))))=false:=by simpa using c44
           (try (have c44b7:(a0_8 == 0 && (a0_9 == 0 && (a0_10.toList.isEmpty)))=false:=by simp only [isEmpty_beq];exact c44b0))
           (try (have c44b1:decide (a0_8=0 && (a0_9 == 0 && (a0_10.toList == ([]:List UInt8))))=false:=by simpa using c44))
           (try (have c44b2:(a0_8 == 0 && (a0_9 == 0 && (a0_10.toList == ([]:List UInt8))))=false:=by simpa using c44))
           (try (have c44b3:¬ (a0_8=0 && (a0_9 == 0 && (a0_10.toList == ([]:List UInt8)))):=by simpa using c44))
           clear c44
           obtain rfl:=Option.some.inj H
           have hcz48_0:wc.cell? ⟨gb285,0,none⟩=some (.int .i64 a0_0):=(blk_cell BK285.out 0).trans rfl
           have hcz48_1:wc.cell? ⟨gb285,1,none⟩=some (.int .i64 a0_1):=(blk_cell BK285.out 1).trans rfl
           have hcz48_2:wc.cell? ⟨gb285,2,none⟩=some (.int .i64 a0_2):=(blk_cell BK285.out 2).trans rfl
           have hcz48_3:wc.cell? ⟨gb285,3,none⟩=some (.int .i64 a0_3):=(blk_cell BK285.out 3).trans rfl
           have hcz48_4:wc.cell? ⟨gb285,4,none⟩=some (.string a0_4):=(blk_cell BK285.out 4).trans rfl
           have hcz48_5:wc.cell? ⟨gb285,5,none⟩=some (.int .i64 a0_5):=(blk_cell BK285.out 5).trans rfl
           have hcz48_6:wc.cell? ⟨gb285,6,none⟩=some (.int .i64 a0_6):=(blk_cell BK285.out 6).trans rfl
           have hcz48_7:wc.cell? ⟨gb285,7,none⟩=some (.int .i64 a0_7):=(blk_cell BK285.out 7).trans rfl
           have hcz48_8:wc.cell? ⟨gb285,8,none⟩=some (.int .i64 a0_8):=(blk_cell BK285.out 8).trans rfl
           have hcz48_9:wc.cell? ⟨gb285,9,none⟩=some (.int .i64 a0_9):=(blk_cell BK285.out 9).trans rfl
           have hcz48_10:wc.cell? ⟨gb285,10,none⟩=some (.string a0_10):=(blk_cell BK285.out 10).trans rfl
           have hcz48_11:wc.cell? ⟨gb285,11,none⟩=some (.int .i64 a0_11):=(blk_cell BK285.out 11).trans rfl
           have hcz48_12:wc.cell? ⟨gb285,12,none⟩=some (.slice A0_12 l0_12.length c0_12):=(blk_cell BK285.out 12).trans rfl
           have hcz48_13:wc.cell? ⟨gb285,13,none⟩=some (.bool a0_13):=(blk_cell BK285.out 13).trans rfl
           have hfz48_0:=blk_frozen BK285.out 0
           have hfz48_1:=blk_frozen BK285.out 1
           have hfz48_2:=blk_frozen BK285.out 2
           have hfz48_3:=blk_frozen BK285.out 3
           have hfz48_4:=blk_frozen BK285.out 4
           have hfz48_5:=blk_frozen BK285.out 5
           have hfz48_6:=blk_frozen BK285.out 6
           have hfz48_7:=blk_frozen BK285.out 7
           have hfz48_8:=blk_frozen BK285.out 8
           have hfz48_9:=blk_frozen BK285.out 9
           have hfz48_10:=blk_frozen BK285.out 10
           have hfz48_11:=blk_frozen BK285.out 11
           have hfz48_12:=blk_frozen BK285.out 12
           have hfz48_13:=blk_frozen BK285.out 13
           go_wp2
           go_ret
           exact ⟨by first|(with_reducible rfl)|(simp only [isEmpty_bne,Bool.not_not] <;> rfl)|rfl|(simp [*,errW_none,errW_some] <;> rfl),by repeat (first|(with_reducible first|exact HB.out|apply zl1|apply zl2|apply zl3|refine below_set ?_ GE285.out)|exact HB.out)⟩
         ·rw [if_neg c43] at H
          have c43b0:decide (a0_7≤1152921504606846976)=false:=decide_eq_false c43
          clear c43
          obtain rfl:=Option.some.inj H
          have hcz49_0:wc.cell? ⟨gb285,0,none⟩=some (.int .i64 a0_0):=(blk_cell BK285.out 0).trans rfl
          have hcz49_1:wc.cell? ⟨gb285,1,none⟩=some (.int .i64 a0_1):=(blk_cell BK285.out 1).trans rfl
          have hcz49_2:wc.cell? ⟨gb285,2,none⟩=some (.int .i64 a0_2):=(blk_cell BK285.out 2).trans rfl
          have hcz49_3:wc.cell? ⟨gb285,3,none⟩=some (.int .i64 a0_3):=(blk_cell BK285.out 3).trans rfl
          have hcz49_4:wc.cell? ⟨gb285,4,none⟩=some (.string a0_4):=(blk_cell BK285.out 4).trans rfl
          have hcz49_5:wc.cell? ⟨gb285,5,none⟩=some (.int .i64 a0_5):=(blk_cell BK285.out 5).trans rfl
          have hcz49_6:wc.cell? ⟨gb285,6,none⟩=some (.int .i64 a0_6):=(blk_cell BK285.out 6).trans rfl
          have hcz49_7:wc.cell? ⟨gb285,7,none⟩=some (.int .i64 a0_7):=(blk_cell BK285.out 7).trans rfl
          have hcz49_8:wc.cell? ⟨gb285,8,none⟩=some (.int .i64 a0_8):=(blk_cell BK285.out 8).trans rfl
          have hcz49_9:wc.cell? ⟨gb285,9,none⟩=some (.int .i64 a0_9):=(blk_cell BK285.out 9).trans rfl
          have hcz49_10:wc.cell? ⟨gb285,10,none⟩=some (.string a0_10):=(blk_cell BK285.out 10).trans rfl
          have hcz49_11:wc.cell? ⟨gb285,11,none⟩=some (.int .i64 a0_11):=(blk_cell BK285.out 11).trans rfl
          have hcz49_12:wc.cell? ⟨gb285,12,none⟩=some (.slice A0_12 l0_12.length c0_12):=(blk_cell BK285.out 12).trans rfl
          have hcz49_13:wc.cell? ⟨gb285,13,none⟩=some (.bool a0_13):=(blk_cell BK285.out 13).trans rfl
          have hfz49_0:=blk_frozen BK285.out 0
          have hfz49_1:=blk_frozen BK285.out 1
          have hfz49_2:=blk_frozen BK285.out 2
          have hfz49_3:=blk_frozen BK285.out 3
          have hfz49_4:=blk_frozen BK285.out 4
          have hfz49_5:=blk_frozen BK285.out 5
          have hfz49_6:=blk_frozen BK285.out 6
          have hfz49_7:=blk_frozen BK285.out 7
          have hfz49_8:=blk_frozen BK285.out 8
          have hfz49_9:=blk_frozen BK285.out 9
          have hfz49_10:=blk_frozen BK285.out 10
          have hfz49_11:=blk_frozen BK285.out 11
          have hfz49_12:=blk_frozen BK285.out 12
          have hfz49_13:=blk_frozen BK285.out 13
          go_wp2
          go_ret
          exact ⟨by first|(with_reducible rfl)|(simp only [isEmpty_bne,Bool.not_not] <;> rfl)|rfl|(simp [*,errW_none,errW_some] <;> rfl),by repeat (first|(with_reducible first|exact HB.out|apply zl1|apply zl2|apply zl3|refine below_set ?_ GE285.out)|exact HB.out)⟩
        ·rw [if_neg c42] at H
         have c42b0:decide (0≤a0_7)=false:=decide_eq_false c42
         clear c42
         obtain rfl:=Option.some.inj H
         have hcz50_0:wc.cell? ⟨gb285,0,none⟩=some (.int .i64 a0_0):=(blk_cell BK285.out 0).trans rfl
         have hcz50_1:wc.cell? ⟨gb285,1,none⟩=some (.int .i64 a0_1):=(blk_cell BK285.out 1).trans rfl
         have hcz50_2:wc.cell? ⟨gb285,2,none⟩=some (.int .i64 a0_2):=(blk_cell BK285.out 2).trans rfl
         have hcz50_3:wc.cell? ⟨gb285,3,none⟩=some (.int .i64 a0_3):=(blk_cell BK285.out 3).trans rfl
         have hcz50_4:wc.cell? ⟨gb285,4,none⟩=some (.string a0_4):=(blk_cell BK285.out 4).trans rfl
         have hcz50_5:wc.cell? ⟨gb285,5,none⟩=some (.int .i64 a0_5):=(blk_cell BK285.out 5).trans rfl
         have hcz50_6:wc.cell? ⟨gb285,6,none⟩=some (.int .i64 a0_6):=(blk_cell BK285.out 6).trans rfl
         have hcz50_7:wc.cell? ⟨gb285,7,none⟩=some (.int .i64 a0_7):=(blk_cell BK285.out 7).trans rfl
         have hcz50_8:wc.cell? ⟨gb285,8,none⟩=some (.int .i64 a0_8):=(blk_cell BK285.out 8).trans rfl
         have hcz50_9:wc.cell? ⟨gb285,9,none⟩=some (.int .i64 a0_9):=(blk_cell BK285.out 9).trans rfl
         have hcz50_10:wc.cell? ⟨gb285,10,none⟩=some (.string a0_10):=(blk_cell BK285.out 10).trans rfl
         have hcz50_11:wc.cell? ⟨gb285,11,none⟩=some (.int .i64 a0_11):=(blk_cell BK285.out 11).trans rfl
         have hcz50_12:wc.cell? ⟨gb285,12,none⟩=some (.slice A0_12 l0_12.length c0_12):=(blk_cell BK285.out 12).trans rfl
         have hcz50_13:wc.cell? ⟨gb285,13,none⟩=some (.bool a0_13):=(blk_cell BK285.out 13).trans rfl
         have hfz50_0:=blk_frozen BK285.out 0
         have hfz50_1:=blk_frozen BK285.out 1
         have hfz50_2:=blk_frozen BK285.out 2
         have hfz50_3:=blk_frozen BK285.out 3
         have hfz50_4:=blk_frozen BK285.out 4
         have hfz50_5:=blk_frozen BK285.out 5
         have hfz50_6:=blk_frozen BK285.out 6
         have hfz50_7:=blk_frozen BK285.out 7
         have hfz50_8:=blk_frozen BK285.out 8
         have hfz50_9:=blk_frozen BK285.out 9
         have hfz50_10:=blk_frozen BK285.out 10
         have hfz50_11:=blk_frozen BK285.out 11
         have hfz50_12:=blk_frozen BK285.out 12
         have hfz50_13:=blk_frozen BK285.out 13
         go_wp2
         go_ret
         exact ⟨by first|(with_reducible rfl)|(simp only [isEmpty_bne,Bool.not_not] <;> rfl)|rfl|(simp [*,errW_none,errW_some] <;> rfl),by repeat (first|(with_reducible first|exact HB.out|apply zl1|apply zl2|apply zl3|refine below_set ?_ GE285.out)|exact HB.out)⟩
       ·rw [if_neg c41] at H
        have c41b0:(a0_5 == 2)=false:=beq_eq_false_iff_ne.mpr c41
        have c41b1:(a0_5 != 2)=true:=bne_iff_ne.mpr c41
        by_cases c51:a0_5=3
        ·rw [if_pos c51] at H
         have c51b0:(a0_5 == 3)=true:=beq_iff_eq.mpr c51
         have c51b1:(a0_5 != 3)=false:=bne_eq_false_iff_eq.mpr c51
         clear c51
         by_cases c52:a0_7=0
         ·rw [if_pos c52] at H
          have c52b0:(a0_7 == 0)=true:=beq_iff_eq.mpr c52
          have c52b1:(a0_7 != 0)=false:=bne_eq_false_iff_eq.mpr c52
          clear c52
          replace H:=Option.bind_eq_some_iff.mp H
          obtain ⟨t289,A530,H⟩:=H
          replace H:(if t289=true then (some x4_27) else (some false))=some r:=H
          have A53:=Aside0.mk A530
          clear A530
          by_cases c54:t289=true
          ·subst c54
           have H1:(some x4_27)=some r:=by rw [if_pos rfl] at H;exact H
           clear H
           have H:=H1
           clear H1
           obtain rfl:=Option.some.inj H
           have hcz55_0:wc.cell? ⟨gb285,0,none⟩=some (.int .i64 a0_0):=(blk_cell BK285.out 0).trans rfl
           have hcz55_1:wc.cell? ⟨gb285,1,none⟩=some (.int .i64 a0_1):=(blk_cell BK285.out 1).trans rfl
           have hcz55_2:wc.cell? ⟨gb285,2,none⟩=some (.int .i64 a0_2):=(blk_cell BK285.out 2).trans rfl
           have hcz55_3:wc.cell? ⟨gb285,3,none⟩=some (.int .i64 a0_3):=(blk_cell BK285.out 3).trans rfl
           have hcz55_4:wc.cell? ⟨gb285,4,none⟩=some (.string a0_4):=(blk_cell BK285.out 4).trans rfl
           have hcz55_5:wc.cell? ⟨gb285,5,none⟩=some (.int .i64 a0_5):=(blk_cell BK285.out 5).trans rfl
           have hcz55_6:wc.cell? ⟨gb285,6,none⟩=some (.int .i64 a0_6):=(blk_cell BK285.out 6).trans rfl
           have hcz55_7:wc.cell? ⟨gb285,7,none⟩=some (.int .i64 a0_7):=(blk_cell BK285.out 7).trans rfl
           have hcz55_8:wc.cell? ⟨gb285,8,none⟩=some (.int .i64 a0_8):=(blk_cell BK285.out 8).trans rfl
           have hcz55_9:wc.cell? ⟨gb285,9,none⟩=some (.int .i64 a0_9):=(blk_cell BK285.out 9).trans rfl
           have hcz55_10:wc.cell? ⟨gb285,10,none⟩=some (.string a0_10):=(blk_cell BK285.out 10).trans rfl
           have hcz55_11:wc.cell? ⟨gb285,11,none⟩=some (.int .i64 a0_11):=(blk_cell BK285.out 11).trans rfl
           have hcz55_12:wc.cell? ⟨gb285,12,none⟩=some (.slice A0_12 l0_12.length c0_12):=(blk_cell BK285.out 12).trans rfl
           have hcz55_13:wc.cell? ⟨gb285,13,none⟩=some (.bool a0_13):=(blk_cell BK285.out 13).trans rfl
           have hfz55_0:=blk_frozen BK285.out 0
           have hfz55_1:=blk_frozen BK285.out 1
           have hfz55_2:=blk_frozen BK285.out 2
           have hfz55_3:=blk_frozen BK285.out 3
           have hfz55_4:=blk_frozen BK285.out 4
           have hfz55_5:=blk_frozen BK285.out 5
           have hfz55_6:=blk_frozen BK285.out 6
           have hfz55_7:=blk_frozen BK285.out 7
           have hfz55_8:=blk_frozen BK285.out 8
           have hfz55_9:=blk_frozen BK285.out 9
           have hfz55_10:=blk_frozen BK285.out 10
           have hfz55_11:=blk_frozen BK285.out 11
           have hfz55_12:=blk_frozen BK285.out 12
           have hfz55_13:=blk_frozen BK285.out 13
           go_wp2_with (first|(go_at_call 14;(with_reducible refine (factotumref16_Is.calls a0_8 a0_9 a0_10 true _ A53.out).mono ?_);rintro e w56 ⟨rfl,hb⟩;replace BK285:=Aside0.mk (blk_below (g:=gb285) (o:=.cells #[.int .i64 a0_0,.int .i64 a0_1,.int .i64 a0_2,.int .i64 a0_3,.string a0_4,.int .i64 a0_5,.int .i64 a0_6,.int .i64 a0_7,.int .i64 a0_8,.int .i64 a0_9,.string a0_10,.int .i64 a0_11,.slice A0_12 l0_12.length c0_12,.bool a0_13] 30 (0,0)) (by (with_reducible repeat (first|apply zb1|apply zb2|apply zb3));exact BK285.out) hb);replace HB:=Aside0.mk (below_step (by repeat (first|(with_reducible first|exact HB.out|apply zl1|apply zl2|apply zl3|refine below_set ?_ GE285.out)|exact HB.out)) hb);(try clear hb)))
           go_ret
           exact ⟨by first|(with_reducible rfl)|(simp only [isEmpty_bne,Bool.not_not] <;> rfl)|rfl|(simp [*,errW_none,errW_some] <;> rfl),by repeat (first|(with_reducible first|exact HB.out|apply zl1|apply zl2|apply zl3|refine below_set ?_ GE285.out)|exact HB.out)⟩
          ·replace c54:=Bool.eq_false_iff.mpr c54
           subst c54
           have H1:(some false)=some r:=by rw [if_neg (show ¬ (false=true) by decide)] at H;exact H
           clear H
           have H:=H1
           clear H1
           obtain rfl:=Option.some.inj H
           have hcz57_0:wc.cell? ⟨gb285,0,none⟩=some (.int .i64 a0_0):=(blk_cell BK285.out 0).trans rfl
           have hcz57_1:wc.cell? ⟨gb285,1,none⟩=some (.int .i64 a0_1):=(blk_cell BK285.out 1).trans rfl
           have hcz57_2:wc.cell? ⟨gb285,2,none⟩=some (.int .i64 a0_2):=(blk_cell BK285.out 2).trans rfl
           have hcz57_3:wc.cell? ⟨gb285,3,none⟩=some (.int .i64 a0_3):=(blk_cell BK285.out 3).trans rfl
           have hcz57_4:wc.cell? ⟨gb285,4,none⟩=some (.string a0_4):=(blk_cell BK285.out 4).trans rfl
           have hcz57_5:wc.cell? ⟨gb285,5,none⟩=some (.int .i64 a0_5):=(blk_cell BK285.out 5).trans rfl
           have hcz57_6:wc.cell? ⟨gb285,6,none⟩=some (.int .i64 a0_6):=(blk_cell BK285.out 6).trans rfl
           have hcz57_7:wc.cell? ⟨gb285,7,none⟩=some (.int .i64 a0_7):=(blk_cell BK285.out 7).trans rfl
           have hcz57_8:wc.cell? ⟨gb285,8,none⟩=some (.int .i64 a0_8):=(blk_cell BK285.out 8).trans rfl
           have hcz57_9:wc.cell? ⟨gb285,9,none⟩=some (.int .i64 a0_9):=(blk_cell BK285.out 9).trans rfl
           have hcz57_10:wc.cell? ⟨gb285,10,none⟩=some (.string a0_10):=(blk_cell BK285.out 10).trans rfl
           have hcz57_11:wc.cell? ⟨gb285,11,none⟩=some (.int .i64 a0_11):=(blk_cell BK285.out 11).trans rfl
           have hcz57_12:wc.cell? ⟨gb285,12,none⟩=some (.slice A0_12 l0_12.length c0_12):=(blk_cell BK285.out 12).trans rfl
           have hcz57_13:wc.cell? ⟨gb285,13,none⟩=some (.bool a0_13):=(blk_cell BK285.out 13).trans rfl
           have hfz57_0:=blk_frozen BK285.out 0
           have hfz57_1:=blk_frozen BK285.out 1
           have hfz57_2:=blk_frozen BK285.out 2
           have hfz57_3:=blk_frozen BK285.out 3
           have hfz57_4:=blk_frozen BK285.out 4
           have hfz57_5:=blk_frozen BK285.out 5
           have hfz57_6:=blk_frozen BK285.out 6
           have hfz57_7:=blk_frozen BK285.out 7
           have hfz57_8:=blk_frozen BK285.out 8
           have hfz57_9:=blk_frozen BK285.out 9
           have hfz57_10:=blk_frozen BK285.out 10
           have hfz57_11:=blk_frozen BK285.out 11
           have hfz57_12:=blk_frozen BK285.out 12
           have hfz57_13:=blk_frozen BK285.out 13
           go_wp2_with (first|(go_at_call 14;(with_reducible refine (factotumref16_Is.calls a0_8 a0_9 a0_10 false _ A53.out).mono ?_);rintro e w58 ⟨rfl,hb⟩;replace BK285:=Aside0.mk (blk_below (g:=gb285) (o:=.cells #[.int .i64 a0_0,.int .i64 a0_1,.int .i64 a0_2,.int .i64 a0_3,.string a0_4,.int .i64 a0_5,.int .i64 a0_6,.int .i64 a0_7,.int .i64 a0_8,.int .i64 a0_9,.string a0_10,.int .i64 a0_11,.slice A0_12 l0_12.length c0_12,.bool a0_13] 30 (0,0)) (by (with_reducible repeat (first|apply zb1|apply zb2|apply zb3));exact BK285.out) hb);replace HB:=Aside0.mk (below_step (by repeat (first|(with_reducible first|exact HB.out|apply zl1|apply zl2|apply zl3|refine below_set ?_ GE285.out)|exact HB.out)) hb);(try clear hb)))
           go_ret
           exact ⟨by first|(with_reducible rfl)|(simp only [isEmpty_bne,Bool.not_not] <;> rfl)|rfl|(simp [*,errW_none,errW_some] <;> rfl),by repeat (first|(with_reducible first|exact HB.out|apply zl1|apply zl2|apply zl3|refine below_set ?_ GE285.out)|exact HB.out)⟩
         ·rw [if_neg c52] at H
          have c52b0:(a0_7 == 0)=false:=beq_eq_false_iff_ne.mpr c52
          have c52b1:(a0_7 != 0)=true:=bne_iff_ne.mpr c52
          obtain rfl:=Option.some.inj H
          have hcz59_0:wc.cell? ⟨gb285,0,none⟩=some (.int .i64 a0_0):=(blk_cell BK285.out 0).trans rfl
          have hcz59_1:wc.cell? ⟨gb285,1,none⟩=some (.int .i64 a0_1):=(blk_cell BK285.out 1).trans rfl
          have hcz59_2:wc.cell? ⟨gb285,2,none⟩=some (.int .i64 a0_2):=(blk_cell BK285.out 2).trans rfl
          have hcz59_3:wc.cell? ⟨gb285,3,none⟩=some (.int .i64 a0_3):=(blk_cell BK285.out 3).trans rfl
          have hcz59_4:wc.cell? ⟨gb285,4,none⟩=some (.string a0_4):=(blk_cell BK285.out 4).trans rfl
          have hcz59_5:wc.cell? ⟨gb285,5,none⟩=some (.int .i64 a0_5):=(blk_cell BK285.out 5).trans rfl
          have hcz59_6:wc.cell? ⟨gb285,6,none⟩=some (.int .i64 a0_6):=(blk_cell BK285.out 6).trans rfl
          have hcz59_7:wc.cell? ⟨gb285,7,none⟩=some (.int .i64 a0_7):=(blk_cell BK285.out 7).trans rfl
          have hcz59_8:wc.cell? ⟨gb285,8,none⟩=some (.int .i64 a0_8):=(blk_cell BK285.out 8).trans rfl
          have hcz59_9:wc.cell? ⟨gb285,9,none⟩=some (.int .i64 a0_9):=(blk_cell BK285.out 9).trans rfl
          have hcz59_10:wc.cell? ⟨gb285,10,none⟩=some (.string a0_10):=(blk_cell BK285.out 10).trans rfl
          have hcz59_11:wc.cell? ⟨gb285,11,none⟩=some (.int .i64 a0_11):=(blk_cell BK285.out 11).trans rfl
          have hcz59_12:wc.cell? ⟨gb285,12,none⟩=some (.slice A0_12 l0_12.length c0_12):=(blk_cell BK285.out 12).trans rfl
          have hcz59_13:wc.cell? ⟨gb285,13,none⟩=some (.bool a0_13):=(blk_cell BK285.out 13).trans rfl
          have hfz59_0:=blk_frozen BK285.out 0
          have hfz59_1:=blk_frozen BK285.out 1
          have hfz59_2:=blk_frozen BK285.out 2
          have hfz59_3:=blk_frozen BK285.out 3
          have hfz59_4:=blk_frozen BK285.out 4
          have hfz59_5:=blk_frozen BK285.out 5
          have hfz59_6:=blk_frozen BK285.out 6
          have hfz59_7:=blk_frozen BK285.out 7
          have hfz59_8:=blk_frozen BK285.out 8
          have hfz59_9:=blk_frozen BK285.out 9
          have hfz59_10:=blk_frozen BK285.out 10
          have hfz59_11:=blk_frozen BK285.out 11
          have hfz59_12:=blk_frozen BK285.out 12
          have hfz59_13:=blk_frozen BK285.out 13
          go_wp2
          go_ret
          exact ⟨by first|(with_reducible rfl)|(simp only [isEmpty_bne,Bool.not_not] <;> rfl)|rfl|(simp [*,errW_none,errW_some] <;> rfl),by repeat (first|(with_reducible first|exact HB.out|apply zl1|apply zl2|apply zl3|refine below_set ?_ GE285.out)|exact HB.out)⟩
        ·rw [if_neg c51] at H
         have c51b0:(a0_5 == 3)=false:=beq_eq_false_iff_ne.mpr c51
         have c51b1:(a0_5 != 3)=true:=bne_iff_ne.mpr c51
         by_cases c60:a0_5=4
         ·rw [if_pos c60] at H
          have c60b0:(a0_5 == 4)=true:=beq_iff_eq.mpr c60
          have c60b1:(a0_5 != 4)=false:=bne_eq_false_iff_eq.mpr c60
          clear c60
          by_cases c61:a0_7=0
          ·rw [if_pos c61] at H
           have c61b0:(a0_7 == 0)=true:=beq_iff_eq.mpr c61
           have c61b1:(a0_7 != 0)=false:=bne_eq_false_iff_eq.mpr c61
           clear c61
           replace H:=Option.bind_eq_some_iff.mp H
           obtain ⟨t290,A620,H⟩:=H
           replace H:(if t290=true then (some x4_27) else (some false))=some r:=H
           have A62:=Aside0.mk A620
           clear A620
           by_cases c63:t290=true
           ·subst c63
            have H1:(some x4_27)=some r:=by rw [if_pos rfl] at H;exact H
            clear H
            have H:=H1
            clear H1
            obtain rfl:=Option.some.inj H
            have hcz64_0:wc.cell? ⟨gb285,0,none⟩=some (.int .i64 a0_0):=(blk_cell BK285.out 0).trans rfl
            have hcz64_1:wc.cell? ⟨gb285,1,none⟩=some (.int .i64 a0_1):=(blk_cell BK285.out 1).trans rfl
            have hcz64_2:wc.cell? ⟨gb285,2,none⟩=some (.int .i64 a0_2):=(blk_cell BK285.out 2).trans rfl
            have hcz64_3:wc.cell? ⟨gb285,3,none⟩=some (.int .i64 a0_3):=(blk_cell BK285.out 3).trans rfl
            have hcz64_4:wc.cell? ⟨gb285,4,none⟩=some (.string a0_4):=(blk_cell BK285.out 4).trans rfl
            have hcz64_5:wc.cell? ⟨gb285,5,none⟩=some (.int .i64 a0_5):=(blk_cell BK285.out 5).trans rfl
            have hcz64_6:wc.cell? ⟨gb285,6,none⟩=some (.int .i64 a0_6):=(blk_cell BK285.out 6).trans rfl
            have hcz64_7:wc.cell? ⟨gb285,7,none⟩=some (.int .i64 a0_7):=(blk_cell BK285.out 7).trans rfl
            have hcz64_8:wc.cell? ⟨gb285,8,none⟩=some (.int .i64 a0_8):=(blk_cell BK285.out 8).trans rfl
            have hcz64_9:wc.cell? ⟨gb285,9,none⟩=some (.int .i64 a0_9):=(blk_cell BK285.out 9).trans rfl
            have hcz64_10:wc.cell? ⟨gb285,10,none⟩=some (.string a0_10):=(blk_cell BK285.out 10).trans rfl
            have hcz64_11:wc.cell? ⟨gb285,11,none⟩=some (.int .i64 a0_11):=(blk_cell BK285.out 11).trans rfl
            have hcz64_12:wc.cell? ⟨gb285,12,none⟩=some (.slice A0_12 l0_12.length c0_12):=(blk_cell BK285.out 12).trans rfl
            have hcz64_13:wc.cell? ⟨gb285,13,none⟩=some (.bool a0_13):=(blk_cell BK285.out 13).trans rfl
            have hfz64_0:=blk_frozen BK285.out 0
            have hfz64_1:=blk_frozen BK285.out 1
            have hfz64_2:=blk_frozen BK285.out 2
            have hfz64_3:=blk_frozen BK285.out 3
            have hfz64_4:=blk_frozen BK285.out 4
            have hfz64_5:=blk_frozen BK285.out 5
            have hfz64_6:=blk_frozen BK285.out 6
            have hfz64_7:=blk_frozen BK285.out 7
            have hfz64_8:=blk_frozen BK285.out 8
            have hfz64_9:=blk_frozen BK285.out 9
            have hfz64_10:=blk_frozen BK285.out 10
            have hfz64_11:=blk_frozen BK285.out 11
            have hfz64_12:=blk_frozen BK285.out 12
            have hfz64_13:=blk_frozen BK285.out 13
            go_wp2_with (first|(go_at_call 14;(with_reducible refine (factotumref16_Is.calls a0_8 a0_9 a0_10 true _ A62.out).mono ?_);rintro e w65 ⟨rfl,hb⟩;replace BK285:=Aside0.mk (blk_below (g:=gb285) (o:=.cells #[.int .i64 a0_0,.int .i64 a0_1,.int .i64 a0_2,.int .i64 a0_3,.string a0_4,.int .i64 a0_5,.int .i64 a0_6,.int .i64 a0_7,.int .i64 a0_8,.int .i64 a0_9,.string a0_10,.int .i64 a0_11,.slice A0_12 l0_12.length c0_12,.bool a0_13] 30 (0,0)) (by (with_reducible repeat (first|apply zb1|apply zb2|apply zb3));exact BK285.out) hb);replace HB:=Aside0.mk (below_step (by repeat (first|(with_reducible first|exact HB.out|apply zl1|apply zl2|apply zl3|refine below_set ?_ GE285.out)|exact HB.out)) hb);(try clear hb)))
            go_ret
            exact ⟨by first|(with_reducible rfl)|(simp only [isEmpty_bne,Bool.not_not] <;> rfl)|rfl|(simp [*,errW_none,errW_some] <;> rfl),by repeat (first|(with_reducible first|exact HB.out|apply zl1|apply zl2|apply zl3|refine below_set ?_ GE285.out)|exact HB.out)⟩
           ·replace c63:=Bool.eq_false_iff.mpr c63
            subst c63
            have H1:(some false)=some r:=by rw [if_neg (show ¬ (false=true) by decide)] at H;exact H
            clear H
            have H:=H1
            clear H1
            obtain rfl:=Option.some.inj H
            have hcz66_0:wc.cell? ⟨gb285,0,none⟩=some (.int .i64 a0_0):=(blk_cell BK285.out 0).trans rfl
            have hcz66_1:wc.cell? ⟨gb285,1,none⟩=some (.int .i64 a0_1):=(blk_cell BK285.out 1).trans rfl
            have hcz66_2:wc.cell? ⟨gb285,2,none⟩=some (.int .i64 a0_2):=(blk_cell BK285.out 2).trans rfl
            have hcz66_3:wc.cell? ⟨gb285,3,none⟩=some (.int .i64 a0_3):=(blk_cell BK285.out 3).trans rfl
            have hcz66_4:wc.cell? ⟨gb285,4,none⟩=some (.string a0_4):=(blk_cell BK285.out 4).trans rfl
            have hcz66_5:wc.cell? ⟨gb285,5,none⟩=some (.int .i64 a0_5):=(blk_cell BK285.out 5).trans rfl
            have hcz66_6:wc.cell? ⟨gb285,6,none⟩=some (.int .i64 a0_6):=(blk_cell BK285.out 6).trans rfl
            have hcz66_7:wc.cell? ⟨gb285,7,none⟩=some (.int .i64 a0_7):=(blk_cell BK285.out 7).trans rfl
            have hcz66_8:wc.cell? ⟨gb285,8,none⟩=some (.int .i64 a0_8):=(blk_cell BK285.out 8).trans rfl
            have hcz66_9:wc.cell? ⟨gb285,9,none⟩=some (.int .i64 a0_9):=(blk_cell BK285.out 9).trans rfl
            have hcz66_10:wc.cell? ⟨gb285,10,none⟩=some (.string a0_10):=(blk_cell BK285.out 10).trans rfl
            have hcz66_11:wc.cell? ⟨gb285,11,none⟩=some (.int .i64 a0_11):=(blk_cell BK285.out 11).trans rfl
            have hcz66_12:wc.cell? ⟨gb285,12,none⟩=some (.slice A0_12 l0_12.length c0_12):=(blk_cell BK285.out 12).trans rfl
            have hcz66_13:wc.cell? ⟨gb285,13,none⟩=some (.bool a0_13):=(blk_cell BK285.out 13).trans rfl
            have hfz66_0:=blk_frozen BK285.out 0
            have hfz66_1:=blk_frozen BK285.out 1
            have hfz66_2:=blk_frozen BK285.out 2
            have hfz66_3:=blk_frozen BK285.out 3
            have hfz66_4:=blk_frozen BK285.out 4
            have hfz66_5:=blk_frozen BK285.out 5
            have hfz66_6:=blk_frozen BK285.out 6
            have hfz66_7:=blk_frozen BK285.out 7
            have hfz66_8:=blk_frozen BK285.out 8
            have hfz66_9:=blk_frozen BK285.out 9
            have hfz66_10:=blk_frozen BK285.out 10
            have hfz66_11:=blk_frozen BK285.out 11
            have hfz66_12:=blk_frozen BK285.out 12
            have hfz66_13:=blk_frozen BK285.out 13
            go_wp2_with (first|(go_at_call 14;(with_reducible refine (factotumref16_Is.calls a0_8 a0_9 a0_10 false _ A62.out).mono ?_);rintro e w67 ⟨rfl,hb⟩;replace BK285:=Aside0.mk (blk_below (g:=gb285) (o:=.cells #[.int .i64 a0_0,.int .i64 a0_1,.int .i64 a0_2,.int .i64 a0_3,.string a0_4,.int .i64 a0_5,.int .i64 a0_6,.int .i64 a0_7,.int .i64 a0_8,.int .i64 a0_9,.string a0_10,.int .i64 a0_11,.slice A0_12 l0_12.length c0_12,.bool a0_13] 30 (0,0)) (by (with_reducible repeat (first|apply zb1|apply zb2|apply zb3));exact BK285.out) hb);replace HB:=Aside0.mk (below_step (by repeat (first|(with_reducible first|exact HB.out|apply zl1|apply zl2|apply zl3|refine below_set ?_ GE285.out)|exact HB.out)) hb);(try clear hb)))
            go_ret
            exact ⟨by first|(with_reducible rfl)|(simp only [isEmpty_bne,Bool.not_not] <;> rfl)|rfl|(simp [*,errW_none,errW_some] <;> rfl),by repeat (first|(with_reducible first|exact HB.out|apply zl1|apply zl2|apply zl3|refine below_set ?_ GE285.out)|exact HB.out)⟩
          ·rw [if_neg c61] at H
           have c61b0:(a0_7 == 0)=false:=beq_eq_false_iff_ne.mpr c61
           have c61b1:(a0_7 != 0)=true:=bne_iff_ne.mpr c61
           obtain rfl:=Option.some.inj H
           have hcz68_0:wc.cell? ⟨gb285,0,none⟩=some (.int .i64 a0_0):=(blk_cell BK285.out 0).trans rfl
           have hcz68_1:wc.cell? ⟨gb285,1,none⟩=some (.int .i64 a0_1):=(blk_cell BK285.out 1).trans rfl
           have hcz68_2:wc.cell? ⟨gb285,2,none⟩=some (.int .i64 a0_2):=(blk_cell BK285.out 2).trans rfl
           have hcz68_3:wc.cell? ⟨gb285,3,none⟩=some (.int .i64 a0_3):=(blk_cell BK285.out 3).trans rfl
           have hcz68_4:wc.cell? ⟨gb285,4,none⟩=some (.string a0_4):=(blk_cell BK285.out 4).trans rfl
           have hcz68_5:wc.cell? ⟨gb285,5,none⟩=some (.int .i64 a0_5):=(blk_cell BK285.out 5).trans rfl
           have hcz68_6:wc.cell? ⟨gb285,6,none⟩=some (.int .i64 a0_6):=(blk_cell BK285.out 6).trans rfl
           have hcz68_7:wc.cell? ⟨gb285,7,none⟩=some (.int .i64 a0_7):=(blk_cell BK285.out 7).trans rfl
           have hcz68_8:wc.cell? ⟨gb285,8,none⟩=some (.int .i64 a0_8):=(blk_cell BK285.out 8).trans rfl
           have hcz68_9:wc.cell? ⟨gb285,9,none⟩=some (.int .i64 a0_9):=(blk_cell BK285.out 9).trans rfl
           have hcz68_10:wc.cell? ⟨gb285,10,none⟩=some (.string a0_10):=(blk_cell BK285.out 10).trans rfl
           have hcz68_11:wc.cell? ⟨gb285,11,none⟩=some (.int .i64 a0_11):=(blk_cell BK285.out 11).trans rfl
           have hcz68_12:wc.cell? ⟨gb285,12,none⟩=some (.slice A0_12 l0_12.length c0_12):=(blk_cell BK285.out 12).trans rfl
           have hcz68_13:wc.cell? ⟨gb285,13,none⟩=some (.bool a0_13):=(blk_cell BK285.out 13).trans rfl
           have hfz68_0:=blk_frozen BK285.out 0
           have hfz68_1:=blk_frozen BK285.out 1
           have hfz68_2:=blk_frozen BK285.out 2
           have hfz68_3:=blk_frozen BK285.out 3
           have hfz68_4:=blk_frozen BK285.out 4
           have hfz68_5:=blk_frozen BK285.out 5
           have hfz68_6:=blk_frozen BK285.out 6
           have hfz68_7:=blk_frozen BK285.out 7
           have hfz68_8:=blk_frozen BK285.out 8
           have hfz68_9:=blk_frozen BK285.out 9
           have hfz68_10:=blk_frozen BK285.out 10
           have hfz68_11:=blk_frozen BK285.out 11
           have hfz68_12:=blk_frozen BK285.out 12
           have hfz68_13:=blk_frozen BK285.out 13
           go_wp2
           go_ret
           exact ⟨by first|(with_reducible rfl)|(simp only [isEmpty_bne,Bool.not_not] <;> rfl)|rfl|(simp [*,errW_none,errW_some] <;> rfl),by repeat (first|(with_reducible first|exact HB.out|apply zl1|apply zl2|apply zl3|refine below_set ?_ GE285.out)|exact HB.out)⟩
         ·rw [if_neg c60] at H
          have c60b0:(a0_5 == 4)=false:=beq_eq_false_iff_ne.mpr c60
          have c60b1:(a0_5 != 4)=true:=bne_iff_ne.mpr c60
          by_cases c69:a0_5=5
          ·rw [if_pos c69] at H
           have c69b0:(a0_5 == 5)=true:=beq_iff_eq.mpr c69
           have c69b1:(a0_5 != 5)=false:=bne_eq_false_iff_eq.mpr c69
           clear c69
           by_cases c70:a0_7=0
           ·rw [if_pos c70] at H
            have c70b0:(a0_7 == 0)=true:=beq_iff_eq.mpr c70
            have c70b1:(a0_7 != 0)=false:=bne_eq_false_iff_eq.mpr c70
            clear c70
            by_cases c71:(a0_8 == 0 && (a0_9 == 0 && (a0_10.toList == ([]:List UInt8))))=true
            ·rw [if_pos c71] at H
             have c71b0:(a0_8 == 0 && (a0_9 == 0 && (a0_10.toList == ([]:List UInt8))))=true:=c71
             (try (have c71b7:(a0_8 == 0 && (a0_9 == 0 && (a0_10.toList.isEmpty)))=true:=by simp only [isEmpty_beq];exact c71b0))
             (try (have c71b1:decide (a0_8=0 && (a0_9 == 0 && (a0_10.toList == ([]:List UInt8))))=true:=by simpa using c71))
             (try (have c71b2:(a0_8 == 0 && (a0_9 == 0 && (a0_10.toList == ([]:List UInt8))))=true:=by simpa using c71))
             clear c71
             obtain rfl:=Option.some.inj H
             have hcz72_0:wc.cell? ⟨gb285,0,none⟩=some (.int .i64 a0_0):=(blk_cell BK285.out 0).trans rfl
             have hcz72_1:wc.cell? ⟨gb285,1,none⟩=some (.int .i64 a0_1):=(blk_cell BK285.out 1).trans rfl
             have hcz72_2:wc.cell? ⟨gb285,2,none⟩=some (.int .i64 a0_2):=(blk_cell BK285.out 2).trans rfl
             have hcz72_3:wc.cell? ⟨gb285,3,none⟩=some (.int .i64 a0_3):=(blk_cell BK285.out 3).trans rfl
             have hcz72_4:wc.cell? ⟨gb285,4,none⟩=some (.string a0_4):=(blk_cell BK285.out 4).trans rfl
             have hcz72_5:wc.cell? ⟨gb285,5,none⟩=some (.int .i64 a0_5):=(blk_cell BK285.out 5).trans rfl
             have hcz72_6:wc.cell? ⟨gb285,6,none⟩=some (.int .i64 a0_6):=(blk_cell BK285.out 6).trans rfl
             have hcz72_7:wc.cell? ⟨gb285,7,none⟩=some (.int .i64 a0_7):=(blk_cell BK285.out 7).trans rfl
             have hcz72_8:wc.cell? ⟨gb285,8,none⟩=some (.int .i64 a0_8):=(blk_cell BK285.out 8).trans rfl
             have hcz72_9:wc.cell? ⟨gb285,9,none⟩=some (.int .i64 a0_9):=(blk_cell BK285.out 9).trans rfl
             have hcz72_10:wc.cell? ⟨gb285,10,none⟩=some (.string a0_10):=(blk_cell BK285.out 10).trans rfl
             have hcz72_11:wc.cell? ⟨gb285,11,none⟩=some (.int .i64 a0_11):=(blk_cell BK285.out 11).trans rfl
             have hcz72_12:wc.cell? ⟨gb285,12,none⟩=some (.slice A0_12 l0_12.length c0_12):=(blk_cell BK285.out 12).trans rfl
             have hcz72_13:wc.cell? ⟨gb285,13,none⟩=some (.bool a0_13):=(blk_cell BK285.out 13).trans rfl
             have hfz72_0:=blk_frozen BK285.out 0
             have hfz72_1:=blk_frozen BK285.out 1
             have hfz72_2:=blk_frozen BK285.out 2
             have hfz72_3:=blk_frozen BK285.out 3
             have hfz72_4:=blk_frozen BK285.out 4
             have hfz72_5:=blk_frozen BK285.out 5
             have hfz72_6:=blk_frozen BK285.out 6
             have hfz72_7:=blk_frozen BK285.out 7
             have hfz72_8:=blk_frozen BK285.out 8
             have hfz72_9:=blk_frozen BK285.out 9
             have hfz72_10:=blk_frozen BK285.out 10
             have hfz72_11:=blk_frozen BK285.out 11
             have hfz72_12:=blk_frozen BK285.out 12
             have hfz72_13:=blk_frozen BK285.out 13
             go_wp2
             go_ret
             exact ⟨by first|(with_reducible rfl)|(simp only [isEmpty_bne,Bool.not_not] <;> rfl)|rfl|(simp [*,errW_none,errW_some] <;> rfl),by repeat (first|(with_reducible first|exact HB.out|apply zl1|apply zl2|apply zl3|refine below_set ?_ GE285.out)|exact HB.out)⟩
            ·rw [if_neg c71] at H
             have c71b0:(a0_8 == 0 && (a0_9 == 0 && (a0_10.toList == ([]:List UInt8))))=false:=by simpa using c71
             (try (have c71b7:(a0_8 == 0 && (a0_9 == 0 && (a0_10.toList.isEmpty)))=false:=by simp only [isEmpty_beq];exact c71b0))
             (try (have c71b1:decide (a0_8=0 && (a0_9 == 0 && (a0_10.toList == ([]:List UInt8))))=false:=by simpa using c71))
             (try (have c71b2:(a0_8 == 0 && (a0_9 == 0 && (a0_10.toList == ([]:List UInt8))))=false:=by simpa using c71))
             (try (have c71b3:¬ (a0_8=0 && (a0_9 == 0 && (a0_10.toList == ([]:List UInt8)))):=by simpa using c71))
             clear c71
             obtain rfl:=Option.some.inj H
             have hcz73_0:wc.cell? ⟨gb285,0,none⟩=some (.int .i64 a0_0):=(blk_cell BK285.out 0).trans rfl
             have hcz73_1:wc.cell? ⟨gb285,1,none⟩=some (.int .i64 a0_1):=(blk_cell BK285.out 1).trans rfl
             have hcz73_2:wc.cell? ⟨gb285,2,none⟩=some (.int .i64 a0_2):=(blk_cell BK285.out 2).trans rfl
             have hcz73_3:wc.cell? ⟨gb285,3,none⟩=some (.int .i64 a0_3):=(blk_cell BK285.out 3).trans rfl
             have hcz73_4:wc.cell? ⟨gb285,4,none⟩=some (.string a0_4):=(blk_cell BK285.out 4).trans rfl
             have hcz73_5:wc.cell? ⟨gb285,5,none⟩=some (.int .i64 a0_5):=(blk_cell BK285.out 5).trans rfl
             have hcz73_6:wc.cell? ⟨gb285,6,none⟩=some (.int .i64 a0_6):=(blk_cell BK285.out 6).trans rfl
             have hcz73_7:wc.cell? ⟨gb285,7,none⟩=some (.int .i64 a0_7):=(blk_cell BK285.out 7).trans rfl
             have hcz73_8:wc.cell? ⟨gb285,8,none⟩=some (.int .i64 a0_8):=(blk_cell BK285.out 8).trans rfl
             have hcz73_9:wc.cell? ⟨gb285,9,none⟩=some (.int .i64 a0_9):=(blk_cell BK285.out 9).trans rfl
             have hcz73_10:wc.cell? ⟨gb285,10,none⟩=some (.string a0_10):=(blk_cell BK285.out 10).trans rfl
             have hcz73_11:wc.cell? ⟨gb285,11,none⟩=some (.int .i64 a0_11):=(blk_cell BK285.out 11).trans rfl
             have hcz73_12:wc.cell? ⟨gb285,12,none⟩=some (.slice A0_12 l0_12.length c0_12):=(blk_cell BK285.out 12).trans rfl
             have hcz73_13:wc.cell? ⟨gb285,13,none⟩=some (.bool a0_13):=(blk_cell BK285.out 13).trans rfl
             have hfz73_0:=blk_frozen BK285.out 0
             have hfz73_1:=blk_frozen BK285.out 1
             have hfz73_2:=blk_frozen BK285.out 2
             have hfz73_3:=blk_frozen BK285.out 3
             have hfz73_4:=blk_frozen BK285.out 4
             have hfz73_5:=blk_frozen BK285.out 5
             have hfz73_6:=blk_frozen BK285.out 6
             have hfz73_7:=blk_frozen BK285.out 7
             have hfz73_8:=blk_frozen BK285.out 8
             have hfz73_9:=blk_frozen BK285.out 9
             have hfz73_10:=blk_frozen BK285.out 10
             have hfz73_11:=blk_frozen BK285.out 11
             have hfz73_12:=blk_frozen BK285.out 12
             have hfz73_13:=blk_frozen BK285.out 13
             go_wp2
             go_ret
             exact ⟨by first|(with_reducible rfl)|(simp only [isEmpty_bne,Bool.not_not] <;> rfl)|rfl|(simp [*,errW_none,errW_some] <;> rfl),by repeat (first|(with_reducible first|exact HB.out|apply zl1|apply zl2|apply zl3|refine below_set ?_ GE285.out)|exact HB.out)⟩
           ·rw [if_neg c70] at H
            have c70b0:(a0_7 == 0)=false:=beq_eq_false_iff_ne.mpr c70
            have c70b1:(a0_7 != 0)=true:=bne_iff_ne.mpr c70
            obtain rfl:=Option.some.inj H
            have hcz74_0:wc.cell? ⟨gb285,0,none⟩=some (.int .i64 a0_0):=(blk_cell BK285.out 0).trans rfl
            have hcz74_1:wc.cell? ⟨gb285,1,none⟩=some (.int .i64 a0_1):=(blk_cell BK285.out 1).trans rfl
            have hcz74_2:wc.cell? ⟨gb285,2,none⟩=some (.int .i64 a0_2):=(blk_cell BK285.out 2).trans rfl
            have hcz74_3:wc.cell? ⟨gb285,3,none⟩=some (.int .i64 a0_3):=(blk_cell BK285.out 3).trans rfl
            have hcz74_4:wc.cell? ⟨gb285,4,none⟩=some (.string a0_4):=(blk_cell BK285.out 4).trans rfl
            have hcz74_5:wc.cell? ⟨gb285,5,none⟩=some (.int .i64 a0_5):=(blk_cell BK285.out 5).trans rfl
            have hcz74_6:wc.cell? ⟨gb285,6,none⟩=some (.int .i64 a0_6):=(blk_cell BK285.out 6).trans rfl
            have hcz74_7:wc.cell? ⟨gb285,7,none⟩=some (.int .i64 a0_7):=(blk_cell BK285.out 7).trans rfl
            have hcz74_8:wc.cell? ⟨gb285,8,none⟩=some (.int .i64 a0_8):=(blk_cell BK285.out 8).trans rfl
            have hcz74_9:wc.cell? ⟨gb285,9,none⟩=some (.int .i64 a0_9):=(blk_cell BK285.out 9).trans rfl
            have hcz74_10:wc.cell? ⟨gb285,10,none⟩=some (.string a0_10):=(blk_cell BK285.out 10).trans rfl
            have hcz74_11:wc.cell? ⟨gb285,11,none⟩=some (.int .i64 a0_11):=(blk_cell BK285.out 11).trans rfl
            have hcz74_12:wc.cell? ⟨gb285,12,none⟩=some (.slice A0_12 l0_12.length c0_12):=(blk_cell BK285.out 12).trans rfl
            have hcz74_13:wc.cell? ⟨gb285,13,none⟩=some (.bool a0_13):=(blk_cell BK285.out 13).trans rfl
            have hfz74_0:=blk_frozen BK285.out 0
            have hfz74_1:=blk_frozen BK285.out 1
            have hfz74_2:=blk_frozen BK285.out 2
            have hfz74_3:=blk_frozen BK285.out 3
            have hfz74_4:=blk_frozen BK285.out 4
            have hfz74_5:=blk_frozen BK285.out 5
            have hfz74_6:=blk_frozen BK285.out 6
            have hfz74_7:=blk_frozen BK285.out 7
            have hfz74_8:=blk_frozen BK285.out 8
            have hfz74_9:=blk_frozen BK285.out 9
            have hfz74_10:=blk_frozen BK285.out 10
            have hfz74_11:=blk_frozen BK285.out 11
            have hfz74_12:=blk_frozen BK285.out 12
            have hfz74_13:=blk_frozen BK285.out 13
            go_wp2
            go_ret
            exact ⟨by first|(with_reducible rfl)|(simp only [isEmpty_bne,Bool.not_not] <;> rfl)|rfl|(simp [*,errW_none,errW_some] <;> rfl),by repeat (first|(with_reducible first|exact HB.out|apply zl1|apply zl2|apply zl3|refine below_set ?_ GE285.out)|exact HB.out)⟩
          ·rw [if_neg c69] at H
           have c69b0:(a0_5 == 5)=false:=beq_eq_false_iff_ne.mpr c69
           have c69b1:(a0_5 != 5)=true:=bne_iff_ne.mpr c69
           obtain rfl:=Option.some.inj H
           have hcz75_0:wc.cell? ⟨gb285,0,none⟩=some (.int .i64 a0_0):=(blk_cell BK285.out 0).trans rfl
           have hcz75_1:wc.cell? ⟨gb285,1,none⟩=some (.int .i64 a0_1):=(blk_cell BK285.out 1).trans rfl
           have hcz75_2:wc.cell? ⟨gb285,2,none⟩=some (.int .i64 a0_2):=(blk_cell BK285.out 2).trans rfl
           have hcz75_3:wc.cell? ⟨gb285,3,none⟩=some (.int .i64 a0_3):=(blk_cell BK285.out 3).trans rfl
           have hcz75_4:wc.cell? ⟨gb285,4,none⟩=some (.string a0_4):=(blk_cell BK285.out 4).trans rfl
           have hcz75_5:wc.cell? ⟨gb285,5,none⟩=some (.int .i64 a0_5):=(blk_cell BK285.out 5).trans rfl
           have hcz75_6:wc.cell? ⟨gb285,6,none⟩=some (.int .i64 a0_6):=(blk_cell BK285.out 6).trans rfl
           have hcz75_7:wc.cell? ⟨gb285,7,none⟩=some (.int .i64 a0_7):=(blk_cell BK285.out 7).trans rfl
           have hcz75_8:wc.cell? ⟨gb285,8,none⟩=some (.int .i64 a0_8):=(blk_cell BK285.out 8).trans rfl
           have hcz75_9:wc.cell? ⟨gb285,9,none⟩=some (.int .i64 a0_9):=(blk_cell BK285.out 9).trans rfl
           have hcz75_10:wc.cell? ⟨gb285,10,none⟩=some (.string a0_10):=(blk_cell BK285.out 10).trans rfl
           have hcz75_11:wc.cell? ⟨gb285,11,none⟩=some (.int .i64 a0_11):=(blk_cell BK285.out 11).trans rfl
           have hcz75_12:wc.cell? ⟨gb285,12,none⟩=some (.slice A0_12 l0_12.length c0_12):=(blk_cell BK285.out 12).trans rfl
           have hcz75_13:wc.cell? ⟨gb285,13,none⟩=some (.bool a0_13):=(blk_cell BK285.out 13).trans rfl
           have hfz75_0:=blk_frozen BK285.out 0
           have hfz75_1:=blk_frozen BK285.out 1
           have hfz75_2:=blk_frozen BK285.out 2
           have hfz75_3:=blk_frozen BK285.out 3
           have hfz75_4:=blk_frozen BK285.out 4
           have hfz75_5:=blk_frozen BK285.out 5
           have hfz75_6:=blk_frozen BK285.out 6
           have hfz75_7:=blk_frozen BK285.out 7
           have hfz75_8:=blk_frozen BK285.out 8
           have hfz75_9:=blk_frozen BK285.out 9
           have hfz75_10:=blk_frozen BK285.out 10
           have hfz75_11:=blk_frozen BK285.out 11
           have hfz75_12:=blk_frozen BK285.out 12
           have hfz75_13:=blk_frozen BK285.out 13
           go_wp2
           go_ret
           exact ⟨by first|(with_reducible rfl)|(simp only [isEmpty_bne,Bool.not_not] <;> rfl)|rfl|(simp [*,errW_none,errW_some] <;> rfl),by repeat (first|(with_reducible first|exact HB.out|apply zl1|apply zl2|apply zl3|refine below_set ?_ GE285.out)|exact HB.out)⟩

end Go.Proofs.YtobjnhkjahhfnaaDoor.PAll
