/- Printed walks of the functions that the laws reach: each function, what it computes, and that it does. No conditions. -/
import Derived.Test.YtokjbncjapndgaaPAllx0
import Derived.Test.YtokjbncjapndgaaPAllx8
import Derived.Test.YtokjbncjapndgaaPAllx9
import Derived.Test.YtokjbncjapndgaaPAllx10
namespace Go.Proofs.Ytokjbncjapndgaa.PAll
open Go.RowKit Go.Proofs.Ytokjbncjapndgaa.XW Go.Proofs.Ytokjbncjapndgaa.XLib Go.Proofs.YtokjbncjapndgaaW.PrintWords Go.Proofs.YtokjbncjapndgaaW.PrintLast Go.Proofs.YtokjbncjapndgaaW.PrintMore
attribute [local go_sem] max2_int min2_int max_two min_two max_three min_three max_four min_four   -- for this text's walks alone
set_option linter.unusedVariables false
set_option linter.unusedSimpArgs false

/-! ### node_Write: function 8 -/
mutual
def node_Write.l0:Nat→List Int→List (S43)→Int→Int→Option (ByteArray × Int)
 | 0,_,_,_,_=>none
 | k + 1,x4,x27,x28,x29=>if x29 < x28 then (if 0≤x29 then (if x29 < (x27.length:Int) then ((pack_Str.f x4 ((rd_T43 x27 x29).f0)).bind fun t185=>((pack_Str.f t185 ((rd_T43 x27 x29).f1)).bind fun t188=>(node_Write.l0 k t188 x27 x28 (wrap64 (x29 + 1))))) else (none)) else (none)) else ((strings_Repeat.f (⟨#[0]⟩:ByteArray) (wrap64 (256 - (x4.length:Int)))).bind fun t191=>(if (strOfNums x4).size + t191.size≤9223372036854775807 then (some ((strOfNums x4) ++ t191,0)) else (none)))
def node_Write.l1:Nat→List Int→List ByteArray→Int→Int→Bool→List (S43)→List ByteArray→List Int→Option (ByteArray × Int)
 | 0,_,_,_,_,_,_,_,_=>none
 | k + 1,x4,x55,x56,x57,x175000,x175001,x175002,x175003=>if x57 < x56 then (if 0≤x57 then (if x57 < (x55.length:Int) then ((pack_Str.f x4 (rdOf ByteArray.empty x55 x57)).bind fun t203=>(if 0≤(wrap64 (x57 + 1)) then (if (wrap64 (x57 + 1)) < (x175003.length:Int) then ((pack_Num.f k t203 (IntKind.u64.wrap (rd x175003 (wrap64 (x57 + 1)))) 2).bind fun t207=>(node_Write.l1 k t207 x55 x56 (wrap64 (x57 + 1)) x175000 x175001 x175002 x175003)) else (none)) else (none))) else (none)) else (none)) else ((strings_Repeat.f (⟨#[0]⟩:ByteArray) (wrap64 (256 - (x4.length:Int)))).bind fun t210=>(if (strOfNums x4).size + t210.size≤9223372036854775807 then (some ((strOfNums x4) ++ t210,0)) else (none)))
end
def node_Write.f (k:Nat) (a0_0:Bool) (l0_1:List (S43)) (l0_2:List ByteArray) (l0_3:List Int):Option (ByteArray × Int):=(node_right.f k a0_0 l0_1 l0_2 l0_3).bind fun t175=>(if t175=true then ((node_Size.f k a0_0 l0_1 l0_2 l0_3).bind fun t176=>(if t176 > 256 then (some ((⟨#[]⟩:ByteArray),3)) else (if a0_0=true then ((some (([1,((l0_1.length:Int)) % 256]:List Int):List Int)).bind fun y177=>(if ([]:List Int).length + y177.length < 140737488355328 then (node_Write.l0 k (([]:List Int) ++ y177) l0_1 (l0_1.length:Int) 0) else (none))) else ((some (([2,((l0_2.length:Int)) % 256]:List Int):List Int)).bind fun y192=>(if ([]:List Int).length + y192.length < 140737488355328 then (if 0 < (l0_3.length:Int) then ((pack_Num.f k (([]:List Int) ++ y192) (IntKind.u64.wrap (rd l0_3 0)) 2).bind fun t199=>(node_Write.l1 k t199 l0_2 (l0_2.length:Int) 0 a0_0 l0_1 l0_2 l0_3)) else (none)) else (none)))))) else (some ((⟨#[]⟩:ByteArray),4)))
theorem node_Write.mono_l:∀ k,(∀ y0 y1 y2 y3,LeO (node_Write.l0 k y0 y1 y2 y3) (node_Write.l0 (k + 1) y0 y1 y2 y3))∧(∀ y0 y1 y2 y3 y4 y5 y6 y7,LeO (node_Write.l1 k y0 y1 y2 y3 y4 y5 y6 y7) (node_Write.l1 (k + 1) y0 y1 y2 y3 y4 y5 y6 y7))
 | 0=>⟨fun _ _ _ _ r h=>by simp [node_Write.l0] at h,fun _ _ _ _ _ _ _ _ r h=>by simp [node_Write.l1] at h⟩
 | k + 1=>by
  obtain ⟨ih0,ih1⟩:=node_Write.mono_l k
  refine ⟨?_,?_⟩
  ·intro y0 y1 y2 y3
   unfold node_Write.l0
   repeat' first
   | (with_reducible exact ih0 _ _ _ _)
   | (with_reducible exact ih1 _ _ _ _ _ _ _ _)
   | (with_reducible exact node_Size.mono _ _ _ _ _)
   | (with_reducible exact node_right.mono _ _ _ _ _)
   | (with_reducible exact pack_Num.mono _ _ _ _)
   | (with_reducible exact LeO.refl _)
   | (with_reducible exact LeO.none _)
   | (with_reducible refine LeO.ite ?_ ?_)
   | (with_reducible refine LeO.bind ?_ (fun _=>?_))
   | exact ih0 _ _ _ _
   | exact ih1 _ _ _ _ _ _ _ _
   | exact node_Size.mono _ _ _ _ _
   | exact node_right.mono _ _ _ _ _
   | exact pack_Num.mono _ _ _ _
   | exact LeO.none _
   | refine LeO.ite ?_ ?_
   | refine LeO.bind ?_ (fun _=>?_)
  ·intro y0 y1 y2 y3 y4 y5 y6 y7
   unfold node_Write.l1
   repeat' first
   | (with_reducible exact ih0 _ _ _ _)
   | (with_reducible exact ih1 _ _ _ _ _ _ _ _)
   | (with_reducible exact node_Size.mono _ _ _ _ _)
   | (with_reducible exact node_right.mono _ _ _ _ _)
   | (with_reducible exact pack_Num.mono _ _ _ _)
   | (with_reducible exact LeO.refl _)
   | (with_reducible exact LeO.none _)
   | (with_reducible refine LeO.ite ?_ ?_)
   | (with_reducible refine LeO.bind ?_ (fun _=>?_))
   | exact ih0 _ _ _ _
   | exact ih1 _ _ _ _ _ _ _ _
   | exact node_Size.mono _ _ _ _ _
   | exact node_right.mono _ _ _ _ _
   | exact pack_Num.mono _ _ _ _
   | exact LeO.none _
   | refine LeO.ite ?_ ?_
   | refine LeO.bind ?_ (fun _=>?_)
theorem node_Write.mono:∀ a0 a1 a2 a3 k,LeO (node_Write.f k a0 a1 a2 a3) (node_Write.f (k + 1) a0 a1 a2 a3):=by
 intro a0 a1 a2 a3 k
 obtain ⟨ih0,ih1⟩:=node_Write.mono_l k
 unfold node_Write.f
 repeat' first
   | (with_reducible exact ih0 _ _ _ _)
   | (with_reducible exact ih1 _ _ _ _ _ _ _ _)
   | (with_reducible exact node_Size.mono _ _ _ _ _)
   | (with_reducible exact node_right.mono _ _ _ _ _)
   | (with_reducible exact pack_Num.mono _ _ _ _)
   | (with_reducible exact LeO.refl _)
   | (with_reducible exact LeO.none _)
   | (with_reducible refine LeO.ite ?_ ?_)
   | (with_reducible refine LeO.bind ?_ (fun _=>?_))
   | exact ih0 _ _ _ _
   | exact ih1 _ _ _ _ _ _ _ _
   | exact node_Size.mono _ _ _ _ _
   | exact node_right.mono _ _ _ _ _
   | exact pack_Num.mono _ _ _ _
   | exact LeO.none _
   | refine LeO.ite ?_ ?_
   | refine LeO.bind ?_ (fun _=>?_)
def node_Write.T11:Bool × List (List Nat × List Nat):=(true,[([],[]),([],[]),([1],[1]),([0,2],[0,2]),([],[]),([4],[4]),([3,5,3],[3,5]),([6,6,0,1,2,3,4,5,6],[0,6])])
def node_Write.B11:List Nat:=[0,0,2,7,0,16,63,127]
theorem node_Write.tab11:rtab .any (opsOf Try.f8 11)=node_Write.T11:=by kernel_rfl
theorem node_Write.bits11:waitsOk node_Write.T11.2 node_Write.B11=true:=by kernel_rfl
def node_Write.T13:Bool × List (List Nat × List Nat):=(true,[([],[]),([],[]),([1],[1]),([2],[2]),([3],[3]),([4],[4]),([0,5],[0,5]),([],[]),([7],[7]),([8],[8]),([9],[9]),([10],[10]),([6,11,6],[6,11]),([12,12,0,1,2,3,4,5,6,7,8,9,10,11,12],[0,12])])
def node_Write.B13:List Nat:=[0,0,2,6,14,30,63,0,128,384,896,1920,4095,8191]
theorem node_Write.tab13:rtab .any (opsOf Try.f8 13)=node_Write.T13:=by kernel_rfl
theorem node_Write.bits13:waitsOk node_Write.T13.2 node_Write.B13=true:=by kernel_rfl
def node_Write.T17:Bool × List (List Nat × List Nat):=(true,[([],[]),([],[]),([0,1],[0,1]),([],[]),([3],[3]),([],[]),([5],[5]),([4,6],[4,6]),([7],[7]),([8],[8]),([2,9,2],[2,9]),([10,10,0,1,2,3,4,5,6,7,8,9,10],[0,10])])
def node_Write.B17:List Nat:=[0,0,3,0,8,0,32,120,248,504,1023,2047]
theorem node_Write.tab17:rtab .any (opsOf Try.f8 17)=node_Write.T17:=by kernel_rfl
theorem node_Write.bits17:waitsOk node_Write.T17.2 node_Write.B17=true:=by kernel_rfl
def node_Write.T19:Bool × List (List Nat × List Nat):=(true,[([],[]),([0],[0]),([],[]),([2],[2]),([3],[3]),([4],[4]),([1,5],[1,5]),([6,5,0,1,2,3,4,5,6],[6]),([7,0,1,2,3,4,5,6,7],[])])
def node_Write.B19:List Nat:=[0,1,0,4,12,28,63,127,255]
theorem node_Write.tab19:rtab .any (opsOf Try.f8 19)=node_Write.T19:=by kernel_rfl
theorem node_Write.bits19:waitsOk node_Write.T19.2 node_Write.B19=true:=by kernel_rfl
set_option maxHeartbeats 8000000 in
set_option maxRecDepth 100000 in
theorem node_Write.calls (k:Nat) (a0_0:Bool) (A0_1:Option Addr) (c0_1:Nat) (l0_1:List (S43)) (A0_2:Option Addr) (c0_2:Nat) (l0_2:List ByteArray) (A0_3:Option Addr) (c0_3:Nat) (l0_3:List Int) (r1:ByteArray) (r2:Int) (w:World) (hr0_1:Kd.C k43 w A0_1 l0_1.length l0_1) (hc0_1:l0_1.length≤c0_1) (hr0_2:Kd.C Kd.string w A0_2 l0_2.length l0_2) (hc0_2:l0_2.length≤c0_2) (hr0_3:Kd.C (Kd.int .i64) w A0_3 l0_3.length l0_3) (hc0_3:l0_3.length≤c0_3) (h:node_Write.f k a0_0 l0_1 l0_2 l0_3=some (r1,r2)) :
  Calls Try.prog 8 #[.agg #[.bool a0_0,.slice A0_1 l0_1.length c0_1,.slice A0_2 l0_2.length c0_2,.slice A0_3 l0_3.length c0_3]] w fun e w'=>e=.returned (.tuple #[.string r1,.int .i64 r2])∧Below w.heap.size w w':=by
 have hu26:=Try.underlying26
 have hu43:=Try.underlying43
 have HR0_1:=Aside0.mk hr0_1
 have HC0_1:=Aside0.mk hc0_1
 clear hr0_1 hc0_1
 have HR0_2:=Aside0.mk hr0_2
 have HC0_2:=Aside0.mk hc0_2
 clear hr0_2 hc0_2
 have HR0_3:=Aside0.mk hr0_3
 have HC0_3:=Aside0.mk hc0_3
 clear hr0_3 hc0_3
 have HB:=Aside0.mk (Below.refl w.heap.size w)
 have H:((node_right.f k a0_0 l0_1 l0_2 l0_3).bind fun t175=>(if t175=true then ((node_Size.f k a0_0 l0_1 l0_2 l0_3).bind fun t176=>(if t176 > 256 then (some ((⟨#[]⟩:ByteArray),3)) else (if a0_0=true then ((some (([1,((l0_1.length:Int)) % 256]:List Int):List Int)).bind fun y177=>(if ([]:List Int).length + y177.length < 140737488355328 then (node_Write.l0 k (([]:List Int) ++ y177) l0_1 (l0_1.length:Int) 0) else (none))) else ((some (([2,((l0_2.length:Int)) % 256]:List Int):List Int)).bind fun y192=>(if ([]:List Int).length + y192.length < 140737488355328 then (if 0 < (l0_3.length:Int) then ((pack_Num.f k (([]:List Int) ++ y192) (IntKind.u64.wrap (rd l0_3 0)) 2).bind fun t199=>(node_Write.l1 k t199 l0_2 (l0_2.length:Int) 0 a0_0 l0_1 l0_2 l0_3)) else (none)) else (none)))))) else (some ((⟨#[]⟩:ByteArray),4))))=some (r1,r2):=h
 clear h
 replace H:=Option.bind_eq_some_iff.mp H
 obtain ⟨t175,A20,H⟩:=H
 replace H:(if t175=true then ((node_Size.f k a0_0 l0_1 l0_2 l0_3).bind fun t176=>(if t176 > 256 then (some ((⟨#[]⟩:ByteArray),3)) else (if a0_0=true then ((some (([1,((l0_1.length:Int)) % 256]:List Int):List Int)).bind fun y177=>(if ([]:List Int).length + y177.length < 140737488355328 then (node_Write.l0 k (([]:List Int) ++ y177) l0_1 (l0_1.length:Int) 0) else (none))) else ((some (([2,((l0_2.length:Int)) % 256]:List Int):List Int)).bind fun y192=>(if ([]:List Int).length + y192.length < 140737488355328 then (if 0 < (l0_3.length:Int) then ((pack_Num.f k (([]:List Int) ++ y192) (IntKind.u64.wrap (rd l0_3 0)) 2).bind fun t199=>(node_Write.l1 k t199 l0_2 (l0_2.length:Int) 0 a0_0 l0_1 l0_2 l0_3)) else (none)) else (none)))))) else (some ((⟨#[]⟩:ByteArray),4)))=some (r1,r2):=H
 have A2:=Aside0.mk A20
 clear A20
 by_cases c3:t175=true
 ·subst c3
  have H1:((node_Size.f k a0_0 l0_1 l0_2 l0_3).bind fun t176=>(if t176 > 256 then (some ((⟨#[]⟩:ByteArray),3)) else (if a0_0=true then ((some (([1,((l0_1.length:Int)) % 256]:List Int):List Int)).bind fun y177=>(if ([]:List Int).length + y177.length < 140737488355328 then (node_Write.l0 k (([]:List Int) ++ y177) l0_1 (l0_1.length:Int) 0) else (none))) else ((some (([2,((l0_2.length:Int)) % 256]:List Int):List Int)).bind fun y192=>(if ([]:List Int).length + y192.length < 140737488355328 then (if 0 < (l0_3.length:Int) then ((pack_Num.f k (([]:List Int) ++ y192) (IntKind.u64.wrap (rd l0_3 0)) 2).bind fun t199=>(node_Write.l1 k t199 l0_2 (l0_2.length:Int) 0 a0_0 l0_1 l0_2 l0_3)) else (none)) else (none))))))=some (r1,r2):=by rw [if_pos rfl] at H;exact H
  clear H
  have H:=H1
  clear H1
  replace H:=Option.bind_eq_some_iff.mp H
  obtain ⟨t176,A40,H⟩:=H
  replace H:(if t176 > 256 then (some ((⟨#[]⟩:ByteArray),3)) else (if a0_0=true then ((some (([1,((l0_1.length:Int)) % 256]:List Int):List Int)).bind fun y177=>(if ([]:List Int).length + y177.length < 140737488355328 then (node_Write.l0 k (([]:List Int) ++ y177) l0_1 (l0_1.length:Int) 0) else (none))) else ((some (([2,((l0_2.length:Int)) % 256]:List Int):List Int)).bind fun y192=>(if ([]:List Int).length + y192.length < 140737488355328 then (if 0 < (l0_3.length:Int) then ((pack_Num.f k (([]:List Int) ++ y192) (IntKind.u64.wrap (rd l0_3 0)) 2).bind fun t199=>(node_Write.l1 k t199 l0_2 (l0_2.length:Int) 0 a0_0 l0_1 l0_2 l0_3)) else (none)) else (none)))))=some (r1,r2):=H
  have A4:=Aside0.mk A40
  clear A40
  by_cases c5:t176 > 256
  ·rw [if_pos c5] at H
   have c5b0:decide (256 < t176)=true:=decide_eq_true c5
   clear c5
   simp only [Option.some.injEq,Prod.mk.injEq] at H
   obtain ⟨rfl,rfl⟩:=H
   go_enter Try.func8,Try.ntmps8
   go_wp2_with (first|((with_reducible refine gate_dst (N:=1) rfl ?_);refine box_event ?hg (N:=1) ?hd (cs:=#[.bool a0_0,.slice A0_1 l0_1.length c0_1,.slice A0_2 l0_2.length c0_2,.slice A0_3 l0_3.length c0_3]) (t:=26) ?hr ?_;(case hd=>rfl);(case hg=>rfl);(case hr=>first|(go_simp;done)|(go_simp;rfl));intro gb174 hg w6 hbox hb;have BK174:=Aside0.mk (hbox);have GW174:=Aside0.mk ((by rw [hg];exact (below_size (by repeat (first|(with_reducible first|exact HB.out|apply zl1|apply zl2|apply zl3)|exact HB.out))):w.heap.size≤gb174));have GE174:=Aside0.mk ((by rw [hg];exact (below_size (by repeat (first|(with_reducible first|exact HB.out|apply zl1|apply zl2|apply zl3)|exact HB.out))):w.heap.size≤gb174));replace HB:=Aside0.mk (below_step (by repeat (first|(with_reducible first|exact HB.out|apply zl1|apply zl2|apply zl3)|exact HB.out)) hb);clear hb hbox hg;obtain ⟨hcz7_0,hcz7_1,hcz7_2,hcz7_3⟩:=zc4 BK174.out;obtain ⟨hfz7_0,hfz7_1,hfz7_2,hfz7_3⟩:=zf4 BK174.out)|((with_reducible refine gate_callee (f:=23) rfl ?_);refine goesL_ (some 11) rfl rfl Try.func23 (by kernel_rfl) rfl #[.agg #[.bool a0_0,.slice A0_1 l0_1.length c0_1,.slice A0_2 l0_2.length c0_2,.slice A0_3 l0_3.length c0_3]] rfl (by (try simp only [List.map_toArray,List.map_cons,List.map_nil]);first|done|rfl|(simp only [List.length_drop,List.length_take];rfl)|(simp (disch:=omega) only [u64_in];rfl)) ?_;(with_reducible refine (node_right.calls k a0_0 _ _ l0_1 _ _ l0_2 _ _ l0_3 true _ ?side1 ?side2 ?side3 ?side4 ?side5 ?side6 A2.out).mono ?_);(case side1=>repeat (first|exact (Kd.C_below HR0_1.out HB.out)|(with_reducible refine Kd.C_alloc ?_ _)|(with_reducible refine Kd.C_drewN ?_ _)|(with_reducible refine Kd.C_drew ?_)));(case side2=>exact HC0_1.out);(case side3=>repeat (first|exact (Kd.C_below HR0_2.out HB.out)|(with_reducible refine Kd.C_alloc ?_ _)|(with_reducible refine Kd.C_drewN ?_ _)|(with_reducible refine Kd.C_drew ?_)));(case side4=>exact HC0_2.out);(case side5=>repeat (first|exact (Kd.C_below HR0_3.out HB.out)|(with_reducible refine Kd.C_alloc ?_ _)|(with_reducible refine Kd.C_drewN ?_ _)|(with_reducible refine Kd.C_drew ?_)));(case side6=>exact HC0_3.out);rintro e w8 ⟨rfl,hb⟩;refine ⟨_,rfl,?_⟩;replace BK174:=Aside0.mk (blk_below (g:=gb174) (o:=.cells #[.bool a0_0,.slice A0_1 l0_1.length c0_1,.slice A0_2 l0_2.length c0_2,.slice A0_3 l0_3.length c0_3] 26 (0,0)) (by (with_reducible repeat (first|apply zb1|apply zb2|apply zb3));exact BK174.out) hb);replace HB:=Aside0.mk (below_step (by repeat (first|(with_reducible first|exact HB.out|apply zl1|apply zl2|apply zl3|refine below_set ?_ GE174.out)|exact HB.out)) hb);(try clear hb);obtain ⟨hcz9_0,hcz9_1,hcz9_2,hcz9_3⟩:=zc4 BK174.out;obtain ⟨hfz9_0,hfz9_1,hfz9_2,hfz9_3⟩:=zf4 BK174.out)|((with_reducible refine gate_callee (f:=10) rfl ?_);refine goesL_ (some 15) rfl rfl Try.func10 (by kernel_rfl) rfl #[.agg #[.bool a0_0,.slice A0_1 l0_1.length c0_1,.slice A0_2 l0_2.length c0_2,.slice A0_3 l0_3.length c0_3]] rfl (by (try simp only [List.map_toArray,List.map_cons,List.map_nil]);first|done|rfl|(simp only [List.length_drop,List.length_take];rfl)|(simp (disch:=omega) only [u64_in];rfl)) ?_;(with_reducible refine (node_Size.calls k a0_0 _ _ l0_1 _ _ l0_2 _ _ l0_3 t176 _ ?side1 ?side2 ?side3 ?side4 ?side5 ?side6 A4.out).mono ?_);(case side1=>repeat (first|exact (Kd.C_below HR0_1.out HB.out)|(with_reducible refine Kd.C_alloc ?_ _)|(with_reducible refine Kd.C_drewN ?_ _)|(with_reducible refine Kd.C_drew ?_)));(case side2=>exact HC0_1.out);(case side3=>repeat (first|exact (Kd.C_below HR0_2.out HB.out)|(with_reducible refine Kd.C_alloc ?_ _)|(with_reducible refine Kd.C_drewN ?_ _)|(with_reducible refine Kd.C_drew ?_)));(case side4=>exact HC0_2.out);(case side5=>repeat (first|exact (Kd.C_below HR0_3.out HB.out)|(with_reducible refine Kd.C_alloc ?_ _)|(with_reducible refine Kd.C_drewN ?_ _)|(with_reducible refine Kd.C_drew ?_)));(case side6=>exact HC0_3.out);rintro e w10 ⟨rfl,hb⟩;refine ⟨_,rfl,?_⟩;replace BK174:=Aside0.mk (blk_below (g:=gb174) (o:=.cells #[.bool a0_0,.slice A0_1 l0_1.length c0_1,.slice A0_2 l0_2.length c0_2,.slice A0_3 l0_3.length c0_3] 26 (0,0)) (by (with_reducible repeat (first|apply zb1|apply zb2|apply zb3));exact BK174.out) hb);replace HB:=Aside0.mk (below_step (by repeat (first|(with_reducible first|exact HB.out|apply zl1|apply zl2|apply zl3|refine below_set ?_ GE174.out)|exact HB.out)) hb);(try clear hb)))
   go_ret2
   exact ⟨by first|(with_reducible rfl)|(simp only [isEmpty_bne,Bool.not_not] <;> rfl)|rfl|(simp [*,errW_none,errW_some] <;> rfl),by repeat (first|(with_reducible first|exact HB.out|apply zl1|apply zl2|apply zl3|refine below_set ?_ GE174.out)|exact HB.out)⟩
  ·rw [if_neg c5] at H
   have c5b0:decide (256 < t176)=false:=decide_eq_false c5
   clear c5
   by_cases c11:a0_0=true
   ·subst c11
    have H1:((some (([1,((l0_1.length:Int)) % 256]:List Int):List Int)).bind fun y177=>(if ([]:List Int).length + y177.length < 140737488355328 then (node_Write.l0 k (([]:List Int) ++ y177) l0_1 (l0_1.length:Int) 0) else (none)))=some (r1,r2):=by rw [if_pos rfl] at H;exact H
    clear H
    have H:=H1
    clear H1
    obtain ⟨y177,hy177⟩:∃ y_:List Int,y_=(([1,((l0_1.length:Int)) % 256]:List Int)):=⟨_,rfl⟩
    replace H:(if ([]:List Int).length + y177.length < 140737488355328 then (node_Write.l0 k (([]:List Int) ++ y177) l0_1 (l0_1.length:Int) 0) else (none))=some (r1,r2):=by first|(rw [hy177];with_reducible exact H)|(have H2_:=(Option.bind_some _ _).symm.trans H;rw [hy177];with_reducible exact H2_)|(have H2_:=(Option.bind_some _ _).symm.trans H;with_reducible exact H2_)|with_reducible exact H|(rw [hy177];exact H)|exact H
    have Ny177:=Aside0.mk hy177
    clear hy177
    by_cases c12:([]:List Int).length + y177.length < 140737488355328
    ·rw [if_pos c12] at H
     have LMc12:=Aside0.mk c12
     clear c12
     obtain ⟨y180,hy180⟩:∃ y_:List Int,y_=(([]:List Int) ++ y177):=⟨_,rfl⟩
     replace H:(node_Write.l0 k y180 l0_1 (l0_1.length:Int) 0)=some (r1,r2):=by first|(rw [hy180];with_reducible exact H)|(have H2_:=(Option.bind_some _ _).symm.trans H;rw [hy180];with_reducible exact H2_)|(have H2_:=(Option.bind_some _ _).symm.trans H;with_reducible exact H2_)|with_reducible exact H|(rw [hy180];exact H)|exact H
     have Ny180:=Aside0.mk hy180
     clear hy180
     have H':=Aside0.mk H
     clear H
     go_enter Try.func8,Try.ntmps8
     go_wp2_with (first|((with_reducible refine gate_dst (N:=1) rfl ?_);refine box_event ?hg (N:=1) ?hd (cs:=#[.bool true,.slice A0_1 l0_1.length c0_1,.slice A0_2 l0_2.length c0_2,.slice A0_3 l0_3.length c0_3]) (t:=26) ?hr ?_;(case hd=>rfl);(case hg=>rfl);(case hr=>first|(go_simp;done)|(go_simp;rfl));intro gb174 hg w13 hbox hb;have BK174:=Aside0.mk (hbox);have GW174:=Aside0.mk ((by rw [hg];exact (below_size (by repeat (first|(with_reducible first|exact HB.out|apply zl1|apply zl2|apply zl3)|exact HB.out))):w.heap.size≤gb174));have GE174:=Aside0.mk ((by rw [hg];exact (below_size (by repeat (first|(with_reducible first|exact HB.out|apply zl1|apply zl2|apply zl3)|exact HB.out))):w.heap.size≤gb174));replace HB:=Aside0.mk (below_step (by repeat (first|(with_reducible first|exact HB.out|apply zl1|apply zl2|apply zl3)|exact HB.out)) hb);clear hb hbox hg;obtain ⟨hcz14_0,hcz14_1,hcz14_2,hcz14_3⟩:=zc4 BK174.out;obtain ⟨hfz14_0,hfz14_1,hfz14_2,hfz14_3⟩:=zf4 BK174.out)|((with_reducible refine gate_callee (f:=23) rfl ?_);refine goesL_ (some 11) rfl rfl Try.func23 (by kernel_rfl) rfl #[.agg #[.bool true,.slice A0_1 l0_1.length c0_1,.slice A0_2 l0_2.length c0_2,.slice A0_3 l0_3.length c0_3]] rfl (by (try simp only [List.map_toArray,List.map_cons,List.map_nil]);first|done|rfl|(simp only [List.length_drop,List.length_take];rfl)|(simp (disch:=omega) only [u64_in];rfl)) ?_;(with_reducible refine (node_right.calls k true _ _ l0_1 _ _ l0_2 _ _ l0_3 true _ ?side1 ?side2 ?side3 ?side4 ?side5 ?side6 A2.out).mono ?_);(case side1=>repeat (first|exact (Kd.C_below HR0_1.out HB.out)|(with_reducible refine Kd.C_alloc ?_ _)|(with_reducible refine Kd.C_drewN ?_ _)|(with_reducible refine Kd.C_drew ?_)));(case side2=>exact HC0_1.out);(case side3=>repeat (first|exact (Kd.C_below HR0_2.out HB.out)|(with_reducible refine Kd.C_alloc ?_ _)|(with_reducible refine Kd.C_drewN ?_ _)|(with_reducible refine Kd.C_drew ?_)));(case side4=>exact HC0_2.out);(case side5=>repeat (first|exact (Kd.C_below HR0_3.out HB.out)|(with_reducible refine Kd.C_alloc ?_ _)|(with_reducible refine Kd.C_drewN ?_ _)|(with_reducible refine Kd.C_drew ?_)));(case side6=>exact HC0_3.out);rintro e w15 ⟨rfl,hb⟩;refine ⟨_,rfl,?_⟩;replace BK174:=Aside0.mk (blk_below (g:=gb174) (o:=.cells #[.bool true,.slice A0_1 l0_1.length c0_1,.slice A0_2 l0_2.length c0_2,.slice A0_3 l0_3.length c0_3] 26 (0,0)) (by (with_reducible repeat (first|apply zb1|apply zb2|apply zb3));exact BK174.out) hb);replace HB:=Aside0.mk (below_step (by repeat (first|(with_reducible first|exact HB.out|apply zl1|apply zl2|apply zl3|refine below_set ?_ GE174.out)|exact HB.out)) hb);(try clear hb);obtain ⟨hcz16_0,hcz16_1,hcz16_2,hcz16_3⟩:=zc4 BK174.out;obtain ⟨hfz16_0,hfz16_1,hfz16_2,hfz16_3⟩:=zf4 BK174.out)|((with_reducible refine gate_callee (f:=10) rfl ?_);refine goesL_ (some 15) rfl rfl Try.func10 (by kernel_rfl) rfl #[.agg #[.bool true,.slice A0_1 l0_1.length c0_1,.slice A0_2 l0_2.length c0_2,.slice A0_3 l0_3.length c0_3]] rfl (by (try simp only [List.map_toArray,List.map_cons,List.map_nil]);first|done|rfl|(simp only [List.length_drop,List.length_take];rfl)|(simp (disch:=omega) only [u64_in];rfl)) ?_;(with_reducible refine (node_Size.calls k true _ _ l0_1 _ _ l0_2 _ _ l0_3 t176 _ ?side1 ?side2 ?side3 ?side4 ?side5 ?side6 A4.out).mono ?_);(case side1=>repeat (first|exact (Kd.C_below HR0_1.out HB.out)|(with_reducible refine Kd.C_alloc ?_ _)|(with_reducible refine Kd.C_drewN ?_ _)|(with_reducible refine Kd.C_drew ?_)));(case side2=>exact HC0_1.out);(case side3=>repeat (first|exact (Kd.C_below HR0_2.out HB.out)|(with_reducible refine Kd.C_alloc ?_ _)|(with_reducible refine Kd.C_drewN ?_ _)|(with_reducible refine Kd.C_drew ?_)));(case side4=>exact HC0_2.out);(case side5=>repeat (first|exact (Kd.C_below HR0_3.out HB.out)|(with_reducible refine Kd.C_alloc ?_ _)|(with_reducible refine Kd.C_drewN ?_ _)|(with_reducible refine Kd.C_drew ?_)));(case side6=>exact HC0_3.out);rintro e w17 ⟨rfl,hb⟩;refine ⟨_,rfl,?_⟩;replace BK174:=Aside0.mk (blk_below (g:=gb174) (o:=.cells #[.bool true,.slice A0_1 l0_1.length c0_1,.slice A0_2 l0_2.length c0_2,.slice A0_3 l0_3.length c0_3] 26 (0,0)) (by (with_reducible repeat (first|apply zb1|apply zb2|apply zb3));exact BK174.out) hb);replace HB:=Aside0.mk (below_step (by repeat (first|(with_reducible first|exact HB.out|apply zl1|apply zl2|apply zl3|refine below_set ?_ GE174.out)|exact HB.out)) hb);(try clear hb);obtain ⟨hcz18_0,hcz18_1,hcz18_2,hcz18_3⟩:=zc4 BK174.out;obtain ⟨hfz18_0,hfz18_1,hfz18_2,hfz18_3⟩:=zf4 BK174.out)|((with_reducible refine gate_dst (N:=24) rfl ?_);refine Kd.R_lit (Kd.int .u8) _ 5 ?hg (N:=24) ?hd (xs:=([1,((l0_1.length:Int)) % 256]:List Int)) (inner:=[.int .u8 1,.int .u8 (((l0_1.length:Int)) % 256)]) (ok:=fun _=>True) (okp:=fun _=>True) ?hr ?hp (fun _ hk=>hk) trivial (Below.refl _ _) (Nat.le_refl _) (by simp) ?_;(case hd=>rfl);(case hg=>rfl);(case hr=>first|(go_simp;done)|(go_simp;rfl));(case hp=>exact (Reps.one (show Kd.M (Kd.int .u8) _ _ _ 1 [.int .u8 1] from rfl) (Reps.one (show Kd.M (Kd.int .u8) _ _ _ (((l0_1.length:Int)) % 256) [.int .u8 (((l0_1.length:Int)) % 256)] from rfl) (Reps.none _ _))));intro v178 w19 ho20 hb hg_ hnew_;clear hg_ hnew_;(first|rw [← Ny177.out] at ho20|(simp only [Int.reduceToNat] at ho20;rw [← Ny177.out] at ho20));have HO179:=Aside0.mk (Kd.R_lower ho20 (below_size (by repeat (first|(with_reducible first|exact HB.out|apply zl1|apply zl2|apply zl3|refine below_set ?_ GE174.out)|exact HB.out))));replace BK174:=Aside0.mk (blk_below (g:=gb174) (o:=.cells #[.bool true,.slice A0_1 l0_1.length c0_1,.slice A0_2 l0_2.length c0_2,.slice A0_3 l0_3.length c0_3] 26 (0,0)) (by (with_reducible repeat (first|apply zb1|apply zb2|apply zb3));exact BK174.out) hb);replace HB:=Aside0.mk (below_step (by repeat (first|(with_reducible first|exact HB.out|apply zl1|apply zl2|apply zl3|refine below_set ?_ GE174.out)|exact HB.out)) hb);clear hb ho20;obtain ⟨Ao22,co22,eo22⟩:=Kd.R_slice HO179.out;subst eo22)|((with_reducible refine gate_builtin (b:=.append) (xs:=#[.tmp 19,.tmp 24]) rfl ?_);at_builtin;refine Kd.R_append_rows (Kd.int .u8) (w0:=w) w.heap.size rfl (.tmp 19) (.tmp 24) 45 5 (.int .u8 0) 1 rfl Try.underlying45 info5 rfl (by decide) (by omega) (.slice none 0 0) ([]:List Int) y177 _ _ _ (fun k_=>some k_ ≠ (.slice Ao22 y177.length co22:Value).ownBlock) (fun _=>False) rfl rfl ?aO ?aR (fun _ _ h=>h) (fun _ h=>h.elim) ?aF ?aB ?aS ?aL ?_;(case aR=>repeat (first|exact (Kd.R_reads' HO179.out).2.2|(with_reducible refine Kd.C_alloc ?_ _)|(with_reducible refine Kd.C_drewN ?_ _)|(with_reducible refine Kd.C_drew ?_)));(case aB=>exact (by repeat (first|(with_reducible first|exact HB.out|apply zl1|apply zl2|apply zl3|refine below_set ?_ GE174.out)|exact HB.out)));(case aF=>exact (fun k_ hk=>Kd.fresh' (Kd.R_lt (by (with_reducible repeat (first|apply zk1|apply zk2|apply zk3));exact HO179.out)) k_ hk));(case aO=>exact ((Kd.R_nil _ _ _ _ (fun k_=>some k_ ≠ (.slice Ao22 y177.length co22:Value).ownBlock))));(case aS=>exact (below_size (by repeat (first|(with_reducible first|exact HB.out|apply zl1|apply zl2|apply zl3|refine below_set ?_ GE174.out)|exact HB.out))));(case aL=>have:=LMc12.out;omega);intro v181 w21 ho hb hg hat;rw [← Ny180.out] at ho;replace BK174:=Aside0.mk (blk_grown (g:=gb174) (o:=.cells #[.bool true,.slice A0_1 l0_1.length c0_1,.slice A0_2 l0_2.length c0_2,.slice A0_3 l0_3.length c0_3] 26 (0,0)) (by (with_reducible repeat (first|apply zb1|apply zb2|apply zb3));exact BK174.out) hg (by simp [Value.ownBlock]));replace HO179:=Aside0.mk (Kd.R_after (Kd.R_apart_nil (by (with_reducible repeat (first|apply zk1|apply zk2|apply zk3));exact HO179.out)) hg hat);replace HB:=Aside0.mk (hb);have HO182:=Aside0.mk (ho);clear ho hb hg hat;obtain ⟨hcz23_0,hcz23_1,hcz23_2,hcz23_3⟩:=zc4 BK174.out;obtain ⟨hfz23_0,hfz23_1,hfz23_2,hfz23_3⟩:=zf4 BK174.out))
     go_loopg [4,29] k (fun kq v4 v29 w'=>∃ (x4_1:List Int) (x29_1:Int),v29=.int .i64 x29_1∧Aside0 (node_Write.l0 kq x4_1 l0_1 (l0_1.length:Int) x29_1=some (r1,r2))∧Aside0 (kq≤k)∧Aside0 (Kd.R (Kd.int .u8) 5 w' w.heap.size (fun _=>True) v4 x4_1)∧Aside0 (w'.heap[gb174]?=some (.cells #[.bool true,(.slice A0_1 l0_1.length c0_1),(.slice A0_2 l0_2.length c0_2),(.slice A0_3 l0_3.length c0_3)] 26 (0,0)))∧Aside0 (Below w.heap.size w w'))
     case atStart=>exact ⟨(y180),(0),(by first|(with_reducible rfl)|(simp;done)|(simp [*];done)|rfl|(simp only [not_isEmpty_bne])),H',⟨Nat.le_refl _⟩,⟨by (with_reducible repeat (first|apply zk1|apply zk2|apply zk3));exact Kd.R_mono HO182.out (fun _ hk=>trivial)⟩,⟨by (with_reducible repeat (first|apply zb1|apply zb2|apply zb3));exact BK174.out⟩,⟨by repeat (first|(with_reducible first|exact HB.out|apply zl1|apply zl2|apply zl3|refine below_set ?_ GE174.out)|exact HB.out)⟩⟩
     case round =>
      clear H'
      try clear hcz14_0 hcz14_1 hcz14_2 hcz14_3 hcz16_0 hcz16_1 hcz16_2 hcz16_3 hcz18_0 hcz18_1 hcz18_2 hcz18_3 hcz23_0 hcz23_1 hcz23_2 hcz23_3 hcz7_0 hcz7_1 hcz7_2
      try clear c1
      try clear c2
      try clear p2
      try clear c3
      try clear c5
      try clear c5b0
      try clear c8
      try clear c10
      try clear c11
      try clear c12
      try clear c23
      try clear hfz14_0 hfz14_1 hfz14_2 hfz14_3 hfz16_0 hfz16_1 hfz16_2 hfz16_3 hfz18_0 hfz18_1 hfz18_2 hfz18_3 hfz23_0 hfz23_1 hfz23_2 hfz23_3 hfz7_0 hfz7_1 hfz7_2 hfz7_3 hfz9_0 hfz9_1 hfz9_2 hfz9_3
      try clear hcz7_3 hcz9_0 hcz9_1 hcz9_2 hcz9_3
      obtain ⟨x4_1,x29_1,rfl,HA,HK1,HO_4,BK174,HB⟩:=hrel
      cases gk with
      | zero=>exact absurd HA.out (by simp [node_Write.l0])
      | succ k1 =>
       have H:=HA.out
       clear HA
       simp only [node_Write.l0] at H
       by_cases c24:x29_1 < (l0_1.length:Int)
       ·rw [if_pos c24] at H
        have c24b0:decide (x29_1 < (l0_1.length:Int))=true:=decide_eq_true c24
        clear c24
        by_cases c25:0≤x29_1
        ·rw [if_pos c25] at H
         have c25b0:decide (0≤x29_1)=true:=decide_eq_true c25
         clear c25
         by_cases c26:x29_1 < (l0_1.length:Int)
         ·rw [if_pos c26] at H
          have c26b0:decide (x29_1 < (l0_1.length:Int))=true:=decide_eq_true c26
          clear c26
          replace H:=Option.bind_eq_some_iff.mp H
          obtain ⟨t185,A270,H⟩:=H
          replace H:((pack_Str.f t185 ((rd_T43 l0_1 x29_1).f1)).bind fun t188=>(node_Write.l0 k1 t188 l0_1 (l0_1.length:Int) (wrap64 (x29_1 + 1))))=some (r1,r2):=H
          have A27:=Aside0.mk A270
          clear A270
          replace H:=Option.bind_eq_some_iff.mp H
          obtain ⟨t188,A280,H⟩:=H
          replace H:(node_Write.l0 k1 t188 l0_1 (l0_1.length:Int) (wrap64 (x29_1 + 1)))=some (r1,r2):=H
          have A28:=Aside0.mk A280
          clear A280
          have H':=Aside0.mk H
          clear H
          have p183:0≤(x29_1:Int):=of_decide_eq_true (by first|(with_reducible assumption)|assumption)
          have q183:x29_1 < (l0_1.length:Int):=of_decide_eq_true (by first|(with_reducible assumption)|assumption)
          obtain ⟨ad183,e183,hx183_0,hx183_1⟩:=at_T43 HR0_1.out x29_1 p183 q183
          cases e183
          replace hx183_0:=(HB.out.cell (World.block_lt_of_cell? w _ hx183_0)).trans hx183_0
          replace hx183_1:=(HB.out.cell (World.block_lt_of_cell? w _ hx183_1)).trans hx183_1
          replace p183:=eq_true p183
          replace q183:=eq_true q183
          try go_wp2_with (first|((with_reducible refine gate_dst (N:=6) rfl ?_);refine box_event ?hg (N:=6) ?hd (cs:=#[.string (⟨#[]⟩:ByteArray),.string (⟨#[]⟩:ByteArray)]) (t:=43) ?hr ?_;(case hd=>rfl);(case hg=>rfl);(case hr=>first|(go_simp;done)|(go_simp;rfl));intro gb184 hg w29 hbox hb;replace HO_4:=Aside0.mk (Kd.R_below (by (with_reducible repeat (first|apply zk1|apply zk2|apply zk3));exact HO_4.out) hb);have BK184:=Aside0.mk (hbox);have GW184:=Aside0.mk ((by rw [hg];exact (below_size (by repeat (first|(with_reducible first|exact HB.out|apply zl1|apply zl2|apply zl3|refine below_set ?_ GE174.out)|exact HB.out))):w.heap.size≤gb184));have GE184:=Aside0.mk ((by rw [hg];exact (below_size (by repeat (first|(with_reducible first|exact HB.out|apply zl1|apply zl2|apply zl3|refine below_set ?_ GE174.out)|exact HB.out))):w.heap.size≤gb184));replace HB:=Aside0.mk (below_step (by repeat (first|(with_reducible first|exact HB.out|apply zl1|apply zl2|apply zl3|refine below_set ?_ GE174.out)|exact HB.out)) hb);have NB174_184:=Aside0.mk ((by rw [hg];exact Nat.ne_of_lt (blk_lt (g:=gb174) (o:=.cells #[.bool true,.slice (some ad183) l0_1.length c0_1,.slice A0_2 l0_2.length c0_2,.slice A0_3 l0_3.length c0_3] 26 (0,0)) (by (with_reducible repeat (first|apply zb1|apply zb2|apply zb3));exact BK174.out)):gb174 ≠ gb184));have NB184_174:=Aside0.mk ((by rw [hg];exact Nat.ne_of_gt (blk_lt (g:=gb174) (o:=.cells #[.bool true,.slice (some ad183) l0_1.length c0_1,.slice A0_2 l0_2.length c0_2,.slice A0_3 l0_3.length c0_3] 26 (0,0)) (by (with_reducible repeat (first|apply zb1|apply zb2|apply zb3));exact BK174.out)):gb184 ≠ gb174));replace BK174:=Aside0.mk (blk_below (g:=gb174) (o:=.cells #[.bool true,.slice (some ad183) l0_1.length c0_1,.slice A0_2 l0_2.length c0_2,.slice A0_3 l0_3.length c0_3] 26 (0,0)) (by (with_reducible repeat (first|apply zb1|apply zb2|apply zb3));exact BK174.out) hb);clear hb hbox hg;have hnb30:=NB184_174.out;have hnc30:=NB174_184.out;have hcz31_0:w29.cell? ⟨gb184,0,none⟩=some (.string (⟨#[]⟩:ByteArray)):=(blk_cell BK184.out 0).trans rfl;have hcz31_1:w29.cell? ⟨gb184,1,none⟩=some (.string (⟨#[]⟩:ByteArray)):=(blk_cell BK184.out 1).trans rfl;have hfz31_0:=blk_frozen BK184.out 0;have hfz31_1:=blk_frozen BK184.out 1))
          have n0_:Aside0 (Kd.R (Kd.int .u8) 5 ((w29.setCell ⟨gb184,0,none⟩ (.string ((rd_T43 l0_1 x29_1).f0))).setCell ⟨gb184,1,none⟩ (.string ((rd_T43 l0_1 x29_1).f1))) w.heap.size (fun _=>True) u4 x4_1):=⟨by (with_reducible repeat (first|apply zk1|apply zk2|apply zk3));exact Kd.R_mono (Kd.R_far (p:=⟨gb184,1,none⟩) (Kd.R_far (p:=⟨gb184,0,none⟩) (Kd.R_types HO_4.out BK184.out (by decide)) (fun _ hk=>hk.2) (.string ((rd_T43 l0_1 x29_1).f0))) (fun _ hk=>hk.2) (.string ((rd_T43 l0_1 x29_1).f1))) (fun _ hk=>trivial)⟩
          have n1_:Aside0 (((w29.setCell ⟨gb184,0,none⟩ (.string ((rd_T43 l0_1 x29_1).f0))).setCell ⟨gb184,1,none⟩ (.string ((rd_T43 l0_1 x29_1).f1))).heap[gb174]?=some (.cells #[.bool true,.slice (some ad183) l0_1.length c0_1,.slice A0_2 l0_2.length c0_2,.slice A0_3 l0_3.length c0_3] 26 (0,0))):=⟨by (repeat (first|(with_reducible first|apply zb1|apply zb2|apply zb3|exact BK174.out)|refine blk_far ?_ NB174_184.out _))⟩
          have n2_:Aside0 (((w29.setCell ⟨gb184,0,none⟩ (.string ((rd_T43 l0_1 x29_1).f0))).setCell ⟨gb184,1,none⟩ (.string ((rd_T43 l0_1 x29_1).f1))).heap[gb184]?=some (.cells #[.string ((rd_T43 l0_1 x29_1).f0),.string ((rd_T43 l0_1 x29_1).f1)] 43 (0,0))):=⟨by apply zpe;(repeat (first|(with_reducible first|apply zb1|apply zb2|apply zb3|apply zpi|exact BK184.out)));rfl⟩
          have n3_:Aside0 (Below w.heap.size w ((w29.setCell ⟨gb184,0,none⟩ (.string ((rd_T43 l0_1 x29_1).f0))).setCell ⟨gb184,1,none⟩ (.string ((rd_T43 l0_1 x29_1).f1)))):=⟨by repeat (first|(with_reducible first|exact HB.out|apply zl1|apply zl2|apply zl3|refine below_set ?_ GE174.out|refine below_set ?_ GE184.out)|exact HB.out)⟩
          (try clear HO_4)
          (try clear BK174)
          (try clear BK184)
          (try clear HB)
          generalize ((w29.setCell ⟨gb184,0,none⟩ (.string ((rd_T43 l0_1 x29_1).f0))).setCell ⟨gb184,1,none⟩ (.string ((rd_T43 l0_1 x29_1).f1)))=w32 at n0_ n1_ n2_ n3_ ⊢
          have HO_4:=n0_
          have BK174:=n1_
          have BK184:=n2_
          have HB:=n3_
          clear n0_ n1_ n2_ n3_
          replace HO_4:=Aside0.mk (Kd.R_drew HO_4.out)
          replace BK174:=Aside0.mk (blk_drew BK174.out)
          replace BK184:=Aside0.mk (blk_drew BK184.out)
          replace HB:=Aside0.mk (below_drew1 HB.out)
          obtain ⟨Ao34,co34,eo34⟩:=Kd.R_slice HO_4.out
          (first|subst eo34|(injection eo34 with f1_ f2_ f3_;have f4_:=f1_.symm;have f5_:=f3_.symm;clear f1_ f2_ f3_;subst f4_;subst f5_))
          refine start_ (n:=8) (S:=fun w'=>w'.cell? ⟨gb184,0,none⟩=some (.string ((rd_T43 l0_1 x29_1).f0))∧w'.cell? ⟨gb184,1,none⟩=some (.string ((rd_T43 l0_1 x29_1).f1))) (ds:=[]) #[false,false,false,false,false,false,false,false] (by kernel_rfl) rfl rfl ⟨(blk_cell BK184.out 0).trans rfl,(blk_cell BK184.out 1).trans rfl⟩ (fun hHeld=>?_);refine with_tabW node_Write.tab11 node_Write.bits11 (fun HT_ HW_=>?_)
          generalize w32.drew=w33 at HO_4 BK174 BK184 HB hHeld ⊢
          refine pure_ (i:=0) (N:=some 33) (v:=?_) (a':=?_) #[true,false,false,false,false,false,false,false] rfl rfl (any_of HT_.out (by kernel_rfl)) (fun _ _ _ h=>h) (Or.inl ⟨by rfl,?_⟩) ?_ ?_
          rotate_left
          ·intro w'
           go_simp
           with_reducible rfl
          rotate_left
          ·simp only [Act.put,List.setIfInBounds_toArray,List.set_cons_zero,List.set_cons_succ,i64_w,i32_w]
           rfl
          refine pure_ (i:=1) (N:=some 34) (v:=?_) (a':=?_) #[true,true,false,false,false,false,false,false] rfl rfl (any_of HT_.out (by kernel_rfl)) (fun _ _ _ h=>h) (Or.inl ⟨by rfl,?_⟩) ?_ ?_
          rotate_left
          ·intro w'
           go_simp
           with_reducible rfl
          rotate_left
          ·simp only [Act.put,List.setIfInBounds_toArray,List.set_cons_zero,List.set_cons_succ,i64_w,i32_w]
           rfl
          refine pure_ (i:=4) (N:=some 37) (v:=?_) (a':=?_) #[true,true,false,false,true,false,false,false] rfl rfl (any_of HT_.out (by kernel_rfl)) (fun _ _ _ h=>h) (Or.inl ⟨by rfl,?_⟩) ?_ ?_
          rotate_left
          ·intro w'
           go_simp
           with_reducible rfl
          rotate_left
          ·simp only [Act.put,List.setIfInBounds_toArray,List.set_cons_zero,List.set_cons_succ,i64_w,i32_w]
           rfl
          refine take_ (i:=2) (N:=some 35) (v:=?_) (a':=?_) #[true,true,true,false,true,false,false,false] rfl rfl (take_ofW HT_.out HW_.out (by kernel_rfl)) (fun _ _ _ h=>h) (Or.inl ⟨by rfl,?_⟩) hHeld ?_ ?_
          rotate_left
          ·rintro w' ⟨s0,s1⟩
           go_simp
           with_reducible rfl
          rotate_left
          ·simp only [Act.put,List.setIfInBounds_toArray,List.set_cons_zero,List.set_cons_succ,i64_w,i32_w]
           rfl
          refine take_ (i:=5) (N:=some 38) (v:=?_) (a':=?_) #[true,true,true,false,true,true,false,false] rfl rfl (take_ofW HT_.out HW_.out (by kernel_rfl)) (fun _ _ _ h=>h) (Or.inl ⟨by rfl,?_⟩) hHeld ?_ ?_
          rotate_left
          ·rintro w' ⟨s0,s1⟩
           go_simp
           with_reducible rfl
          rotate_left
          ·simp only [Act.put,List.setIfInBounds_toArray,List.set_cons_zero,List.set_cons_succ,i64_w,i32_w]
           rfl
          refine one_ (i:=3) (N:=some 36) #[true,true,true,true,true,true,false,false] rfl rfl (one_of HT_.out (by kernel_rfl)) (by decide) (fun K hK=>?_)
          refine goes_ Try.func24 (by kernel_rfl) rfl #[.slice Ao34 x4_1.length co34,.string ((rd_T43 l0_1 x29_1).f0)] (by rfl) rfl rfl (by (try simp only [List.map_toArray,List.map_cons,List.map_nil]);first|done|rfl|(simp only [List.length_drop,List.length_take];rfl)|(simp (disch:=omega) only [u64_in];rfl)) ?_
          with_reducible refine (pack_Str.calls (fun k_=>some k_=(.slice Ao34 x4_1.length co34:Value).ownBlock) (.slice Ao34 x4_1.length co34) x4_1 ((rd_T43 l0_1 x29_1).f0) t185 w _ ?side1 ?side2 A27.out).mono ?_
          (case side1=>repeat (first|(with_reducible first|exact HB.out|apply zl1|apply zl2|apply zl3|refine below_set ?_ GE174.out|refine below_set ?_ GE184.out)|exact HB.out))
          (case side2=>exact Kd.R_tight rfl HO_4.out)
          rintro e w35 ⟨v186,rfl,ho0,hb,hkp⟩
          refine ⟨_,rfl,?_⟩
          have n0_:=Aside0.mk (blk_kept (by (with_reducible repeat (first|apply zb1|apply zb2|apply zb3));exact BK174.out) hkp (fun hs_=>(fun e_=>(Kd.R_ne HO_4.out BK174.out (by decide)) e_) hs_))
          have n1_:=Aside0.mk (blk_kept (by (with_reducible repeat (first|apply zb1|apply zb2|apply zb3));exact BK184.out) hkp (fun hs_=>(fun e_=>(Kd.R_ne HO_4.out BK184.out (by decide)) e_) hs_))
          have n2_:=Aside0.mk (Kd.R_mono (ok':=fun k_=>True) ho0 (fun k_ hk_=>trivial))
          have n3_:=Aside0.mk (hb)
          clear BK174
          clear BK184
          clear HB
          clear HO_4
          have BK174:=n0_
          have BK184:=n1_
          have HO187:=n2_
          have HB:=n3_
          clear n0_ n1_ n2_ n3_
          (try clear hb)
          (try clear hkp)
          (try clear ho0)
          obtain ⟨Ao36,co36,eo36⟩:=Kd.R_slice HO187.out
          (first|subst eo36|(injection eo36 with f1_ f2_ f3_;have f4_:=f1_.symm;have f5_:=f3_.symm;clear f1_ f2_ f3_;subst f4_;subst f5_))
          refine hK.out _ _ ⟨(blk_cell BK184.out 0).trans rfl,(blk_cell BK184.out 1).trans rfl⟩ (fun hHeld=>?_)
          clear hK K
          refine norm_ (a':=?_) ?_ ?_
          rotate_left
          ·show Act.put _ (some 36) _=_
           simp only [Act.put,List.setIfInBounds_toArray,List.set_cons_zero,List.set_cons_succ,i64_w,i32_w]
           rfl
          refine one_ (i:=6) (N:=some 39) #[true,true,true,true,true,true,true,false] rfl rfl (one_of HT_.out (by kernel_rfl)) (by decide) (fun K hK=>?_)
          refine goes_ Try.func24 (by kernel_rfl) rfl #[.slice Ao36 t185.length co36,.string ((rd_T43 l0_1 x29_1).f1)] (by rfl) rfl rfl (by (try simp only [List.map_toArray,List.map_cons,List.map_nil]);first|done|rfl|(simp only [List.length_drop,List.length_take];rfl)|(simp (disch:=omega) only [u64_in];rfl)) ?_
          with_reducible refine (pack_Str.calls (fun k_=>some k_=(.slice Ao36 t185.length co36:Value).ownBlock) (.slice Ao36 t185.length co36) t185 ((rd_T43 l0_1 x29_1).f1) t188 w _ ?side1 ?side2 A28.out).mono ?_
          (case side1=>repeat (first|(with_reducible first|exact HB.out|apply zl1|apply zl2|apply zl3|refine below_set ?_ GE174.out|refine below_set ?_ GE184.out)|exact HB.out))
          (case side2=>exact Kd.R_tight rfl HO187.out)
          rintro e w37 ⟨v189,rfl,ho0,hb,hkp⟩
          refine ⟨_,rfl,?_⟩
          have n0_:=Aside0.mk (blk_kept (by (with_reducible repeat (first|apply zb1|apply zb2|apply zb3));exact BK174.out) hkp (fun hs_=>(fun e_=>(Kd.R_ne HO187.out BK174.out (by decide)) e_) hs_))
          have n1_:=Aside0.mk (blk_kept (by (with_reducible repeat (first|apply zb1|apply zb2|apply zb3));exact BK184.out) hkp (fun hs_=>(fun e_=>(Kd.R_ne HO187.out BK184.out (by decide)) e_) hs_))
          have n2_:=Aside0.mk (Kd.R_mono (ok':=fun k_=>True) ho0 (fun k_ hk_=>trivial))
          have n3_:=Aside0.mk (hb)
          clear BK174
          clear BK184
          clear HB
          clear HO187
          have BK174:=n0_
          have BK184:=n1_
          have HO190:=n2_
          have HB:=n3_
          clear n0_ n1_ n2_ n3_
          (try clear hb)
          (try clear hkp)
          (try clear ho0)
          refine hK.out _ _ ⟨(blk_cell BK184.out 0).trans rfl,(blk_cell BK184.out 1).trans rfl⟩ (fun hHeld=>?_)
          clear hK K
          refine norm_ (a':=?_) ?_ ?_
          rotate_left
          ·show Act.put _ (some 39) _=_
           simp only [Act.put,List.setIfInBounds_toArray,List.set_cons_zero,List.set_cons_succ,i64_w,i32_w]
           rfl
          refine pure_ (i:=7) (N:=some 4) (v:=?_) (a':=?_) #[true,true,true,true,true,true,true,true] rfl rfl (any_of HT_.out (by kernel_rfl)) (fun _ _ _ h=>h) (Or.inl ⟨by rfl,?_⟩) ?_ ?_
          rotate_left
          ·intro w'
           go_simp
           with_reducible rfl
          rotate_left
          ·simp only [Act.put,List.setIfInBounds_toArray,List.set_cons_zero,List.set_cons_succ,i64_w,i32_w]
           rfl
          refine done_ (done_of HT_.out (by kernel_rfl)) ?_
          try go_wp2
          go_roundg k1
          case measure=>have:=HK1.out;omega
          case rel=>exact ⟨(t188),(wrap64 (x29_1 + 1)),(by first|(with_reducible rfl)|(simp;done)|(simp [*];done)|rfl|(simp only [not_isEmpty_bne])),H',⟨by have:=HK1.out;omega⟩,⟨by (with_reducible repeat (first|apply zk1|apply zk2|apply zk3));exact HO190.out⟩,⟨by (with_reducible repeat (first|apply zb1|apply zb2|apply zb3));exact BK174.out⟩,⟨by repeat (first|(with_reducible first|exact HB.out|apply zl1|apply zl2|apply zl3|refine below_set ?_ GE174.out|refine below_set ?_ GE184.out)|exact HB.out)⟩⟩
         ·rw [if_neg c26] at H
          exact absurd H (by simp)
        ·rw [if_neg c25] at H
         exact absurd H (by simp)
       ·rw [if_neg c24] at H
        have c24b0:decide (x29_1 < (l0_1.length:Int))=false:=decide_eq_false c24
        clear c24
        replace H:=Option.bind_eq_some_iff.mp H
        obtain ⟨t191,A380,H⟩:=H
        replace H:(if (strOfNums x4_1).size + t191.size≤9223372036854775807 then (some ((strOfNums x4_1) ++ t191,0)) else (none))=some (r1,r2):=H
        have A38:=Aside0.mk A380
        clear A380
        by_cases c39:(strOfNums x4_1).size + t191.size≤9223372036854775807
        ·rw [if_pos c39] at H
         have c39b0:=eq_true c39
         have c39b1:decide ((strOfNums x4_1).size + t191.size≤9223372036854775807)=true:=decide_eq_true c39
         try have c39b2:(9223372036854775807 < (strOfNums x4_1).size + t191.size)=False:=eq_false (Nat.not_lt.2 c39)
         simp only [Option.some.injEq,Prod.mk.injEq] at H
         obtain ⟨rfl,rfl⟩:=H
         try go_wp2
         replace HO_4:=Aside0.mk (Kd.R_drew HO_4.out)
         replace BK174:=Aside0.mk (blk_drew BK174.out)
         replace HB:=Aside0.mk (below_drew1 HB.out)
         obtain ⟨Ao41,co41,eo41⟩:=Kd.R_slice HO_4.out
         (first|subst eo41|(injection eo41 with f1_ f2_ f3_;have f4_:=f1_.symm;have f5_:=f3_.symm;clear f1_ f2_ f3_;subst f4_;subst f5_))
         have hcv42:=own_string (P:=Try.prog) Try.underlying45 Try.underlying5 Try.underlying9 (Kd.own_of_R HO_4.out)
         refine start_ (n:=9) (S:=fun w'=>Sem.run Try.prog (convert 45 9 (.slice Ao41 x4_1.length co41)) w'=Result.ok (Value.string (strOfNums x4_1)) w') (ds:=[]) #[false,false,false,false,false,false,false,false,false] (by kernel_rfl) rfl rfl ((own_string (P:=Try.prog) Try.underlying45 Try.underlying5 Try.underlying9 (Kd.own_of_R HO_4.out))) (fun hHeld=>?_);refine with_tabW node_Write.tab19 node_Write.bits19 (fun HT_ HW_=>?_)
         generalize wr.drew=w40 at HO_4 BK174 HB hHeld ⊢
         refine pure_ (i:=0) (N:=some 74) (v:=?_) (a':=?_) #[true,false,false,false,false,false,false,false,false] rfl rfl (any_of HT_.out (by kernel_rfl)) (fun _ _ _ h=>h) (Or.inl ⟨by rfl,?_⟩) ?_ ?_
         rotate_left
         ·intro w'
          go_simp
          with_reducible rfl
         rotate_left
         ·simp only [Act.put,List.setIfInBounds_toArray,List.set_cons_zero,List.set_cons_succ,i64_w,i32_w]
          rfl
         refine pure_ (i:=2) (N:=some 76) (v:=?_) (a':=?_) #[true,false,true,false,false,false,false,false,false] rfl rfl (any_of HT_.out (by kernel_rfl)) (fun _ _ _ h=>h) (Or.inl ⟨by rfl,?_⟩) ?_ ?_
         rotate_left
         ·intro w'
          go_simp
          with_reducible rfl
         rotate_left
         ·simp only [Act.put,List.setIfInBounds_toArray,List.set_cons_zero,List.set_cons_succ,i64_w,i32_w]
          rfl
         refine pure_ (i:=3) (N:=some 77) (v:=?_) (a':=?_) #[true,false,true,true,false,false,false,false,false] rfl rfl (any_of HT_.out (by kernel_rfl)) (fun _ _ _ h=>h) (Or.inl ⟨by rfl,?_⟩) ?_ ?_
         rotate_left
         ·intro w'
          go_simp
          with_reducible rfl
         rotate_left
         ·simp only [Act.put,List.setIfInBounds_toArray,List.set_cons_zero,List.set_cons_succ,i64_w,i32_w]
          rfl
         refine pure_ (i:=4) (N:=some 78) (v:=?_) (a':=?_) #[true,false,true,true,true,false,false,false,false] rfl rfl (any_of HT_.out (by kernel_rfl)) (fun _ _ _ h=>h) (Or.inl ⟨by rfl,?_⟩) ?_ ?_
         rotate_left
         ·intro w'
          go_simp
          with_reducible rfl
         rotate_left
         ·simp only [Act.put,List.setIfInBounds_toArray,List.set_cons_zero,List.set_cons_succ,i64_w,i32_w]
          rfl
         refine take_ (i:=1) (N:=some 75) (v:=?_) (a':=?_) #[true,true,true,true,true,false,false,false,false] rfl rfl (take_ofW HT_.out HW_.out (by kernel_rfl)) (fun _ _ _ h=>h) (Or.inl ⟨by rfl,?_⟩) hHeld ?_ ?_
         rotate_left
         ·intro w' s0
          go_simp
          with_reducible rfl
         rotate_left
         ·simp only [Act.put,List.setIfInBounds_toArray,List.set_cons_zero,List.set_cons_succ,i64_w,i32_w]
          rfl
         refine one_ (i:=5) (N:=some 79) #[true,true,true,true,true,true,false,false,false] rfl rfl (one_of HT_.out (by kernel_rfl)) (by decide) (fun K hK=>?_)
         refine goes_ Try.func26 (by kernel_rfl) rfl #[.string (⟨#[0]⟩:ByteArray),.int .i64 (wrap64 (256 - (x4_1.length:Int)))] (by rfl) rfl rfl (by (try simp only [List.map_toArray,List.map_cons,List.map_nil]);first|done|rfl|(simp only [List.length_drop,List.length_take];rfl)|(simp (disch:=omega) only [u64_in];rfl)) ?_
         with_reducible refine (strings_Repeat.calls (⟨#[0]⟩:ByteArray) (wrap64 (256 - (x4_1.length:Int))) t191 _ A38.out).mono ?_
         rintro e w43 ⟨rfl,hb⟩
         refine ⟨_,rfl,?_⟩
         replace HO_4:=Aside0.mk (Kd.R_below (by (with_reducible repeat (first|apply zk1|apply zk2|apply zk3));exact HO_4.out) hb)
         replace BK174:=Aside0.mk (blk_below (g:=gb174) (o:=.cells #[.bool true,.slice A0_1 l0_1.length c0_1,.slice A0_2 l0_2.length c0_2,.slice A0_3 l0_3.length c0_3] 26 (0,0)) (by (with_reducible repeat (first|apply zb1|apply zb2|apply zb3));exact BK174.out) hb)
         replace HB:=Aside0.mk (below_step (by repeat (first|(with_reducible first|exact HB.out|apply zl1|apply zl2|apply zl3|refine below_set ?_ GE174.out)|exact HB.out)) hb)
         (try clear hb)
         (try clear hb2)
         (try clear hk)
         (try clear hi)
         refine hK.out _ _ ((own_string (P:=Try.prog) Try.underlying45 Try.underlying5 Try.underlying9 (Kd.own_of_R HO_4.out))) (fun hHeld=>?_)
         clear hK K
         refine norm_ (a':=?_) ?_ ?_
         rotate_left
         ·show Act.put _ (some 79) _=_
          simp only [Act.put,List.setIfInBounds_toArray,List.set_cons_zero,List.set_cons_succ,i64_w,i32_w]
          rfl
         refine pure_ (i:=6) (N:=some 80) (v:=?_) (a':=?_) #[true,true,true,true,true,true,true,false,false] rfl rfl (any_of HT_.out (by kernel_rfl)) (fun _ _ _ h=>h) (Or.inl ⟨by rfl,?_⟩) ?_ ?_
         rotate_left
         ·intro w'
          go_simp
          with_reducible rfl
         rotate_left
         ·simp only [Act.put,List.setIfInBounds_toArray,List.set_cons_zero,List.set_cons_succ,i64_w,i32_w]
          rfl
         refine pure_ (i:=7) (N:=some 2) (v:=?_) (a':=?_) #[true,true,true,true,true,true,true,true,false] rfl rfl (any_of HT_.out (by kernel_rfl)) (fun _ _ _ h=>h) (Or.inl ⟨by rfl,?_⟩) ?_ ?_
         rotate_left
         ·intro w'
          go_simp
          with_reducible rfl
         rotate_left
         ·simp only [Act.put,List.setIfInBounds_toArray,List.set_cons_zero,List.set_cons_succ,i64_w,i32_w]
          rfl
         refine pure_ (i:=8) (N:=some 3) (v:=?_) (a':=?_) #[true,true,true,true,true,true,true,true,true] rfl rfl (any_of HT_.out (by kernel_rfl)) (fun _ _ _ h=>h) (Or.inl ⟨by rfl,?_⟩) ?_ ?_
         rotate_left
         ·intro w'
          go_simp
          with_reducible rfl
         rotate_left
         ·simp only [Act.put,List.setIfInBounds_toArray,List.set_cons_zero,List.set_cons_succ,i64_w,i32_w]
          rfl
         refine done_ (done_of HT_.out (by kernel_rfl)) ?_
         try go_wp2
         go_ret2
         exact ⟨by first|(with_reducible rfl)|(simp only [isEmpty_bne,Bool.not_not] <;> rfl)|rfl|(simp [*,errW_none,errW_some] <;> rfl),by repeat (first|(with_reducible first|exact HB.out|apply zl1|apply zl2|apply zl3|refine below_set ?_ GE174.out)|exact HB.out)⟩
        ·rw [if_neg c39] at H
         exact absurd H (by simp)
    ·rw [if_neg c12] at H
     exact absurd H (by simp)
   ·replace c11:=Bool.eq_false_iff.mpr c11
    subst c11
    have H1:((some (([2,((l0_2.length:Int)) % 256]:List Int):List Int)).bind fun y192=>(if ([]:List Int).length + y192.length < 140737488355328 then (if 0 < (l0_3.length:Int) then ((pack_Num.f k (([]:List Int) ++ y192) (IntKind.u64.wrap (rd l0_3 0)) 2).bind fun t199=>(node_Write.l1 k t199 l0_2 (l0_2.length:Int) 0 false l0_1 l0_2 l0_3)) else (none)) else (none)))=some (r1,r2):=by rw [if_neg (show ¬ (false=true) by decide)] at H;exact H
    clear H
    have H:=H1
    clear H1
    obtain ⟨y192,hy192⟩:∃ y_:List Int,y_=(([2,((l0_2.length:Int)) % 256]:List Int)):=⟨_,rfl⟩
    replace H:(if ([]:List Int).length + y192.length < 140737488355328 then (if 0 < (l0_3.length:Int) then ((pack_Num.f k (([]:List Int) ++ y192) (IntKind.u64.wrap (rd l0_3 0)) 2).bind fun t199=>(node_Write.l1 k t199 l0_2 (l0_2.length:Int) 0 false l0_1 l0_2 l0_3)) else (none)) else (none))=some (r1,r2):=by first|(rw [hy192];with_reducible exact H)|(have H2_:=(Option.bind_some _ _).symm.trans H;rw [hy192];with_reducible exact H2_)|(have H2_:=(Option.bind_some _ _).symm.trans H;with_reducible exact H2_)|with_reducible exact H|(rw [hy192];exact H)|exact H
    have Ny192:=Aside0.mk hy192
    clear hy192
    by_cases c45:([]:List Int).length + y192.length < 140737488355328
    ·rw [if_pos c45] at H
     have LMc45:=Aside0.mk c45
     clear c45
     obtain ⟨y195,hy195⟩:∃ y_:List Int,y_=(([]:List Int) ++ y192):=⟨_,rfl⟩
     replace H:(if 0 < (l0_3.length:Int) then ((pack_Num.f k y195 (IntKind.u64.wrap (rd l0_3 0)) 2).bind fun t199=>(node_Write.l1 k t199 l0_2 (l0_2.length:Int) 0 false l0_1 l0_2 l0_3)) else (none))=some (r1,r2):=by first|(rw [hy195];with_reducible exact H)|(have H2_:=(Option.bind_some _ _).symm.trans H;rw [hy195];with_reducible exact H2_)|(have H2_:=(Option.bind_some _ _).symm.trans H;with_reducible exact H2_)|with_reducible exact H|(rw [hy195];exact H)|exact H
     have Ny195:=Aside0.mk hy195
     clear hy195
     by_cases c46:0 < (l0_3.length:Int)
     ·rw [if_pos c46] at H
      have c46b0:decide (0 < (l0_3.length:Int))=true:=decide_eq_true c46
      have c46b1:decide (0 < l0_3.length)=true:=decide_eq_true (by omega)
      clear c46
      replace H:=Option.bind_eq_some_iff.mp H
      obtain ⟨t199,A470,H⟩:=H
      replace H:(node_Write.l1 k t199 l0_2 (l0_2.length:Int) 0 false l0_1 l0_2 l0_3)=some (r1,r2):=H
      have A47:=Aside0.mk A470
      clear A470
      have H':=Aside0.mk H
      clear H
      go_enter Try.func8,Try.ntmps8
      try go_wp2_with (first|((with_reducible refine gate_dst (N:=1) rfl ?_);refine box_event ?hg (N:=1) ?hd (cs:=#[.bool false,.slice A0_1 l0_1.length c0_1,.slice A0_2 l0_2.length c0_2,.slice A0_3 l0_3.length c0_3]) (t:=26) ?hr ?_;(case hd=>rfl);(case hg=>rfl);(case hr=>first|(go_simp;done)|(go_simp;rfl));intro gb174 hg w48 hbox hb;have BK174:=Aside0.mk (hbox);have GW174:=Aside0.mk ((by rw [hg];exact (below_size (by repeat (first|(with_reducible first|exact HB.out|apply zl1|apply zl2|apply zl3)|exact HB.out))):w.heap.size≤gb174));have GE174:=Aside0.mk ((by rw [hg];exact (below_size (by repeat (first|(with_reducible first|exact HB.out|apply zl1|apply zl2|apply zl3)|exact HB.out))):w.heap.size≤gb174));replace HB:=Aside0.mk (below_step (by repeat (first|(with_reducible first|exact HB.out|apply zl1|apply zl2|apply zl3)|exact HB.out)) hb);clear hb hbox hg;obtain ⟨hcz49_0,hcz49_1,hcz49_2,hcz49_3⟩:=zc4 BK174.out;obtain ⟨hfz49_0,hfz49_1,hfz49_2,hfz49_3⟩:=zf4 BK174.out)|((with_reducible refine gate_callee (f:=23) rfl ?_);refine goesL_ (some 11) rfl rfl Try.func23 (by kernel_rfl) rfl #[.agg #[.bool false,.slice A0_1 l0_1.length c0_1,.slice A0_2 l0_2.length c0_2,.slice A0_3 l0_3.length c0_3]] rfl (by (try simp only [List.map_toArray,List.map_cons,List.map_nil]);first|done|rfl|(simp only [List.length_drop,List.length_take];rfl)|(simp (disch:=omega) only [u64_in];rfl)) ?_;(with_reducible refine (node_right.calls k false _ _ l0_1 _ _ l0_2 _ _ l0_3 true _ ?side1 ?side2 ?side3 ?side4 ?side5 ?side6 A2.out).mono ?_);(case side1=>repeat (first|exact (Kd.C_below HR0_1.out HB.out)|(with_reducible refine Kd.C_alloc ?_ _)|(with_reducible refine Kd.C_drewN ?_ _)|(with_reducible refine Kd.C_drew ?_)));(case side2=>exact HC0_1.out);(case side3=>repeat (first|exact (Kd.C_below HR0_2.out HB.out)|(with_reducible refine Kd.C_alloc ?_ _)|(with_reducible refine Kd.C_drewN ?_ _)|(with_reducible refine Kd.C_drew ?_)));(case side4=>exact HC0_2.out);(case side5=>repeat (first|exact (Kd.C_below HR0_3.out HB.out)|(with_reducible refine Kd.C_alloc ?_ _)|(with_reducible refine Kd.C_drewN ?_ _)|(with_reducible refine Kd.C_drew ?_)));(case side6=>exact HC0_3.out);rintro e w50 ⟨rfl,hb⟩;refine ⟨_,rfl,?_⟩;replace BK174:=Aside0.mk (blk_below (g:=gb174) (o:=.cells #[.bool false,.slice A0_1 l0_1.length c0_1,.slice A0_2 l0_2.length c0_2,.slice A0_3 l0_3.length c0_3] 26 (0,0)) (by (with_reducible repeat (first|apply zb1|apply zb2|apply zb3));exact BK174.out) hb);replace HB:=Aside0.mk (below_step (by repeat (first|(with_reducible first|exact HB.out|apply zl1|apply zl2|apply zl3|refine below_set ?_ GE174.out)|exact HB.out)) hb);(try clear hb);obtain ⟨hcz51_0,hcz51_1,hcz51_2,hcz51_3⟩:=zc4 BK174.out;obtain ⟨hfz51_0,hfz51_1,hfz51_2,hfz51_3⟩:=zf4 BK174.out)|((with_reducible refine gate_callee (f:=10) rfl ?_);refine goesL_ (some 15) rfl rfl Try.func10 (by kernel_rfl) rfl #[.agg #[.bool false,.slice A0_1 l0_1.length c0_1,.slice A0_2 l0_2.length c0_2,.slice A0_3 l0_3.length c0_3]] rfl (by (try simp only [List.map_toArray,List.map_cons,List.map_nil]);first|done|rfl|(simp only [List.length_drop,List.length_take];rfl)|(simp (disch:=omega) only [u64_in];rfl)) ?_;(with_reducible refine (node_Size.calls k false _ _ l0_1 _ _ l0_2 _ _ l0_3 t176 _ ?side1 ?side2 ?side3 ?side4 ?side5 ?side6 A4.out).mono ?_);(case side1=>repeat (first|exact (Kd.C_below HR0_1.out HB.out)|(with_reducible refine Kd.C_alloc ?_ _)|(with_reducible refine Kd.C_drewN ?_ _)|(with_reducible refine Kd.C_drew ?_)));(case side2=>exact HC0_1.out);(case side3=>repeat (first|exact (Kd.C_below HR0_2.out HB.out)|(with_reducible refine Kd.C_alloc ?_ _)|(with_reducible refine Kd.C_drewN ?_ _)|(with_reducible refine Kd.C_drew ?_)));(case side4=>exact HC0_2.out);(case side5=>repeat (first|exact (Kd.C_below HR0_3.out HB.out)|(with_reducible refine Kd.C_alloc ?_ _)|(with_reducible refine Kd.C_drewN ?_ _)|(with_reducible refine Kd.C_drew ?_)));(case side6=>exact HC0_3.out);rintro e w52 ⟨rfl,hb⟩;refine ⟨_,rfl,?_⟩;replace BK174:=Aside0.mk (blk_below (g:=gb174) (o:=.cells #[.bool false,.slice A0_1 l0_1.length c0_1,.slice A0_2 l0_2.length c0_2,.slice A0_3 l0_3.length c0_3] 26 (0,0)) (by (with_reducible repeat (first|apply zb1|apply zb2|apply zb3));exact BK174.out) hb);replace HB:=Aside0.mk (below_step (by repeat (first|(with_reducible first|exact HB.out|apply zl1|apply zl2|apply zl3|refine below_set ?_ GE174.out)|exact HB.out)) hb);(try clear hb);obtain ⟨hcz53_0,hcz53_1,hcz53_2,hcz53_3⟩:=zc4 BK174.out;obtain ⟨hfz53_0,hfz53_1,hfz53_2,hfz53_3⟩:=zf4 BK174.out))
      replace BK174:=Aside0.mk (blk_drew BK174.out)
      replace HB:=Aside0.mk (below_drew1 HB.out)
      have p198:0≤(0:Int):=(by omega)
      have q198:0 < (l0_3.length:Int):=of_decide_eq_true (by first|(with_reducible assumption)|assumption)
      obtain ⟨ad198,e198,hx198_0⟩:=Kd.at_int HR0_3.out 0 p198 q198
      have hw198_0:=hx198_0
      (try rw [show ((0:Int)).toNat=0 from rfl] at hw198_0)
      (try rw [show 0 * 1=0 from rfl] at hw198_0)
      (try rw [Addr.add_zero'] at hw198_0)
      cases e198
      have qi198:(0 < l0_3.length)=True:=eq_true (by omega)
      (try rw [show ((0:Int)).toNat=0 from rfl] at hx198_0)
      (try rw [Addr.add_zero'] at hx198_0)
      replace hx198_0:=(HB.out.cell (World.block_lt_of_cell? w _ hx198_0)).trans hx198_0
      replace p198:=eq_true p198
      replace q198:=eq_true q198
      refine start_ (n:=14) (S:=fun w'=>w'.cell? ⟨gb174,0,none⟩=some (.bool false)∧w'.cell? ⟨gb174,1,none⟩=some (.slice A0_1 l0_1.length c0_1)∧w'.cell? ⟨gb174,2,none⟩=some (.slice A0_2 l0_2.length c0_2)∧w'.cell? ⟨gb174,3,none⟩=some (.slice (some ad198) l0_3.length c0_3)∧w'.cell? ad198=some (.int .i64 (rd l0_3 0))) (ds:=[]) #[false,false,false,false,false,false,false,false,false,false,false,false,false,false] (by kernel_rfl) rfl rfl ⟨(blk_cell BK174.out 0).trans rfl,(blk_cell BK174.out 1).trans rfl,(blk_cell BK174.out 2).trans rfl,(blk_cell BK174.out 3).trans rfl,((HB.out.cell (World.block_lt_of_cell? w _ hw198_0)).trans hw198_0)⟩ (fun hHeld=>?_);refine with_tabW node_Write.tab13 node_Write.bits13 (fun HT_ HW_=>?_)
      generalize w52.drew=w54 at BK174 HB hx198_0 hHeld ⊢
      refine pure_ (i:=0) (N:=some 41) (v:=?_) (a':=?_) #[true,false,false,false,false,false,false,false,false,false,false,false,false,false] rfl rfl (any_of HT_.out (by kernel_rfl)) (fun _ _ _ h=>h) (Or.inl ⟨by rfl,?_⟩) ?_ ?_
      rotate_left
      ·intro w'
       go_simp
       with_reducible rfl
      rotate_left
      ·simp only [Act.put,List.setIfInBounds_toArray,List.set_cons_zero,List.set_cons_succ,i64_w,i32_w]
       rfl
      refine pure_ (i:=1) (N:=some 42) (v:=?_) (a':=?_) #[true,true,false,false,false,false,false,false,false,false,false,false,false,false] rfl rfl (any_of HT_.out (by kernel_rfl)) (fun _ _ _ h=>h) (Or.inl ⟨by rfl,?_⟩) ?_ ?_
      rotate_left
      ·intro w'
       go_simp
       with_reducible rfl
      rotate_left
      ·simp only [Act.put,List.setIfInBounds_toArray,List.set_cons_zero,List.set_cons_succ,i64_w,i32_w]
       rfl
      refine pure_ (i:=7) (N:=some 48) (v:=?_) (a':=?_) #[true,true,false,false,false,false,false,true,false,false,false,false,false,false] rfl rfl (any_of HT_.out (by kernel_rfl)) (fun _ _ _ h=>h) (Or.inl ⟨by rfl,?_⟩) ?_ ?_
      rotate_left
      ·intro w'
       go_simp
       with_reducible rfl
      rotate_left
      ·simp only [Act.put,List.setIfInBounds_toArray,List.set_cons_zero,List.set_cons_succ,i64_w,i32_w]
       rfl
      refine take_ (i:=2) (N:=some 43) (v:=?_) (a':=?_) #[true,true,true,false,false,false,false,true,false,false,false,false,false,false] rfl rfl (take_ofW HT_.out HW_.out (by kernel_rfl)) (fun _ _ _ h=>h) (Or.inl ⟨by rfl,?_⟩) hHeld ?_ ?_
      rotate_left
      ·rintro w' ⟨s0,s1,s2,s3,s4⟩
       go_simp
       with_reducible rfl
      rotate_left
      ·simp only [Act.put,List.setIfInBounds_toArray,List.set_cons_zero,List.set_cons_succ,i64_w,i32_w]
       rfl
      refine pure_ (i:=3) (N:=some 44) (v:=?_) (a':=?_) #[true,true,true,true,false,false,false,true,false,false,false,false,false,false] rfl rfl (any_of HT_.out (by kernel_rfl)) (fun _ _ _ h=>h) (Or.inl ⟨by rfl,?_⟩) ?_ ?_
      rotate_left
      ·intro w'
       go_simp
       with_reducible rfl
      rotate_left
      ·simp only [Act.put,List.setIfInBounds_toArray,List.set_cons_zero,List.set_cons_succ,i64_w,i32_w]
       rfl
      refine pure_ (i:=4) (N:=some 45) (v:=?_) (a':=?_) #[true,true,true,true,true,false,false,true,false,false,false,false,false,false] rfl rfl (any_of HT_.out (by kernel_rfl)) (fun _ _ _ h=>h) (Or.inl ⟨by rfl,?_⟩) ?_ ?_
      rotate_left
      ·intro w'
       go_simp
       with_reducible rfl
      rotate_left
      ·simp only [Act.put,List.setIfInBounds_toArray,List.set_cons_zero,List.set_cons_succ,i64_w,i32_w]
       rfl
      refine take_ (i:=8) (N:=some 49) (v:=?_) (a':=?_) #[true,true,true,true,true,false,false,true,true,false,false,false,false,false] rfl rfl (take_ofW HT_.out HW_.out (by kernel_rfl)) (fun _ _ _ h=>h) (Or.inl ⟨by rfl,?_⟩) hHeld ?_ ?_
      rotate_left
      ·rintro w' ⟨s0,s1,s2,s3,s4⟩
       go_simp
       with_reducible rfl
      rotate_left
      ·simp only [Act.put,List.setIfInBounds_toArray,List.set_cons_zero,List.set_cons_succ,i64_w,i32_w]
       rfl
      refine pure_ (i:=9) (N:=some 50) (v:=?_) (a':=?_) #[true,true,true,true,true,false,false,true,true,true,false,false,false,false] rfl rfl (any_of HT_.out (by kernel_rfl)) (fun _ _ _ h=>h) (Or.inl ⟨by rfl,?_⟩) ?_ ?_
      rotate_left
      ·intro w'
       go_simp
       with_reducible rfl
      rotate_left
      ·simp only [Act.put,List.setIfInBounds_toArray,List.set_cons_zero,List.set_cons_succ,i64_w,i32_w]
       rfl
      refine take_ (i:=10) (N:=some 51) (v:=?_) (a':=?_) #[true,true,true,true,true,false,false,true,true,true,true,false,false,false] rfl rfl (take_ofW HT_.out HW_.out (by kernel_rfl)) (fun _ _ _ h=>h) (Or.inl ⟨by rfl,?_⟩) hHeld ?_ ?_
      rotate_left
      ·rintro w' ⟨s0,s1,s2,s3,s4⟩
       go_simp
       with_reducible rfl
      rotate_left
      ·simp only [Act.put,List.setIfInBounds_toArray,List.set_cons_zero,List.set_cons_succ,i64_w,i32_w]
       rfl
      refine pure_ (i:=11) (N:=some 52) (v:=?_) (a':=?_) #[true,true,true,true,true,false,false,true,true,true,true,true,false,false] rfl rfl (any_of HT_.out (by kernel_rfl)) (fun _ _ _ h=>h) (Or.inl ⟨by rfl,?_⟩) ?_ ?_
      rotate_left
      ·intro w'
       go_simp
       with_reducible rfl
      rotate_left
      ·simp only [Act.put,List.setIfInBounds_toArray,List.set_cons_zero,List.set_cons_succ,i64_w,i32_w]
       rfl
      refine one_ (i:=5) (N:=some 46) #[true,true,true,true,true,true,false,true,true,true,true,true,false,false] rfl rfl (one_of HT_.out (by kernel_rfl)) (by decide) (fun K hK=>?_)
      refine Kd.R_lit_step (Kd.int .u8) _ 5 ?hg (N:=46) ?hd (xs:=([2,((l0_2.length:Int)) % 256]:List Int)) (inner:=[.int .u8 2,.int .u8 (((l0_2.length:Int)) % 256)]) (ok:=fun _=>True) (okp:=fun _=>True) ?hr ?hp (fun _ hk=>hk) trivial (Below.refl _ _) (Nat.le_refl _) (by simp) ?_;(case hd=>rfl);(case hg=>rfl);(case hr=>first|(go_simp;done)|(go_simp;rfl));(case hp=>exact (Reps.one (show Kd.M (Kd.int .u8) _ _ _ 2 [.int .u8 2] from rfl) (Reps.one (show Kd.M (Kd.int .u8) _ _ _ (((l0_2.length:Int)) % 256) [.int .u8 (((l0_2.length:Int)) % 256)] from rfl) (Reps.none _ _))))
      intro v193 w55 ho56 hb hg_ hnew_
      clear hg_ hnew_
      (first|rw [← Ny192.out] at ho56|(simp only [Int.reduceToNat] at ho56;rw [← Ny192.out] at ho56))
      have HO194:=Aside0.mk (Kd.R_lower ho56 (below_size (by repeat (first|(with_reducible first|exact HB.out|apply zl1|apply zl2|apply zl3|refine below_set ?_ GE174.out)|exact HB.out))))
      replace BK174:=Aside0.mk (blk_below (g:=gb174) (o:=.cells #[.bool false,.slice A0_1 l0_1.length c0_1,.slice A0_2 l0_2.length c0_2,.slice (some ad198) l0_3.length c0_3] 26 (0,0)) (by (with_reducible repeat (first|apply zb1|apply zb2|apply zb3));exact BK174.out) hb)
      replace HB:=Aside0.mk (below_step (by repeat (first|(with_reducible first|exact HB.out|apply zl1|apply zl2|apply zl3|refine below_set ?_ GE174.out)|exact HB.out)) hb)
      clear hb ho56
      obtain ⟨Ao58,co58,eo58⟩:=Kd.R_slice HO194.out
      (first|subst eo58|(injection eo58 with f1_ f2_ f3_;have f4_:=f1_.symm;have f5_:=f3_.symm;clear f1_ f2_ f3_;subst f4_;subst f5_))
      refine hK.out _ _ ⟨(blk_cell BK174.out 0).trans rfl,(blk_cell BK174.out 1).trans rfl,(blk_cell BK174.out 2).trans rfl,(blk_cell BK174.out 3).trans rfl,((HB.out.cell (World.block_lt_of_cell? w _ hw198_0)).trans hw198_0)⟩ (fun hHeld=>?_)
      clear hK K
      refine norm_ (a':=?_) ?_ ?_
      rotate_left
      ·show Act.put _ (some 46) _=_
       simp only [Act.put,List.setIfInBounds_toArray,List.set_cons_zero,List.set_cons_succ,i64_w,i32_w]
       rfl
      refine one_ (i:=6) (N:=some 47) #[true,true,true,true,true,true,true,true,true,true,true,true,false,false] rfl rfl (one_of HT_.out (by kernel_rfl)) (by decide) (fun K hK=>?_)
      refine Kd.R_append_rows_step (Kd.int .u8) (w0:=w) w.heap.size (by rfl) (.tmp 41) (.tmp 46) 45 5 (.int .u8 0) 1 rfl Try.underlying45 info5 rfl (by decide) (by omega) (.slice none 0 0) ([]:List Int) y192 _ _ _ (fun k_=>some k_ ≠ (.slice Ao58 y192.length co58:Value).ownBlock) (fun _=>False) rfl rfl ?aO ?aR (fun _ _ h=>h) (fun _ h=>h.elim) ?aF ?aB ?aS ?aL ?_
      (case aR=>repeat (first|exact (Kd.R_reads' HO194.out).2.2|(with_reducible refine Kd.C_alloc ?_ _)|(with_reducible refine Kd.C_drewN ?_ _)|(with_reducible refine Kd.C_drew ?_)))
      (case aB=>exact (by repeat (first|(with_reducible first|exact HB.out|apply zl1|apply zl2|apply zl3|refine below_set ?_ GE174.out)|exact HB.out)))
      (case aF=>exact (fun k_ hk=>Kd.fresh' (Kd.R_lt (by (with_reducible repeat (first|apply zk1|apply zk2|apply zk3));exact HO194.out)) k_ hk))
      (case aO=>exact ((Kd.R_nil _ _ _ _ (fun k_=>some k_ ≠ (.slice Ao58 y192.length co58:Value).ownBlock))))
      (case aS=>exact (below_size (by repeat (first|(with_reducible first|exact HB.out|apply zl1|apply zl2|apply zl3|refine below_set ?_ GE174.out)|exact HB.out))))
      (case aL=>have:=LMc45.out;omega)
      intro v196 w57 ho hb hg hat
      rw [← Ny195.out] at ho
      replace BK174:=Aside0.mk (blk_grown (g:=gb174) (o:=.cells #[.bool false,.slice A0_1 l0_1.length c0_1,.slice A0_2 l0_2.length c0_2,.slice (some ad198) l0_3.length c0_3] 26 (0,0)) (by (with_reducible repeat (first|apply zb1|apply zb2|apply zb3));exact BK174.out) hg (by simp [Value.ownBlock]))
      replace HO194:=Aside0.mk (Kd.R_after (Kd.R_apart_nil (by (with_reducible repeat (first|apply zk1|apply zk2|apply zk3));exact HO194.out)) hg hat)
      replace HB:=Aside0.mk (hb)
      have HO197:=Aside0.mk (ho)
      clear ho hb hg hat
      obtain ⟨Ao59,co59,eo59⟩:=Kd.R_slice HO197.out
      (first|subst eo59|(injection eo59 with f1_ f2_ f3_;have f4_:=f1_.symm;have f5_:=f3_.symm;clear f1_ f2_ f3_;subst f4_;subst f5_))
      refine hK.out _ _ ⟨(blk_cell BK174.out 0).trans rfl,(blk_cell BK174.out 1).trans rfl,(blk_cell BK174.out 2).trans rfl,(blk_cell BK174.out 3).trans rfl,((HB.out.cell (World.block_lt_of_cell? w _ hw198_0)).trans hw198_0)⟩ (fun hHeld=>?_)
      clear hK K
      refine norm_ (a':=?_) ?_ ?_
      rotate_left
      ·show Act.put _ (some 47) _=_
       simp only [Act.put,List.setIfInBounds_toArray,List.set_cons_zero,List.set_cons_succ,i64_w,i32_w]
       rfl
      refine one_ (i:=12) (N:=some 53) #[true,true,true,true,true,true,true,true,true,true,true,true,true,false] rfl rfl (one_of HT_.out (by kernel_rfl)) (by decide) (fun K hK=>?_)
      refine goes_ Try.func25 (by kernel_rfl) rfl #[.slice Ao59 y195.length co59,.int .u64 (IntKind.u64.wrap (rd l0_3 0)),.int .i64 2] (by rfl) rfl rfl (by (try simp only [List.map_toArray,List.map_cons,List.map_nil]);first|done|rfl|(simp only [List.length_drop,List.length_take];rfl)|(simp (disch:=omega) only [u64_in];rfl)) ?_
      with_reducible refine (pack_Num.calls k (fun k_=>some k_=(.slice Ao59 y195.length co59:Value).ownBlock) (.slice Ao59 y195.length co59) y195 (IntKind.u64.wrap (rd l0_3 0)) 2 t199 w _ ?side1 ?side2 A47.out).mono ?_
      (case side1=>repeat (first|(with_reducible first|exact HB.out|apply zl1|apply zl2|apply zl3|refine below_set ?_ GE174.out)|exact HB.out))
      (case side2=>exact Kd.R_tight rfl HO197.out)
      rintro e w60 ⟨v200,rfl,ho0,hb,hkp⟩
      refine ⟨_,rfl,?_⟩
      have n0_:=Aside0.mk (blk_kept (by (with_reducible repeat (first|apply zb1|apply zb2|apply zb3));exact BK174.out) hkp (fun hs_=>(fun e_=>(Kd.R_ne HO197.out BK174.out (by decide)) e_) hs_))
      have n1_:=Aside0.mk (Kd.R_mono (ok':=fun k_=>some k_ ≠ (v200:Value).ownBlock) (Kd.R_keptB (HO194.out) hkp (fun k_ hk_ hs_=>(hk_.2) hs_)) (fun k_ hk_=>fun e_=>Or.elim (ho0.1 k_ e_.symm) (fun hs_=>hk_.2.1 hs_) (fun hn_=>Nat.not_le.2 hk_.2.2 hn_)))
      have n2_:=Aside0.mk (Kd.R_mono (ok':=fun k_=>some k_ ≠ (.slice Ao58 y192.length co58:Value).ownBlock) ho0 (fun k_ hk_=>Or.elim hk_ (fun hs_=>fun e_=>(((HO194.out).1 k_ e_.symm).2) hs_) (fun hn_=>(Kd.fresh' (Kd.R_lt (by (with_reducible repeat (first|apply zk1|apply zk2|apply zk3));exact HO194.out)) k_ hn_))))
      have n3_:=Aside0.mk (hb)
      clear BK174
      clear HO194
      clear HB
      clear HO197
      have BK174:=n0_
      have HO194:=n1_
      have HO201:=n2_
      have HB:=n3_
      clear n0_ n1_ n2_ n3_
      (try clear hb)
      (try clear hkp)
      (try clear ho0)
      refine hK.out _ _ ⟨(blk_cell BK174.out 0).trans rfl,(blk_cell BK174.out 1).trans rfl,(blk_cell BK174.out 2).trans rfl,(blk_cell BK174.out 3).trans rfl,((HB.out.cell (World.block_lt_of_cell? w _ hw198_0)).trans hw198_0)⟩ (fun hHeld=>?_)
      clear hK K
      refine norm_ (a':=?_) ?_ ?_
      rotate_left
      ·show Act.put _ (some 53) _=_
       simp only [Act.put,List.setIfInBounds_toArray,List.set_cons_zero,List.set_cons_succ,i64_w,i32_w]
       rfl
      refine pure_ (i:=13) (N:=some 4) (v:=?_) (a':=?_) #[true,true,true,true,true,true,true,true,true,true,true,true,true,true] rfl rfl (any_of HT_.out (by kernel_rfl)) (fun _ _ _ h=>h) (Or.inl ⟨by rfl,?_⟩) ?_ ?_
      rotate_left
      ·intro w'
       go_simp
       with_reducible rfl
      rotate_left
      ·simp only [Act.put,List.setIfInBounds_toArray,List.set_cons_zero,List.set_cons_succ,i64_w,i32_w]
       rfl
      refine done_ (done_of HT_.out (by kernel_rfl)) ?_
      obtain ⟨hcz61_0,hcz61_1,hcz61_2,hcz61_3⟩:=zc4 BK174.out
      obtain ⟨hfz61_0,hfz61_1,hfz61_2,hfz61_3⟩:=zf4 BK174.out
      try go_wp2
      go_loopg [4,57] k (fun kq v4 v57 w'=>∃ (x4_1:List Int) (x57_1:Int),v57=.int .i64 x57_1∧Aside0 (node_Write.l1 kq x4_1 l0_2 (l0_2.length:Int) x57_1 false l0_1 l0_2 l0_3=some (r1,r2))∧Aside0 (kq≤k)∧Aside0 (Kd.R (Kd.int .u8) 5 w' w.heap.size (fun _=>True) v4 x4_1)∧Aside0 (w'.heap[gb174]?=some (.cells #[.bool false,(.slice A0_1 l0_1.length c0_1),(.slice A0_2 l0_2.length c0_2),(.slice (some ad198) l0_3.length c0_3)] 26 (0,0)))∧Aside0 (Below w.heap.size w w'))
      case atStart=>exact ⟨(t199),(0),(by first|(with_reducible rfl)|(simp;done)|(simp [*];done)|rfl|(simp only [not_isEmpty_bne])),H',⟨Nat.le_refl _⟩,⟨by (with_reducible repeat (first|apply zk1|apply zk2|apply zk3));exact Kd.R_mono HO201.out (fun _ hk=>trivial)⟩,⟨by (with_reducible repeat (first|apply zb1|apply zb2|apply zb3));exact BK174.out⟩,⟨by repeat (first|(with_reducible first|exact HB.out|apply zl1|apply zl2|apply zl3|refine below_set ?_ GE174.out)|exact HB.out)⟩⟩
      case round =>
       clear H'
       try clear c1
       try clear p1
       try clear q1
       try clear hx1
       try clear qi1
       try clear c2
       try clear p2
       try clear c3
       try clear c4
       try clear hcv4
       try clear p6
       try clear c8
       try clear c10
       try clear c11
       try clear c12
       try clear p18
       try clear q18
       try clear hx18
       try clear p19
       try clear q19
       try clear hx19
       try clear qi19
       try clear c23
       try clear c24
       try clear c24b0
       try clear c25
       try clear c25b0
       try clear c26
       try clear c26b0
       try clear c30
       try clear hcz18_2 hcz18_3 hcz23_0 hcz23_1 hcz23_2 hcz23_3 hcz31_0 hcz31_1 hcz49_0 hcz49_1 hcz49_2 hcz49_3 hcz51_0 hcz51_1 hcz51_2 hcz51_3 hcz53_0 hcz53_1 hcz53_2 hcz53_3 hcz61_0
       try clear c39
       try clear c39b0
       try clear c39b1
       try clear c39b2
       try clear hcv42
       try clear c45
       try clear c46
       try clear c46b0
       try clear c46b1
       try clear hfz14_0 hfz14_1 hfz14_2 hfz14_3 hfz16_0 hfz16_1 hfz16_2 hfz16_3 hfz18_0 hfz18_1 hfz18_2 hfz18_3 hfz23_0 hfz23_1 hfz23_2 hfz23_3 hfz31_0 hfz31_1 hfz49_0
       try clear hcz61_1 hcz61_2 hcz61_3 hcz7_0 hcz7_1 hcz7_2 hcz7_3 hcz9_0 hcz9_1 hcz9_2 hcz9_3
       try clear hfz49_1 hfz49_2 hfz49_3 hfz51_0 hfz51_1 hfz51_2 hfz51_3 hfz53_0 hfz53_1 hfz53_2 hfz53_3 hfz61_0 hfz61_1 hfz61_2 hfz61_3 hfz7_0 hfz7_1 hfz7_2 hfz7_3 hfz9_0 hfz9_1 hfz9_2 hfz9_3
       try clear hx183_0
       try clear hx183_1
       try clear hx198_0
       try clear p183
       try clear p198
       try clear q183
       try clear q198
       obtain ⟨x4_1,x57_1,rfl,HA,HK1,HO_4,BK174,HB⟩:=hrel
       cases gk with
       | zero=>exact absurd HA.out (by simp [node_Write.l1])
       | succ k1 =>
        have H:=HA.out
        clear HA
        simp only [node_Write.l1] at H
        by_cases c62:x57_1 < (l0_2.length:Int)
        ·rw [if_pos c62] at H
         have c62b0:decide (x57_1 < (l0_2.length:Int))=true:=decide_eq_true c62
         clear c62
         by_cases c63:0≤x57_1
         ·rw [if_pos c63] at H
          have c63b0:decide (0≤x57_1)=true:=decide_eq_true c63
          clear c63
          by_cases c64:x57_1 < (l0_2.length:Int)
          ·rw [if_pos c64] at H
           have c64b0:decide (x57_1 < (l0_2.length:Int))=true:=decide_eq_true c64
           clear c64
           replace H:=Option.bind_eq_some_iff.mp H
           obtain ⟨t203,A650,H⟩:=H
           replace H:(if 0≤(wrap64 (x57_1 + 1)) then (if (wrap64 (x57_1 + 1)) < (l0_3.length:Int) then ((pack_Num.f k1 t203 (IntKind.u64.wrap (rd l0_3 (wrap64 (x57_1 + 1)))) 2).bind fun t207=>(node_Write.l1 k1 t207 l0_2 (l0_2.length:Int) (wrap64 (x57_1 + 1)) false l0_1 l0_2 l0_3)) else (none)) else (none))=some (r1,r2):=H
           have A65:=Aside0.mk A650
           clear A650
           obtain ⟨ji66,hji66⟩:∃ j_:Int,(wrap64 (x57_1 + 1))=j_:=⟨_,rfl⟩
           replace H:(if 0≤(ji66) then (if (ji66) < (l0_3.length:Int) then ((pack_Num.f k1 t203 (IntKind.u64.wrap (rd l0_3 (ji66))) 2).bind fun t207=>(node_Write.l1 k1 t207 l0_2 (l0_2.length:Int) ji66 false l0_1 l0_2 l0_3)) else (none)) else (none))=some (r1,r2):=by first|(rw [hji66] at H;exact H)|(simp only [hji66] at H ⊢;exact H)
           (try rw [hji66] at A65)
           have hji66w:(IntKind.i64.wrap (x57_1 + 1))=ji66:=(i64_w _).trans hji66
           by_cases c67:0≤(ji66)
           ·rw [if_pos c67] at H
            have c67b0:decide (0≤(ji66))=true:=decide_eq_true c67
            clear c67
            by_cases c68:(ji66) < (l0_3.length:Int)
            ·rw [if_pos c68] at H
             have c68b0:decide ((ji66) < (l0_3.length:Int))=true:=decide_eq_true c68
             clear c68
             replace H:=Option.bind_eq_some_iff.mp H
             obtain ⟨t207,A690,H⟩:=H
             replace H:(node_Write.l1 k1 t207 l0_2 (l0_2.length:Int) ji66 false l0_1 l0_2 l0_3)=some (r1,r2):=H
             have A69:=Aside0.mk A690
             clear A690
             have H':=Aside0.mk H
             clear H
             have p202:0≤(x57_1:Int):=of_decide_eq_true (by first|(with_reducible assumption)|assumption)
             have q202:x57_1 < (l0_2.length:Int):=of_decide_eq_true (by first|(with_reducible assumption)|assumption)
             obtain ⟨ad202,e202,hx202_0⟩:=Kd.at_string HR0_2.out x57_1 p202 q202
             cases e202
             replace hx202_0:=(HB.out.cell (World.block_lt_of_cell? w _ hx202_0)).trans hx202_0
             replace p202:=eq_true p202
             replace q202:=eq_true q202
             try go_wp2
             replace HO_4:=Aside0.mk (Kd.R_drew HO_4.out)
             replace BK174:=Aside0.mk (blk_drew BK174.out)
             replace HB:=Aside0.mk (below_drew1 HB.out)
             have p206:0≤((ji66):Int):=of_decide_eq_true (by first|(with_reducible assumption)|assumption)
             have q206:(ji66) < (l0_3.length:Int):=of_decide_eq_true (by first|(with_reducible assumption)|assumption)
             obtain ⟨ad206,e206,hx206_0⟩:=Kd.at_int HR0_3.out (ji66) p206 q206
             have hw206_0:=hx206_0
             obtain rfl:ad198=ad206:=(by injection e206)
             replace hx206_0:=(HB.out.cell (World.block_lt_of_cell? w _ hx206_0)).trans hx206_0
             replace p206:=eq_true p206
             replace q206:=eq_true q206
             obtain ⟨Ao71,co71,eo71⟩:=Kd.R_slice HO_4.out
             (first|subst eo71|(injection eo71 with f1_ f2_ f3_;have f4_:=f1_.symm;have f5_:=f3_.symm;clear f1_ f2_ f3_;subst f4_;subst f5_))
             refine start_ (n:=12) (S:=fun w'=>w'.cell? ⟨gb174,0,none⟩=some (.bool false)∧w'.cell? ⟨gb174,1,none⟩=some (.slice A0_1 l0_1.length c0_1)∧w'.cell? ⟨gb174,2,none⟩=some (.slice (some ad202) l0_2.length c0_2)∧w'.cell? ⟨gb174,3,none⟩=some (.slice (some ad198) l0_3.length c0_3)∧w'.cell? (ad198.add ((ji66)).toNat)=some (.int .i64 (rd l0_3 (ji66)))) (ds:=[]) #[false,false,false,false,false,false,false,false,false,false,false,false] (by kernel_rfl) rfl rfl ⟨(blk_cell BK174.out 0).trans rfl,(blk_cell BK174.out 1).trans rfl,(blk_cell BK174.out 2).trans rfl,(blk_cell BK174.out 3).trans rfl,((HB.out.cell (World.block_lt_of_cell? w _ hw206_0)).trans hw206_0)⟩ (fun hHeld=>?_);refine with_tabW node_Write.tab17 node_Write.bits17 (fun HT_ HW_=>?_)
             generalize wr.drew=w70 at HO_4 BK174 HB hx206_0 hHeld ⊢
             refine pure_ (i:=0) (N:=some 62) (v:=?_) (a':=?_) #[true,false,false,false,false,false,false,false,false,false,false,false] rfl rfl (any_of HT_.out (by kernel_rfl)) (fun _ _ _ h=>h) (Or.inl ⟨by rfl,?_⟩) ?_ ?_
             rotate_left
             ·intro w'
              go_simp
              with_reducible rfl
             rotate_left
             ·simp only [Act.put,List.setIfInBounds_toArray,List.set_cons_zero,List.set_cons_succ,i64_w,i32_w]
              rfl
             refine pure_ (i:=1) (N:=some 63) (v:=?_) (a':=?_) #[true,true,false,false,false,false,false,false,false,false,false,false] rfl rfl (any_of HT_.out (by kernel_rfl)) (fun _ _ _ h=>h) (Or.inl ⟨by rfl,?_⟩) ?_ ?_
             rotate_left
             ·intro w'
              go_simp
              with_reducible rfl
             rotate_left
             ·simp only [Act.put,List.setIfInBounds_toArray,List.set_cons_zero,List.set_cons_succ,i64_w,i32_w]
              rfl
             refine pure_ (i:=3) (N:=some 65) (v:=?_) (a':=?_) #[true,true,false,true,false,false,false,false,false,false,false,false] rfl rfl (any_of HT_.out (by kernel_rfl)) (fun _ _ _ h=>h) (Or.inl ⟨by rfl,?_⟩) ?_ ?_
             rotate_left
             ·intro w'
              go_simp
              with_reducible rfl
             rotate_left
             ·simp only [Act.put,List.setIfInBounds_toArray,List.set_cons_zero,List.set_cons_succ,i64_w,i32_w]
              rfl
             refine pure_ (i:=5) (N:=some 67) (v:=?_) (a':=?_) #[true,true,false,true,false,true,false,false,false,false,false,false] rfl rfl (any_of HT_.out (by kernel_rfl)) (fun _ _ _ h=>h) (Or.inl ⟨by rfl,?_⟩) ?_ ?_
             rotate_left
             ·intro w'
              go_simp
              with_reducible rfl
             rotate_left
             ·simp only [Act.put,List.setIfInBounds_toArray,List.set_cons_zero,List.set_cons_succ,i64_w,i32_w]
              rfl
             refine pure_ (i:=6) (N:=some 68) (v:=?_) (a':=?_) #[true,true,false,true,false,true,true,false,false,false,false,false] rfl rfl (any_of HT_.out (by kernel_rfl)) (fun _ _ _ h=>h) (Or.inl ⟨by rfl,?_⟩) ?_ ?_
             rotate_left
             ·intro w'
              go_simp
              with_reducible rfl
             rotate_left
             ·simp only [Act.put,List.setIfInBounds_toArray,List.set_cons_zero,List.set_cons_succ,i64_w,i32_w]
              rfl
             refine take_ (i:=4) (N:=some 66) (v:=?_) (a':=?_) #[true,true,false,true,true,true,true,false,false,false,false,false] rfl rfl (take_ofW HT_.out HW_.out (by kernel_rfl)) (fun _ _ _ h=>h) (Or.inl ⟨by rfl,?_⟩) hHeld ?_ ?_
             rotate_left
             ·rintro w' ⟨s0,s1,s2,s3,s4⟩
              go_simp
              with_reducible rfl
             rotate_left
             ·simp only [Act.put,List.setIfInBounds_toArray,List.set_cons_zero,List.set_cons_succ,i64_w,i32_w]
              rfl
             refine pure_ (i:=7) (N:=some 69) (v:=?_) (a':=?_) #[true,true,false,true,true,true,true,true,false,false,false,false] rfl rfl (any_of HT_.out (by kernel_rfl)) (fun _ _ _ h=>h) (Or.inl ⟨by rfl,?_⟩) ?_ ?_
             rotate_left
             ·intro w'
              go_simp
              with_reducible rfl
             rotate_left
             ·simp only [Act.put,List.setIfInBounds_toArray,List.set_cons_zero,List.set_cons_succ,i64_w,i32_w]
              rfl
             refine take_ (i:=8) (N:=some 70) (v:=?_) (a':=?_) #[true,true,false,true,true,true,true,true,true,false,false,false] rfl rfl (take_ofW HT_.out HW_.out (by kernel_rfl)) (fun _ _ _ h=>h) (Or.inl ⟨by rfl,?_⟩) hHeld ?_ ?_
             rotate_left
             ·rintro w' ⟨s0,s1,s2,s3,s4⟩
              go_simp
              with_reducible rfl
             rotate_left
             ·simp only [Act.put,List.setIfInBounds_toArray,List.set_cons_zero,List.set_cons_succ,i64_w,i32_w]
              rfl
             refine pure_ (i:=9) (N:=some 71) (v:=?_) (a':=?_) #[true,true,false,true,true,true,true,true,true,true,false,false] rfl rfl (any_of HT_.out (by kernel_rfl)) (fun _ _ _ h=>h) (Or.inl ⟨by rfl,?_⟩) ?_ ?_
             rotate_left
             ·intro w'
              go_simp
              with_reducible rfl
             rotate_left
             ·simp only [Act.put,List.setIfInBounds_toArray,List.set_cons_zero,List.set_cons_succ,i64_w,i32_w]
              rfl
             refine one_ (i:=2) (N:=some 64) #[true,true,true,true,true,true,true,true,true,true,false,false] rfl rfl (one_of HT_.out (by kernel_rfl)) (by decide) (fun K hK=>?_)
             refine goes_ Try.func24 (by kernel_rfl) rfl #[.slice Ao71 x4_1.length co71,.string (rdOf ByteArray.empty l0_2 x57_1)] (by rfl) rfl rfl (by (try simp only [List.map_toArray,List.map_cons,List.map_nil]);first|done|rfl|(simp only [List.length_drop,List.length_take];rfl)|(simp (disch:=omega) only [u64_in];rfl)) ?_
             with_reducible refine (pack_Str.calls (fun k_=>some k_=(.slice Ao71 x4_1.length co71:Value).ownBlock) (.slice Ao71 x4_1.length co71) x4_1 (rdOf ByteArray.empty l0_2 x57_1) t203 w _ ?side1 ?side2 A65.out).mono ?_
             (case side1=>repeat (first|(with_reducible first|exact HB.out|apply zl1|apply zl2|apply zl3|refine below_set ?_ GE174.out)|exact HB.out))
             (case side2=>exact Kd.R_tight rfl HO_4.out)
             rintro e w72 ⟨v204,rfl,ho0,hb,hkp⟩
             refine ⟨_,rfl,?_⟩
             have n0_:=Aside0.mk (blk_kept (by (with_reducible repeat (first|apply zb1|apply zb2|apply zb3));exact BK174.out) hkp (fun hs_=>(fun e_=>(Kd.R_ne HO_4.out BK174.out (by decide)) e_) hs_))
             have n1_:=Aside0.mk (Kd.R_mono (ok':=fun k_=>True) ho0 (fun k_ hk_=>trivial))
             have n2_:=Aside0.mk (hb)
             clear BK174
             clear HB
             clear HO_4
             have BK174:=n0_
             have HO205:=n1_
             have HB:=n2_
             clear n0_ n1_ n2_
             (try clear hb)
             (try clear hkp)
             (try clear ho0)
             obtain ⟨Ao73,co73,eo73⟩:=Kd.R_slice HO205.out
             (first|subst eo73|(injection eo73 with f1_ f2_ f3_;have f4_:=f1_.symm;have f5_:=f3_.symm;clear f1_ f2_ f3_;subst f4_;subst f5_))
             refine hK.out _ _ ⟨(blk_cell BK174.out 0).trans rfl,(blk_cell BK174.out 1).trans rfl,(blk_cell BK174.out 2).trans rfl,(blk_cell BK174.out 3).trans rfl,((HB.out.cell (World.block_lt_of_cell? w _ hw206_0)).trans hw206_0)⟩ (fun hHeld=>?_)
             clear hK K
             refine norm_ (a':=?_) ?_ ?_
             rotate_left
             ·show Act.put _ (some 64) _=_
              simp only [Act.put,List.setIfInBounds_toArray,List.set_cons_zero,List.set_cons_succ,i64_w,i32_w]
              rfl
             refine one_ (i:=10) (N:=some 72) #[true,true,true,true,true,true,true,true,true,true,true,false] rfl rfl (one_of HT_.out (by kernel_rfl)) (by decide) (fun K hK=>?_)
             refine goes_ Try.func25 (by kernel_rfl) rfl #[.slice Ao73 t203.length co73,.int .u64 (IntKind.u64.wrap (rd l0_3 (ji66))),.int .i64 2] (by rfl) rfl rfl (by (try simp only [List.map_toArray,List.map_cons,List.map_nil]);first|done|(simp only [hji66];rfl)|rfl|(simp only [List.length_drop,List.length_take];rfl)|(simp (disch:=omega) only [u64_in];rfl)) ?_
             with_reducible refine (pack_Num.calls k1 (fun k_=>some k_=(.slice Ao73 t203.length co73:Value).ownBlock) (.slice Ao73 t203.length co73) t203 (IntKind.u64.wrap (rd l0_3 (ji66))) 2 t207 w _ ?side1 ?side2 A69.out).mono ?_
             (case side1=>repeat (first|(with_reducible first|exact HB.out|apply zl1|apply zl2|apply zl3|refine below_set ?_ GE174.out)|exact HB.out))
             (case side2=>exact Kd.R_tight rfl HO205.out)
             rintro e w74 ⟨v208,rfl,ho0,hb,hkp⟩
             refine ⟨_,rfl,?_⟩
             have n0_:=Aside0.mk (blk_kept (by (with_reducible repeat (first|apply zb1|apply zb2|apply zb3));exact BK174.out) hkp (fun hs_=>(fun e_=>(Kd.R_ne HO205.out BK174.out (by decide)) e_) hs_))
             have n1_:=Aside0.mk (Kd.R_mono (ok':=fun k_=>True) ho0 (fun k_ hk_=>trivial))
             have n2_:=Aside0.mk (hb)
             clear BK174
             clear HB
             clear HO205
             have BK174:=n0_
             have HO209:=n1_
             have HB:=n2_
             clear n0_ n1_ n2_
             (try clear hb)
             (try clear hkp)
             (try clear ho0)
             refine hK.out _ _ ⟨(blk_cell BK174.out 0).trans rfl,(blk_cell BK174.out 1).trans rfl,(blk_cell BK174.out 2).trans rfl,(blk_cell BK174.out 3).trans rfl,((HB.out.cell (World.block_lt_of_cell? w _ hw206_0)).trans hw206_0)⟩ (fun hHeld=>?_)
             clear hK K
             refine norm_ (a':=?_) ?_ ?_
             rotate_left
             ·show Act.put _ (some 72) _=_
              simp only [Act.put,List.setIfInBounds_toArray,List.set_cons_zero,List.set_cons_succ,i64_w,i32_w]
              rfl
             refine pure_ (i:=11) (N:=some 4) (v:=?_) (a':=?_) #[true,true,true,true,true,true,true,true,true,true,true,true] rfl rfl (any_of HT_.out (by kernel_rfl)) (fun _ _ _ h=>h) (Or.inl ⟨by rfl,?_⟩) ?_ ?_
             rotate_left
             ·intro w'
              go_simp
              with_reducible rfl
             rotate_left
             ·simp only [Act.put,List.setIfInBounds_toArray,List.set_cons_zero,List.set_cons_succ,i64_w,i32_w]
              rfl
             refine done_ (done_of HT_.out (by kernel_rfl)) ?_
             try go_wp2
             go_roundg k1
             case measure=>have:=HK1.out;omega
             case rel=>exact ⟨(t207),(ji66),(by first|rfl|(simp;done)|(simp only [← hji66] <;> (first|rfl|simp))|(simp [*];done)),H',⟨by have:=HK1.out;omega⟩,⟨by (with_reducible repeat (first|apply zk1|apply zk2|apply zk3));exact HO209.out⟩,⟨by (with_reducible repeat (first|apply zb1|apply zb2|apply zb3));exact BK174.out⟩,⟨by repeat (first|(with_reducible first|exact HB.out|apply zl1|apply zl2|apply zl3|refine below_set ?_ GE174.out)|exact HB.out)⟩⟩
            ·rw [if_neg c68] at H
             exact absurd H (by simp)
           ·rw [if_neg c67] at H
            exact absurd H (by simp)
          ·rw [if_neg c64] at H
           exact absurd H (by simp)
         ·rw [if_neg c63] at H
          exact absurd H (by simp)
        ·rw [if_neg c62] at H
         have c62b0:decide (x57_1 < (l0_2.length:Int))=false:=decide_eq_false c62
         clear c62
         replace H:=Option.bind_eq_some_iff.mp H
         obtain ⟨t210,A750,H⟩:=H
         replace H:(if (strOfNums x4_1).size + t210.size≤9223372036854775807 then (some ((strOfNums x4_1) ++ t210,0)) else (none))=some (r1,r2):=H
         have A75:=Aside0.mk A750
         clear A750
         by_cases c76:(strOfNums x4_1).size + t210.size≤9223372036854775807
         ·rw [if_pos c76] at H
          have c76b0:=eq_true c76
          have c76b1:decide ((strOfNums x4_1).size + t210.size≤9223372036854775807)=true:=decide_eq_true c76
          try have c76b2:(9223372036854775807 < (strOfNums x4_1).size + t210.size)=False:=eq_false (Nat.not_lt.2 c76)
          simp only [Option.some.injEq,Prod.mk.injEq] at H
          obtain ⟨rfl,rfl⟩:=H
          try go_wp2
          replace HO_4:=Aside0.mk (Kd.R_drew HO_4.out)
          replace BK174:=Aside0.mk (blk_drew BK174.out)
          replace HB:=Aside0.mk (below_drew1 HB.out)
          obtain ⟨Ao78,co78,eo78⟩:=Kd.R_slice HO_4.out
          (first|subst eo78|(injection eo78 with f1_ f2_ f3_;have f4_:=f1_.symm;have f5_:=f3_.symm;clear f1_ f2_ f3_;subst f4_;subst f5_))
          have hcv79:=own_string (P:=Try.prog) Try.underlying45 Try.underlying5 Try.underlying9 (Kd.own_of_R HO_4.out)
          refine start_ (n:=9) (S:=fun w'=>Sem.run Try.prog (convert 45 9 (.slice Ao78 x4_1.length co78)) w'=Result.ok (Value.string (strOfNums x4_1)) w') (ds:=[]) #[false,false,false,false,false,false,false,false,false] (by kernel_rfl) rfl rfl ((own_string (P:=Try.prog) Try.underlying45 Try.underlying5 Try.underlying9 (Kd.own_of_R HO_4.out))) (fun hHeld=>?_);refine with_tabW node_Write.tab19 node_Write.bits19 (fun HT_ HW_=>?_)
          generalize wr.drew=w77 at HO_4 BK174 HB hHeld ⊢
          refine pure_ (i:=0) (N:=some 74) (v:=?_) (a':=?_) #[true,false,false,false,false,false,false,false,false] rfl rfl (any_of HT_.out (by kernel_rfl)) (fun _ _ _ h=>h) (Or.inl ⟨by rfl,?_⟩) ?_ ?_
          rotate_left
          ·intro w'
           go_simp
           with_reducible rfl
          rotate_left
          ·simp only [Act.put,List.setIfInBounds_toArray,List.set_cons_zero,List.set_cons_succ,i64_w,i32_w]
           rfl
          refine pure_ (i:=2) (N:=some 76) (v:=?_) (a':=?_) #[true,false,true,false,false,false,false,false,false] rfl rfl (any_of HT_.out (by kernel_rfl)) (fun _ _ _ h=>h) (Or.inl ⟨by rfl,?_⟩) ?_ ?_
          rotate_left
          ·intro w'
           go_simp
           with_reducible rfl
          rotate_left
          ·simp only [Act.put,List.setIfInBounds_toArray,List.set_cons_zero,List.set_cons_succ,i64_w,i32_w]
           rfl
          refine pure_ (i:=3) (N:=some 77) (v:=?_) (a':=?_) #[true,false,true,true,false,false,false,false,false] rfl rfl (any_of HT_.out (by kernel_rfl)) (fun _ _ _ h=>h) (Or.inl ⟨by rfl,?_⟩) ?_ ?_
          rotate_left
          ·intro w'
           go_simp
           with_reducible rfl
          rotate_left
          ·simp only [Act.put,List.setIfInBounds_toArray,List.set_cons_zero,List.set_cons_succ,i64_w,i32_w]
           rfl
          refine pure_ (i:=4) (N:=some 78) (v:=?_) (a':=?_) #[true,false,true,true,true,false,false,false,false] rfl rfl (any_of HT_.out (by kernel_rfl)) (fun _ _ _ h=>h) (Or.inl ⟨by rfl,?_⟩) ?_ ?_
          rotate_left
          ·intro w'
           go_simp
           with_reducible rfl
          rotate_left
          ·simp only [Act.put,List.setIfInBounds_toArray,List.set_cons_zero,List.set_cons_succ,i64_w,i32_w]
           rfl
          refine take_ (i:=1) (N:=some 75) (v:=?_) (a':=?_) #[true,true,true,true,true,false,false,false,false] rfl rfl (take_ofW HT_.out HW_.out (by kernel_rfl)) (fun _ _ _ h=>h) (Or.inl ⟨by rfl,?_⟩) hHeld ?_ ?_
          rotate_left
          ·intro w' s0
           go_simp
           with_reducible rfl
          rotate_left
          ·simp only [Act.put,List.setIfInBounds_toArray,List.set_cons_zero,List.set_cons_succ,i64_w,i32_w]
           rfl
          refine one_ (i:=5) (N:=some 79) #[true,true,true,true,true,true,false,false,false] rfl rfl (one_of HT_.out (by kernel_rfl)) (by decide) (fun K hK=>?_)
          refine goes_ Try.func26 (by kernel_rfl) rfl #[.string (⟨#[0]⟩:ByteArray),.int .i64 (wrap64 (256 - (x4_1.length:Int)))] (by rfl) rfl rfl (by (try simp only [List.map_toArray,List.map_cons,List.map_nil]);first|done|rfl|(simp only [List.length_drop,List.length_take];rfl)|(simp (disch:=omega) only [u64_in];rfl)) ?_
          with_reducible refine (strings_Repeat.calls (⟨#[0]⟩:ByteArray) (wrap64 (256 - (x4_1.length:Int))) t210 _ A75.out).mono ?_
          rintro e w80 ⟨rfl,hb⟩
          refine ⟨_,rfl,?_⟩
          replace HO_4:=Aside0.mk (Kd.R_below (by (with_reducible repeat (first|apply zk1|apply zk2|apply zk3));exact HO_4.out) hb)
          replace BK174:=Aside0.mk (blk_below (g:=gb174) (o:=.cells #[.bool false,.slice A0_1 l0_1.length c0_1,.slice A0_2 l0_2.length c0_2,.slice (some ad198) l0_3.length c0_3] 26 (0,0)) (by (with_reducible repeat (first|apply zb1|apply zb2|apply zb3));exact BK174.out) hb)
          replace HB:=Aside0.mk (below_step (by repeat (first|(with_reducible first|exact HB.out|apply zl1|apply zl2|apply zl3|refine below_set ?_ GE174.out)|exact HB.out)) hb)
          (try clear hb)
          (try clear hb2)
          (try clear hk)
          (try clear hi)
          refine hK.out _ _ ((own_string (P:=Try.prog) Try.underlying45 Try.underlying5 Try.underlying9 (Kd.own_of_R HO_4.out))) (fun hHeld=>?_)
          clear hK K
          refine norm_ (a':=?_) ?_ ?_
          rotate_left
          ·show Act.put _ (some 79) _=_
           simp only [Act.put,List.setIfInBounds_toArray,List.set_cons_zero,List.set_cons_succ,i64_w,i32_w]
           rfl
          refine pure_ (i:=6) (N:=some 80) (v:=?_) (a':=?_) #[true,true,true,true,true,true,true,false,false] rfl rfl (any_of HT_.out (by kernel_rfl)) (fun _ _ _ h=>h) (Or.inl ⟨by rfl,?_⟩) ?_ ?_
          rotate_left
          ·intro w'
           go_simp
           with_reducible rfl
          rotate_left
          ·simp only [Act.put,List.setIfInBounds_toArray,List.set_cons_zero,List.set_cons_succ,i64_w,i32_w]
           rfl
          refine pure_ (i:=7) (N:=some 2) (v:=?_) (a':=?_) #[true,true,true,true,true,true,true,true,false] rfl rfl (any_of HT_.out (by kernel_rfl)) (fun _ _ _ h=>h) (Or.inl ⟨by rfl,?_⟩) ?_ ?_
          rotate_left
          ·intro w'
           go_simp
           with_reducible rfl
          rotate_left
          ·simp only [Act.put,List.setIfInBounds_toArray,List.set_cons_zero,List.set_cons_succ,i64_w,i32_w]
           rfl
          refine pure_ (i:=8) (N:=some 3) (v:=?_) (a':=?_) #[true,true,true,true,true,true,true,true,true] rfl rfl (any_of HT_.out (by kernel_rfl)) (fun _ _ _ h=>h) (Or.inl ⟨by rfl,?_⟩) ?_ ?_
          rotate_left
          ·intro w'
           go_simp
           with_reducible rfl
          rotate_left
          ·simp only [Act.put,List.setIfInBounds_toArray,List.set_cons_zero,List.set_cons_succ,i64_w,i32_w]
           rfl
          refine done_ (done_of HT_.out (by kernel_rfl)) ?_
          try go_wp2
          go_ret2
          exact ⟨by first|(with_reducible rfl)|(simp only [isEmpty_bne,Bool.not_not] <;> rfl)|rfl|(simp [*,errW_none,errW_some] <;> rfl),by repeat (first|(with_reducible first|exact HB.out|apply zl1|apply zl2|apply zl3|refine below_set ?_ GE174.out)|exact HB.out)⟩
         ·rw [if_neg c76] at H
          exact absurd H (by simp)
     ·rw [if_neg c46] at H
      exact absurd H (by simp)
    ·rw [if_neg c45] at H
     exact absurd H (by simp)
 ·replace c3:=Bool.eq_false_iff.mpr c3
  subst c3
  have H1:(some ((⟨#[]⟩:ByteArray),4))=some (r1,r2):=by rw [if_neg (show ¬ (false=true) by decide)] at H;exact H
  clear H
  have H:=H1
  clear H1
  simp only [Option.some.injEq,Prod.mk.injEq] at H
  obtain ⟨rfl,rfl⟩:=H
  go_enter Try.func8,Try.ntmps8
  go_wp2_with (first|((with_reducible refine gate_dst (N:=1) rfl ?_);refine box_event ?hg (N:=1) ?hd (cs:=#[.bool a0_0,.slice A0_1 l0_1.length c0_1,.slice A0_2 l0_2.length c0_2,.slice A0_3 l0_3.length c0_3]) (t:=26) ?hr ?_;(case hd=>rfl);(case hg=>rfl);(case hr=>first|(go_simp;done)|(go_simp;rfl));intro gb174 hg w82 hbox hb;have BK174:=Aside0.mk (hbox);have GW174:=Aside0.mk ((by rw [hg];exact (below_size (by repeat (first|(with_reducible first|exact HB.out|apply zl1|apply zl2|apply zl3)|exact HB.out))):w.heap.size≤gb174));have GE174:=Aside0.mk ((by rw [hg];exact (below_size (by repeat (first|(with_reducible first|exact HB.out|apply zl1|apply zl2|apply zl3)|exact HB.out))):w.heap.size≤gb174));replace HB:=Aside0.mk (below_step (by repeat (first|(with_reducible first|exact HB.out|apply zl1|apply zl2|apply zl3)|exact HB.out)) hb);clear hb hbox hg;obtain ⟨hcz83_0,hcz83_1,hcz83_2,hcz83_3⟩:=zc4 BK174.out;obtain ⟨hfz83_0,hfz83_1,hfz83_2,hfz83_3⟩:=zf4 BK174.out)|((with_reducible refine gate_callee (f:=23) rfl ?_);refine goesL_ (some 11) rfl rfl Try.func23 (by kernel_rfl) rfl #[.agg #[.bool a0_0,.slice A0_1 l0_1.length c0_1,.slice A0_2 l0_2.length c0_2,.slice A0_3 l0_3.length c0_3]] rfl (by (try simp only [List.map_toArray,List.map_cons,List.map_nil]);first|done|rfl|(simp only [List.length_drop,List.length_take];rfl)|(simp (disch:=omega) only [u64_in];rfl)) ?_;(with_reducible refine (node_right.calls k a0_0 _ _ l0_1 _ _ l0_2 _ _ l0_3 false _ ?side1 ?side2 ?side3 ?side4 ?side5 ?side6 A2.out).mono ?_);(case side1=>repeat (first|exact (Kd.C_below HR0_1.out HB.out)|(with_reducible refine Kd.C_alloc ?_ _)|(with_reducible refine Kd.C_drewN ?_ _)|(with_reducible refine Kd.C_drew ?_)));(case side2=>exact HC0_1.out);(case side3=>repeat (first|exact (Kd.C_below HR0_2.out HB.out)|(with_reducible refine Kd.C_alloc ?_ _)|(with_reducible refine Kd.C_drewN ?_ _)|(with_reducible refine Kd.C_drew ?_)));(case side4=>exact HC0_2.out);(case side5=>repeat (first|exact (Kd.C_below HR0_3.out HB.out)|(with_reducible refine Kd.C_alloc ?_ _)|(with_reducible refine Kd.C_drewN ?_ _)|(with_reducible refine Kd.C_drew ?_)));(case side6=>exact HC0_3.out);rintro e w84 ⟨rfl,hb⟩;refine ⟨_,rfl,?_⟩;replace BK174:=Aside0.mk (blk_below (g:=gb174) (o:=.cells #[.bool a0_0,.slice A0_1 l0_1.length c0_1,.slice A0_2 l0_2.length c0_2,.slice A0_3 l0_3.length c0_3] 26 (0,0)) (by (with_reducible repeat (first|apply zb1|apply zb2|apply zb3));exact BK174.out) hb);replace HB:=Aside0.mk (below_step (by repeat (first|(with_reducible first|exact HB.out|apply zl1|apply zl2|apply zl3|refine below_set ?_ GE174.out)|exact HB.out)) hb);(try clear hb)))
  go_ret2
  exact ⟨by first|(with_reducible rfl)|(simp only [isEmpty_bne,Bool.not_not] <;> rfl)|rfl|(simp [*,errW_none,errW_some] <;> rfl),by repeat (first|(with_reducible first|exact HB.out|apply zl1|apply zl2|apply zl3|refine below_set ?_ GE174.out)|exact HB.out)⟩

end Go.Proofs.Ytokjbncjapndgaa.PAll
