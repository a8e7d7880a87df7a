/- Printed walks of the functions that the laws reach: each function, what it computes, and that it does. No conditions. -/
import Derived.Test.YtobjnhkjahhfnaaDoorPAllx0
import Derived.Test.YtobjnhkjahhfnaaDoorPAllx1
import Derived.Test.YtobjnhkjahhfnaaDoorPAllx2
import Derived.Test.YtobjnhkjahhfnaaDoorPAllx6
import Derived.Test.YtobjnhkjahhfnaaDoorPAllx7
namespace Go.Proofs.YtobjnhkjahhfnaaDoor.PAll
open Go.RowKit Go.Proofs.YtobjnhkjahhfnaaDoor.XW Go.Proofs.YtobjnhkjahhfnaaDoor.XLib Go.Proofs.YtobjnhkjahhfnaaDoorW.PrintWords Go.Proofs.YtobjnhkjahhfnaaDoorW.PrintLast Go.Proofs.YtobjnhkjahhfnaaDoorW.PrintMore
attribute [local go_sem] max2_int min2_int max_two min_two max_three min_three max_four min_four   -- for this text's walks alone
set_option linter.unusedVariables false
set_option linter.unusedSimpArgs false

attribute [local go_sem high] eqA24
/-! ### flows_right: function 29 -/
mutual
def flows_right.j0:Nat→Bool→Int→Int→Int→Int→ByteArray→Int→Int→Int→Int→Int→ByteArray→Int→List (S24)→Bool→Option (Bool)
 | 0,_,_,_,_,_,_,_,_,_,_,_,_,_,_,_=>none
 | k + 1,x30,x159000,x159001,x159002,x159003,x159004,x159005,x159006,x159007,x159008,x159009,x159010,x159011,x159012,x159013=>if x30=true then (some false) else ((flows_within.f x159011 255).bind fun t163=>(if t163=true then (if (x159012.length:Int)=6 then ((slices_ContainsFunc_at_flows_odd.f k x159012).bind fun t164=>(flows_right.j1 k (x159008 == 0 && (x159009 == 0 && (x159010.toList == ([]:List UInt8)))) (!t164) x159000 x159001 x159002 x159003 x159004 x159005 x159006 x159007 x159008 x159009 x159010 x159011 x159012 x159013)) else (flows_right.j1 k (x159008 == 0 && (x159009 == 0 && (x159010.toList == ([]:List UInt8)))) false x159000 x159001 x159002 x159003 x159004 x159005 x159006 x159007 x159008 x159009 x159010 x159011 x159012 x159013)) else (flows_right.j1 k (x159008 == 0 && (x159009 == 0 && (x159010.toList == ([]:List UInt8)))) false x159000 x159001 x159002 x159003 x159004 x159005 x159006 x159007 x159008 x159009 x159010 x159011 x159012 x159013)))
def flows_right.j1:Nat→Bool→Bool→Int→Int→Int→Int→ByteArray→Int→Int→Int→Int→Int→ByteArray→Int→List (S24)→Bool→Option (Bool)
 | 0,_,_,_,_,_,_,_,_,_,_,_,_,_,_,_,_=>none
 | k + 1,x3,x4,x159000,x159001,x159002,x159003,x159004,x159005,x159006,x159007,x159008,x159009,x159010,x159011,x159012,x159013=>if x159011=0 then (if (x159012.length:Int)=0 then (flows_right.j2 k x3 x4 (x159007 == 0) x159000 x159001 x159002 x159003 x159004 x159005 x159006 x159007 x159008 x159009 x159010 x159011 x159012 x159013) else (flows_right.j2 k x3 x4 false x159000 x159001 x159002 x159003 x159004 x159005 x159006 x159007 x159008 x159009 x159010 x159011 x159012 x159013)) else (flows_right.j2 k x3 x4 false x159000 x159001 x159002 x159003 x159004 x159005 x159006 x159007 x159008 x159009 x159010 x159011 x159012 x159013)
def flows_right.j2:Nat→Bool→Bool→Bool→Int→Int→Int→Int→ByteArray→Int→Int→Int→Int→Int→ByteArray→Int→List (S24)→Bool→Option (Bool)
 | 0,_,_,_,_,_,_,_,_,_,_,_,_,_,_,_,_,_=>none
 | k + 1,x3,x4,x5,x159000,x159001,x159002,x159003,x159004,x159005,x159006,x159007,x159008,x159009,x159010,x159011,x159012,x159013=>if x159005=1 then (if x4=true then (if x3=true then (some (x159007 == 0)) else (some false)) else (some false)) else (if x159005=2 then (if x4=true then (if x3=true then (if x159007 ≥ 0 then (some (decide (x159007≤1152921504606846976))) else (some false)) else (some false)) else (some false)) else (if x159005=3 then (flows_right.j3 k x3 x5 x159005 (x159005 == 3) x159000 x159001 x159002 x159003 x159004 x159005 x159006 x159007 x159008 x159009 x159010 x159011 x159012 x159013) else (flows_right.j3 k x3 x5 x159005 (x159005 == 4) x159000 x159001 x159002 x159003 x159004 x159005 x159006 x159007 x159008 x159009 x159010 x159011 x159012 x159013)))
def flows_right.j3:Nat→Bool→Bool→Int→Bool→Int→Int→Int→Int→ByteArray→Int→Int→Int→Int→Int→ByteArray→Int→List (S24)→Bool→Option (Bool)
 | 0,_,_,_,_,_,_,_,_,_,_,_,_,_,_,_,_,_,_=>none
 | k + 1,x3,x5,x70,x98,x159000,x159001,x159002,x159003,x159004,x159005,x159006,x159007,x159008,x159009,x159010,x159011,x159012,x159013=>if x98=true then (if x5=true then ((flows_odd.f k x159008 x159009 x159010).bind fun t165=>(some (!t165))) else (some false)) else (if x70=5 then (if x5=true then (some x3) else (some false)) else (some false))
end
def flows_right.f (k:Nat) (a0_0:Int) (a0_1:Int) (a0_2:Int) (a0_3:Int) (a0_4:ByteArray) (a0_5:Int) (a0_6:Int) (a0_7:Int) (a0_8:Int) (a0_9:Int) (a0_10:ByteArray) (a0_11:Int) (l0_12:List (S24)) (a0_13:Bool):Option (Bool):=(flows_within.f a0_0 65535).bind fun t159=>(if t159=true then ((flows_within.f a0_1 255).bind fun t160=>(if t160=true then ((flows_within.f a0_6 24).bind fun t161=>(if t161=true then ((flows_odd.f k a0_2 a0_3 a0_4).bind fun t162=>(if t162=true then (flows_right.j0 k true a0_0 a0_1 a0_2 a0_3 a0_4 a0_5 a0_6 a0_7 a0_8 a0_9 a0_10 a0_11 l0_12 a0_13) else (flows_right.j0 k a0_13 a0_0 a0_1 a0_2 a0_3 a0_4 a0_5 a0_6 a0_7 a0_8 a0_9 a0_10 a0_11 l0_12 a0_13))) else (flows_right.j0 k true a0_0 a0_1 a0_2 a0_3 a0_4 a0_5 a0_6 a0_7 a0_8 a0_9 a0_10 a0_11 l0_12 a0_13))) else (flows_right.j0 k true a0_0 a0_1 a0_2 a0_3 a0_4 a0_5 a0_6 a0_7 a0_8 a0_9 a0_10 a0_11 l0_12 a0_13))) else (flows_right.j0 k true a0_0 a0_1 a0_2 a0_3 a0_4 a0_5 a0_6 a0_7 a0_8 a0_9 a0_10 a0_11 l0_12 a0_13))
theorem flows_right.mono_l:∀ k,(∀ y0 y1 y2 y3 y4 y5 y6 y7 y8 y9 y10 y11 y12 y13 y14,LeO (flows_right.j0 k y0 y1 y2 y3 y4 y5 y6 y7 y8 y9 y10 y11 y12 y13 y14) (flows_right.j0 (k + 1) y0 y1 y2 y3 y4 y5 y6 y7 y8 y9 y10 y11 y12 y13 y14))∧(∀ y0 y1 y2 y3 y4 y5 y6 y7 y8 y9 y10 y11 y12 y13 y14 y15,LeO (flows_right.j1 k y0 y1 y2 y3 y4 y5 y6 y7 y8 y9 y10 y11 y12 y13 y14 y15) (flows_right.j1 (k + 1) y0 y1 y2 y3 y4 y5 y6 y7 y8 y9 y10 y11 y12 y13 y14 y15))∧(∀ y0 y1 y2 y3 y4 y5 y6 y7 y8 y9 y10 y11 y12 y13 y14 y15 y16,LeO (flows_right.j2 k y0 y1 y2 y3 y4 y5 y6 y7 y8 y9 y10 y11 y12 y13 y14 y15 y16) (flows_right.j2 (k + 1) y0 y1 y2 y3 y4 y5 y6 y7 y8 y9 y10 y11 y12 y13 y14 y15 y16))∧(∀ y0 y1 y2 y3 y4 y5 y6 y7 y8 y9 y10 y11 y12 y13 y14 y15 y16 y17,LeO (flows_right.j3 k y0 y1 y2 y3 y4 y5 y6 y7 y8 y9 y10 y11 y12 y13 y14 y15 y16 y17) (flows_right.j3 (k + 1) y0 y1 y2 y3 y4 y5 y6 y7 y8 y9 y10 y11 y12 y13 y14 y15 y16 y17))
 | 0=>⟨fun _ _ _ _ _ _ _ _ _ _ _ _ _ _ _ r h=>by simp [flows_right.j0] at h,fun _ _ _ _ _ _ _ _ _ _ _ _ _ _ _ _ r h=>by simp [flows_right.j1] at h,fun _ _ _ _ _ _ _ _ _ _ _ _ _ _ _ _ _ r h=>by simp [flows_right.j2] at h,fun _ _ _ _ _ _ _ _ _ _ _ _ _ _ _ _ _ _ r h=>by simp [flows_right.j3] at h⟩
 | k + 1=>by
  obtain ⟨ih0,ih1,ih2,ih3⟩:=flows_right.mono_l k
  refine ⟨?_,?_,?_,?_⟩
  ·intro y0 y1 y2 y3 y4 y5 y6 y7 y8 y9 y10 y11 y12 y13 y14
   unfold flows_right.j0
   repeat' first
   | (with_reducible exact ih0 _ _ _ _ _ _ _ _ _ _ _ _ _ _ _)
   | (with_reducible exact ih1 _ _ _ _ _ _ _ _ _ _ _ _ _ _ _ _)
   | (with_reducible exact ih2 _ _ _ _ _ _ _ _ _ _ _ _ _ _ _ _ _)
   | (with_reducible exact ih3 _ _ _ _ _ _ _ _ _ _ _ _ _ _ _ _ _ _)
   | (with_reducible exact flows_odd.mono _ _ _ _)
   | (with_reducible exact slices_ContainsFunc_at_flows_odd.mono _ _)
   | (with_reducible exact LeO.refl _)
   | (with_reducible exact LeO.none _)
   | (with_reducible refine LeO.ite ?_ ?_)
   | (with_reducible refine LeO.bind ?_ (fun _=>?_))
   | exact ih0 _ _ _ _ _ _ _ _ _ _ _ _ _ _ _
   | exact ih1 _ _ _ _ _ _ _ _ _ _ _ _ _ _ _ _
   | exact ih2 _ _ _ _ _ _ _ _ _ _ _ _ _ _ _ _ _
   | exact ih3 _ _ _ _ _ _ _ _ _ _ _ _ _ _ _ _ _ _
   | exact flows_odd.mono _ _ _ _
   | exact slices_ContainsFunc_at_flows_odd.mono _ _
   | exact LeO.none _
   | refine LeO.ite ?_ ?_
   | refine LeO.bind ?_ (fun _=>?_)
  ·intro y0 y1 y2 y3 y4 y5 y6 y7 y8 y9 y10 y11 y12 y13 y14 y15
   unfold flows_right.j1
   repeat' first
   | (with_reducible exact ih0 _ _ _ _ _ _ _ _ _ _ _ _ _ _ _)
   | (with_reducible exact ih1 _ _ _ _ _ _ _ _ _ _ _ _ _ _ _ _)
   | (with_reducible exact ih2 _ _ _ _ _ _ _ _ _ _ _ _ _ _ _ _ _)
   | (with_reducible exact ih3 _ _ _ _ _ _ _ _ _ _ _ _ _ _ _ _ _ _)
   | (with_reducible exact flows_odd.mono _ _ _ _)
   | (with_reducible exact slices_ContainsFunc_at_flows_odd.mono _ _)
   | (with_reducible exact LeO.refl _)
   | (with_reducible exact LeO.none _)
   | (with_reducible refine LeO.ite ?_ ?_)
   | (with_reducible refine LeO.bind ?_ (fun _=>?_))
   | exact ih0 _ _ _ _ _ _ _ _ _ _ _ _ _ _ _
   | exact ih1 _ _ _ _ _ _ _ _ _ _ _ _ _ _ _ _
   | exact ih2 _ _ _ _ _ _ _ _ _ _ _ _ _ _ _ _ _
   | exact ih3 _ _ _ _ _ _ _ _ _ _ _ _ _ _ _ _ _ _
   | exact flows_odd.mono _ _ _ _
   | exact slices_ContainsFunc_at_flows_odd.mono _ _
   | exact LeO.none _
   | refine LeO.ite ?_ ?_
   | refine LeO.bind ?_ (fun _=>?_)
  ·intro y0 y1 y2 y3 y4 y5 y6 y7 y8 y9 y10 y11 y12 y13 y14 y15 y16
   unfold flows_right.j2
   repeat' first
   | (with_reducible exact ih0 _ _ _ _ _ _ _ _ _ _ _ _ _ _ _)
   | (with_reducible exact ih1 _ _ _ _ _ _ _ _ _ _ _ _ _ _ _ _)
   | (with_reducible exact ih2 _ _ _ _ _ _ _ _ _ _ _ _ _ _ _ _ _)
   | (with_reducible exact ih3 _ _ _ _ _ _ _ _ _ _ _ _ _ _ _ _ _ _)
   | (with_reducible exact flows_odd.mono _ _ _ _)
   | (with_reducible exact slices_ContainsFunc_at_flows_odd.mono _ _)
   | (with_reducible exact LeO.refl _)
   | (with_reducible exact LeO.none _)
   | (with_reducible refine LeO.ite ?_ ?_)
   | (with_reducible refine LeO.bind ?_ (fun _=>?_))
   | exact ih0 _ _ _ _ _ _ _ _ _ _ _ _ _ _ _
   | exact ih1 _ _ _ _ _ _ _ _ _ _ _ _ _ _ _ _
   | exact ih2 _ _ _ _ _ _ _ _ _ _ _ _ _ _ _ _ _
   | exact ih3 _ _ _ _ _ _ _ _ _ _ _ _ _ _ _ _ _ _
   | exact flows_odd.mono _ _ _ _
   | exact slices_ContainsFunc_at_flows_odd.mono _ _
   | exact LeO.none _
   | refine LeO.ite ?_ ?_
   | refine LeO.bind ?_ (fun _=>?_)
  ·intro y0 y1 y2 y3 y4 y5 y6 y7 y8 y9 y10 y11 y12 y13 y14 y15 y16 y17
   unfold flows_right.j3
   repeat' first
   | (with_reducible exact ih0 _ _ _ _ _ _ _ _ _ _ _ _ _ _ _)
   | (with_reducible exact ih1 _ _ _ _ _ _ _ _ _ _ _ _ _ _ _ _)
   | (with_reducible exact ih2 _ _ _ _ _ _ _ _ _ _ _ _ _ _ _ _ _)
   | (with_reducible exact ih3 _ _ _ _ _ _ _ _ _ _ _ _ _ _ _ _ _ _)
   | (with_reducible exact flows_odd.mono _ _ _ _)
   | (with_reducible exact slices_ContainsFunc_at_flows_odd.mono _ _)
   | (with_reducible exact LeO.refl _)
   | (with_reducible exact LeO.none _)
   | (with_reducible refine LeO.ite ?_ ?_)
   | (with_reducible refine LeO.bind ?_ (fun _=>?_))
   | exact ih0 _ _ _ _ _ _ _ _ _ _ _ _ _ _ _
   | exact ih1 _ _ _ _ _ _ _ _ _ _ _ _ _ _ _ _
   | exact ih2 _ _ _ _ _ _ _ _ _ _ _ _ _ _ _ _ _
   | exact ih3 _ _ _ _ _ _ _ _ _ _ _ _ _ _ _ _ _ _
   | exact flows_odd.mono _ _ _ _
   | exact slices_ContainsFunc_at_flows_odd.mono _ _
   | exact LeO.none _
   | refine LeO.ite ?_ ?_
   | refine LeO.bind ?_ (fun _=>?_)
theorem flows_right.mono:∀ a0 a1 a2 a3 a4 a5 a6 a7 a8 a9 a10 a11 a12 a13 k,LeO (flows_right.f k a0 a1 a2 a3 a4 a5 a6 a7 a8 a9 a10 a11 a12 a13) (flows_right.f (k + 1) a0 a1 a2 a3 a4 a5 a6 a7 a8 a9 a10 a11 a12 a13):=by
 intro a0 a1 a2 a3 a4 a5 a6 a7 a8 a9 a10 a11 a12 a13 k
 obtain ⟨ih0,ih1,ih2,ih3⟩:=flows_right.mono_l k
 unfold flows_right.f
 repeat' first
   | (with_reducible exact ih0 _ _ _ _ _ _ _ _ _ _ _ _ _ _ _)
   | (with_reducible exact ih1 _ _ _ _ _ _ _ _ _ _ _ _ _ _ _ _)
   | (with_reducible exact ih2 _ _ _ _ _ _ _ _ _ _ _ _ _ _ _ _ _)
   | (with_reducible exact ih3 _ _ _ _ _ _ _ _ _ _ _ _ _ _ _ _ _ _)
   | (with_reducible exact flows_odd.mono _ _ _ _)
   | (with_reducible exact slices_ContainsFunc_at_flows_odd.mono _ _)
   | (with_reducible exact LeO.refl _)
   | (with_reducible exact LeO.none _)
   | (with_reducible refine LeO.ite ?_ ?_)
   | (with_reducible refine LeO.bind ?_ (fun _=>?_))
   | exact ih0 _ _ _ _ _ _ _ _ _ _ _ _ _ _ _
   | exact ih1 _ _ _ _ _ _ _ _ _ _ _ _ _ _ _ _
   | exact ih2 _ _ _ _ _ _ _ _ _ _ _ _ _ _ _ _ _
   | exact ih3 _ _ _ _ _ _ _ _ _ _ _ _ _ _ _ _ _ _
   | exact flows_odd.mono _ _ _ _
   | exact slices_ContainsFunc_at_flows_odd.mono _ _
   | exact LeO.none _
   | refine LeO.ite ?_ ?_
   | refine LeO.bind ?_ (fun _=>?_)
set_option maxHeartbeats 8000000 in
set_option maxRecDepth 100000 in
theorem flows_right.calls (k:Nat) (a0_0:Int) (a0_1:Int) (a0_2:Int) (a0_3:Int) (a0_4:ByteArray) (a0_5:Int) (a0_6:Int) (a0_7:Int) (a0_8:Int) (a0_9:Int) (a0_10:ByteArray) (a0_11:Int) (A0_12:Option Addr) (c0_12:Nat) (l0_12:List (S24)) (a0_13:Bool) (r:Bool) (w:World) (hr0_12:Kd.C k24 w A0_12 l0_12.length l0_12) (hc0_12:l0_12.length≤c0_12) (h:flows_right.f k a0_0 a0_1 a0_2 a0_3 a0_4 a0_5 a0_6 a0_7 a0_8 a0_9 a0_10 a0_11 l0_12 a0_13=some r) :
  Calls Tryd.prog 29 #[.agg #[.int .i64 a0_0,.int .i64 a0_1,.int .i64 a0_2,.int .i64 a0_3,.string a0_4,.int .i64 a0_5,.int .i64 a0_6,.int .i64 a0_7,.int .i64 a0_8,.int .i64 a0_9,.string a0_10,.int .i64 a0_11,.slice A0_12 l0_12.length c0_12,.bool a0_13]] w fun e w'=>e=.returned (.bool r)∧Below w.heap.size w w':=by
 have hu30:=Tryd.underlying30
 have hu24:=Tryd.underlying24
 have HR0_12:=Aside0.mk hr0_12
 have HC0_12:=Aside0.mk hc0_12
 clear hr0_12 hc0_12
 have HB:=Aside0.mk (Below.refl w.heap.size w)
 have H:((flows_within.f a0_0 65535).bind fun t159=>(if t159=true then ((flows_within.f a0_1 255).bind fun t160=>(if t160=true then ((flows_within.f a0_6 24).bind fun t161=>(if t161=true then ((flows_odd.f k a0_2 a0_3 a0_4).bind fun t162=>(if t162=true then (flows_right.j0 k true a0_0 a0_1 a0_2 a0_3 a0_4 a0_5 a0_6 a0_7 a0_8 a0_9 a0_10 a0_11 l0_12 a0_13) else (flows_right.j0 k a0_13 a0_0 a0_1 a0_2 a0_3 a0_4 a0_5 a0_6 a0_7 a0_8 a0_9 a0_10 a0_11 l0_12 a0_13))) else (flows_right.j0 k true a0_0 a0_1 a0_2 a0_3 a0_4 a0_5 a0_6 a0_7 a0_8 a0_9 a0_10 a0_11 l0_12 a0_13))) else (flows_right.j0 k true a0_0 a0_1 a0_2 a0_3 a0_4 a0_5 a0_6 a0_7 a0_8 a0_9 a0_10 a0_11 l0_12 a0_13))) else (flows_right.j0 k true a0_0 a0_1 a0_2 a0_3 a0_4 a0_5 a0_6 a0_7 a0_8 a0_9 a0_10 a0_11 l0_12 a0_13)))=some r:=h
 clear h
 have HC2:=Aside0.mk H
 clear H
 go_enter Tryd.func29,Tryd.ntmps29
 go_upto_region 1 with (first|((with_reducible refine gate_dst (N:=1) rfl ?_);(try (refine gate_guard (by rfl) ?_;dsimp only));refine box_event ?hg (N:=1) ?hd (cs:=#[.int .i64 a0_0,.int .i64 a0_1,.int .i64 a0_2,.int .i64 a0_3,.string a0_4,.int .i64 a0_5,.int .i64 a0_6,.int .i64 a0_7,.int .i64 a0_8,.int .i64 a0_9,.string a0_10,.int .i64 a0_11,.slice A0_12 l0_12.length c0_12,.bool a0_13]) (t:=30) ?hr ?_;(case hd=>rfl);(case hg=>rfl);(case hr=>first|(go_simp;done)|(go_simp;rfl));intro gb158 hg w3 hbox hb;have BK158:=Aside0.mk (hbox);have GW158:=Aside0.mk ((by rw [hg];exact (below_size (by repeat (first|(with_reducible first|exact HB.out|apply zl1|apply zl2|apply zl3)|exact HB.out))):w.heap.size≤gb158));have GE158:=Aside0.mk ((by rw [hg];exact (below_size (by repeat (first|(with_reducible first|exact HB.out|apply zl1|apply zl2|apply zl3)|exact HB.out))):w.heap.size≤gb158));replace HB:=Aside0.mk (below_step (by repeat (first|(with_reducible first|exact HB.out|apply zl1|apply zl2|apply zl3)|exact HB.out)) hb);clear hb hbox hg))
 (try simp only [Act.put,List.setIfInBounds_toArray,List.set_cons_zero,List.set_cons_succ])
 go_cut [30] (fun v30 wc=>∃ (kq:Nat) (x30_1:Bool),v30=.bool x30_1∧Aside0 (flows_right.j0 kq x30_1 a0_0 a0_1 a0_2 a0_3 a0_4 a0_5 a0_6 a0_7 a0_8 a0_9 a0_10 a0_11 l0_12 a0_13=some r)∧Aside0 (kq≤k)∧Aside0 (wc.heap[gb158]?=some (.cells #[.int .i64 a0_0,.int .i64 a0_1,.int .i64 a0_2,.int .i64 a0_3,.string a0_4,.int .i64 a0_5,.int .i64 a0_6,.int .i64 a0_7,.int .i64 a0_8,.int .i64 a0_9,.string a0_10,.int .i64 a0_11,(.slice A0_12 l0_12.length c0_12),.bool a0_13] 30 (0,0)))∧Aside0 (Below w.heap.size w wc))
 case first =>
  have H:=HC2.out
  clear HC2
  replace H:=Option.bind_eq_some_iff.mp H
  obtain ⟨t159,A40,H⟩:=H
  replace H:(if t159=true then ((flows_within.f a0_1 255).bind fun t160=>(if t160=true then ((flows_within.f a0_6 24).bind fun t161=>(if t161=true then ((flows_odd.f k a0_2 a0_3 a0_4).bind fun t162=>(if t162=true then (flows_right.j0 k true a0_0 a0_1 a0_2 a0_3 a0_4 a0_5 a0_6 a0_7 a0_8 a0_9 a0_10 a0_11 l0_12 a0_13) else (flows_right.j0 k a0_13 a0_0 a0_1 a0_2 a0_3 a0_4 a0_5 a0_6 a0_7 a0_8 a0_9 a0_10 a0_11 l0_12 a0_13))) else (flows_right.j0 k true a0_0 a0_1 a0_2 a0_3 a0_4 a0_5 a0_6 a0_7 a0_8 a0_9 a0_10 a0_11 l0_12 a0_13))) else (flows_right.j0 k true a0_0 a0_1 a0_2 a0_3 a0_4 a0_5 a0_6 a0_7 a0_8 a0_9 a0_10 a0_11 l0_12 a0_13))) else (flows_right.j0 k true a0_0 a0_1 a0_2 a0_3 a0_4 a0_5 a0_6 a0_7 a0_8 a0_9 a0_10 a0_11 l0_12 a0_13))=some r:=H
  have A4:=Aside0.mk A40
  clear A40
  by_cases c5:t159=true
  ·subst c5
   have H1:((flows_within.f a0_1 255).bind fun t160=>(if t160=true then ((flows_within.f a0_6 24).bind fun t161=>(if t161=true then ((flows_odd.f k a0_2 a0_3 a0_4).bind fun t162=>(if t162=true then (flows_right.j0 k true a0_0 a0_1 a0_2 a0_3 a0_4 a0_5 a0_6 a0_7 a0_8 a0_9 a0_10 a0_11 l0_12 a0_13) else (flows_right.j0 k a0_13 a0_0 a0_1 a0_2 a0_3 a0_4 a0_5 a0_6 a0_7 a0_8 a0_9 a0_10 a0_11 l0_12 a0_13))) else (flows_right.j0 k true a0_0 a0_1 a0_2 a0_3 a0_4 a0_5 a0_6 a0_7 a0_8 a0_9 a0_10 a0_11 l0_12 a0_13))) else (flows_right.j0 k true a0_0 a0_1 a0_2 a0_3 a0_4 a0_5 a0_6 a0_7 a0_8 a0_9 a0_10 a0_11 l0_12 a0_13)))=some r:=by rw [if_pos rfl] at H;exact H
   clear H
   have H:=H1
   clear H1
   replace H:=Option.bind_eq_some_iff.mp H
   obtain ⟨t160,A60,H⟩:=H
   replace H:(if t160=true then ((flows_within.f a0_6 24).bind fun t161=>(if t161=true then ((flows_odd.f k a0_2 a0_3 a0_4).bind fun t162=>(if t162=true then (flows_right.j0 k true a0_0 a0_1 a0_2 a0_3 a0_4 a0_5 a0_6 a0_7 a0_8 a0_9 a0_10 a0_11 l0_12 a0_13) else (flows_right.j0 k a0_13 a0_0 a0_1 a0_2 a0_3 a0_4 a0_5 a0_6 a0_7 a0_8 a0_9 a0_10 a0_11 l0_12 a0_13))) else (flows_right.j0 k true a0_0 a0_1 a0_2 a0_3 a0_4 a0_5 a0_6 a0_7 a0_8 a0_9 a0_10 a0_11 l0_12 a0_13))) else (flows_right.j0 k true a0_0 a0_1 a0_2 a0_3 a0_4 a0_5 a0_6 a0_7 a0_8 a0_9 a0_10 a0_11 l0_12 a0_13))=some r:=H
   have A6:=Aside0.mk A60
   clear A60
   by_cases c7:t160=true
   ·subst c7
    have H1:((flows_within.f a0_6 24).bind fun t161=>(if t161=true then ((flows_odd.f k a0_2 a0_3 a0_4).bind fun t162=>(if t162=true then (flows_right.j0 k true a0_0 a0_1 a0_2 a0_3 a0_4 a0_5 a0_6 a0_7 a0_8 a0_9 a0_10 a0_11 l0_12 a0_13) else (flows_right.j0 k a0_13 a0_0 a0_1 a0_2 a0_3 a0_4 a0_5 a0_6 a0_7 a0_8 a0_9 a0_10 a0_11 l0_12 a0_13))) else (flows_right.j0 k true a0_0 a0_1 a0_2 a0_3 a0_4 a0_5 a0_6 a0_7 a0_8 a0_9 a0_10 a0_11 l0_12 a0_13)))=some r:=by rw [if_pos rfl] at H;exact H
    clear H
    have H:=H1
    clear H1
    replace H:=Option.bind_eq_some_iff.mp H
    obtain ⟨t161,A80,H⟩:=H
    replace H:(if t161=true then ((flows_odd.f k a0_2 a0_3 a0_4).bind fun t162=>(if t162=true then (flows_right.j0 k true a0_0 a0_1 a0_2 a0_3 a0_4 a0_5 a0_6 a0_7 a0_8 a0_9 a0_10 a0_11 l0_12 a0_13) else (flows_right.j0 k a0_13 a0_0 a0_1 a0_2 a0_3 a0_4 a0_5 a0_6 a0_7 a0_8 a0_9 a0_10 a0_11 l0_12 a0_13))) else (flows_right.j0 k true a0_0 a0_1 a0_2 a0_3 a0_4 a0_5 a0_6 a0_7 a0_8 a0_9 a0_10 a0_11 l0_12 a0_13))=some r:=H
    have A8:=Aside0.mk A80
    clear A80
    by_cases c9:t161=true
    ·subst c9
     have H1:((flows_odd.f k a0_2 a0_3 a0_4).bind fun t162=>(if t162=true then (flows_right.j0 k true a0_0 a0_1 a0_2 a0_3 a0_4 a0_5 a0_6 a0_7 a0_8 a0_9 a0_10 a0_11 l0_12 a0_13) else (flows_right.j0 k a0_13 a0_0 a0_1 a0_2 a0_3 a0_4 a0_5 a0_6 a0_7 a0_8 a0_9 a0_10 a0_11 l0_12 a0_13)))=some r:=by rw [if_pos rfl] at H;exact H
     clear H
     have H:=H1
     clear H1
     replace H:=Option.bind_eq_some_iff.mp H
     obtain ⟨t162,A100,H⟩:=H
     replace H:(if t162=true then (flows_right.j0 k true a0_0 a0_1 a0_2 a0_3 a0_4 a0_5 a0_6 a0_7 a0_8 a0_9 a0_10 a0_11 l0_12 a0_13) else (flows_right.j0 k a0_13 a0_0 a0_1 a0_2 a0_3 a0_4 a0_5 a0_6 a0_7 a0_8 a0_9 a0_10 a0_11 l0_12 a0_13))=some r:=H
     have A10:=Aside0.mk A100
     clear A100
     by_cases c11:t162=true
     ·subst c11
      have H1:(flows_right.j0 k true a0_0 a0_1 a0_2 a0_3 a0_4 a0_5 a0_6 a0_7 a0_8 a0_9 a0_10 a0_11 l0_12 a0_13)=some r:=by rw [if_pos rfl] at H;exact H
      clear H
      have H:=H1
      clear H1
      have H':=Aside0.mk H
      clear H
      obtain ⟨hcz12_0,hcz12_1,hcz12_2,hcz12_3,hcz12_4,hcz12_5,hcz12_6,hcz12_7,hcz12_8,hcz12_9,hcz12_10,hcz12_11,hcz12_12,hcz12_13⟩:=zc14 BK158.out
      obtain ⟨hfz12_0,hfz12_1,hfz12_2,hfz12_3,hfz12_4,hfz12_5,hfz12_6,hfz12_7,hfz12_8,hfz12_9,hfz12_10,hfz12_11,hfz12_12,hfz12_13⟩:=zf14 BK158.out
      go_wp2_with (first|((with_reducible refine gate_callee (f:=53) rfl ?_);refine goesL_ (some 8) rfl rfl Tryd.func53 (by kernel_rfl) rfl #[.int .i64 a0_0,.int .i64 65535] rfl (by (try simp only [List.map_toArray,List.map_cons,List.map_nil]);first|done|rfl|(simp only [List.length_drop,List.length_take];rfl)|(simp (disch:=omega) only [u64_in];rfl)) ?_;(with_reducible refine (flows_within.calls a0_0 65535 true _ A4.out).mono ?_);rintro e w' ⟨rfl,⟨nd,rfl⟩⟩;refine ⟨_,rfl,?_⟩)|(go_at_call 53;(with_reducible refine (flows_within.calls a0_1 255 true _ A6.out).mono ?_);rintro e w' ⟨rfl,⟨nd,rfl⟩⟩)|(go_at_call 53;(with_reducible refine (flows_within.calls a0_6 24 true _ A8.out).mono ?_);rintro e w' ⟨rfl,⟨nd,rfl⟩⟩)|(go_at_call 54;(with_reducible refine (flows_odd.calls k a0_2 a0_3 a0_4 true _ A10.out).mono ?_);rintro e w13 ⟨rfl,hb⟩;replace BK158:=Aside0.mk (blk_below (g:=gb158) (o:=.cells #[.int .i64 a0_0,.int .i64 a0_1,.int .i64 a0_2,.int .i64 a0_3,.string a0_4,.int .i64 a0_5,.int .i64 a0_6,.int .i64 a0_7,.int .i64 a0_8,.int .i64 a0_9,.string a0_10,.int .i64 a0_11,.slice A0_12 l0_12.length c0_12,.bool a0_13] 30 (0,0)) (by (with_reducible repeat (first|apply zb1|apply zb2|apply zb3));exact BK158.out) hb);replace HB:=Aside0.mk (below_step (by repeat (first|(with_reducible first|exact HB.out|apply zl1|apply zl2|apply zl3|refine below_set ?_ GE158.out)|exact HB.out)) hb);(try clear hb)))
      go_meet
      case rel=>exact ⟨_,(true),(by first|(with_reducible rfl)|(simp;done)|(simp [*];done)|rfl|(simp only [not_isEmpty_bne])),H',⟨by first|omega|exact Nat.le_refl _⟩,⟨by (with_reducible repeat (first|apply zb1|apply zb2|apply zb3));exact BK158.out⟩,⟨by repeat (first|(with_reducible first|exact HB.out|apply zl1|apply zl2|apply zl3|refine below_set ?_ GE158.out)|exact HB.out)⟩⟩
     ·replace c11:=Bool.eq_false_iff.mpr c11
      subst c11
      have H1:(flows_right.j0 k a0_13 a0_0 a0_1 a0_2 a0_3 a0_4 a0_5 a0_6 a0_7 a0_8 a0_9 a0_10 a0_11 l0_12 a0_13)=some r:=by rw [if_neg (show ¬ (false=true) by decide)] at H;exact H
      clear H
      have H:=H1
      clear H1
      have H':=Aside0.mk H
      clear H
      obtain ⟨hcz14_0,hcz14_1,hcz14_2,hcz14_3,hcz14_4,hcz14_5,hcz14_6,hcz14_7,hcz14_8,hcz14_9,hcz14_10,hcz14_11,hcz14_12,hcz14_13⟩:=zc14 BK158.out
      obtain ⟨hfz14_0,hfz14_1,hfz14_2,hfz14_3,hfz14_4,hfz14_5,hfz14_6,hfz14_7,hfz14_8,hfz14_9,hfz14_10,hfz14_11,hfz14_12,hfz14_13⟩:=zf14 BK158.out
      go_wp2_with (first|((with_reducible refine gate_callee (f:=53) rfl ?_);refine goesL_ (some 8) rfl rfl Tryd.func53 (by kernel_rfl) rfl #[.int .i64 a0_0,.int .i64 65535] rfl (by (try simp only [List.map_toArray,List.map_cons,List.map_nil]);first|done|rfl|(simp only [List.length_drop,List.length_take];rfl)|(simp (disch:=omega) only [u64_in];rfl)) ?_;(with_reducible refine (flows_within.calls a0_0 65535 true _ A4.out).mono ?_);rintro e w' ⟨rfl,⟨nd,rfl⟩⟩;refine ⟨_,rfl,?_⟩)|(go_at_call 53;(with_reducible refine (flows_within.calls a0_1 255 true _ A6.out).mono ?_);rintro e w' ⟨rfl,⟨nd,rfl⟩⟩)|(go_at_call 53;(with_reducible refine (flows_within.calls a0_6 24 true _ A8.out).mono ?_);rintro e w' ⟨rfl,⟨nd,rfl⟩⟩)|(go_at_call 54;(with_reducible refine (flows_odd.calls k a0_2 a0_3 a0_4 false _ A10.out).mono ?_);rintro e w15 ⟨rfl,hb⟩;replace BK158:=Aside0.mk (blk_below (g:=gb158) (o:=.cells #[.int .i64 a0_0,.int .i64 a0_1,.int .i64 a0_2,.int .i64 a0_3,.string a0_4,.int .i64 a0_5,.int .i64 a0_6,.int .i64 a0_7,.int .i64 a0_8,.int .i64 a0_9,.string a0_10,.int .i64 a0_11,.slice A0_12 l0_12.length c0_12,.bool a0_13] 30 (0,0)) (by (with_reducible repeat (first|apply zb1|apply zb2|apply zb3));exact BK158.out) hb);replace HB:=Aside0.mk (below_step (by repeat (first|(with_reducible first|exact HB.out|apply zl1|apply zl2|apply zl3|refine below_set ?_ GE158.out)|exact HB.out)) hb);(try clear hb);obtain ⟨hcz16_0,hcz16_1,hcz16_2,hcz16_3,hcz16_4,hcz16_5,hcz16_6,hcz16_7,hcz16_8,hcz16_9,hcz16_10,hcz16_11,hcz16_12,hcz16_13⟩:=zc14 BK158.out;obtain ⟨hfz16_0,hfz16_1,hfz16_2,hfz16_3,hfz16_4,hfz16_5,hfz16_6,hfz16_7,hfz16_8,hfz16_9,hfz16_10,hfz16_11,hfz16_12,hfz16_13⟩:=zf14 BK158.out))
      go_meet
      case rel=>exact ⟨_,(a0_13),(by first|(with_reducible rfl)|(simp;done)|(simp [*];done)|rfl|(simp only [not_isEmpty_bne])),H',⟨by first|omega|exact Nat.le_refl _⟩,⟨by (with_reducible repeat (first|apply zb1|apply zb2|apply zb3));exact BK158.out⟩,⟨by repeat (first|(with_reducible first|exact HB.out|apply zl1|apply zl2|apply zl3|refine below_set ?_ GE158.out)|exact HB.out)⟩⟩
    ·replace c9:=Bool.eq_false_iff.mpr c9
     subst c9
     have H1:(flows_right.j0 k true a0_0 a0_1 a0_2 a0_3 a0_4 a0_5 a0_6 a0_7 a0_8 a0_9 a0_10 a0_11 l0_12 a0_13)=some r:=by rw [if_neg (show ¬ (false=true) by decide)] at H;exact H
     clear H
     have H:=H1
     clear H1
     have H':=Aside0.mk H
     clear H
     obtain ⟨hcz17_0,hcz17_1,hcz17_2,hcz17_3,hcz17_4,hcz17_5,hcz17_6,hcz17_7,hcz17_8,hcz17_9,hcz17_10,hcz17_11,hcz17_12,hcz17_13⟩:=zc14 BK158.out
     obtain ⟨hfz17_0,hfz17_1,hfz17_2,hfz17_3,hfz17_4,hfz17_5,hfz17_6,hfz17_7,hfz17_8,hfz17_9,hfz17_10,hfz17_11,hfz17_12,hfz17_13⟩:=zf14 BK158.out
     go_wp2_with (first|((with_reducible refine gate_callee (f:=53) rfl ?_);refine goesL_ (some 8) rfl rfl Tryd.func53 (by kernel_rfl) rfl #[.int .i64 a0_0,.int .i64 65535] rfl (by (try simp only [List.map_toArray,List.map_cons,List.map_nil]);first|done|rfl|(simp only [List.length_drop,List.length_take];rfl)|(simp (disch:=omega) only [u64_in];rfl)) ?_;(with_reducible refine (flows_within.calls a0_0 65535 true _ A4.out).mono ?_);rintro e w' ⟨rfl,⟨nd,rfl⟩⟩;refine ⟨_,rfl,?_⟩)|(go_at_call 53;(with_reducible refine (flows_within.calls a0_1 255 true _ A6.out).mono ?_);rintro e w' ⟨rfl,⟨nd,rfl⟩⟩)|(go_at_call 53;(with_reducible refine (flows_within.calls a0_6 24 false _ A8.out).mono ?_);rintro e w' ⟨rfl,⟨nd,rfl⟩⟩))
     go_meet
     case rel=>exact ⟨_,(true),(by first|(with_reducible rfl)|(simp;done)|(simp [*];done)|rfl|(simp only [not_isEmpty_bne])),H',⟨by first|omega|exact Nat.le_refl _⟩,⟨by (with_reducible repeat (first|apply zb1|apply zb2|apply zb3));exact BK158.out⟩,⟨by repeat (first|(with_reducible first|exact HB.out|apply zl1|apply zl2|apply zl3|refine below_set ?_ GE158.out)|exact HB.out)⟩⟩
   ·replace c7:=Bool.eq_false_iff.mpr c7
    subst c7
    have H1:(flows_right.j0 k true a0_0 a0_1 a0_2 a0_3 a0_4 a0_5 a0_6 a0_7 a0_8 a0_9 a0_10 a0_11 l0_12 a0_13)=some r:=by rw [if_neg (show ¬ (false=true) by decide)] at H;exact H
    clear H
    have H:=H1
    clear H1
    have H':=Aside0.mk H
    clear H
    obtain ⟨hcz18_0,hcz18_1,hcz18_2,hcz18_3,hcz18_4,hcz18_5,hcz18_6,hcz18_7,hcz18_8,hcz18_9,hcz18_10,hcz18_11,hcz18_12,hcz18_13⟩:=zc14 BK158.out
    obtain ⟨hfz18_0,hfz18_1,hfz18_2,hfz18_3,hfz18_4,hfz18_5,hfz18_6,hfz18_7,hfz18_8,hfz18_9,hfz18_10,hfz18_11,hfz18_12,hfz18_13⟩:=zf14 BK158.out
    go_wp2_with (first|((with_reducible refine gate_callee (f:=53) rfl ?_);refine goesL_ (some 8) rfl rfl Tryd.func53 (by kernel_rfl) rfl #[.int .i64 a0_0,.int .i64 65535] rfl (by (try simp only [List.map_toArray,List.map_cons,List.map_nil]);first|done|rfl|(simp only [List.length_drop,List.length_take];rfl)|(simp (disch:=omega) only [u64_in];rfl)) ?_;(with_reducible refine (flows_within.calls a0_0 65535 true _ A4.out).mono ?_);rintro e w' ⟨rfl,⟨nd,rfl⟩⟩;refine ⟨_,rfl,?_⟩)|(go_at_call 53;(with_reducible refine (flows_within.calls a0_1 255 false _ A6.out).mono ?_);rintro e w' ⟨rfl,⟨nd,rfl⟩⟩))
    go_meet
    case rel=>exact ⟨_,(true),(by first|(with_reducible rfl)|(simp;done)|(simp [*];done)|rfl|(simp only [not_isEmpty_bne])),H',⟨by first|omega|exact Nat.le_refl _⟩,⟨by (with_reducible repeat (first|apply zb1|apply zb2|apply zb3));exact BK158.out⟩,⟨by repeat (first|(with_reducible first|exact HB.out|apply zl1|apply zl2|apply zl3|refine below_set ?_ GE158.out)|exact HB.out)⟩⟩
  ·replace c5:=Bool.eq_false_iff.mpr c5
   subst c5
   have H1:(flows_right.j0 k true a0_0 a0_1 a0_2 a0_3 a0_4 a0_5 a0_6 a0_7 a0_8 a0_9 a0_10 a0_11 l0_12 a0_13)=some r:=by rw [if_neg (show ¬ (false=true) by decide)] at H;exact H
   clear H
   have H:=H1
   clear H1
   have H':=Aside0.mk H
   clear H
   obtain ⟨hcz19_0,hcz19_1,hcz19_2,hcz19_3,hcz19_4,hcz19_5,hcz19_6,hcz19_7,hcz19_8,hcz19_9,hcz19_10,hcz19_11,hcz19_12,hcz19_13⟩:=zc14 BK158.out
   obtain ⟨hfz19_0,hfz19_1,hfz19_2,hfz19_3,hfz19_4,hfz19_5,hfz19_6,hfz19_7,hfz19_8,hfz19_9,hfz19_10,hfz19_11,hfz19_12,hfz19_13⟩:=zf14 BK158.out
   go_wp2_with (first|((with_reducible refine gate_callee (f:=53) rfl ?_);refine goesL_ (some 8) rfl rfl Tryd.func53 (by kernel_rfl) rfl #[.int .i64 a0_0,.int .i64 65535] rfl (by (try simp only [List.map_toArray,List.map_cons,List.map_nil]);first|done|rfl|(simp only [List.length_drop,List.length_take];rfl)|(simp (disch:=omega) only [u64_in];rfl)) ?_;(with_reducible refine (flows_within.calls a0_0 65535 false _ A4.out).mono ?_);rintro e w' ⟨rfl,⟨nd,rfl⟩⟩;refine ⟨_,rfl,?_⟩))
   go_meet
   case rel=>exact ⟨_,(true),(by first|(with_reducible rfl)|(simp;done)|(simp [*];done)|rfl|(simp only [not_isEmpty_bne])),H',⟨by first|omega|exact Nat.le_refl _⟩,⟨by (with_reducible repeat (first|apply zb1|apply zb2|apply zb3));exact BK158.out⟩,⟨by repeat (first|(with_reducible first|exact HB.out|apply zl1|apply zl2|apply zl3|refine below_set ?_ GE158.out)|exact HB.out)⟩⟩
 case rest =>
  clear HC2
  try clear hcz12_0 hcz12_1 hcz12_10 hcz12_11 hcz12_12 hcz12_13 hcz12_2 hcz12_3 hcz12_4 hcz12_5 hcz12_6 hcz12_7 hcz12_8 hcz12_9 hcz14_0 hcz14_1 hcz14_10 hcz14_11 hcz14_12 hcz14_13 hcz14_2 hcz14_3 hcz14_4
  try clear c1
  try clear c2
  try clear p2
  try clear c5
  try clear c7
  try clear c9
  try clear c11
  try clear hcz14_5 hcz14_6 hcz14_7 hcz14_8 hcz14_9 hcz16_0 hcz16_1 hcz16_10 hcz16_11 hcz16_12 hcz16_13 hcz16_2 hcz16_3 hcz16_4 hcz16_5 hcz16_6 hcz16_7 hcz16_8 hcz16_9 hcz17_0 hcz17_1 hcz17_10 hcz17_11 hcz17_12 hcz17_13 hcz17_2 hcz17_3 hcz17_4 hcz17_5 hcz17_6
  try clear hcz17_7 hcz17_8 hcz17_9 hcz18_0 hcz18_1 hcz18_10 hcz18_11 hcz18_12 hcz18_13 hcz18_2 hcz18_3 hcz18_4 hcz18_5 hcz18_6 hcz18_7 hcz18_8 hcz18_9 hcz19_0 hcz19_1 hcz19_10 hcz19_11 hcz19_12 hcz19_13 hcz19_2 hcz19_3 hcz19_4 hcz19_5 hcz19_6 hcz19_7 hcz19_8
  try clear hfz12_0 hfz12_1 hfz12_10 hfz12_11 hfz12_12 hfz12_13 hfz12_2 hfz12_3 hfz12_4 hfz12_5 hfz12_6 hfz12_7 hfz12_8 hfz12_9 hfz14_0 hfz14_1 hfz14_10 hfz14_11 hfz14_12 hfz14_13 hfz14_2 hfz14_3 hfz14_4 hfz14_5 hfz14_6 hfz14_7 hfz14_8 hfz14_9 hfz16_0
  try clear hcz19_9
  try clear hfz16_1 hfz16_10 hfz16_11 hfz16_12 hfz16_13 hfz16_2 hfz16_3 hfz16_4 hfz16_5 hfz16_6 hfz16_7 hfz16_8 hfz16_9 hfz17_0 hfz17_1 hfz17_10 hfz17_11 hfz17_12 hfz17_13 hfz17_2 hfz17_3 hfz17_4 hfz17_5 hfz17_6 hfz17_7 hfz17_8 hfz17_9 hfz18_0 hfz18_1 hfz18_10
  try clear hfz18_11 hfz18_12 hfz18_13 hfz18_2 hfz18_3 hfz18_4 hfz18_5 hfz18_6 hfz18_7 hfz18_8 hfz18_9 hfz19_0 hfz19_1 hfz19_10 hfz19_11 hfz19_12 hfz19_13 hfz19_2 hfz19_3 hfz19_4 hfz19_5 hfz19_6 hfz19_7 hfz19_8 hfz19_9
  obtain ⟨kq,x30_1,rfl,HA,HJ1,BK158,HB⟩:=hcut
  cases kq with
  | zero=>exact absurd HA.out (by simp [flows_right.j0])
  | succ kj1 =>
   have H:=HA.out
   clear HA
   simp only [flows_right.j0] at H
   by_cases c20:x30_1=true
   ·subst c20
    have H1:(some false)=some r:=by rw [if_pos rfl] at H;exact H
    clear H
    have H:=H1
    clear H1
    obtain rfl:=Option.some.inj H
    go_wp2
    go_ret
    exact ⟨by first|(with_reducible rfl)|(simp only [isEmpty_bne,Bool.not_not] <;> rfl)|rfl|(simp [*,errW_none,errW_some] <;> rfl),by repeat (first|(with_reducible first|exact HB.out|apply zl1|apply zl2|apply zl3|refine below_set ?_ GE158.out)|exact HB.out)⟩
   ·replace c20:=Bool.eq_false_iff.mpr c20
    subst c20
    have H1:((flows_within.f a0_11 255).bind fun t163=>(if t163=true then (if (l0_12.length:Int)=6 then ((slices_ContainsFunc_at_flows_odd.f kj1 l0_12).bind fun t164=>(flows_right.j1 kj1 (a0_8 == 0 && (a0_9 == 0 && (a0_10.toList == ([]:List UInt8)))) (!t164) a0_0 a0_1 a0_2 a0_3 a0_4 a0_5 a0_6 a0_7 a0_8 a0_9 a0_10 a0_11 l0_12 a0_13)) else (flows_right.j1 kj1 (a0_8 == 0 && (a0_9 == 0 && (a0_10.toList == ([]:List UInt8)))) false a0_0 a0_1 a0_2 a0_3 a0_4 a0_5 a0_6 a0_7 a0_8 a0_9 a0_10 a0_11 l0_12 a0_13)) else (flows_right.j1 kj1 (a0_8 == 0 && (a0_9 == 0 && (a0_10.toList == ([]:List UInt8)))) false a0_0 a0_1 a0_2 a0_3 a0_4 a0_5 a0_6 a0_7 a0_8 a0_9 a0_10 a0_11 l0_12 a0_13)))=some r:=by rw [if_neg (show ¬ (false=true) by decide)] at H;exact H
    clear H
    have H:=H1
    clear H1
    have HC21:=Aside0.mk H
    clear H
    obtain ⟨hcz22_0,hcz22_1,hcz22_2,hcz22_3,hcz22_4,hcz22_5,hcz22_6,hcz22_7,hcz22_8,hcz22_9,hcz22_10,hcz22_11,hcz22_12,hcz22_13⟩:=zc14 BK158.out
    obtain ⟨hfz22_0,hfz22_1,hfz22_2,hfz22_3,hfz22_4,hfz22_5,hfz22_6,hfz22_7,hfz22_8,hfz22_9,hfz22_10,hfz22_11,hfz22_12,hfz22_13⟩:=zf14 BK158.out
    go_upto_region 4 with (fail)
    go_cut [4] (fun v4 wc=>∃ (kq:Nat) (x4_20:Bool),v4=.bool x4_20∧Aside0 (flows_right.j1 kq (a0_8 == 0 && (a0_9 == 0 && (a0_10.toList == ([]:List UInt8)))) x4_20 a0_0 a0_1 a0_2 a0_3 a0_4 a0_5 a0_6 a0_7 a0_8 a0_9 a0_10 a0_11 l0_12 a0_13=some r)∧Aside0 (kq≤kj1)∧Aside0 (wc.heap[gb158]?=some (.cells #[.int .i64 a0_0,.int .i64 a0_1,.int .i64 a0_2,.int .i64 a0_3,.string a0_4,.int .i64 a0_5,.int .i64 a0_6,.int .i64 a0_7,.int .i64 a0_8,.int .i64 a0_9,.string a0_10,.int .i64 a0_11,(.slice A0_12 l0_12.length c0_12),.bool a0_13] 30 (0,0)))∧Aside0 (Below w.heap.size w wc))
    case first =>
     have H:=HC21.out
     clear HC21
     replace H:=Option.bind_eq_some_iff.mp H
     obtain ⟨t163,A230,H⟩:=H
     replace H:(if t163=true then (if (l0_12.length:Int)=6 then ((slices_ContainsFunc_at_flows_odd.f kj1 l0_12).bind fun t164=>(flows_right.j1 kj1 (a0_8 == 0 && (a0_9 == 0 && (a0_10.toList == ([]:List UInt8)))) (!t164) a0_0 a0_1 a0_2 a0_3 a0_4 a0_5 a0_6 a0_7 a0_8 a0_9 a0_10 a0_11 l0_12 a0_13)) else (flows_right.j1 kj1 (a0_8 == 0 && (a0_9 == 0 && (a0_10.toList == ([]:List UInt8)))) false a0_0 a0_1 a0_2 a0_3 a0_4 a0_5 a0_6 a0_7 a0_8 a0_9 a0_10 a0_11 l0_12 a0_13)) else (flows_right.j1 kj1 (a0_8 == 0 && (a0_9 == 0 && (a0_10.toList == ([]:List UInt8)))) false a0_0 a0_1 a0_2 a0_3 a0_4 a0_5 a0_6 a0_7 a0_8 a0_9 a0_10 a0_11 l0_12 a0_13))=some r:=H
     have A23:=Aside0.mk A230
     clear A230
     by_cases c24:t163=true
     ·subst c24
      have H1:(if (l0_12.length:Int)=6 then ((slices_ContainsFunc_at_flows_odd.f kj1 l0_12).bind fun t164=>(flows_right.j1 kj1 (a0_8 == 0 && (a0_9 == 0 && (a0_10.toList == ([]:List UInt8)))) (!t164) a0_0 a0_1 a0_2 a0_3 a0_4 a0_5 a0_6 a0_7 a0_8 a0_9 a0_10 a0_11 l0_12 a0_13)) else (flows_right.j1 kj1 (a0_8 == 0 && (a0_9 == 0 && (a0_10.toList == ([]:List UInt8)))) false a0_0 a0_1 a0_2 a0_3 a0_4 a0_5 a0_6 a0_7 a0_8 a0_9 a0_10 a0_11 l0_12 a0_13))=some r:=by rw [if_pos rfl] at H;exact H
      clear H
      have H:=H1
      clear H1
      by_cases c25:(l0_12.length:Int)=6
      ·rw [if_pos c25] at H
       have c25b0:((l0_12.length:Int) == 6)=true:=beq_iff_eq.mpr c25
       have c25b1:((l0_12.length:Int) != 6)=false:=bne_eq_false_iff_eq.mpr c25
       clear c25
       (first|rw [c25b0]|(simp only [i64_w,i32_w];rw [c25b0])|skip)
       replace H:=Option.bind_eq_some_iff.mp H
       obtain ⟨t164,A260,H⟩:=H
       replace H:(flows_right.j1 kj1 (a0_8 == 0 && (a0_9 == 0 && (a0_10.toList == ([]:List UInt8)))) (!t164) a0_0 a0_1 a0_2 a0_3 a0_4 a0_5 a0_6 a0_7 a0_8 a0_9 a0_10 a0_11 l0_12 a0_13)=some r:=H
       have A26:=Aside0.mk A260
       clear A260
       have H':=Aside0.mk H
       clear H
       obtain ⟨hcz27_0,hcz27_1,hcz27_2,hcz27_3,hcz27_4,hcz27_5,hcz27_6,hcz27_7,hcz27_8,hcz27_9,hcz27_10,hcz27_11,hcz27_12,hcz27_13⟩:=zc14 BK158.out
       obtain ⟨hfz27_0,hfz27_1,hfz27_2,hfz27_3,hfz27_4,hfz27_5,hfz27_6,hfz27_7,hfz27_8,hfz27_9,hfz27_10,hfz27_11,hfz27_12,hfz27_13⟩:=zf14 BK158.out
       go_wp2_with (first|((with_reducible refine gate_callee (f:=53) rfl ?_);refine goesL_ (some 38) rfl rfl Tryd.func53 (by kernel_rfl) rfl #[.int .i64 a0_11,.int .i64 255] rfl (by (try simp only [List.map_toArray,List.map_cons,List.map_nil]);first|done|rfl|(simp only [List.length_drop,List.length_take];rfl)|(simp (disch:=omega) only [u64_in];rfl)) ?_;(with_reducible refine (flows_within.calls a0_11 255 true _ A23.out).mono ?_);rintro e w' ⟨rfl,⟨nd,rfl⟩⟩;refine ⟨_,rfl,?_⟩)|(go_at_call 55;(with_reducible refine (slices_ContainsFunc_at_flows_odd.calls kj1 _ _ l0_12 t164 _ ?side1 ?side2 A26.out).mono ?_);(case side1=>repeat (first|exact (Kd.C_below HR0_12.out (by repeat (first|(with_reducible first|exact HB.out|apply zl1|apply zl2|apply zl3|refine below_set ?_ GE158.out)|exact HB.out)))|(with_reducible refine Kd.C_alloc ?_ _)|(with_reducible refine Kd.C_drewN ?_ _)|(with_reducible refine Kd.C_drew ?_)));(case side2=>exact HC0_12.out);rintro e w28 ⟨rfl,hb⟩;replace BK158:=Aside0.mk (blk_below (g:=gb158) (o:=.cells #[.int .i64 a0_0,.int .i64 a0_1,.int .i64 a0_2,.int .i64 a0_3,.string a0_4,.int .i64 a0_5,.int .i64 a0_6,.int .i64 a0_7,.int .i64 a0_8,.int .i64 a0_9,.string a0_10,.int .i64 a0_11,.slice A0_12 l0_12.length c0_12,.bool a0_13] 30 (0,0)) (by (with_reducible repeat (first|apply zb1|apply zb2|apply zb3));exact BK158.out) hb);replace HB:=Aside0.mk (below_step (by repeat (first|(with_reducible first|exact HB.out|apply zl1|apply zl2|apply zl3|refine below_set ?_ GE158.out)|exact HB.out)) hb);(try clear hb)))
       go_meet
       case rel=>exact ⟨_,(!t164),(by first|(with_reducible rfl)|(simp;done)|(simp [*];done)|rfl|(simp only [not_isEmpty_bne])),H',⟨by have:=HJ1.out;first|omega|exact Nat.le_refl _⟩,⟨by (with_reducible repeat (first|apply zb1|apply zb2|apply zb3));exact BK158.out⟩,⟨by repeat (first|(with_reducible first|exact HB.out|apply zl1|apply zl2|apply zl3|refine below_set ?_ GE158.out)|exact HB.out)⟩⟩
      ·rw [if_neg c25] at H
       have c25b0:((l0_12.length:Int) == 6)=false:=beq_eq_false_iff_ne.mpr c25
       have c25b1:((l0_12.length:Int) != 6)=true:=bne_iff_ne.mpr c25
       (first|rw [c25b0]|(simp only [i64_w,i32_w];rw [c25b0])|skip)
       have H':=Aside0.mk H
       clear H
       obtain ⟨hcz29_0,hcz29_1,hcz29_2,hcz29_3,hcz29_4,hcz29_5,hcz29_6,hcz29_7,hcz29_8,hcz29_9,hcz29_10,hcz29_11,hcz29_12,hcz29_13⟩:=zc14 BK158.out
       obtain ⟨hfz29_0,hfz29_1,hfz29_2,hfz29_3,hfz29_4,hfz29_5,hfz29_6,hfz29_7,hfz29_8,hfz29_9,hfz29_10,hfz29_11,hfz29_12,hfz29_13⟩:=zf14 BK158.out
       go_wp2_with (first|((with_reducible refine gate_callee (f:=53) rfl ?_);refine goesL_ (some 38) rfl rfl Tryd.func53 (by kernel_rfl) rfl #[.int .i64 a0_11,.int .i64 255] rfl (by (try simp only [List.map_toArray,List.map_cons,List.map_nil]);first|done|rfl|(simp only [List.length_drop,List.length_take];rfl)|(simp (disch:=omega) only [u64_in];rfl)) ?_;(with_reducible refine (flows_within.calls a0_11 255 true _ A23.out).mono ?_);rintro e w' ⟨rfl,⟨nd,rfl⟩⟩;refine ⟨_,rfl,?_⟩))
       go_meet
       case rel=>exact ⟨_,(false),(by first|(with_reducible rfl)|(simp;done)|(simp [*];done)|rfl|(simp only [not_isEmpty_bne])),H',⟨by have:=HJ1.out;first|omega|exact Nat.le_refl _⟩,⟨by (with_reducible repeat (first|apply zb1|apply zb2|apply zb3));exact BK158.out⟩,⟨by repeat (first|(with_reducible first|exact HB.out|apply zl1|apply zl2|apply zl3|refine below_set ?_ GE158.out)|exact HB.out)⟩⟩
     ·replace c24:=Bool.eq_false_iff.mpr c24
      subst c24
      have H1:(flows_right.j1 kj1 (a0_8 == 0 && (a0_9 == 0 && (a0_10.toList == ([]:List UInt8)))) false a0_0 a0_1 a0_2 a0_3 a0_4 a0_5 a0_6 a0_7 a0_8 a0_9 a0_10 a0_11 l0_12 a0_13)=some r:=by rw [if_neg (show ¬ (false=true) by decide)] at H;exact H
      clear H
      have H:=H1
      clear H1
      have H':=Aside0.mk H
      clear H
      obtain ⟨hcz30_0,hcz30_1,hcz30_2,hcz30_3,hcz30_4,hcz30_5,hcz30_6,hcz30_7,hcz30_8,hcz30_9,hcz30_10,hcz30_11,hcz30_12,hcz30_13⟩:=zc14 BK158.out
      obtain ⟨hfz30_0,hfz30_1,hfz30_2,hfz30_3,hfz30_4,hfz30_5,hfz30_6,hfz30_7,hfz30_8,hfz30_9,hfz30_10,hfz30_11,hfz30_12,hfz30_13⟩:=zf14 BK158.out
      go_wp2_with (first|((with_reducible refine gate_callee (f:=53) rfl ?_);refine goesL_ (some 38) rfl rfl Tryd.func53 (by kernel_rfl) rfl #[.int .i64 a0_11,.int .i64 255] rfl (by (try simp only [List.map_toArray,List.map_cons,List.map_nil]);first|done|rfl|(simp only [List.length_drop,List.length_take];rfl)|(simp (disch:=omega) only [u64_in];rfl)) ?_;(with_reducible refine (flows_within.calls a0_11 255 false _ A23.out).mono ?_);rintro e w' ⟨rfl,⟨nd,rfl⟩⟩;refine ⟨_,rfl,?_⟩))
      go_meet
      case rel=>exact ⟨_,(false),(by first|(with_reducible rfl)|(simp;done)|(simp [*];done)|rfl|(simp only [not_isEmpty_bne])),H',⟨by have:=HJ1.out;first|omega|exact Nat.le_refl _⟩,⟨by (with_reducible repeat (first|apply zb1|apply zb2|apply zb3));exact BK158.out⟩,⟨by repeat (first|(with_reducible first|exact HB.out|apply zl1|apply zl2|apply zl3|refine below_set ?_ GE158.out)|exact HB.out)⟩⟩
    case rest =>
     clear HC21
     try clear hcz12_0 hcz12_1 hcz12_10 hcz12_11 hcz12_12 hcz12_13 hcz12_2 hcz12_3 hcz12_4 hcz12_5 hcz12_6 hcz12_7 hcz12_8 hcz12_9 hcz14_0 hcz14_1 hcz14_10 hcz14_11
     try clear c1
     try clear c2
     try clear p2
     try clear c5
     try clear c7
     try clear c9
     try clear c11
     try clear c20
     try clear c24
     try clear c25
     try clear c25b0
     try clear c25b1
     try clear hcz14_12 hcz14_13 hcz14_2 hcz14_3 hcz14_4 hcz14_5 hcz14_6 hcz14_7 hcz14_8 hcz14_9 hcz16_0 hcz16_1 hcz16_10 hcz16_11 hcz16_12 hcz16_13 hcz16_2 hcz16_3 hcz16_4 hcz16_5 hcz16_6 hcz16_7 hcz16_8 hcz16_9 hcz17_0 hcz17_1 hcz17_10 hcz17_11 hcz17_12 hcz17_13
     try clear hcz17_2 hcz17_3 hcz17_4 hcz17_5 hcz17_6 hcz17_7 hcz17_8 hcz17_9 hcz18_0 hcz18_1 hcz18_10 hcz18_11 hcz18_12 hcz18_13 hcz18_2 hcz18_3 hcz18_4 hcz18_5 hcz18_6 hcz18_7 hcz18_8 hcz18_9 hcz19_0 hcz19_1 hcz19_10 hcz19_11 hcz19_12 hcz19_13 hcz19_2 hcz19_3
     try clear hcz19_4 hcz19_5 hcz19_6 hcz19_7 hcz19_8 hcz19_9 hcz22_0 hcz22_1 hcz22_10 hcz22_11 hcz22_12 hcz22_13 hcz22_2 hcz22_3 hcz22_4 hcz22_5 hcz22_6 hcz22_7 hcz22_8 hcz22_9 hcz27_0 hcz27_1 hcz27_10 hcz27_11 hcz27_12 hcz27_13 hcz27_2 hcz27_3 hcz27_4 hcz27_5
     try clear hcz27_6 hcz27_7 hcz27_8 hcz27_9 hcz29_0 hcz29_1 hcz29_10 hcz29_11 hcz29_12 hcz29_13 hcz29_2 hcz29_3 hcz29_4 hcz29_5 hcz29_6 hcz29_7 hcz29_8 hcz29_9 hcz30_0 hcz30_1 hcz30_10 hcz30_11 hcz30_12 hcz30_13 hcz30_2 hcz30_3 hcz30_4 hcz30_5 hcz30_6 hcz30_7
     try clear hfz12_0 hfz12_1 hfz12_10 hfz12_11 hfz12_12 hfz12_13 hfz12_2 hfz12_3 hfz12_4 hfz12_5 hfz12_6 hfz12_7 hfz12_8 hfz12_9 hfz14_0 hfz14_1 hfz14_10 hfz14_11 hfz14_12 hfz14_13 hfz14_2 hfz14_3 hfz14_4 hfz14_5 hfz14_6 hfz14_7 hfz14_8 hfz14_9
     try clear hcz30_8 hcz30_9
     try clear hfz16_0 hfz16_1 hfz16_10 hfz16_11 hfz16_12 hfz16_13 hfz16_2 hfz16_3 hfz16_4 hfz16_5 hfz16_6 hfz16_7 hfz16_8 hfz16_9 hfz17_0 hfz17_1 hfz17_10 hfz17_11 hfz17_12 hfz17_13 hfz17_2 hfz17_3 hfz17_4 hfz17_5 hfz17_6 hfz17_7 hfz17_8 hfz17_9 hfz18_0 hfz18_1
     try clear hfz18_10 hfz18_11 hfz18_12 hfz18_13 hfz18_2 hfz18_3 hfz18_4 hfz18_5 hfz18_6 hfz18_7 hfz18_8 hfz18_9 hfz19_0 hfz19_1 hfz19_10 hfz19_11 hfz19_12 hfz19_13 hfz19_2 hfz19_3 hfz19_4 hfz19_5 hfz19_6 hfz19_7 hfz19_8 hfz19_9 hfz22_0 hfz22_1 hfz22_10 hfz22_11
     try clear hfz22_12 hfz22_13 hfz22_2 hfz22_3 hfz22_4 hfz22_5 hfz22_6 hfz22_7 hfz22_8 hfz22_9 hfz27_0 hfz27_1 hfz27_10 hfz27_11 hfz27_12 hfz27_13 hfz27_2 hfz27_3 hfz27_4 hfz27_5 hfz27_6 hfz27_7 hfz27_8 hfz27_9 hfz29_0 hfz29_1 hfz29_10 hfz29_11 hfz29_12 hfz29_13
     try clear hfz29_2 hfz29_3 hfz29_4 hfz29_5 hfz29_6 hfz29_7 hfz29_8 hfz29_9 hfz30_0 hfz30_1 hfz30_10 hfz30_11 hfz30_12 hfz30_13 hfz30_2 hfz30_3 hfz30_4 hfz30_5 hfz30_6 hfz30_7 hfz30_8 hfz30_9
     try clear p2
     obtain ⟨kq,x4_20,rfl,HA,HJ20,BK158,HB⟩:=hcut
     cases kq with
     | zero=>exact absurd HA.out (by simp [flows_right.j1])
     | succ kj20 =>
      have H:=HA.out
      clear HA
      simp only [flows_right.j1] at H
      have HC31:=Aside0.mk H
      clear H
      go_upto_region 5 with (fail)
      go_cut [5] (fun v5 wc=>∃ (kq:Nat) (x5_30:Bool),v5=.bool x5_30∧Aside0 (flows_right.j2 kq (a0_8 == 0 && (a0_9 == 0 && (a0_10.toList == ([]:List UInt8)))) x4_20 x5_30 a0_0 a0_1 a0_2 a0_3 a0_4 a0_5 a0_6 a0_7 a0_8 a0_9 a0_10 a0_11 l0_12 a0_13=some r)∧Aside0 (kq≤kj20)∧Aside0 (wc.heap[gb158]?=some (.cells #[.int .i64 a0_0,.int .i64 a0_1,.int .i64 a0_2,.int .i64 a0_3,.string a0_4,.int .i64 a0_5,.int .i64 a0_6,.int .i64 a0_7,.int .i64 a0_8,.int .i64 a0_9,.string a0_10,.int .i64 a0_11,(.slice A0_12 l0_12.length c0_12),.bool a0_13] 30 (0,0)))∧Aside0 (Below w.heap.size w wc))
      case first =>
       have H:=HC31.out
       clear HC31
       by_cases c32:a0_11=0
       ·rw [if_pos c32] at H
        have c32b0:(a0_11 == 0)=true:=beq_iff_eq.mpr c32
        have c32b1:(a0_11 != 0)=false:=bne_eq_false_iff_eq.mpr c32
        clear c32
        (first|rw [c32b0]|(simp only [i64_w,i32_w];rw [c32b0])|skip)
        by_cases c33:(l0_12.length:Int)=0
        ·rw [if_pos c33] at H
         have c33b0:((l0_12.length:Int) == 0)=true:=beq_iff_eq.mpr c33
         have c33b1:((l0_12.length:Int) != 0)=false:=bne_eq_false_iff_eq.mpr c33
         clear c33
         have H':=Aside0.mk H
         clear H
         obtain ⟨hcz34_0,hcz34_1,hcz34_2,hcz34_3,hcz34_4,hcz34_5,hcz34_6,hcz34_7,hcz34_8,hcz34_9,hcz34_10,hcz34_11,hcz34_12,hcz34_13⟩:=zc14 BK158.out
         obtain ⟨hfz34_0,hfz34_1,hfz34_2,hfz34_3,hfz34_4,hfz34_5,hfz34_6,hfz34_7,hfz34_8,hfz34_9,hfz34_10,hfz34_11,hfz34_12,hfz34_13⟩:=zf14 BK158.out
         go_wp2
         go_meet
         case rel=>exact ⟨_,((a0_7 == 0)),(by first|(with_reducible rfl)|(simp;done)|(simp [*];done)|rfl|(simp only [not_isEmpty_bne])),H',⟨by have:=HJ1.out;have:=HJ20.out;first|omega|exact Nat.le_refl _⟩,⟨by (with_reducible repeat (first|apply zb1|apply zb2|apply zb3));exact BK158.out⟩,⟨by repeat (first|(with_reducible first|exact HB.out|apply zl1|apply zl2|apply zl3|refine below_set ?_ GE158.out)|exact HB.out)⟩⟩
        ·rw [if_neg c33] at H
         have c33b0:((l0_12.length:Int) == 0)=false:=beq_eq_false_iff_ne.mpr c33
         have c33b1:((l0_12.length:Int) != 0)=true:=bne_iff_ne.mpr c33
         have c33b2:¬ (l0_12=[]):=fun h_=>c33 (by rw [h_];rfl)
         have H':=Aside0.mk H
         clear H
         obtain ⟨hcz35_0,hcz35_1,hcz35_2,hcz35_3,hcz35_4,hcz35_5,hcz35_6,hcz35_7,hcz35_8,hcz35_9,hcz35_10,hcz35_11,hcz35_12,hcz35_13⟩:=zc14 BK158.out
         obtain ⟨hfz35_0,hfz35_1,hfz35_2,hfz35_3,hfz35_4,hfz35_5,hfz35_6,hfz35_7,hfz35_8,hfz35_9,hfz35_10,hfz35_11,hfz35_12,hfz35_13⟩:=zf14 BK158.out
         go_wp2
         go_meet
         case rel=>exact ⟨_,(false),(by first|(with_reducible rfl)|(simp;done)|(simp [*];done)|rfl|(simp only [not_isEmpty_bne])),H',⟨by have:=HJ1.out;have:=HJ20.out;first|omega|exact Nat.le_refl _⟩,⟨by (with_reducible repeat (first|apply zb1|apply zb2|apply zb3));exact BK158.out⟩,⟨by repeat (first|(with_reducible first|exact HB.out|apply zl1|apply zl2|apply zl3|refine below_set ?_ GE158.out)|exact HB.out)⟩⟩
       ·rw [if_neg c32] at H
        have c32b0:(a0_11 == 0)=false:=beq_eq_false_iff_ne.mpr c32
        have c32b1:(a0_11 != 0)=true:=bne_iff_ne.mpr c32
        (first|rw [c32b0]|(simp only [i64_w,i32_w];rw [c32b0])|skip)
        have H':=Aside0.mk H
        clear H
        obtain ⟨hcz36_0,hcz36_1,hcz36_2,hcz36_3,hcz36_4,hcz36_5,hcz36_6,hcz36_7,hcz36_8,hcz36_9,hcz36_10,hcz36_11,hcz36_12,hcz36_13⟩:=zc14 BK158.out
        obtain ⟨hfz36_0,hfz36_1,hfz36_2,hfz36_3,hfz36_4,hfz36_5,hfz36_6,hfz36_7,hfz36_8,hfz36_9,hfz36_10,hfz36_11,hfz36_12,hfz36_13⟩:=zf14 BK158.out
        go_wp2
        go_meet
        case rel=>exact ⟨_,(false),(by first|(with_reducible rfl)|(simp;done)|(simp [*];done)|rfl|(simp only [not_isEmpty_bne])),H',⟨by have:=HJ1.out;have:=HJ20.out;first|omega|exact Nat.le_refl _⟩,⟨by (with_reducible repeat (first|apply zb1|apply zb2|apply zb3));exact BK158.out⟩,⟨by repeat (first|(with_reducible first|exact HB.out|apply zl1|apply zl2|apply zl3|refine below_set ?_ GE158.out)|exact HB.out)⟩⟩
      case rest =>
       clear HC31
       try clear hcz12_0 hcz12_1 hcz12_10 hcz12_11 hcz12_12 hcz12_13 hcz12_2 hcz12_3 hcz12_4 hcz12_5
       try clear c1
       try clear c2
       try clear p2
       try clear c3
       try clear c5
       try clear c7
       try clear c9
       try clear c11
       try clear c20
       try clear c24
       try clear c25
       try clear c25b0
       try clear c25b1
       try clear c32
       try clear c32b0
       try clear c32b1
       try clear c33
       try clear c33b0
       try clear c33b1
       try clear c33b2
       try clear hcz12_6 hcz12_7 hcz12_8 hcz12_9 hcz14_0 hcz14_1 hcz14_10 hcz14_11 hcz14_12 hcz14_13 hcz14_2 hcz14_3 hcz14_4 hcz14_5 hcz14_6 hcz14_7 hcz14_8 hcz14_9 hcz16_0 hcz16_1 hcz16_10 hcz16_11 hcz16_12 hcz16_13 hcz16_2 hcz16_3 hcz16_4 hcz16_5 hcz16_6 hcz16_7
       try clear hcz16_8 hcz16_9 hcz17_0 hcz17_1 hcz17_10 hcz17_11 hcz17_12 hcz17_13 hcz17_2 hcz17_3 hcz17_4 hcz17_5 hcz17_6 hcz17_7 hcz17_8 hcz17_9 hcz18_0 hcz18_1 hcz18_10 hcz18_11 hcz18_12 hcz18_13 hcz18_2 hcz18_3 hcz18_4 hcz18_5 hcz18_6 hcz18_7 hcz18_8 hcz18_9
       try clear hcz19_0 hcz19_1 hcz19_10 hcz19_11 hcz19_12 hcz19_13 hcz19_2 hcz19_3 hcz19_4 hcz19_5 hcz19_6 hcz19_7 hcz19_8 hcz19_9 hcz22_0 hcz22_1 hcz22_10 hcz22_11 hcz22_12 hcz22_13 hcz22_2 hcz22_3 hcz22_4 hcz22_5 hcz22_6 hcz22_7 hcz22_8 hcz22_9 hcz27_0 hcz27_1
       try clear hcz27_10 hcz27_11 hcz27_12 hcz27_13 hcz27_2 hcz27_3 hcz27_4 hcz27_5 hcz27_6 hcz27_7 hcz27_8 hcz27_9 hcz29_0 hcz29_1 hcz29_10 hcz29_11 hcz29_12 hcz29_13 hcz29_2 hcz29_3 hcz29_4 hcz29_5 hcz29_6 hcz29_7 hcz29_8 hcz29_9 hcz30_0 hcz30_1 hcz30_10 hcz30_11
       try clear hcz30_12 hcz30_13 hcz30_2 hcz30_3 hcz30_4 hcz30_5 hcz30_6 hcz30_7 hcz30_8 hcz30_9 hcz34_0 hcz34_1 hcz34_10 hcz34_11 hcz34_12 hcz34_13 hcz34_2 hcz34_3 hcz34_4 hcz34_5 hcz34_6 hcz34_7 hcz34_8 hcz34_9 hcz35_0 hcz35_1 hcz35_10 hcz35_11 hcz35_12 hcz35_13
       try clear hfz12_0 hfz12_1 hfz12_10 hfz12_11 hfz12_12 hfz12_13 hfz12_2 hfz12_3
       try clear hcz35_2 hcz35_3 hcz35_4 hcz35_5 hcz35_6 hcz35_7 hcz35_8 hcz35_9 hcz36_0 hcz36_1 hcz36_10 hcz36_11 hcz36_12 hcz36_13 hcz36_2 hcz36_3 hcz36_4 hcz36_5 hcz36_6 hcz36_7 hcz36_8 hcz36_9
       try clear hfz12_4 hfz12_5 hfz12_6 hfz12_7 hfz12_8 hfz12_9 hfz14_0 hfz14_1 hfz14_10 hfz14_11 hfz14_12 hfz14_13 hfz14_2 hfz14_3 hfz14_4 hfz14_5 hfz14_6 hfz14_7 hfz14_8 hfz14_9 hfz16_0 hfz16_1 hfz16_10 hfz16_11 hfz16_12 hfz16_13 hfz16_2 hfz16_3 hfz16_4 hfz16_5
       try clear hfz16_6 hfz16_7 hfz16_8 hfz16_9 hfz17_0 hfz17_1 hfz17_10 hfz17_11 hfz17_12 hfz17_13 hfz17_2 hfz17_3 hfz17_4 hfz17_5 hfz17_6 hfz17_7 hfz17_8 hfz17_9 hfz18_0 hfz18_1 hfz18_10 hfz18_11 hfz18_12 hfz18_13 hfz18_2 hfz18_3 hfz18_4 hfz18_5 hfz18_6 hfz18_7
       try clear hfz18_8 hfz18_9 hfz19_0 hfz19_1 hfz19_10 hfz19_11 hfz19_12 hfz19_13 hfz19_2 hfz19_3 hfz19_4 hfz19_5 hfz19_6 hfz19_7 hfz19_8 hfz19_9 hfz22_0 hfz22_1 hfz22_10 hfz22_11 hfz22_12 hfz22_13 hfz22_2 hfz22_3 hfz22_4 hfz22_5 hfz22_6 hfz22_7 hfz22_8 hfz22_9
       try clear hfz27_0 hfz27_1 hfz27_10 hfz27_11 hfz27_12 hfz27_13 hfz27_2 hfz27_3 hfz27_4 hfz27_5 hfz27_6 hfz27_7 hfz27_8 hfz27_9 hfz29_0 hfz29_1 hfz29_10 hfz29_11 hfz29_12 hfz29_13 hfz29_2 hfz29_3 hfz29_4 hfz29_5 hfz29_6 hfz29_7 hfz29_8 hfz29_9 hfz30_0 hfz30_1
       try clear hfz30_10 hfz30_11 hfz30_12 hfz30_13 hfz30_2 hfz30_3 hfz30_4 hfz30_5 hfz30_6 hfz30_7 hfz30_8 hfz30_9 hfz34_0 hfz34_1 hfz34_10 hfz34_11 hfz34_12 hfz34_13 hfz34_2 hfz34_3 hfz34_4 hfz34_5 hfz34_6 hfz34_7 hfz34_8 hfz34_9 hfz35_0 hfz35_1 hfz35_10 hfz35_11
       try clear hfz35_12 hfz35_13 hfz35_2 hfz35_3 hfz35_4 hfz35_5 hfz35_6 hfz35_7 hfz35_8 hfz35_9 hfz36_0 hfz36_1 hfz36_10 hfz36_11 hfz36_12 hfz36_13 hfz36_2 hfz36_3 hfz36_4 hfz36_5 hfz36_6 hfz36_7 hfz36_8 hfz36_9
       try clear p2
       obtain ⟨kq,x5_30,rfl,HA,HJ30,BK158,HB⟩:=hcut
       cases kq with
       | zero=>exact absurd HA.out (by simp [flows_right.j2])
       | succ kj30 =>
        have H:=HA.out
        clear HA
        simp only [flows_right.j2] at H
        by_cases c37:a0_5=1
        ·rw [if_pos c37] at H
         have c37b0:(a0_5 == 1)=true:=beq_iff_eq.mpr c37
         have c37b1:(a0_5 != 1)=false:=bne_eq_false_iff_eq.mpr c37
         clear c37
         by_cases c38:x4_20=true
         ·subst c38
          have H1:(if (a0_8 == 0 && (a0_9 == 0 && (a0_10.toList == ([]:List UInt8))))=true then (some (a0_7 == 0)) else (some false))=some r:=by rw [if_pos rfl] at H;exact H
          clear H
          have H:=H1
          clear H1
          by_cases c39:(a0_8 == 0 && (a0_9 == 0 && (a0_10.toList == ([]:List UInt8))))=true
          ·rw [if_pos c39] at H
           have c39b0:(a0_8 == 0 && (a0_9 == 0 && (a0_10.toList == ([]:List UInt8))))=true:=c39
           (try (have c39b7:(a0_8 == 0 && (a0_9 == 0 && (a0_10.toList.isEmpty)))=true:=by simp only [isEmpty_beq];exact c39b0))
           (try (have c39b1:decide (a0_8=0 && (a0_9 == 0 && (a0_10.toList == ([]:List UInt8))))=true:=by simpa using c39))
           (try (have c39b2:(a0_8 == 0 && (a0_9 == 0 && (a0_10.toList == ([]:List UInt8))))=true:=by simpa using c39))
           clear c39
           obtain rfl:=Option.some.inj H
           obtain ⟨hcz40_0,hcz40_1,hcz40_2,hcz40_3,hcz40_4,hcz40_5,hcz40_6,hcz40_7,hcz40_8,hcz40_9,hcz40_10,hcz40_11,hcz40_12,hcz40_13⟩:=zc14 BK158.out
           obtain ⟨hfz40_0,hfz40_1,hfz40_2,hfz40_3,hfz40_4,hfz40_5,hfz40_6,hfz40_7,hfz40_8,hfz40_9,hfz40_10,hfz40_11,hfz40_12,hfz40_13⟩:=zf14 BK158.out
           go_wp2
           go_ret
           exact ⟨by first|(with_reducible rfl)|(simp only [isEmpty_bne,Bool.not_not] <;> rfl)|rfl|(simp [*,errW_none,errW_some] <;> rfl),by repeat (first|(with_reducible first|exact HB.out|apply zl1|apply zl2|apply zl3|refine below_set ?_ GE158.out)|exact HB.out)⟩
          ·rw [if_neg c39] at H
           have c39b0:(a0_8 == 0 && (a0_9 == 0 && (a0_10.toList == ([]:List UInt8))))=false:=by simpa using c39
           (try (have c39b7:(a0_8 == 0 && (a0_9 == 0 && (a0_10.toList.isEmpty)))=false:=by simp only [isEmpty_beq];exact c39b0))
           (try (have c39b1:decide (a0_8=0 && (a0_9 == 0 && (a0_10.toList == ([]:List UInt8))))=false:=by simpa using c39))
           (try (have c39b2:(a0_8 == 0 && (a0_9 == 0 && (a0_10.toList == ([]:List UInt8))))=false:=by simpa using c39))
           (try (have c39b3:¬ (a0_8=0 && (a0_9 == 0 && (a0_10.toList == ([]:List UInt8)))):=by simpa using c39))
           clear c39
           obtain rfl:=Option.some.inj H
           obtain ⟨hcz41_0,hcz41_1,hcz41_2,hcz41_3,hcz41_4,hcz41_5,hcz41_6,hcz41_7,hcz41_8,hcz41_9,hcz41_10,hcz41_11,hcz41_12,hcz41_13⟩:=zc14 BK158.out
           obtain ⟨hfz41_0,hfz41_1,hfz41_2,hfz41_3,hfz41_4,hfz41_5,hfz41_6,hfz41_7,hfz41_8,hfz41_9,hfz41_10,hfz41_11,hfz41_12,hfz41_13⟩:=zf14 BK158.out
           go_wp2
           go_ret
           exact ⟨by first|(with_reducible rfl)|(simp only [isEmpty_bne,Bool.not_not] <;> rfl)|rfl|(simp [*,errW_none,errW_some] <;> rfl),by repeat (first|(with_reducible first|exact HB.out|apply zl1|apply zl2|apply zl3|refine below_set ?_ GE158.out)|exact HB.out)⟩
         ·replace c38:=Bool.eq_false_iff.mpr c38
          subst c38
          have H1:(some false)=some r:=by rw [if_neg (show ¬ (false=true) by decide)] at H;exact H
          clear H
          have H:=H1
          clear H1
          obtain rfl:=Option.some.inj H
          obtain ⟨hcz42_0,hcz42_1,hcz42_2,hcz42_3,hcz42_4,hcz42_5,hcz42_6,hcz42_7,hcz42_8,hcz42_9,hcz42_10,hcz42_11,hcz42_12,hcz42_13⟩:=zc14 BK158.out
          obtain ⟨hfz42_0,hfz42_1,hfz42_2,hfz42_3,hfz42_4,hfz42_5,hfz42_6,hfz42_7,hfz42_8,hfz42_9,hfz42_10,hfz42_11,hfz42_12,hfz42_13⟩:=zf14 BK158.out
          go_wp2
          go_ret
          exact ⟨by first|(with_reducible rfl)|(simp only [isEmpty_bne,Bool.not_not] <;> rfl)|rfl|(simp [*,errW_none,errW_some] <;> rfl),by repeat (first|(with_reducible first|exact HB.out|apply zl1|apply zl2|apply zl3|refine below_set ?_ GE158.out)|exact HB.out)⟩
        ·rw [if_neg c37] at H
         have c37b0:(a0_5 == 1)=false:=beq_eq_false_iff_ne.mpr c37
         have c37b1:(a0_5 != 1)=true:=bne_iff_ne.mpr c37
         by_cases c43:a0_5=2
         ·rw [if_pos c43] at H
          have c43b0:(a0_5 == 2)=true:=beq_iff_eq.mpr c43
          have c43b1:(a0_5 != 2)=false:=bne_eq_false_iff_eq.mpr c43
          clear c43
          by_cases c44:x4_20=true
          ·subst c44
           have H1:(if (a0_8 == 0 && (a0_9 == 0 && (a0_10.toList == ([]:List UInt8))))=true then (if a0_7 ≥ 0 then (some (decide (a0_7≤1152921504606846976))) else (some false)) else (some false))=some r:=by rw [if_pos rfl] at H;exact H
           clear H
           have H:=H1
           clear H1
           by_cases c45:(a0_8 == 0 && (a0_9 == 0 && (a0_10.toList == ([]:List UInt8))))=true
           ·rw [if_pos c45] at H
            have c45b0:(a0_8 == 0 && (a0_9 == 0 && (a0_10.toList == ([]:List UInt8))))=true:=c45
            (try (have c45b7:(a0_8 == 0 && (a0_9 == 0 && (a0_10.toList.isEmpty)))=true:=by simp only [isEmpty_beq];exact c45b0))
            (try (have c45b1:decide (a0_8=0 && (a0_9 == 0 && (a0_10.toList == ([]:List UInt8))))=true:=by simpa using c45))
            (try (have c45b2:(a0_8 == 0 && (a0_9 == 0 && (a0_10.toList == ([]:List UInt8))))=true:=by simpa using c45))
            clear c45
            by_cases c46:a0_7 ≥ 0
            ·rw [if_pos c46] at H
             have c46b0:decide (0≤a0_7)=true:=decide_eq_true c46
             clear c46
             obtain rfl:=Option.some.inj H
             obtain ⟨hcz47_0,hcz47_1,hcz47_2,hcz47_3,hcz47_4,hcz47_5,hcz47_6,hcz47_7,hcz47_8,hcz47_9,hcz47_10,hcz47_11,hcz47_12,hcz47_13⟩:=zc14 BK158.out
             obtain ⟨hfz47_0,hfz47_1,hfz47_2,hfz47_3,hfz47_4,hfz47_5,hfz47_6,hfz47_7,hfz47_8,hfz47_9,hfz47_10,hfz47_11,hfz47_12,hfz47_13⟩:=zf14 BK158.out
             go_wp2
             go_ret
             exact ⟨by first|(with_reducible rfl)|(simp only [isEmpty_bne,Bool.not_not] <;> rfl)|rfl|(simp [*,errW_none,errW_some] <;> rfl),by repeat (first|(with_reducible first|exact HB.out|apply zl1|apply zl2|apply zl3|refine below_set ?_ GE158.out)|exact HB.out)⟩
            ·rw [if_neg c46] at H
             have c46b0:decide (0≤a0_7)=false:=decide_eq_false c46
             clear c46
             obtain rfl:=Option.some.inj H
             obtain ⟨hcz48_0,hcz48_1,hcz48_2,hcz48_3,hcz48_4,hcz48_5,hcz48_6,hcz48_7,hcz48_8,hcz48_9,hcz48_10,hcz48_11,hcz48_12,hcz48_13⟩:=zc14 BK158.out
             obtain ⟨hfz48_0,hfz48_1,hfz48_2,hfz48_3,hfz48_4,hfz48_5,hfz48_6,hfz48_7,hfz48_8,hfz48_9,hfz48_10,hfz48_11,hfz48_12,hfz48_13⟩:=zf14 BK158.out
             go_wp2
             go_ret
             exact ⟨by first|(with_reducible rfl)|(simp only [isEmpty_bne,Bool.not_not] <;> rfl)|rfl|(simp [*,errW_none,errW_some] <;> rfl),by repeat (first|(with_reducible first|exact HB.out|apply zl1|apply zl2|apply zl3|refine below_set ?_ GE158.out)|exact HB.out)⟩
           ·rw [if_neg c45] at H
            have c45b0:(a0_8 == 0 && (a0_9 == 0 && (a0_10.toList == ([]:List UInt8))))=false:=by simpa using c45
            (try (have c45b7:(a0_8 == 0 && (a0_9 == 0 && (a0_10.toList.isEmpty)))=false:=by simp only [isEmpty_beq];exact c45b0))
            (try (have c45b1:decide (a0_8=0 && (a0_9 == 0 && (a0_10.toList == ([]:List UInt8))))=false:=by simpa using c45))
            (try (have c45b2:(a0_8 == 0 && (a0_9 == 0 && (a0_10.toList == ([]:List UInt8))))=false:=by simpa using c45))
            (try (have c45b3:¬ (a0_8=0 && (a0_9 == 0 && (a0_10.toList == ([]:List UInt8)))):=by simpa using c45))
            clear c45
            obtain rfl:=Option.some.inj H
            obtain ⟨hcz49_0,hcz49_1,hcz49_2,hcz49_3,hcz49_4,hcz49_5,hcz49_6,hcz49_7,hcz49_8,hcz49_9,hcz49_10,hcz49_11,hcz49_12,hcz49_13⟩:=zc14 BK158.out
            obtain ⟨hfz49_0,hfz49_1,hfz49_2,hfz49_3,hfz49_4,hfz49_5,hfz49_6,hfz49_7,hfz49_8,hfz49_9,hfz49_10,hfz49_11,hfz49_12,hfz49_13⟩:=zf14 BK158.out
            go_wp2
            go_ret
            exact ⟨by first|(with_reducible rfl)|(simp only [isEmpty_bne,Bool.not_not] <;> rfl)|rfl|(simp [*,errW_none,errW_some] <;> rfl),by repeat (first|(with_reducible first|exact HB.out|apply zl1|apply zl2|apply zl3|refine below_set ?_ GE158.out)|exact HB.out)⟩
          ·replace c44:=Bool.eq_false_iff.mpr c44
           subst c44
           have H1:(some false)=some r:=by rw [if_neg (show ¬ (false=true) by decide)] at H;exact H
           clear H
           have H:=H1
           clear H1
           obtain rfl:=Option.some.inj H
           obtain ⟨hcz50_0,hcz50_1,hcz50_2,hcz50_3,hcz50_4,hcz50_5,hcz50_6,hcz50_7,hcz50_8,hcz50_9,hcz50_10,hcz50_11,hcz50_12,hcz50_13⟩:=zc14 BK158.out
           obtain ⟨hfz50_0,hfz50_1,hfz50_2,hfz50_3,hfz50_4,hfz50_5,hfz50_6,hfz50_7,hfz50_8,hfz50_9,hfz50_10,hfz50_11,hfz50_12,hfz50_13⟩:=zf14 BK158.out
           go_wp2
           go_ret
           exact ⟨by first|(with_reducible rfl)|(simp only [isEmpty_bne,Bool.not_not] <;> rfl)|rfl|(simp [*,errW_none,errW_some] <;> rfl),by repeat (first|(with_reducible first|exact HB.out|apply zl1|apply zl2|apply zl3|refine below_set ?_ GE158.out)|exact HB.out)⟩
         ·rw [if_neg c43] at H
          have c43b0:(a0_5 == 2)=false:=beq_eq_false_iff_ne.mpr c43
          have c43b1:(a0_5 != 2)=true:=bne_iff_ne.mpr c43
          have HC51:=Aside0.mk H
          clear H
          obtain ⟨hcz52_0,hcz52_1,hcz52_2,hcz52_3,hcz52_4,hcz52_5,hcz52_6,hcz52_7,hcz52_8,hcz52_9,hcz52_10,hcz52_11,hcz52_12,hcz52_13⟩:=zc14 BK158.out
          obtain ⟨hfz52_0,hfz52_1,hfz52_2,hfz52_3,hfz52_4,hfz52_5,hfz52_6,hfz52_7,hfz52_8,hfz52_9,hfz52_10,hfz52_11,hfz52_12,hfz52_13⟩:=zf14 BK158.out
          go_upto_if 98 with (fail)
          go_cut [98] (fun v98 wc=>∃ (kq:Nat) (x98_50:Bool),v98=.bool x98_50∧Aside0 (flows_right.j3 kq (a0_8 == 0 && (a0_9 == 0 && (a0_10.toList == ([]:List UInt8)))) x5_30 a0_5 x98_50 a0_0 a0_1 a0_2 a0_3 a0_4 a0_5 a0_6 a0_7 a0_8 a0_9 a0_10 a0_11 l0_12 a0_13=some r)∧Aside0 (kq≤kj30)∧Aside0 (wc.heap[gb158]?=some (.cells #[.int .i64 a0_0,.int .i64 a0_1,.int .i64 a0_2,.int .i64 a0_3,.string a0_4,.int .i64 a0_5,.int .i64 a0_6,.int .i64 a0_7,.int .i64 a0_8,.int .i64 a0_9,.string a0_10,.int .i64 a0_11,(.slice A0_12 l0_12.length c0_12),.bool a0_13] 30 (0,0)))∧Aside0 (Below w.heap.size w wc))
          case first =>
           have H:=HC51.out
           clear HC51
           by_cases c53:a0_5=3
           ·rw [if_pos c53] at H
            have c53b0:(a0_5 == 3)=true:=beq_iff_eq.mpr c53
            have c53b1:(a0_5 != 3)=false:=bne_eq_false_iff_eq.mpr c53
            clear c53
            (first|rw [c53b0]|(simp only [i64_w,i32_w];rw [c53b0])|skip)
            have H':=Aside0.mk H
            clear H
            go_wp2
            go_meet
            case rel=>exact ⟨_,((a0_5 == 3)),(by first|(with_reducible rfl)|(simp;done)|(simp [*];done)|rfl|(simp only [not_isEmpty_bne])),H',⟨by have:=HJ1.out;have:=HJ20.out;have:=HJ30.out;first|omega|exact Nat.le_refl _⟩,⟨by (with_reducible repeat (first|apply zb1|apply zb2|apply zb3));exact BK158.out⟩,⟨by repeat (first|(with_reducible first|exact HB.out|apply zl1|apply zl2|apply zl3|refine below_set ?_ GE158.out)|exact HB.out)⟩⟩
           ·rw [if_neg c53] at H
            have c53b0:(a0_5 == 3)=false:=beq_eq_false_iff_ne.mpr c53
            have c53b1:(a0_5 != 3)=true:=bne_iff_ne.mpr c53
            (first|rw [c53b0]|(simp only [i64_w,i32_w];rw [c53b0])|skip)
            have H':=Aside0.mk H
            clear H
            go_wp2
            go_meet
            case rel=>exact ⟨_,((a0_5 == 4)),(by first|(with_reducible rfl)|(simp;done)|(simp [*];done)|rfl|(simp only [not_isEmpty_bne])),H',⟨by have:=HJ1.out;have:=HJ20.out;have:=HJ30.out;first|omega|exact Nat.le_refl _⟩,⟨by (with_reducible repeat (first|apply zb1|apply zb2|apply zb3));exact BK158.out⟩,⟨by repeat (first|(with_reducible first|exact HB.out|apply zl1|apply zl2|apply zl3|refine below_set ?_ GE158.out)|exact HB.out)⟩⟩
          case rest =>
           clear HC51
           try clear hcz29_8 hcz29_9 hcz30_0 hcz30_1 hcz30_10
           try clear p2
           try clear c3
           try clear c4
           try clear c5
           try clear c37
           try clear c37b0
           try clear c37b1
           try clear c38
           try clear c39
           try clear c39b0
           try clear c39b1
           try clear c39b2
           try clear c43
           try clear c43b0
           try clear c43b1
           try clear c44
           try clear c45
           try clear c45b0
           try clear c45b1
           try clear c45b2
           try clear c46
           try clear c46b0
           try clear c53
           try clear c53b0
           try clear c53b1
           try clear hcz30_11 hcz30_12 hcz30_13 hcz30_2 hcz30_3 hcz30_4 hcz30_5 hcz30_6 hcz30_7 hcz30_8 hcz30_9 hcz34_0 hcz34_1 hcz34_10 hcz34_11 hcz34_12 hcz34_13 hcz34_2 hcz34_3 hcz34_4 hcz34_5 hcz34_6 hcz34_7 hcz34_8 hcz34_9 hcz35_0 hcz35_1 hcz35_10 hcz35_11 hcz35_12
           try clear hcz35_13 hcz35_2 hcz35_3 hcz35_4 hcz35_5 hcz35_6 hcz35_7 hcz35_8 hcz35_9 hcz36_0 hcz36_1 hcz36_10 hcz36_11 hcz36_12 hcz36_13 hcz36_2 hcz36_3 hcz36_4 hcz36_5 hcz36_6 hcz36_7 hcz36_8 hcz36_9 hcz40_0 hcz40_1 hcz40_10 hcz40_11 hcz40_12 hcz40_13 hcz40_2
           try clear hcz40_3 hcz40_4 hcz40_5 hcz40_6 hcz40_7 hcz40_8 hcz40_9 hcz41_0 hcz41_1 hcz41_10 hcz41_11 hcz41_12 hcz41_13 hcz41_2 hcz41_3 hcz41_4 hcz41_5 hcz41_6 hcz41_7 hcz41_8 hcz41_9 hcz42_0 hcz42_1 hcz42_10 hcz42_11 hcz42_12 hcz42_13 hcz42_2 hcz42_3 hcz42_4
           try clear hcz42_5 hcz42_6 hcz42_7 hcz42_8 hcz42_9 hcz47_0 hcz47_1 hcz47_10 hcz47_11 hcz47_12 hcz47_13 hcz47_2 hcz47_3 hcz47_4 hcz47_5 hcz47_6 hcz47_7 hcz47_8 hcz47_9 hcz48_0 hcz48_1 hcz48_10 hcz48_11 hcz48_12 hcz48_13 hcz48_2 hcz48_3 hcz48_4 hcz48_5 hcz48_6
           try clear hcz48_7 hcz48_8 hcz48_9 hcz49_0 hcz49_1 hcz49_10 hcz49_11 hcz49_12 hcz49_13 hcz49_2 hcz49_3 hcz49_4 hcz49_5 hcz49_6 hcz49_7 hcz49_8 hcz49_9 hcz50_0 hcz50_1 hcz50_10 hcz50_11 hcz50_12 hcz50_13 hcz50_2 hcz50_3 hcz50_4 hcz50_5 hcz50_6 hcz50_7 hcz50_8
           try clear hfz12_0 hfz12_1 hfz12_10 hfz12_11 hfz12_12 hfz12_13 hfz12_2 hfz12_3 hfz12_4 hfz12_5 hfz12_6 hfz12_7 hfz12_8 hfz12_9 hfz14_0
           try clear hcz50_9 hcz52_0 hcz52_1 hcz52_10 hcz52_11 hcz52_12 hcz52_13 hcz52_2 hcz52_3 hcz52_4 hcz52_5 hcz52_6 hcz52_7 hcz52_8 hcz52_9
           try clear hfz14_1 hfz14_10 hfz14_11 hfz14_12 hfz14_13 hfz14_2 hfz14_3 hfz14_4 hfz14_5 hfz14_6 hfz14_7 hfz14_8 hfz14_9 hfz16_0 hfz16_1 hfz16_10 hfz16_11 hfz16_12 hfz16_13 hfz16_2 hfz16_3 hfz16_4 hfz16_5 hfz16_6 hfz16_7 hfz16_8 hfz16_9 hfz17_0 hfz17_1 hfz17_10
           try clear hfz17_11 hfz17_12 hfz17_13 hfz17_2 hfz17_3 hfz17_4 hfz17_5 hfz17_6 hfz17_7 hfz17_8 hfz17_9 hfz18_0 hfz18_1 hfz18_10 hfz18_11 hfz18_12 hfz18_13 hfz18_2 hfz18_3 hfz18_4 hfz18_5 hfz18_6 hfz18_7 hfz18_8 hfz18_9 hfz19_0 hfz19_1 hfz19_10 hfz19_11 hfz19_12
           try clear hfz19_13 hfz19_2 hfz19_3 hfz19_4 hfz19_5 hfz19_6 hfz19_7 hfz19_8 hfz19_9 hfz22_0 hfz22_1 hfz22_10 hfz22_11 hfz22_12 hfz22_13 hfz22_2 hfz22_3 hfz22_4 hfz22_5 hfz22_6 hfz22_7 hfz22_8 hfz22_9 hfz27_0 hfz27_1 hfz27_10 hfz27_11 hfz27_12 hfz27_13 hfz27_2
           try clear hfz27_3 hfz27_4 hfz27_5 hfz27_6 hfz27_7 hfz27_8 hfz27_9 hfz29_0 hfz29_1 hfz29_10 hfz29_11 hfz29_12 hfz29_13 hfz29_2 hfz29_3 hfz29_4 hfz29_5 hfz29_6 hfz29_7 hfz29_8 hfz29_9 hfz30_0 hfz30_1 hfz30_10 hfz30_11 hfz30_12 hfz30_13 hfz30_2 hfz30_3 hfz30_4
           try clear hfz30_5 hfz30_6 hfz30_7 hfz30_8 hfz30_9 hfz34_0 hfz34_1 hfz34_10 hfz34_11 hfz34_12 hfz34_13 hfz34_2 hfz34_3 hfz34_4 hfz34_5 hfz34_6 hfz34_7 hfz34_8 hfz34_9 hfz35_0 hfz35_1 hfz35_10 hfz35_11 hfz35_12 hfz35_13 hfz35_2 hfz35_3 hfz35_4 hfz35_5 hfz35_6
           try clear hfz35_7 hfz35_8 hfz35_9 hfz36_0 hfz36_1 hfz36_10 hfz36_11 hfz36_12 hfz36_13 hfz36_2 hfz36_3 hfz36_4 hfz36_5 hfz36_6 hfz36_7 hfz36_8 hfz36_9 hfz40_0 hfz40_1 hfz40_10 hfz40_11 hfz40_12 hfz40_13 hfz40_2 hfz40_3 hfz40_4 hfz40_5 hfz40_6 hfz40_7 hfz40_8
           try clear hfz40_9 hfz41_0 hfz41_1 hfz41_10 hfz41_11 hfz41_12 hfz41_13 hfz41_2 hfz41_3 hfz41_4 hfz41_5 hfz41_6 hfz41_7 hfz41_8 hfz41_9 hfz42_0 hfz42_1 hfz42_10 hfz42_11 hfz42_12 hfz42_13 hfz42_2 hfz42_3 hfz42_4 hfz42_5 hfz42_6 hfz42_7 hfz42_8 hfz42_9 hfz47_0
           try clear hfz47_1 hfz47_10 hfz47_11 hfz47_12 hfz47_13 hfz47_2 hfz47_3 hfz47_4 hfz47_5 hfz47_6 hfz47_7 hfz47_8 hfz47_9 hfz48_0 hfz48_1 hfz48_10 hfz48_11 hfz48_12 hfz48_13 hfz48_2 hfz48_3 hfz48_4 hfz48_5 hfz48_6 hfz48_7 hfz48_8 hfz48_9 hfz49_0 hfz49_1 hfz49_10
           try clear hfz49_11 hfz49_12 hfz49_13 hfz49_2 hfz49_3 hfz49_4 hfz49_5 hfz49_6 hfz49_7 hfz49_8 hfz49_9 hfz50_0 hfz50_1 hfz50_10 hfz50_11 hfz50_12 hfz50_13 hfz50_2 hfz50_3 hfz50_4 hfz50_5 hfz50_6 hfz50_7 hfz50_8 hfz50_9 hfz52_0 hfz52_1 hfz52_10 hfz52_11 hfz52_12
           try clear hfz52_13 hfz52_2 hfz52_3 hfz52_4 hfz52_5 hfz52_6 hfz52_7 hfz52_8 hfz52_9
           try clear p2
           obtain ⟨kq,x98_50,rfl,HA,HJ50,BK158,HB⟩:=hcut
           cases kq with
           | zero=>exact absurd HA.out (by simp [flows_right.j3])
           | succ kj50 =>
            have H:=HA.out
            clear HA
            simp only [flows_right.j3] at H
            by_cases c54:x98_50=true
            ·subst c54
             have H1:(if x5_30=true then ((flows_odd.f kj50 a0_8 a0_9 a0_10).bind fun t165=>(some (!t165))) else (some false))=some r:=by rw [if_pos rfl] at H;exact H
             clear H
             have H:=H1
             clear H1
             by_cases c55:x5_30=true
             ·subst c55
              have H1:((flows_odd.f kj50 a0_8 a0_9 a0_10).bind fun t165=>(some (!t165)))=some r:=by rw [if_pos rfl] at H;exact H
              clear H
              have H:=H1
              clear H1
              replace H:=Option.bind_eq_some_iff.mp H
              obtain ⟨t165,A560,H⟩:=H
              replace H:(some (!t165))=some r:=H
              have A56:=Aside0.mk A560
              clear A560
              obtain rfl:=Option.some.inj H
              obtain ⟨hcz57_0,hcz57_1,hcz57_2,hcz57_3,hcz57_4,hcz57_5,hcz57_6,hcz57_7,hcz57_8,hcz57_9,hcz57_10,hcz57_11,hcz57_12,hcz57_13⟩:=zc14 BK158.out
              obtain ⟨hfz57_0,hfz57_1,hfz57_2,hfz57_3,hfz57_4,hfz57_5,hfz57_6,hfz57_7,hfz57_8,hfz57_9,hfz57_10,hfz57_11,hfz57_12,hfz57_13⟩:=zf14 BK158.out
              go_wp2_with (first|(go_at_call 54;(with_reducible refine (flows_odd.calls kj50 a0_8 a0_9 a0_10 t165 _ A56.out).mono ?_);rintro e w58 ⟨rfl,hb⟩;replace BK158:=Aside0.mk (blk_below (g:=gb158) (o:=.cells #[.int .i64 a0_0,.int .i64 a0_1,.int .i64 a0_2,.int .i64 a0_3,.string a0_4,.int .i64 a0_5,.int .i64 a0_6,.int .i64 a0_7,.int .i64 a0_8,.int .i64 a0_9,.string a0_10,.int .i64 a0_11,.slice A0_12 l0_12.length c0_12,.bool a0_13] 30 (0,0)) (by (with_reducible repeat (first|apply zb1|apply zb2|apply zb3));exact BK158.out) hb);replace HB:=Aside0.mk (below_step (by repeat (first|(with_reducible first|exact HB.out|apply zl1|apply zl2|apply zl3|refine below_set ?_ GE158.out)|exact HB.out)) hb);(try clear hb)))
              go_ret
              exact ⟨by first|(with_reducible rfl)|(simp only [isEmpty_bne,Bool.not_not] <;> rfl)|rfl|(simp [*,errW_none,errW_some] <;> rfl),by repeat (first|(with_reducible first|exact HB.out|apply zl1|apply zl2|apply zl3|refine below_set ?_ GE158.out)|exact HB.out)⟩
             ·replace c55:=Bool.eq_false_iff.mpr c55
              subst c55
              have H1:(some false)=some r:=by rw [if_neg (show ¬ (false=true) by decide)] at H;exact H
              clear H
              have H:=H1
              clear H1
              obtain rfl:=Option.some.inj H
              go_wp2
              go_ret
              exact ⟨by first|(with_reducible rfl)|(simp only [isEmpty_bne,Bool.not_not] <;> rfl)|rfl|(simp [*,errW_none,errW_some] <;> rfl),by repeat (first|(with_reducible first|exact HB.out|apply zl1|apply zl2|apply zl3|refine below_set ?_ GE158.out)|exact HB.out)⟩
            ·replace c54:=Bool.eq_false_iff.mpr c54
             subst c54
             have H1:(if a0_5=5 then (if x5_30=true then (some (a0_8 == 0 && (a0_9 == 0 && (a0_10.toList == ([]:List UInt8))))) else (some false)) else (some false))=some r:=by rw [if_neg (show ¬ (false=true) by decide)] at H;exact H
             clear H
             have H:=H1
             clear H1
             by_cases c59:a0_5=5
             ·rw [if_pos c59] at H
              have c59b0:(a0_5 == 5)=true:=beq_iff_eq.mpr c59
              have c59b1:(a0_5 != 5)=false:=bne_eq_false_iff_eq.mpr c59
              clear c59
              by_cases c60:x5_30=true
              ·subst c60
               have H1:(some (a0_8 == 0 && (a0_9 == 0 && (a0_10.toList == ([]:List UInt8)))))=some r:=by rw [if_pos rfl] at H;exact H
               clear H
               have H:=H1
               clear H1
               obtain rfl:=Option.some.inj H
               go_wp2
               go_ret
               exact ⟨by first|(with_reducible rfl)|(simp only [isEmpty_bne,Bool.not_not] <;> rfl)|rfl|(simp [*,errW_none,errW_some] <;> rfl),by repeat (first|(with_reducible first|exact HB.out|apply zl1|apply zl2|apply zl3|refine below_set ?_ GE158.out)|exact HB.out)⟩
              ·replace c60:=Bool.eq_false_iff.mpr c60
               subst c60
               have H1:(some false)=some r:=by rw [if_neg (show ¬ (false=true) by decide)] at H;exact H
               clear H
               have H:=H1
               clear H1
               obtain rfl:=Option.some.inj H
               go_wp2
               go_ret
               exact ⟨by first|(with_reducible rfl)|(simp only [isEmpty_bne,Bool.not_not] <;> rfl)|rfl|(simp [*,errW_none,errW_some] <;> rfl),by repeat (first|(with_reducible first|exact HB.out|apply zl1|apply zl2|apply zl3|refine below_set ?_ GE158.out)|exact HB.out)⟩
             ·rw [if_neg c59] at H
              have c59b0:(a0_5 == 5)=false:=beq_eq_false_iff_ne.mpr c59
              have c59b1:(a0_5 != 5)=true:=bne_iff_ne.mpr c59
              obtain rfl:=Option.some.inj H
              go_wp2
              go_ret
              exact ⟨by first|(with_reducible rfl)|(simp only [isEmpty_bne,Bool.not_not] <;> rfl)|rfl|(simp [*,errW_none,errW_some] <;> rfl),by repeat (first|(with_reducible first|exact HB.out|apply zl1|apply zl2|apply zl3|refine below_set ?_ GE158.out)|exact HB.out)⟩

end Go.Proofs.YtobjnhkjahhfnaaDoor.PAll
