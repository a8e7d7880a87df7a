/- Printed walks of the functions that the laws reach: each function, what it computes, and that it does. No conditions. -/
import Derived.Test.YtobjnhkjahhfnaaDoorPAllx0
import Derived.Test.YtobjnhkjahhfnaaDoorPAllx8
import Derived.Test.YtobjnhkjahhfnaaDoorPAllx10
namespace Go.Proofs.YtobjnhkjahhfnaaDoor.PAll
open Go.RowKit Go.Proofs.YtobjnhkjahhfnaaDoor.XW Go.Proofs.YtobjnhkjahhfnaaDoor.XLib Go.Proofs.YtobjnhkjahhfnaaDoorW.PrintWords Go.Proofs.YtobjnhkjahhfnaaDoorW.PrintLast Go.Proofs.YtobjnhkjahhfnaaDoorW.PrintMore
attribute [local go_sem] max2_int min2_int max_two min_two max_three min_three max_four min_four   -- for this text's walks alone
set_option linter.unusedVariables false
set_option linter.unusedSimpArgs false

/-! ### flows_Next: function 12 -/
mutual
def flows_Next.j1:Nat→Int→Int→Int→Int→ByteArray→Int→Int→Int→Int→Int→ByteArray→Int→List (S24)→Bool→Option (Int × Int × Int × Int × ByteArray × Int × Int × Int × Int × Int × ByteArray × Int × (List (S24)) × Bool × Int)
 | 0,_,_,_,_,_,_,_,_,_,_,_,_,_,_=>none
 | k + 1,x176000,x176001,x176002,x176003,x176004,x176005,x176006,x176007,x176008,x176009,x176010,x176011,x176012,x176013=>(flows_right.f k x176000 x176001 x176002 x176003 x176004 x176005 x176006 x176007 x176008 x176009 x176010 x176011 x176012 x176013).bind fun t188=>(if t188=true then (some (x176000,x176001,x176002,x176003,x176004,x176005,x176006,x176007,x176008,x176009,x176010,x176011,x176012,x176013,0)) else (some (0,0,0,0,(⟨#[]⟩:ByteArray),0,0,0,0,0,(⟨#[]⟩:ByteArray),0,([]:List (S24)),false,4)))
def flows_Next.j0:Nat→Int→Int→Int→Int→ByteArray→Int→Int→Int→Int→Int→ByteArray→Int→List (S24)→Bool→Option (Int × Int × Int × Int × ByteArray × Int × Int × Int × Int × Int × ByteArray × Int × (List (S24)) × Bool × Int)
 | 0,_,_,_,_,_,_,_,_,_,_,_,_,_,_=>none
 | k + 1,x176000,x176001,x176002,x176003,x176004,x176005,x176006,x176007,x176008,x176009,x176010,x176011,x176012,x176013=>if x176006=24 then ((flows_fault.f (-2)).bind fun bt182=>(flows_Next.j1 k x176000 x176001 x176002 x176003 x176004 4 x176006 0 bt182.1 bt182.2.1 bt182.2.2 0 ([]:List (S24)) x176013)) else (flows_Next.j1 k x176000 x176001 x176002 x176003 x176004 x176005 x176006 x176007 x176008 x176009 x176010 x176011 x176012 x176013)
end
def flows_Next.f (k:Nat) (a0_0:Int) (a0_1:Int) (a0_2:Int) (a0_3:Int) (a0_4:ByteArray) (a0_5:Int) (a0_6:Int) (a0_7:Int) (a0_8:Int) (a0_9:Int) (a0_10:ByteArray) (a0_11:Int) (l0_12:List (S24)) (a0_13:Bool) (l1_0:List (S144)) (l1_1:List (S24)) (l1_2:List (S146)) (a1_3:Int) (a1_4:Int) (a1_5:Int) (a1_6:Int) (a1_7:ByteArray) (a1_8:Int) (l1_9:List (S24)) (a2:Int):Option (Int × Int × Int × Int × ByteArray × Int × Int × Int × Int × Int × ByteArray × Int × (List (S24)) × Bool × Int):=(flows_right.f k a0_0 a0_1 a0_2 a0_3 a0_4 a0_5 a0_6 a0_7 a0_8 a0_9 a0_10 a0_11 l0_12 a0_13).bind fun t178=>(if t178=true then (if a0_5=1 then (if a0_6=24 then (some (0,0,0,0,(⟨#[]⟩:ByteArray),0,0,0,0,0,(⟨#[]⟩:ByteArray),0,([]:List (S24)),false,13)) else (if a1_4=0 then ((api_Value_32.f l1_9).bind fun t179=>(if a1_3 > 0 then (flows_Next.j0 k a0_0 a0_1 a0_2 a0_3 a0_4 2 (wrap64 (a0_6 + 1)) (wrap64 (a2 + a1_3)) a0_8 a0_9 a0_10 a1_8 t179 a0_13) else (flows_Next.j0 k a0_0 a0_1 a0_2 a0_3 a0_4 a0_5 (wrap64 (a0_6 + 1)) a0_7 a0_8 a0_9 a0_10 a1_8 t179 a0_13))) else (if a1_4=1 then (flows_Next.j1 k a0_0 a0_1 a0_2 a0_3 a0_4 3 (wrap64 (a0_6 + 1)) 0 a1_5 a1_6 a1_7 0 ([]:List (S24)) a0_13) else (if a1_4=2 then (flows_Next.j1 k a0_0 a0_1 a0_2 a0_3 a0_4 4 (wrap64 (a0_6 + 1)) 0 a1_5 a1_6 a1_7 0 ([]:List (S24)) a0_13) else (if a1_4=3 then ((flows_fault.f (-1)).bind fun bt185=>(flows_Next.j1 k a0_0 a0_1 a0_2 a0_3 a0_4 4 (wrap64 (a0_6 + 1)) 0 bt185.1 bt185.2.1 bt185.2.2 0 ([]:List (S24)) a0_13)) else (some (0,0,0,0,(⟨#[]⟩:ByteArray),0,0,0,0,0,(⟨#[]⟩:ByteArray),0,([]:List (S24)),false,4))))))) else (some (0,0,0,0,(⟨#[]⟩:ByteArray),0,0,0,0,0,(⟨#[]⟩:ByteArray),0,([]:List (S24)),false,13))) else (some (0,0,0,0,(⟨#[]⟩:ByteArray),0,0,0,0,0,(⟨#[]⟩:ByteArray),0,([]:List (S24)),false,4)))
theorem flows_Next.mono_l:∀ k,(∀ y0 y1 y2 y3 y4 y5 y6 y7 y8 y9 y10 y11 y12 y13,LeO (flows_Next.j1 k y0 y1 y2 y3 y4 y5 y6 y7 y8 y9 y10 y11 y12 y13) (flows_Next.j1 (k + 1) y0 y1 y2 y3 y4 y5 y6 y7 y8 y9 y10 y11 y12 y13))∧(∀ y0 y1 y2 y3 y4 y5 y6 y7 y8 y9 y10 y11 y12 y13,LeO (flows_Next.j0 k y0 y1 y2 y3 y4 y5 y6 y7 y8 y9 y10 y11 y12 y13) (flows_Next.j0 (k + 1) y0 y1 y2 y3 y4 y5 y6 y7 y8 y9 y10 y11 y12 y13))
 | 0=>⟨fun _ _ _ _ _ _ _ _ _ _ _ _ _ _ r h=>by simp [flows_Next.j1] at h,fun _ _ _ _ _ _ _ _ _ _ _ _ _ _ r h=>by simp [flows_Next.j0] at h⟩
 | k + 1=>by
  obtain ⟨ih0,ih1⟩:=flows_Next.mono_l k
  refine ⟨?_,?_⟩
  ·intro y0 y1 y2 y3 y4 y5 y6 y7 y8 y9 y10 y11 y12 y13
   unfold flows_Next.j1
   repeat' first
   | (with_reducible exact ih0 _ _ _ _ _ _ _ _ _ _ _ _ _ _)
   | (with_reducible exact ih1 _ _ _ _ _ _ _ _ _ _ _ _ _ _)
   | (with_reducible exact flows_right.mono _ _ _ _ _ _ _ _ _ _ _ _ _ _ _)
   | (with_reducible exact LeO.refl _)
   | (with_reducible exact LeO.none _)
   | (with_reducible refine LeO.ite ?_ ?_)
   | (with_reducible refine LeO.bind ?_ (fun _=>?_))
   | exact ih0 _ _ _ _ _ _ _ _ _ _ _ _ _ _
   | exact ih1 _ _ _ _ _ _ _ _ _ _ _ _ _ _
   | exact flows_right.mono _ _ _ _ _ _ _ _ _ _ _ _ _ _ _
   | exact LeO.none _
   | refine LeO.ite ?_ ?_
   | refine LeO.bind ?_ (fun _=>?_)
  ·intro y0 y1 y2 y3 y4 y5 y6 y7 y8 y9 y10 y11 y12 y13
   unfold flows_Next.j0
   repeat' first
   | (with_reducible exact ih0 _ _ _ _ _ _ _ _ _ _ _ _ _ _)
   | (with_reducible exact ih1 _ _ _ _ _ _ _ _ _ _ _ _ _ _)
   | (with_reducible exact flows_right.mono _ _ _ _ _ _ _ _ _ _ _ _ _ _ _)
   | (with_reducible exact LeO.refl _)
   | (with_reducible exact LeO.none _)
   | (with_reducible refine LeO.ite ?_ ?_)
   | (with_reducible refine LeO.bind ?_ (fun _=>?_))
   | exact ih0 _ _ _ _ _ _ _ _ _ _ _ _ _ _
   | exact ih1 _ _ _ _ _ _ _ _ _ _ _ _ _ _
   | exact flows_right.mono _ _ _ _ _ _ _ _ _ _ _ _ _ _ _
   | exact LeO.none _
   | refine LeO.ite ?_ ?_
   | refine LeO.bind ?_ (fun _=>?_)
theorem flows_Next.mono:∀ a0 a1 a2 a3 a4 a5 a6 a7 a8 a9 a10 a11 a12 a13 a14 a15 a16 a17 a18 a19 a20 a21 a22 a23 a24 k,LeO (flows_Next.f k a0 a1 a2 a3 a4 a5 a6 a7 a8 a9 a10 a11 a12 a13 a14 a15 a16 a17 a18 a19 a20 a21 a22 a23 a24) (flows_Next.f (k + 1) a0 a1 a2 a3 a4 a5 a6 a7 a8 a9 a10 a11 a12 a13 a14 a15 a16 a17 a18 a19 a20 a21 a22 a23 a24):=by
 intro a0 a1 a2 a3 a4 a5 a6 a7 a8 a9 a10 a11 a12 a13 a14 a15 a16 a17 a18 a19 a20 a21 a22 a23 a24 k
 obtain ⟨ih0,ih1⟩:=flows_Next.mono_l k
 unfold flows_Next.f
 repeat' first
   | (with_reducible exact ih0 _ _ _ _ _ _ _ _ _ _ _ _ _ _)
   | (with_reducible exact ih1 _ _ _ _ _ _ _ _ _ _ _ _ _ _)
   | (with_reducible exact flows_right.mono _ _ _ _ _ _ _ _ _ _ _ _ _ _ _)
   | (with_reducible exact LeO.refl _)
   | (with_reducible exact LeO.none _)
   | (with_reducible refine LeO.ite ?_ ?_)
   | (with_reducible refine LeO.bind ?_ (fun _=>?_))
   | exact ih0 _ _ _ _ _ _ _ _ _ _ _ _ _ _
   | exact ih1 _ _ _ _ _ _ _ _ _ _ _ _ _ _
   | exact flows_right.mono _ _ _ _ _ _ _ _ _ _ _ _ _ _ _
   | exact LeO.none _
   | refine LeO.ite ?_ ?_
   | refine LeO.bind ?_ (fun _=>?_)
def flows_Next.T9:Bool × List (List Nat × List Nat):=(true,[([],[]),([0],[0]),([1],[1]),([],[]),([3],[3]),([4],[4]),([5],[5]),([2,6],[2,6]),([0,1,2,3,4,5,6,7],[]),([8,7,6,0,1,2,3,4,5,6,7],[7,8])])
def flows_Next.B9:List Nat:=[0,1,3,0,8,24,56,127,255,511]
theorem flows_Next.tab9:rtab .any (opsOf Tryd.f12 9)=flows_Next.T9:=by kernel_rfl
theorem flows_Next.bits9:waitsOk flows_Next.T9.2 flows_Next.B9=true:=by kernel_rfl
def flows_Next.T11:Bool × List (List Nat × List Nat):=(true,[([],[]),([],[]),([1],[1]),([0,2],[0,2]),([],[]),([4],[4]),([0,1,2,3,4,5],[]),([6,3,5,0,1,2,3,4,5],[3,6])])
def flows_Next.B11:List Nat:=[0,0,2,7,0,16,63,127]
theorem flows_Next.tab11:rtab .any (opsOf Tryd.f12 11)=flows_Next.T11:=by kernel_rfl
theorem flows_Next.bits11:waitsOk flows_Next.T11.2 flows_Next.B11=true:=by kernel_rfl
set_option maxHeartbeats 64000000 in
set_option maxRecDepth 100000 in
theorem flows_Next.calls (k:Nat) (a0_0:Int) (a0_1:Int) (a0_2:Int) (a0_3:Int) (a0_4:ByteArray) (a0_5:Int) (a0_6:Int) (a0_7:Int) (a0_8:Int) (a0_9:Int) (a0_10:ByteArray) (a0_11:Int) (A0_12:Option Addr) (c0_12:Nat) (l0_12:List (S24)) (a0_13:Bool) (A1_0:Option Addr) (c1_0:Nat) (l1_0:List (S144)) (A1_1:Option Addr) (c1_1:Nat) (l1_1:List (S24)) (A1_2:Option Addr) (c1_2:Nat) (l1_2:List (S146)) (a1_3:Int) (a1_4:Int) (a1_5:Int) (a1_6:Int) (a1_7:ByteArray) (a1_8:Int) (A1_9:Option Addr) (c1_9:Nat) (l1_9:List (S24)) (a2:Int) (r1:Int) (r2:Int) (r3:Int) (r4:Int) (r5:ByteArray) (r6:Int) (r7:Int) (r8:Int) (r9:Int) (r10:Int) (r11:ByteArray) (r12:Int) (r13:List (S24)) (r14:Bool) (r15:Int) (w:World) (hr0_12:Kd.C k24 w A0_12 l0_12.length l0_12) (hc0_12:l0_12.length≤c0_12) (hr1_0:Kd.C k144 w A1_0 l1_0.length l1_0) (hc1_0:l1_0.length≤c1_0) (hr1_1:Kd.C k24 w A1_1 l1_1.length l1_1) (hc1_1:l1_1.length≤c1_1) (hr1_2:Kd.C k146 w A1_2 l1_2.length l1_2) (hc1_2:l1_2.length≤c1_2) (hr1_9:Kd.C k24 w A1_9 l1_9.length l1_9) (hc1_9:l1_9.length≤c1_9) (h:flows_Next.f k a0_0 a0_1 a0_2 a0_3 a0_4 a0_5 a0_6 a0_7 a0_8 a0_9 a0_10 a0_11 l0_12 a0_13 l1_0 l1_1 l1_2 a1_3 a1_4 a1_5 a1_6 a1_7 a1_8 l1_9 a2=some (r1,r2,r3,r4,r5,r6,r7,r8,r9,r10,r11,r12,r13,r14,r15)) :
  Calls Tryd.prog 12 #[.agg #[.int .i64 a0_0,.int .i64 a0_1,.int .i64 a0_2,.int .i64 a0_3,.string a0_4,.int .i64 a0_5,.int .i64 a0_6,.int .i64 a0_7,.int .i64 a0_8,.int .i64 a0_9,.string a0_10,.int .i64 a0_11,.slice A0_12 l0_12.length c0_12,.bool a0_13],.agg #[.slice A1_0 l1_0.length c1_0,.slice A1_1 l1_1.length c1_1,.slice A1_2 l1_2.length c1_2,.int .i64 a1_3,.int .i64 a1_4,.int .i64 a1_5,.int .i64 a1_6,.string a1_7,.int .i64 a1_8,.slice A1_9 l1_9.length c1_9],.int .i64 a2] w fun e w'=>∃ v12_:Value,e=.returned (.tuple #[.agg #[.int .i64 r1,.int .i64 r2,.int .i64 r3,.int .i64 r4,.string r5,.int .i64 r6,.int .i64 r7,.int .i64 r8,.int .i64 r9,.int .i64 r10,.string r11,.int .i64 r12,v12_,.bool r14],.int .i64 r15])∧Kd.R k24 24 w' w.heap.size (fun _=>True) v12_ r13∧Below w.heap.size w w':=by
 have hu30:=Tryd.underlying30
 have hu39:=Tryd.underlying39
 have hu28:=Tryd.underlying28
 have hu24:=Tryd.underlying24
 have HR0_12:=Aside0.mk hr0_12
 have HC0_12:=Aside0.mk hc0_12
 clear hr0_12 hc0_12
 have HR1_0:=Aside0.mk hr1_0
 have HC1_0:=Aside0.mk hc1_0
 clear hr1_0 hc1_0
 have HR1_1:=Aside0.mk hr1_1
 have HC1_1:=Aside0.mk hc1_1
 clear hr1_1 hc1_1
 have HR1_2:=Aside0.mk hr1_2
 have HC1_2:=Aside0.mk hc1_2
 clear hr1_2 hc1_2
 have HR1_9:=Aside0.mk hr1_9
 have HC1_9:=Aside0.mk hc1_9
 clear hr1_9 hc1_9
 have HB:=Aside0.mk (Below.refl w.heap.size w)
 have H:((flows_right.f k a0_0 a0_1 a0_2 a0_3 a0_4 a0_5 a0_6 a0_7 a0_8 a0_9 a0_10 a0_11 l0_12 a0_13).bind fun t178=>(if t178=true then (if a0_5=1 then (if a0_6=24 then (some (0,0,0,0,(⟨#[]⟩:ByteArray),0,0,0,0,0,(⟨#[]⟩:ByteArray),0,([]:List (S24)),false,13)) else (if a1_4=0 then ((api_Value_32.f l1_9).bind fun t179=>(if a1_3 > 0 then (flows_Next.j0 k a0_0 a0_1 a0_2 a0_3 a0_4 2 (wrap64 (a0_6 + 1)) (wrap64 (a2 + a1_3)) a0_8 a0_9 a0_10 a1_8 t179 a0_13) else (flows_Next.j0 k a0_0 a0_1 a0_2 a0_3 a0_4 a0_5 (wrap64 (a0_6 + 1)) a0_7 a0_8 a0_9 a0_10 a1_8 t179 a0_13))) else (if a1_4=1 then (flows_Next.j1 k a0_0 a0_1 a0_2 a0_3 a0_4 3 (wrap64 (a0_6 + 1)) 0 a1_5 a1_6 a1_7 0 ([]:List (S24)) a0_13) else (if a1_4=2 then (flows_Next.j1 k a0_0 a0_1 a0_2 a0_3 a0_4 4 (wrap64 (a0_6 + 1)) 0 a1_5 a1_6 a1_7 0 ([]:List (S24)) a0_13) else (if a1_4=3 then ((flows_fault.f (-1)).bind fun bt185=>(flows_Next.j1 k a0_0 a0_1 a0_2 a0_3 a0_4 4 (wrap64 (a0_6 + 1)) 0 bt185.1 bt185.2.1 bt185.2.2 0 ([]:List (S24)) a0_13)) else (some (0,0,0,0,(⟨#[]⟩:ByteArray),0,0,0,0,0,(⟨#[]⟩:ByteArray),0,([]:List (S24)),false,4))))))) else (some (0,0,0,0,(⟨#[]⟩:ByteArray),0,0,0,0,0,(⟨#[]⟩:ByteArray),0,([]:List (S24)),false,13))) else (some (0,0,0,0,(⟨#[]⟩:ByteArray),0,0,0,0,0,(⟨#[]⟩:ByteArray),0,([]:List (S24)),false,4))))=some (r1,r2,r3,r4,r5,r6,r7,r8,r9,r10,r11,r12,r13,r14,r15):=h
 clear h
 replace H:=Option.bind_eq_some_iff.mp H
 obtain ⟨t178,A40,H⟩:=H
 replace H:(if t178=true then (if a0_5=1 then (if a0_6=24 then (some (0,0,0,0,(⟨#[]⟩:ByteArray),0,0,0,0,0,(⟨#[]⟩:ByteArray),0,([]:List (S24)),false,13)) else (if a1_4=0 then ((api_Value_32.f l1_9).bind fun t179=>(if a1_3 > 0 then (flows_Next.j0 k a0_0 a0_1 a0_2 a0_3 a0_4 2 (wrap64 (a0_6 + 1)) (wrap64 (a2 + a1_3)) a0_8 a0_9 a0_10 a1_8 t179 a0_13) else (flows_Next.j0 k a0_0 a0_1 a0_2 a0_3 a0_4 a0_5 (wrap64 (a0_6 + 1)) a0_7 a0_8 a0_9 a0_10 a1_8 t179 a0_13))) else (if a1_4=1 then (flows_Next.j1 k a0_0 a0_1 a0_2 a0_3 a0_4 3 (wrap64 (a0_6 + 1)) 0 a1_5 a1_6 a1_7 0 ([]:List (S24)) a0_13) else (if a1_4=2 then (flows_Next.j1 k a0_0 a0_1 a0_2 a0_3 a0_4 4 (wrap64 (a0_6 + 1)) 0 a1_5 a1_6 a1_7 0 ([]:List (S24)) a0_13) else (if a1_4=3 then ((flows_fault.f (-1)).bind fun bt185=>(flows_Next.j1 k a0_0 a0_1 a0_2 a0_3 a0_4 4 (wrap64 (a0_6 + 1)) 0 bt185.1 bt185.2.1 bt185.2.2 0 ([]:List (S24)) a0_13)) else (some (0,0,0,0,(⟨#[]⟩:ByteArray),0,0,0,0,0,(⟨#[]⟩:ByteArray),0,([]:List (S24)),false,4))))))) else (some (0,0,0,0,(⟨#[]⟩:ByteArray),0,0,0,0,0,(⟨#[]⟩:ByteArray),0,([]:List (S24)),false,13))) else (some (0,0,0,0,(⟨#[]⟩:ByteArray),0,0,0,0,0,(⟨#[]⟩:ByteArray),0,([]:List (S24)),false,4)))=some (r1,r2,r3,r4,r5,r6,r7,r8,r9,r10,r11,r12,r13,r14,r15):=H
 have A4:=Aside0.mk A40
 clear A40
 by_cases c5:t178=true
 ·subst c5
  have H1:(if a0_5=1 then (if a0_6=24 then (some (0,0,0,0,(⟨#[]⟩:ByteArray),0,0,0,0,0,(⟨#[]⟩:ByteArray),0,([]:List (S24)),false,13)) else (if a1_4=0 then ((api_Value_32.f l1_9).bind fun t179=>(if a1_3 > 0 then (flows_Next.j0 k a0_0 a0_1 a0_2 a0_3 a0_4 2 (wrap64 (a0_6 + 1)) (wrap64 (a2 + a1_3)) a0_8 a0_9 a0_10 a1_8 t179 a0_13) else (flows_Next.j0 k a0_0 a0_1 a0_2 a0_3 a0_4 a0_5 (wrap64 (a0_6 + 1)) a0_7 a0_8 a0_9 a0_10 a1_8 t179 a0_13))) else (if a1_4=1 then (flows_Next.j1 k a0_0 a0_1 a0_2 a0_3 a0_4 3 (wrap64 (a0_6 + 1)) 0 a1_5 a1_6 a1_7 0 ([]:List (S24)) a0_13) else (if a1_4=2 then (flows_Next.j1 k a0_0 a0_1 a0_2 a0_3 a0_4 4 (wrap64 (a0_6 + 1)) 0 a1_5 a1_6 a1_7 0 ([]:List (S24)) a0_13) else (if a1_4=3 then ((flows_fault.f (-1)).bind fun bt185=>(flows_Next.j1 k a0_0 a0_1 a0_2 a0_3 a0_4 4 (wrap64 (a0_6 + 1)) 0 bt185.1 bt185.2.1 bt185.2.2 0 ([]:List (S24)) a0_13)) else (some (0,0,0,0,(⟨#[]⟩:ByteArray),0,0,0,0,0,(⟨#[]⟩:ByteArray),0,([]:List (S24)),false,4))))))) else (some (0,0,0,0,(⟨#[]⟩:ByteArray),0,0,0,0,0,(⟨#[]⟩:ByteArray),0,([]:List (S24)),false,13)))=some (r1,r2,r3,r4,r5,r6,r7,r8,r9,r10,r11,r12,r13,r14,r15):=by rw [if_pos rfl] at H;exact H
  clear H
  have H:=H1
  clear H1
  by_cases c6:a0_5=1
  ·rw [if_pos c6] at H
   have c6b0:(a0_5 == 1)=true:=beq_iff_eq.mpr c6
   have c6b1:(a0_5 != 1)=false:=bne_eq_false_iff_eq.mpr c6
   clear c6
   by_cases c7:a0_6=24
   ·rw [if_pos c7] at H
    have c7b0:(a0_6 == 24)=true:=beq_iff_eq.mpr c7
    have c7b1:(a0_6 != 24)=false:=bne_eq_false_iff_eq.mpr c7
    clear c7
    simp only [Option.some.injEq,Prod.mk.injEq] at H
    obtain ⟨rfl,rfl,rfl,rfl,rfl,rfl,rfl,rfl,rfl,rfl,rfl,rfl,rfl,rfl,rfl⟩:=H
    go_enter Tryd.func12,Tryd.ntmps12
    go_wp2_with (first|((with_reducible refine gate_dst (N:=3) rfl ?_);refine box_event ?hg (N:=3) ?hd (cs:=#[.int .i64 a0_0,.int .i64 a0_1,.int .i64 a0_2,.int .i64 a0_3,.string a0_4,.int .i64 a0_5,.int .i64 a0_6,.int .i64 a0_7,.int .i64 a0_8,.int .i64 a0_9,.string a0_10,.int .i64 a0_11,.slice A0_12 l0_12.length c0_12,.bool a0_13]) (t:=30) ?hr ?_;(case hd=>rfl);(case hg=>rfl);(case hr=>first|(go_simp;done)|(go_simp;rfl));intro gb175 hg w8 hbox hb;have BK175:=Aside0.mk (hbox);have GW175:=Aside0.mk ((by rw [hg];exact (below_size (by repeat (first|(with_reducible first|exact HB.out|apply zl1|apply zl2|apply zl3)|exact HB.out))):w.heap.size≤gb175));have GE175:=Aside0.mk ((by rw [hg];exact (below_size (by repeat (first|(with_reducible first|exact HB.out|apply zl1|apply zl2|apply zl3)|exact HB.out))):w.heap.size≤gb175));replace HB:=Aside0.mk (below_step (by repeat (first|(with_reducible first|exact HB.out|apply zl1|apply zl2|apply zl3)|exact HB.out)) hb);clear hb hbox hg)|((with_reducible refine gate_dst (N:=4) rfl ?_);refine box_event ?hg (N:=4) ?hd (cs:=#[.slice A1_0 l1_0.length c1_0,.slice A1_1 l1_1.length c1_1,.slice A1_2 l1_2.length c1_2,.int .i64 a1_3,.int .i64 a1_4,.int .i64 a1_5,.int .i64 a1_6,.string a1_7,.int .i64 a1_8,.slice A1_9 l1_9.length c1_9]) (t:=39) ?hr ?_;(case hd=>rfl);(case hg=>rfl);(case hr=>first|(go_simp;done)|(go_simp;rfl));intro gb176 hg w9 hbox hb;have BK176:=Aside0.mk (hbox);have GW176:=Aside0.mk ((by rw [hg];exact (below_size (by repeat (first|(with_reducible first|exact HB.out|apply zl1|apply zl2|apply zl3|refine below_set ?_ GE175.out)|exact HB.out))):w.heap.size≤gb176));have GE176:=Aside0.mk ((by rw [hg];exact (below_size (by repeat (first|(with_reducible first|exact HB.out|apply zl1|apply zl2|apply zl3|refine below_set ?_ GE175.out)|exact HB.out))):w.heap.size≤gb176));replace HB:=Aside0.mk (below_step (by repeat (first|(with_reducible first|exact HB.out|apply zl1|apply zl2|apply zl3|refine below_set ?_ GE175.out)|exact HB.out)) hb);have NB175_176:=Aside0.mk ((by rw [hg];exact Nat.ne_of_lt (blk_lt (g:=gb175) (o:=.cells #[.int .i64 a0_0,.int .i64 a0_1,.int .i64 a0_2,.int .i64 a0_3,.string a0_4,.int .i64 a0_5,.int .i64 a0_6,.int .i64 a0_7,.int .i64 a0_8,.int .i64 a0_9,.string a0_10,.int .i64 a0_11,.slice A0_12 l0_12.length c0_12,.bool a0_13] 30 (0,0)) (by (with_reducible repeat (first|apply zb1|apply zb2|apply zb3));exact BK175.out)):gb175 ≠ gb176));have NB176_175:=Aside0.mk ((by rw [hg];exact Nat.ne_of_gt (blk_lt (g:=gb175) (o:=.cells #[.int .i64 a0_0,.int .i64 a0_1,.int .i64 a0_2,.int .i64 a0_3,.string a0_4,.int .i64 a0_5,.int .i64 a0_6,.int .i64 a0_7,.int .i64 a0_8,.int .i64 a0_9,.string a0_10,.int .i64 a0_11,.slice A0_12 l0_12.length c0_12,.bool a0_13] 30 (0,0)) (by (with_reducible repeat (first|apply zb1|apply zb2|apply zb3));exact BK175.out)):gb176 ≠ gb175));replace BK175:=Aside0.mk (blk_below (g:=gb175) (o:=.cells #[.int .i64 a0_0,.int .i64 a0_1,.int .i64 a0_2,.int .i64 a0_3,.string a0_4,.int .i64 a0_5,.int .i64 a0_6,.int .i64 a0_7,.int .i64 a0_8,.int .i64 a0_9,.string a0_10,.int .i64 a0_11,.slice A0_12 l0_12.length c0_12,.bool a0_13] 30 (0,0)) (by (with_reducible repeat (first|apply zb1|apply zb2|apply zb3));exact BK175.out) hb);clear hb hbox hg)|((with_reducible refine gate_dst (N:=6) rfl ?_);refine box_event ?hg (N:=6) ?hd (cs:=#[.int .i64 0,.int .i64 0,.int .i64 0,.int .i64 0,.string (⟨#[]⟩:ByteArray),.int .i64 0,.int .i64 0,.int .i64 0,.int .i64 0,.int .i64 0,.string (⟨#[]⟩:ByteArray),.int .i64 0,.slice none 0 0,.bool false]) (t:=30) ?hr ?_;(case hd=>rfl);(case hg=>rfl);(case hr=>first|(go_simp;done)|(go_simp;rfl));intro gb177 hg w10 hbox hb;have BK177:=Aside0.mk (hbox);have GW177:=Aside0.mk ((by rw [hg];exact (below_size (by repeat (first|(with_reducible first|exact HB.out|apply zl1|apply zl2|apply zl3|refine below_set ?_ GE175.out|refine below_set ?_ GE176.out)|exact HB.out))):w.heap.size≤gb177));have GE177:=Aside0.mk ((by rw [hg];exact (below_size (by repeat (first|(with_reducible first|exact HB.out|apply zl1|apply zl2|apply zl3|refine below_set ?_ GE175.out|refine below_set ?_ GE176.out)|exact HB.out))):w.heap.size≤gb177));replace HB:=Aside0.mk (below_step (by repeat (first|(with_reducible first|exact HB.out|apply zl1|apply zl2|apply zl3|refine below_set ?_ GE175.out|refine below_set ?_ GE176.out)|exact HB.out)) hb);have NB175_177:=Aside0.mk ((by rw [hg];exact Nat.ne_of_lt (blk_lt (g:=gb175) (o:=.cells #[.int .i64 a0_0,.int .i64 a0_1,.int .i64 a0_2,.int .i64 a0_3,.string a0_4,.int .i64 a0_5,.int .i64 a0_6,.int .i64 a0_7,.int .i64 a0_8,.int .i64 a0_9,.string a0_10,.int .i64 a0_11,.slice A0_12 l0_12.length c0_12,.bool a0_13] 30 (0,0)) (by (with_reducible repeat (first|apply zb1|apply zb2|apply zb3));exact BK175.out)):gb175 ≠ gb177));have NB177_175:=Aside0.mk ((by rw [hg];exact Nat.ne_of_gt (blk_lt (g:=gb175) (o:=.cells #[.int .i64 a0_0,.int .i64 a0_1,.int .i64 a0_2,.int .i64 a0_3,.string a0_4,.int .i64 a0_5,.int .i64 a0_6,.int .i64 a0_7,.int .i64 a0_8,.int .i64 a0_9,.string a0_10,.int .i64 a0_11,.slice A0_12 l0_12.length c0_12,.bool a0_13] 30 (0,0)) (by (with_reducible repeat (first|apply zb1|apply zb2|apply zb3));exact BK175.out)):gb177 ≠ gb175));replace BK175:=Aside0.mk (blk_below (g:=gb175) (o:=.cells #[.int .i64 a0_0,.int .i64 a0_1,.int .i64 a0_2,.int .i64 a0_3,.string a0_4,.int .i64 a0_5,.int .i64 a0_6,.int .i64 a0_7,.int .i64 a0_8,.int .i64 a0_9,.string a0_10,.int .i64 a0_11,.slice A0_12 l0_12.length c0_12,.bool a0_13] 30 (0,0)) (by (with_reducible repeat (first|apply zb1|apply zb2|apply zb3));exact BK175.out) hb);have NB176_177:=Aside0.mk ((by rw [hg];exact Nat.ne_of_lt (blk_lt (g:=gb176) (o:=.cells #[.slice A1_0 l1_0.length c1_0,.slice A1_1 l1_1.length c1_1,.slice A1_2 l1_2.length c1_2,.int .i64 a1_3,.int .i64 a1_4,.int .i64 a1_5,.int .i64 a1_6,.string a1_7,.int .i64 a1_8,.slice A1_9 l1_9.length c1_9] 39 (0,0)) (by (with_reducible repeat (first|apply zb1|apply zb2|apply zb3));exact BK176.out)):gb176 ≠ gb177));have NB177_176:=Aside0.mk ((by rw [hg];exact Nat.ne_of_gt (blk_lt (g:=gb176) (o:=.cells #[.slice A1_0 l1_0.length c1_0,.slice A1_1 l1_1.length c1_1,.slice A1_2 l1_2.length c1_2,.int .i64 a1_3,.int .i64 a1_4,.int .i64 a1_5,.int .i64 a1_6,.string a1_7,.int .i64 a1_8,.slice A1_9 l1_9.length c1_9] 39 (0,0)) (by (with_reducible repeat (first|apply zb1|apply zb2|apply zb3));exact BK176.out)):gb177 ≠ gb176));replace BK176:=Aside0.mk (blk_below (g:=gb176) (o:=.cells #[.slice A1_0 l1_0.length c1_0,.slice A1_1 l1_1.length c1_1,.slice A1_2 l1_2.length c1_2,.int .i64 a1_3,.int .i64 a1_4,.int .i64 a1_5,.int .i64 a1_6,.string a1_7,.int .i64 a1_8,.slice A1_9 l1_9.length c1_9] 39 (0,0)) (by (with_reducible repeat (first|apply zb1|apply zb2|apply zb3));exact BK176.out) hb);clear hb hbox hg;have hnb11:=NB175_176.out;have hnc11:=NB176_175.out;have hnb12:=NB175_177.out;have hnc12:=NB177_175.out;obtain ⟨hcz13_0,hcz13_1,hcz13_2,hcz13_3,hcz13_4,hcz13_5,hcz13_6,hcz13_7,hcz13_8,hcz13_9,hcz13_10,hcz13_11,hcz13_12,hcz13_13⟩:=zc14 BK175.out;obtain ⟨hfz13_0,hfz13_1,hfz13_2,hfz13_3,hfz13_4,hfz13_5,hfz13_6,hfz13_7,hfz13_8,hfz13_9,hfz13_10,hfz13_11,hfz13_12,hfz13_13⟩:=zf14 BK175.out)|((with_reducible refine gate_callee (f:=29) rfl ?_);refine goesL_ (some 10) rfl rfl Tryd.func29 (by kernel_rfl) rfl #[.agg #[.int .i64 a0_0,.int .i64 a0_1,.int .i64 a0_2,.int .i64 a0_3,.string a0_4,.int .i64 a0_5,.int .i64 a0_6,.int .i64 a0_7,.int .i64 a0_8,.int .i64 a0_9,.string a0_10,.int .i64 a0_11,.slice A0_12 l0_12.length c0_12,.bool a0_13]] rfl (by (try simp only [List.map_toArray,List.map_cons,List.map_nil]);first|done|rfl|(simp only [List.length_drop,List.length_take];rfl)|(simp (disch:=omega) only [u64_in];rfl)) ?_;(with_reducible refine (flows_right.calls k a0_0 a0_1 a0_2 a0_3 a0_4 a0_5 a0_6 a0_7 a0_8 a0_9 a0_10 a0_11 _ _ l0_12 a0_13 true _ ?side1 ?side2 A4.out).mono ?_);(case side1=>repeat (first|exact (Kd.C_below HR0_12.out HB.out)|(with_reducible refine Kd.C_alloc ?_ _)|(with_reducible refine Kd.C_drewN ?_ _)|(with_reducible refine Kd.C_drew ?_)));(case side2=>exact HC0_12.out);rintro e w14 ⟨rfl,hb⟩;refine ⟨_,rfl,?_⟩;replace BK175:=Aside0.mk (blk_below (g:=gb175) (o:=.cells #[.int .i64 a0_0,.int .i64 a0_1,.int .i64 a0_2,.int .i64 a0_3,.string a0_4,.int .i64 a0_5,.int .i64 a0_6,.int .i64 a0_7,.int .i64 a0_8,.int .i64 a0_9,.string a0_10,.int .i64 a0_11,.slice A0_12 l0_12.length c0_12,.bool a0_13] 30 (0,0)) (by (with_reducible repeat (first|apply zb1|apply zb2|apply zb3));exact BK175.out) hb);replace BK176:=Aside0.mk (blk_below (g:=gb176) (o:=.cells #[.slice A1_0 l1_0.length c1_0,.slice A1_1 l1_1.length c1_1,.slice A1_2 l1_2.length c1_2,.int .i64 a1_3,.int .i64 a1_4,.int .i64 a1_5,.int .i64 a1_6,.string a1_7,.int .i64 a1_8,.slice A1_9 l1_9.length c1_9] 39 (0,0)) (by (with_reducible repeat (first|apply zb1|apply zb2|apply zb3));exact BK176.out) hb);replace BK177:=Aside0.mk (blk_below (g:=gb177) (o:=.cells #[.int .i64 0,.int .i64 0,.int .i64 0,.int .i64 0,.string (⟨#[]⟩:ByteArray),.int .i64 0,.int .i64 0,.int .i64 0,.int .i64 0,.int .i64 0,.string (⟨#[]⟩:ByteArray),.int .i64 0,.slice none 0 0,.bool false] 30 (0,0)) (by (with_reducible repeat (first|apply zb1|apply zb2|apply zb3));exact BK177.out) hb);replace HB:=Aside0.mk (below_step (by repeat (first|(with_reducible first|exact HB.out|apply zl1|apply zl2|apply zl3|refine below_set ?_ GE175.out|refine below_set ?_ GE176.out|refine below_set ?_ GE177.out)|exact HB.out)) hb);(try clear hb);obtain ⟨hcz15_0,hcz15_1,hcz15_2,hcz15_3,hcz15_4,hcz15_5,hcz15_6,hcz15_7,hcz15_8,hcz15_9,hcz15_10,hcz15_11,hcz15_12,hcz15_13⟩:=zc14 BK175.out;obtain ⟨hfz15_0,hfz15_1,hfz15_2,hfz15_3,hfz15_4,hfz15_5,hfz15_6,hfz15_7,hfz15_8,hfz15_9,hfz15_10,hfz15_11,hfz15_12,hfz15_13⟩:=zf14 BK175.out)|((with_reducible refine gate_store (t:=30) (p:=6) rfl ?_);refine store_all 30 gb177 30 #[.int .i64 0,.int .i64 0,.int .i64 0,.int .i64 0,.string (⟨#[]⟩:ByteArray),.int .i64 0,.int .i64 0,.int .i64 0,.int .i64 0,.int .i64 0,.string (⟨#[]⟩:ByteArray),.int .i64 0,.slice none 0 0,.bool false] #[.int .i64 0,.int .i64 0,.int .i64 0,.int .i64 0,.string (⟨#[]⟩:ByteArray),.int .i64 0,.int .i64 0,.int .i64 0,.int .i64 0,.int .i64 0,.string (⟨#[]⟩:ByteArray),.int .i64 0,.slice none 0 0,.bool false] rfl rfl rfl (by first|rfl|(go_simp;done)) (by (with_reducible repeat (first|apply zb1|apply zb2|apply zb3));exact BK177.out) (by kernel_rfl) rfl (by kernel_rfl) ?_;intro w16 hx hg;replace BK175:=Aside0.mk (blk_grown (g:=gb175) (o:=.cells #[.int .i64 a0_0,.int .i64 a0_1,.int .i64 a0_2,.int .i64 a0_3,.string a0_4,.int .i64 a0_5,.int .i64 a0_6,.int .i64 a0_7,.int .i64 a0_8,.int .i64 a0_9,.string a0_10,.int .i64 a0_11,.slice A0_12 l0_12.length c0_12,.bool a0_13] 30 (0,0)) (by (with_reducible repeat (first|apply zb1|apply zb2|apply zb3));exact BK175.out) hg (fun e_=>NB175_177.out (Option.some.inj e_)));replace BK176:=Aside0.mk (blk_grown (g:=gb176) (o:=.cells #[.slice A1_0 l1_0.length c1_0,.slice A1_1 l1_1.length c1_1,.slice A1_2 l1_2.length c1_2,.int .i64 a1_3,.int .i64 a1_4,.int .i64 a1_5,.int .i64 a1_6,.string a1_7,.int .i64 a1_8,.slice A1_9 l1_9.length c1_9] 39 (0,0)) (by (with_reducible repeat (first|apply zb1|apply zb2|apply zb3));exact BK176.out) hg (fun e_=>NB176_177.out (Option.some.inj e_)));replace HB:=Aside0.mk ((fun {W_:World} (hB_:Below w.heap.size w W_) (hg_:W_.grownBy w16 (some gb177))=>hB_.grown hg_ hB_.size (fun k_ e_=>by cases e_;exact GE177.out)) (by repeat (first|(with_reducible first|exact HB.out|apply zl1|apply zl2|apply zl3|refine below_set ?_ GE175.out|refine below_set ?_ GE176.out|refine below_set ?_ GE177.out)|exact HB.out)) hg);replace BK177:=Aside0.mk (hx);clear hx hg))
    refine bodyPost_ret (results_ct rfl _ _ gb177 30 #[.int .i64 0,.int .i64 0,.int .i64 0,.int .i64 0,.string (⟨#[]⟩:ByteArray),.int .i64 0,.int .i64 0,.int .i64 0,.int .i64 0,.int .i64 0,.string (⟨#[]⟩:ByteArray),.int .i64 0,.slice none 0 0,.bool false] (0,0) _ rfl (by (with_reducible repeat (first|apply zb1|apply zb2|apply zb3));exact BK177.out) Tryd.underlying30 rfl (by kernel_rfl)) rfl ?_
    exact ⟨_,by first|(with_reducible rfl)|(simp only [isEmpty_bne,Bool.not_not] <;> rfl)|rfl|(simp [*,errW_none,errW_some] <;> rfl),by first|exact Kd.R_nil _ _ _ _ _|exact Kd.N_nil _ _ _ _ _|exact Kd.V_nil _ _ _ _ _|exact Kd.Q_nil _ _ _ _ _|exact Kd.S_nil _ _ _ _ _,by repeat (first|(with_reducible first|exact HB.out|apply zl1|apply zl2|apply zl3|refine below_set ?_ GE175.out|refine below_set ?_ GE176.out|refine below_set ?_ GE177.out)|exact HB.out)⟩
   ·rw [if_neg c7] at H
    have c7b0:(a0_6 == 24)=false:=beq_eq_false_iff_ne.mpr c7
    have c7b1:(a0_6 != 24)=true:=bne_iff_ne.mpr c7
    have HC17:=Aside0.mk H
    clear H
    go_enter Tryd.func12,Tryd.ntmps12
    go_upto_block 1 with (first|((with_reducible refine gate_dst (N:=3) rfl ?_);refine box_event ?hg (N:=3) ?hd (cs:=#[.int .i64 a0_0,.int .i64 a0_1,.int .i64 a0_2,.int .i64 a0_3,.string a0_4,.int .i64 a0_5,.int .i64 a0_6,.int .i64 a0_7,.int .i64 a0_8,.int .i64 a0_9,.string a0_10,.int .i64 a0_11,.slice A0_12 l0_12.length c0_12,.bool a0_13]) (t:=30) ?hr ?_;(case hd=>rfl);(case hg=>rfl);(case hr=>first|(go_simp;done)|(go_simp;rfl));intro gb175 hg w18 hbox hb;have BK175:=Aside0.mk (hbox);have GW175:=Aside0.mk ((by rw [hg];exact (below_size (by repeat (first|(with_reducible first|exact HB.out|apply zl1|apply zl2|apply zl3)|exact HB.out))):w.heap.size≤gb175));have GE175:=Aside0.mk ((by rw [hg];exact (below_size (by repeat (first|(with_reducible first|exact HB.out|apply zl1|apply zl2|apply zl3)|exact HB.out))):w.heap.size≤gb175));replace HB:=Aside0.mk (below_step (by repeat (first|(with_reducible first|exact HB.out|apply zl1|apply zl2|apply zl3)|exact HB.out)) hb);clear hb hbox hg)|((with_reducible refine gate_dst (N:=4) rfl ?_);refine box_event ?hg (N:=4) ?hd (cs:=#[.slice A1_0 l1_0.length c1_0,.slice A1_1 l1_1.length c1_1,.slice A1_2 l1_2.length c1_2,.int .i64 a1_3,.int .i64 a1_4,.int .i64 a1_5,.int .i64 a1_6,.string a1_7,.int .i64 a1_8,.slice A1_9 l1_9.length c1_9]) (t:=39) ?hr ?_;(case hd=>rfl);(case hg=>rfl);(case hr=>first|(go_simp;done)|(go_simp;rfl));intro gb176 hg w19 hbox hb;have BK176:=Aside0.mk (hbox);have GW176:=Aside0.mk ((by rw [hg];exact (below_size (by repeat (first|(with_reducible first|exact HB.out|apply zl1|apply zl2|apply zl3|refine below_set ?_ GE175.out)|exact HB.out))):w.heap.size≤gb176));have GE176:=Aside0.mk ((by rw [hg];exact (below_size (by repeat (first|(with_reducible first|exact HB.out|apply zl1|apply zl2|apply zl3|refine below_set ?_ GE175.out)|exact HB.out))):w.heap.size≤gb176));replace HB:=Aside0.mk (below_step (by repeat (first|(with_reducible first|exact HB.out|apply zl1|apply zl2|apply zl3|refine below_set ?_ GE175.out)|exact HB.out)) hb);have NB175_176:=Aside0.mk ((by rw [hg];exact Nat.ne_of_lt (blk_lt (g:=gb175) (o:=.cells #[.int .i64 a0_0,.int .i64 a0_1,.int .i64 a0_2,.int .i64 a0_3,.string a0_4,.int .i64 a0_5,.int .i64 a0_6,.int .i64 a0_7,.int .i64 a0_8,.int .i64 a0_9,.string a0_10,.int .i64 a0_11,.slice A0_12 l0_12.length c0_12,.bool a0_13] 30 (0,0)) (by (with_reducible repeat (first|apply zb1|apply zb2|apply zb3));exact BK175.out)):gb175 ≠ gb176));have NB176_175:=Aside0.mk ((by rw [hg];exact Nat.ne_of_gt (blk_lt (g:=gb175) (o:=.cells #[.int .i64 a0_0,.int .i64 a0_1,.int .i64 a0_2,.int .i64 a0_3,.string a0_4,.int .i64 a0_5,.int .i64 a0_6,.int .i64 a0_7,.int .i64 a0_8,.int .i64 a0_9,.string a0_10,.int .i64 a0_11,.slice A0_12 l0_12.length c0_12,.bool a0_13] 30 (0,0)) (by (with_reducible repeat (first|apply zb1|apply zb2|apply zb3));exact BK175.out)):gb176 ≠ gb175));replace BK175:=Aside0.mk (blk_below (g:=gb175) (o:=.cells #[.int .i64 a0_0,.int .i64 a0_1,.int .i64 a0_2,.int .i64 a0_3,.string a0_4,.int .i64 a0_5,.int .i64 a0_6,.int .i64 a0_7,.int .i64 a0_8,.int .i64 a0_9,.string a0_10,.int .i64 a0_11,.slice A0_12 l0_12.length c0_12,.bool a0_13] 30 (0,0)) (by (with_reducible repeat (first|apply zb1|apply zb2|apply zb3));exact BK175.out) hb);clear hb hbox hg)|((with_reducible refine gate_dst (N:=6) rfl ?_);refine box_event ?hg (N:=6) ?hd (cs:=#[.int .i64 0,.int .i64 0,.int .i64 0,.int .i64 0,.string (⟨#[]⟩:ByteArray),.int .i64 0,.int .i64 0,.int .i64 0,.int .i64 0,.int .i64 0,.string (⟨#[]⟩:ByteArray),.int .i64 0,.slice none 0 0,.bool false]) (t:=30) ?hr ?_;(case hd=>rfl);(case hg=>rfl);(case hr=>first|(go_simp;done)|(go_simp;rfl));intro gb177 hg w20 hbox hb;have BK177:=Aside0.mk (hbox);have GW177:=Aside0.mk ((by rw [hg];exact (below_size (by repeat (first|(with_reducible first|exact HB.out|apply zl1|apply zl2|apply zl3|refine below_set ?_ GE175.out|refine below_set ?_ GE176.out)|exact HB.out))):w.heap.size≤gb177));have GE177:=Aside0.mk ((by rw [hg];exact (below_size (by repeat (first|(with_reducible first|exact HB.out|apply zl1|apply zl2|apply zl3|refine below_set ?_ GE175.out|refine below_set ?_ GE176.out)|exact HB.out))):w.heap.size≤gb177));replace HB:=Aside0.mk (below_step (by repeat (first|(with_reducible first|exact HB.out|apply zl1|apply zl2|apply zl3|refine below_set ?_ GE175.out|refine below_set ?_ GE176.out)|exact HB.out)) hb);have NB175_177:=Aside0.mk ((by rw [hg];exact Nat.ne_of_lt (blk_lt (g:=gb175) (o:=.cells #[.int .i64 a0_0,.int .i64 a0_1,.int .i64 a0_2,.int .i64 a0_3,.string a0_4,.int .i64 a0_5,.int .i64 a0_6,.int .i64 a0_7,.int .i64 a0_8,.int .i64 a0_9,.string a0_10,.int .i64 a0_11,.slice A0_12 l0_12.length c0_12,.bool a0_13] 30 (0,0)) (by (with_reducible repeat (first|apply zb1|apply zb2|apply zb3));exact BK175.out)):gb175 ≠ gb177));have NB177_175:=Aside0.mk ((by rw [hg];exact Nat.ne_of_gt (blk_lt (g:=gb175) (o:=.cells #[.int .i64 a0_0,.int .i64 a0_1,.int .i64 a0_2,.int .i64 a0_3,.string a0_4,.int .i64 a0_5,.int .i64 a0_6,.int .i64 a0_7,.int .i64 a0_8,.int .i64 a0_9,.string a0_10,.int .i64 a0_11,.slice A0_12 l0_12.length c0_12,.bool a0_13] 30 (0,0)) (by (with_reducible repeat (first|apply zb1|apply zb2|apply zb3));exact BK175.out)):gb177 ≠ gb175));replace BK175:=Aside0.mk (blk_below (g:=gb175) (o:=.cells #[.int .i64 a0_0,.int .i64 a0_1,.int .i64 a0_2,.int .i64 a0_3,.string a0_4,.int .i64 a0_5,.int .i64 a0_6,.int .i64 a0_7,.int .i64 a0_8,.int .i64 a0_9,.string a0_10,.int .i64 a0_11,.slice A0_12 l0_12.length c0_12,.bool a0_13] 30 (0,0)) (by (with_reducible repeat (first|apply zb1|apply zb2|apply zb3));exact BK175.out) hb);have NB176_177:=Aside0.mk ((by rw [hg];exact Nat.ne_of_lt (blk_lt (g:=gb176) (o:=.cells #[.slice A1_0 l1_0.length c1_0,.slice A1_1 l1_1.length c1_1,.slice A1_2 l1_2.length c1_2,.int .i64 a1_3,.int .i64 a1_4,.int .i64 a1_5,.int .i64 a1_6,.string a1_7,.int .i64 a1_8,.slice A1_9 l1_9.length c1_9] 39 (0,0)) (by (with_reducible repeat (first|apply zb1|apply zb2|apply zb3));exact BK176.out)):gb176 ≠ gb177));have NB177_176:=Aside0.mk ((by rw [hg];exact Nat.ne_of_gt (blk_lt (g:=gb176) (o:=.cells #[.slice A1_0 l1_0.length c1_0,.slice A1_1 l1_1.length c1_1,.slice A1_2 l1_2.length c1_2,.int .i64 a1_3,.int .i64 a1_4,.int .i64 a1_5,.int .i64 a1_6,.string a1_7,.int .i64 a1_8,.slice A1_9 l1_9.length c1_9] 39 (0,0)) (by (with_reducible repeat (first|apply zb1|apply zb2|apply zb3));exact BK176.out)):gb177 ≠ gb176));replace BK176:=Aside0.mk (blk_below (g:=gb176) (o:=.cells #[.slice A1_0 l1_0.length c1_0,.slice A1_1 l1_1.length c1_1,.slice A1_2 l1_2.length c1_2,.int .i64 a1_3,.int .i64 a1_4,.int .i64 a1_5,.int .i64 a1_6,.string a1_7,.int .i64 a1_8,.slice A1_9 l1_9.length c1_9] 39 (0,0)) (by (with_reducible repeat (first|apply zb1|apply zb2|apply zb3));exact BK176.out) hb);clear hb hbox hg;have hnb21:=NB175_176.out;have hnc21:=NB176_175.out;have hnb22:=NB175_177.out;have hnc22:=NB177_175.out;obtain ⟨hcz23_0,hcz23_1,hcz23_2,hcz23_3,hcz23_4,hcz23_5,hcz23_6,hcz23_7,hcz23_8,hcz23_9,hcz23_10,hcz23_11,hcz23_12,hcz23_13⟩:=zc14 BK175.out;obtain ⟨hfz23_0,hfz23_1,hfz23_2,hfz23_3,hfz23_4,hfz23_5,hfz23_6,hfz23_7,hfz23_8,hfz23_9,hfz23_10,hfz23_11,hfz23_12,hfz23_13⟩:=zf14 BK175.out)|((with_reducible refine gate_callee (f:=29) rfl ?_);refine goesL_ (some 10) rfl rfl Tryd.func29 (by kernel_rfl) rfl #[.agg #[.int .i64 a0_0,.int .i64 a0_1,.int .i64 a0_2,.int .i64 a0_3,.string a0_4,.int .i64 a0_5,.int .i64 a0_6,.int .i64 a0_7,.int .i64 a0_8,.int .i64 a0_9,.string a0_10,.int .i64 a0_11,.slice A0_12 l0_12.length c0_12,.bool a0_13]] rfl (by (try simp only [List.map_toArray,List.map_cons,List.map_nil]);first|done|rfl|(simp only [List.length_drop,List.length_take];rfl)|(simp (disch:=omega) only [u64_in];rfl)) ?_;(with_reducible refine (flows_right.calls k a0_0 a0_1 a0_2 a0_3 a0_4 a0_5 a0_6 a0_7 a0_8 a0_9 a0_10 a0_11 _ _ l0_12 a0_13 true _ ?side1 ?side2 A4.out).mono ?_);(case side1=>repeat (first|exact (Kd.C_below HR0_12.out HB.out)|(with_reducible refine Kd.C_alloc ?_ _)|(with_reducible refine Kd.C_drewN ?_ _)|(with_reducible refine Kd.C_drew ?_)));(case side2=>exact HC0_12.out);rintro e w24 ⟨rfl,hb⟩;refine ⟨_,rfl,?_⟩;replace BK175:=Aside0.mk (blk_below (g:=gb175) (o:=.cells #[.int .i64 a0_0,.int .i64 a0_1,.int .i64 a0_2,.int .i64 a0_3,.string a0_4,.int .i64 a0_5,.int .i64 a0_6,.int .i64 a0_7,.int .i64 a0_8,.int .i64 a0_9,.string a0_10,.int .i64 a0_11,.slice A0_12 l0_12.length c0_12,.bool a0_13] 30 (0,0)) (by (with_reducible repeat (first|apply zb1|apply zb2|apply zb3));exact BK175.out) hb);replace BK176:=Aside0.mk (blk_below (g:=gb176) (o:=.cells #[.slice A1_0 l1_0.length c1_0,.slice A1_1 l1_1.length c1_1,.slice A1_2 l1_2.length c1_2,.int .i64 a1_3,.int .i64 a1_4,.int .i64 a1_5,.int .i64 a1_6,.string a1_7,.int .i64 a1_8,.slice A1_9 l1_9.length c1_9] 39 (0,0)) (by (with_reducible repeat (first|apply zb1|apply zb2|apply zb3));exact BK176.out) hb);replace BK177:=Aside0.mk (blk_below (g:=gb177) (o:=.cells #[.int .i64 0,.int .i64 0,.int .i64 0,.int .i64 0,.string (⟨#[]⟩:ByteArray),.int .i64 0,.int .i64 0,.int .i64 0,.int .i64 0,.int .i64 0,.string (⟨#[]⟩:ByteArray),.int .i64 0,.slice none 0 0,.bool false] 30 (0,0)) (by (with_reducible repeat (first|apply zb1|apply zb2|apply zb3));exact BK177.out) hb);replace HB:=Aside0.mk (below_step (by repeat (first|(with_reducible first|exact HB.out|apply zl1|apply zl2|apply zl3|refine below_set ?_ GE175.out|refine below_set ?_ GE176.out|refine below_set ?_ GE177.out)|exact HB.out)) hb);(try clear hb);obtain ⟨hcz25_0,hcz25_1,hcz25_2,hcz25_3,hcz25_4,hcz25_5,hcz25_6,hcz25_7,hcz25_8,hcz25_9,hcz25_10,hcz25_11,hcz25_12,hcz25_13⟩:=zc14 BK175.out;obtain ⟨hfz25_0,hfz25_1,hfz25_2,hfz25_3,hfz25_4,hfz25_5,hfz25_6,hfz25_7,hfz25_8,hfz25_9,hfz25_10,hfz25_11,hfz25_12,hfz25_13⟩:=zf14 BK175.out;have hnb26:=NB176_177.out;have hnc26:=NB177_176.out;obtain ⟨hcz27_0,hcz27_1,hcz27_2,hcz27_3,hcz27_4,hcz27_5,hcz27_6,hcz27_7,hcz27_8,hcz27_9⟩:=zc10 BK176.out;obtain ⟨hfz27_0,hfz27_1,hfz27_2,hfz27_3,hfz27_4,hfz27_5,hfz27_6,hfz27_7,hfz27_8,hfz27_9⟩:=zf10 BK176.out))
    (try simp only [Act.put,List.setIfInBounds_toArray,List.set_cons_zero,List.set_cons_succ])
    go_cut [] (fun wc=>∃ (kq:Nat) (x176005_16:Int) (x176007_16:Int) (x176008_16:Int) (x176009_16:Int) (x176010_16:ByteArray) (x176011_16:Int) (x176012_16:List (S24)) (x178000_16:Int) (x178001_16:Int) (x178002_16:Int) (x178003_16:Int) (x178004_16:ByteArray) (x178005_16:Int) (x178006_16:Int) (x178007_16:Int) (x178008_16:Int) (x178009_16:Int) (x178010_16:ByteArray) (x178011_16:Int) (x178013_16:Bool) (u176012:Value),Aside0 (flows_Next.j1 kq a0_0 a0_1 a0_2 a0_3 a0_4 x176005_16 (wrap64 (a0_6 + 1)) x176007_16 x176008_16 x176009_16 x176010_16 x176011_16 x176012_16 a0_13=some (r1,r2,r3,r4,r5,r6,r7,r8,r9,r10,r11,r12,r13,r14,r15))∧Aside0 (kq≤k)∧Aside0 (Kd.R k24 24 wc w.heap.size (fun _=>True) u176012 x176012_16)∧Aside0 (wc.heap[gb175]?=some (.cells #[.int .i64 a0_0,.int .i64 a0_1,.int .i64 a0_2,.int .i64 a0_3,.string a0_4,.int .i64 x176005_16,.int .i64 (wrap64 (a0_6 + 1)),.int .i64 x176007_16,.int .i64 x176008_16,.int .i64 x176009_16,.string x176010_16,.int .i64 x176011_16,u176012,.bool a0_13] 30 (0,0)))∧Aside0 (wc.heap[gb177]?=some (.cells #[.int .i64 x178000_16,.int .i64 x178001_16,.int .i64 x178002_16,.int .i64 x178003_16,.string x178004_16,.int .i64 x178005_16,.int .i64 x178006_16,.int .i64 x178007_16,.int .i64 x178008_16,.int .i64 x178009_16,.string x178010_16,.int .i64 x178011_16,(.slice none 0 0),.bool x178013_16] 30 (0,0)))∧Aside0 (Below w.heap.size w wc))
    case first =>
     have H:=HC17.out
     clear HC17
     by_cases c28:a1_4=0
     ·rw [if_pos c28] at H
      have c28b0:(a1_4 == 0)=true:=beq_iff_eq.mpr c28
      have c28b1:(a1_4 != 0)=false:=bne_eq_false_iff_eq.mpr c28
      clear c28
      (first|rw [c28b0]|(simp only [i64_w,i32_w];rw [c28b0])|skip)
      replace H:=Option.bind_eq_some_iff.mp H
      obtain ⟨t179,A290,H⟩:=H
      replace H:(if a1_3 > 0 then (flows_Next.j0 k a0_0 a0_1 a0_2 a0_3 a0_4 2 (wrap64 (a0_6 + 1)) (wrap64 (a2 + a1_3)) a0_8 a0_9 a0_10 a1_8 t179 a0_13) else (flows_Next.j0 k a0_0 a0_1 a0_2 a0_3 a0_4 a0_5 (wrap64 (a0_6 + 1)) a0_7 a0_8 a0_9 a0_10 a1_8 t179 a0_13))=some (r1,r2,r3,r4,r5,r6,r7,r8,r9,r10,r11,r12,r13,r14,r15):=H
      have A29:=Aside0.mk A290
      clear A290
      have HC30:=Aside0.mk H
      clear H
      try go_wp2
      have n0_:Aside0 ((w24.setCell ⟨gb175,6,none⟩ (.int .i64 (wrap64 (a0_6 + 1)))).heap[gb175]?=some (.cells #[.int .i64 a0_0,.int .i64 a0_1,.int .i64 a0_2,.int .i64 a0_3,.string a0_4,.int .i64 a0_5,.int .i64 (wrap64 (a0_6 + 1)),.int .i64 a0_7,.int .i64 a0_8,.int .i64 a0_9,.string a0_10,.int .i64 a0_11,.slice A0_12 l0_12.length c0_12,.bool a0_13] 30 (0,0))):=⟨by apply zpe;(repeat (first|(with_reducible first|apply zb1|apply zb2|apply zb3|apply zpi|exact BK175.out)));rfl⟩
      have n1_:Aside0 ((w24.setCell ⟨gb175,6,none⟩ (.int .i64 (wrap64 (a0_6 + 1)))).heap[gb176]?=some (.cells #[.slice A1_0 l1_0.length c1_0,.slice A1_1 l1_1.length c1_1,.slice A1_2 l1_2.length c1_2,.int .i64 a1_3,.int .i64 a1_4,.int .i64 a1_5,.int .i64 a1_6,.string a1_7,.int .i64 a1_8,.slice A1_9 l1_9.length c1_9] 39 (0,0))):=⟨by (repeat (first|(with_reducible first|apply zb1|apply zb2|apply zb3|exact BK176.out)|refine blk_far ?_ NB176_175.out _))⟩
      have n2_:Aside0 ((w24.setCell ⟨gb175,6,none⟩ (.int .i64 (wrap64 (a0_6 + 1)))).heap[gb177]?=some (.cells #[.int .i64 0,.int .i64 0,.int .i64 0,.int .i64 0,.string (⟨#[]⟩:ByteArray),.int .i64 0,.int .i64 0,.int .i64 0,.int .i64 0,.int .i64 0,.string (⟨#[]⟩:ByteArray),.int .i64 0,.slice none 0 0,.bool false] 30 (0,0))):=⟨by (repeat (first|(with_reducible first|apply zb1|apply zb2|apply zb3|exact BK177.out)|refine blk_far ?_ NB177_175.out _))⟩
      have n3_:Aside0 (Below w.heap.size w (w24.setCell ⟨gb175,6,none⟩ (.int .i64 (wrap64 (a0_6 + 1))))):=⟨by repeat (first|(with_reducible first|exact HB.out|apply zl1|apply zl2|apply zl3|refine below_set ?_ GE175.out|refine below_set ?_ GE176.out|refine below_set ?_ GE177.out)|exact HB.out)⟩
      (try clear BK175)
      (try clear BK176)
      (try clear BK177)
      (try clear HB)
      generalize (w24.setCell ⟨gb175,6,none⟩ (.int .i64 (wrap64 (a0_6 + 1))))=w31 at n0_ n1_ n2_ n3_ ⊢
      have BK175:=n0_
      have BK176:=n1_
      have BK177:=n2_
      have HB:=n3_
      clear n0_ n1_ n2_ n3_
      replace BK175:=Aside0.mk (blk_drew BK175.out)
      replace BK176:=Aside0.mk (blk_drew BK176.out)
      replace BK177:=Aside0.mk (blk_drew BK177.out)
      replace HB:=Aside0.mk (below_drew1 HB.out)
      refine start_ (n:=10) (S:=fun w'=>w'.cell? ⟨gb176,0,none⟩=some (.slice A1_0 l1_0.length c1_0)∧w'.cell? ⟨gb176,1,none⟩=some (.slice A1_1 l1_1.length c1_1)∧w'.cell? ⟨gb176,2,none⟩=some (.slice A1_2 l1_2.length c1_2)∧w'.cell? ⟨gb176,3,none⟩=some (.int .i64 a1_3)∧w'.cell? ⟨gb176,4,none⟩=some (.int .i64 a1_4)∧w'.cell? ⟨gb176,5,none⟩=some (.int .i64 a1_5)∧w'.cell? ⟨gb176,6,none⟩=some (.int .i64 a1_6)∧w'.cell? ⟨gb176,7,none⟩=some (.string a1_7)∧w'.cell? ⟨gb176,8,none⟩=some (.int .i64 a1_8)∧w'.cell? ⟨gb176,9,none⟩=some (.slice A1_9 l1_9.length c1_9)) (ds:=[]) #[false,false,false,false,false,false,false,false,false,false] (by kernel_rfl) rfl rfl ⟨(blk_cell BK176.out 0).trans rfl,(blk_cell BK176.out 1).trans rfl,(blk_cell BK176.out 2).trans rfl,(blk_cell BK176.out 3).trans rfl,(blk_cell BK176.out 4).trans rfl,(blk_cell BK176.out 5).trans rfl,(blk_cell BK176.out 6).trans rfl,(blk_cell BK176.out 7).trans rfl,(blk_cell BK176.out 8).trans rfl,(blk_cell BK176.out 9).trans rfl⟩ (fun hHeld=>?_);refine with_tabW flows_Next.tab9 flows_Next.bits9 (fun HT_ HW_=>?_)
      generalize w31.drew=w32 at BK175 BK176 BK177 HB hHeld ⊢
      refine pure_ (i:=0) (N:=some 32) (v:=?_) (a':=?_) #[true,false,false,false,false,false,false,false,false,false] rfl rfl (any_of HT_.out (by kernel_rfl)) (fun _ _ _ h=>h) (Or.inl ⟨by rfl,?_⟩) ?_ ?_
      rotate_left
      ·intro w'
       go_simp
       with_reducible rfl
      rotate_left
      ·simp only [Act.put,List.setIfInBounds_toArray,List.set_cons_zero,List.set_cons_succ,i64_w,i32_w]
       rfl
      refine pure_ (i:=1) (N:=some 33) (v:=?_) (a':=?_) #[true,true,false,false,false,false,false,false,false,false] rfl rfl (any_of HT_.out (by kernel_rfl)) (fun _ _ _ h=>h) (Or.inl ⟨by rfl,?_⟩) ?_ ?_
      rotate_left
      ·intro w'
       go_simp
       with_reducible rfl
      rotate_left
      ·simp only [Act.put,List.setIfInBounds_toArray,List.set_cons_zero,List.set_cons_succ,i64_w,i32_w]
       rfl
      refine pure_ (i:=3) (N:=some 35) (v:=?_) (a':=?_) #[true,true,false,true,false,false,false,false,false,false] rfl rfl (any_of HT_.out (by kernel_rfl)) (fun _ _ _ h=>h) (Or.inl ⟨by rfl,?_⟩) ?_ ?_
      rotate_left
      ·intro w'
       go_simp
       with_reducible rfl
      rotate_left
      ·simp only [Act.put,List.setIfInBounds_toArray,List.set_cons_zero,List.set_cons_succ,i64_w,i32_w]
       rfl
      refine pure_ (i:=4) (N:=some 36) (v:=?_) (a':=?_) #[true,true,false,true,true,false,false,false,false,false] rfl rfl (any_of HT_.out (by kernel_rfl)) (fun _ _ _ h=>h) (Or.inl ⟨by rfl,?_⟩) ?_ ?_
      rotate_left
      ·intro w'
       go_simp
       with_reducible rfl
      rotate_left
      ·simp only [Act.put,List.setIfInBounds_toArray,List.set_cons_zero,List.set_cons_succ,i64_w,i32_w]
       rfl
      refine take_ (i:=2) (N:=some 34) (v:=?_) (a':=?_) #[true,true,true,true,true,false,false,false,false,false] rfl rfl (take_ofW HT_.out HW_.out (by kernel_rfl)) (fun _ _ _ h=>h) (Or.inl ⟨by rfl,?_⟩) hHeld ?_ ?_
      rotate_left
      ·rintro w' ⟨s0,s1,s2,s3,s4,s5,s6,s7,s8,s9⟩
       go_simp
       with_reducible rfl
      rotate_left
      ·simp only [Act.put,List.setIfInBounds_toArray,List.set_cons_zero,List.set_cons_succ,i64_w,i32_w]
       rfl
      refine take_ (i:=5) (N:=some 37) (v:=?_) (a':=?_) #[true,true,true,true,true,true,false,false,false,false] rfl rfl (take_ofW HT_.out HW_.out (by kernel_rfl)) (fun _ _ _ h=>h) (Or.inl ⟨by rfl,?_⟩) hHeld ?_ ?_
      rotate_left
      ·rintro w' ⟨s0,s1,s2,s3,s4,s5,s6,s7,s8,s9⟩
       go_simp
       with_reducible rfl
      rotate_left
      ·simp only [Act.put,List.setIfInBounds_toArray,List.set_cons_zero,List.set_cons_succ,i64_w,i32_w]
       rfl
      refine one_ (i:=6) (N:=some 38) #[true,true,true,true,true,true,true,false,false,false] rfl rfl (one_of HT_.out (by kernel_rfl)) (by decide) (fun K hK=>?_)
      refine goes_ Tryd.func32 (by kernel_rfl) rfl #[.slice A1_9 l1_9.length c1_9] (by rfl) rfl rfl (by (try simp only [List.map_toArray,List.map_cons,List.map_nil]);first|done|rfl|(simp only [List.length_drop,List.length_take];rfl)|(simp (disch:=omega) only [u64_in];rfl)) ?_
      with_reducible refine (api_Value_32.calls _ _ l1_9 t179 _ ?side1 ?side2 A29.out).mono ?_
      (case side1=>repeat (first|exact (Kd.C_below HR1_9.out HB.out)|(with_reducible refine Kd.C_alloc ?_ _)|(with_reducible refine Kd.C_drewN ?_ _)|(with_reducible refine Kd.C_drew ?_)))
      (case side2=>exact HC1_9.out)
      rintro e w33 ⟨v180,rfl,ho0,hb⟩
      refine ⟨_,rfl,?_⟩
      have HO181:=Aside0.mk (Kd.R_lower ho0 (below_size (by repeat (first|(with_reducible first|exact HB.out|apply zl1|apply zl2|apply zl3|refine below_set ?_ GE175.out|refine below_set ?_ GE176.out|refine below_set ?_ GE177.out)|exact HB.out))))
      replace BK175:=Aside0.mk (blk_below (g:=gb175) (o:=.cells #[.int .i64 a0_0,.int .i64 a0_1,.int .i64 a0_2,.int .i64 a0_3,.string a0_4,.int .i64 a0_5,.int .i64 (wrap64 (a0_6 + 1)),.int .i64 a0_7,.int .i64 a0_8,.int .i64 a0_9,.string a0_10,.int .i64 a0_11,.slice A0_12 l0_12.length c0_12,.bool a0_13] 30 (0,0)) (by (with_reducible repeat (first|apply zb1|apply zb2|apply zb3));exact BK175.out) hb)
      replace BK176:=Aside0.mk (blk_below (g:=gb176) (o:=.cells #[.slice A1_0 l1_0.length c1_0,.slice A1_1 l1_1.length c1_1,.slice A1_2 l1_2.length c1_2,.int .i64 a1_3,.int .i64 a1_4,.int .i64 a1_5,.int .i64 a1_6,.string a1_7,.int .i64 a1_8,.slice A1_9 l1_9.length c1_9] 39 (0,0)) (by (with_reducible repeat (first|apply zb1|apply zb2|apply zb3));exact BK176.out) hb)
      replace BK177:=Aside0.mk (blk_below (g:=gb177) (o:=.cells #[.int .i64 0,.int .i64 0,.int .i64 0,.int .i64 0,.string (⟨#[]⟩:ByteArray),.int .i64 0,.int .i64 0,.int .i64 0,.int .i64 0,.int .i64 0,.string (⟨#[]⟩:ByteArray),.int .i64 0,.slice none 0 0,.bool false] 30 (0,0)) (by (with_reducible repeat (first|apply zb1|apply zb2|apply zb3));exact BK177.out) hb)
      replace HB:=Aside0.mk (below_step (by repeat (first|(with_reducible first|exact HB.out|apply zl1|apply zl2|apply zl3|refine below_set ?_ GE175.out|refine below_set ?_ GE176.out|refine below_set ?_ GE177.out)|exact HB.out)) hb)
      (try clear hb)
      (try clear hb2)
      (try clear hk)
      (try clear hi)
      (try clear ho0)
      obtain ⟨Ao34,co34,eo34⟩:=Kd.R_slice HO181.out
      (first|subst eo34|(injection eo34 with f1_ f2_ f3_;have f4_:=f1_.symm;have f5_:=f3_.symm;clear f1_ f2_ f3_;subst f4_;subst f5_))
      refine hK.out _ _ ⟨(blk_cell BK176.out 0).trans rfl,(blk_cell BK176.out 1).trans rfl,(blk_cell BK176.out 2).trans rfl,(blk_cell BK176.out 3).trans rfl,(blk_cell BK176.out 4).trans rfl,(blk_cell BK176.out 5).trans rfl,(blk_cell BK176.out 6).trans rfl,(blk_cell BK176.out 7).trans rfl,(blk_cell BK176.out 8).trans rfl,(blk_cell BK176.out 9).trans rfl⟩ (fun hHeld=>?_)
      clear hK K
      refine norm_ (a':=?_) ?_ ?_
      rotate_left
      ·show Act.put _ (some 38) _=_
       simp only [Act.put,List.setIfInBounds_toArray,List.set_cons_zero,List.set_cons_succ,i64_w,i32_w]
       rfl
      refine pure_ (i:=7) (N:=some 39) (v:=?_) (a':=?_) #[true,true,true,true,true,true,true,true,false,false] rfl rfl (any_of HT_.out (by kernel_rfl)) (fun _ _ _ h=>h) (Or.inl ⟨by rfl,?_⟩) ?_ ?_
      rotate_left
      ·intro w'
       go_simp
       with_reducible rfl
      rotate_left
      ·simp only [Act.put,List.setIfInBounds_toArray,List.set_cons_zero,List.set_cons_succ,i64_w,i32_w]
       rfl
      refine pure_ (i:=8) (N:=some 40) (v:=?_) (a':=?_) #[true,true,true,true,true,true,true,true,true,false] rfl rfl (any_of HT_.out (by kernel_rfl)) (fun _ _ _ h=>h) (Or.inl ⟨by rfl,?_⟩) ?_ ?_
      rotate_left
      ·intro w'
       go_simp
       with_reducible rfl
      rotate_left
      ·simp only [Act.put,List.setIfInBounds_toArray,List.set_cons_zero,List.set_cons_succ,i64_w,i32_w]
       rfl
      refine one_ (i:=9) (N:=none) #[true,true,true,true,true,true,true,true,true,true] rfl rfl (one_of HT_.out (by kernel_rfl)) (by decide) (fun K hK=>?_)
      have hs35:w33.cell? ⟨gb175,11,none⟩=some (.int .i64 a0_11):=(blk_cell BK175.out 11).trans rfl
      have hfs35:=blk_frozen BK175.out 11
      have hns35_1:=NB176_175.out
      have hns35_2:=NB177_175.out
      have hms35_1:=NB175_176.out
      have hms35_2:=NB175_177.out
      have hs36:w33.cell? ⟨gb175,12,none⟩=some (.slice A0_12 l0_12.length c0_12):=(blk_cell BK175.out 12).trans rfl
      have hfs36:=blk_frozen BK175.out 12
      have hns36_1:=NB176_175.out
      have hns36_2:=NB177_175.out
      have hms36_1:=NB175_176.out
      have hms36_2:=NB175_177.out
      refine skip_ (w1:=?_) (by rfl) rfl ?_ ?_
      rotate_left
      ·go_simp
       rfl
      refine hK.out _ _ ⟨((cell_far (p:=⟨gb175,_,none⟩) NB176_175.out _).trans (((cell_far (p:=⟨gb175,_,none⟩) NB176_175.out _).trans (hHeld.1)))),((cell_far (p:=⟨gb175,_,none⟩) NB176_175.out _).trans (((cell_far (p:=⟨gb175,_,none⟩) NB176_175.out _).trans (hHeld.2.1)))),((cell_far (p:=⟨gb175,_,none⟩) NB176_175.out _).trans (((cell_far (p:=⟨gb175,_,none⟩) NB176_175.out _).trans (hHeld.2.2.1)))),((cell_far (p:=⟨gb175,_,none⟩) NB176_175.out _).trans (((cell_far (p:=⟨gb175,_,none⟩) NB176_175.out _).trans (hHeld.2.2.2.1)))),((cell_far (p:=⟨gb175,_,none⟩) NB176_175.out _).trans (((cell_far (p:=⟨gb175,_,none⟩) NB176_175.out _).trans (hHeld.2.2.2.2.1)))),((cell_far (p:=⟨gb175,_,none⟩) NB176_175.out _).trans (((cell_far (p:=⟨gb175,_,none⟩) NB176_175.out _).trans (hHeld.2.2.2.2.2.1)))),((cell_far (p:=⟨gb175,_,none⟩) NB176_175.out _).trans (((cell_far (p:=⟨gb175,_,none⟩) NB176_175.out _).trans (hHeld.2.2.2.2.2.2.1)))),((cell_far (p:=⟨gb175,_,none⟩) NB176_175.out _).trans (((cell_far (p:=⟨gb175,_,none⟩) NB176_175.out _).trans (hHeld.2.2.2.2.2.2.2.1)))),((cell_far (p:=⟨gb175,_,none⟩) NB176_175.out _).trans (((cell_far (p:=⟨gb175,_,none⟩) NB176_175.out _).trans (hHeld.2.2.2.2.2.2.2.2.1)))),((cell_far (p:=⟨gb175,_,none⟩) NB176_175.out _).trans (((cell_far (p:=⟨gb175,_,none⟩) NB176_175.out _).trans (hHeld.2.2.2.2.2.2.2.2.2))))⟩ (fun hHeld=>?_)
      clear hK K
      refine done_ (done_of HT_.out (by kernel_rfl)) ?_
      have hnb37:=NB176_175.out
      have hnc37:=NB175_176.out
      have hnb38:=NB176_177.out
      have hnc38:=NB177_176.out
      obtain ⟨hcz39_0,hcz39_1,hcz39_2,hcz39_3,hcz39_4,hcz39_5,hcz39_6,hcz39_7,hcz39_8,hcz39_9⟩:=zc10 BK176.out
      obtain ⟨hfz39_0,hfz39_1,hfz39_2,hfz39_3,hfz39_4,hfz39_5,hfz39_6,hfz39_7,hfz39_8,hfz39_9⟩:=zf10 BK176.out
      go_upto_if 43 with (fail)
      go_cut [] (fun wc=>∃ (kq:Nat) (x176005_29:Int) (x176007_29:Int),Aside0 (flows_Next.j0 kq a0_0 a0_1 a0_2 a0_3 a0_4 x176005_29 (wrap64 (a0_6 + 1)) x176007_29 a0_8 a0_9 a0_10 a1_8 t179 a0_13=some (r1,r2,r3,r4,r5,r6,r7,r8,r9,r10,r11,r12,r13,r14,r15))∧Aside0 (kq≤k)∧Aside0 (Kd.R k24 24 wc w.heap.size (fun _=>True) (.slice Ao34 t179.length co34) t179)∧Aside0 (wc.heap[gb175]?=some (.cells #[.int .i64 a0_0,.int .i64 a0_1,.int .i64 a0_2,.int .i64 a0_3,.string a0_4,.int .i64 x176005_29,.int .i64 (wrap64 (a0_6 + 1)),.int .i64 x176007_29,.int .i64 a0_8,.int .i64 a0_9,.string a0_10,.int .i64 a1_8,(.slice Ao34 t179.length co34),.bool a0_13] 30 (0,0)))∧Aside0 (wc.heap[gb176]?=some (.cells #[(.slice A1_0 l1_0.length c1_0),(.slice A1_1 l1_1.length c1_1),(.slice A1_2 l1_2.length c1_2),.int .i64 a1_3,.int .i64 a1_4,.int .i64 a1_5,.int .i64 a1_6,.string a1_7,.int .i64 a1_8,(.slice A1_9 l1_9.length c1_9)] 39 (0,0)))∧Aside0 (wc.heap[gb177]?=some (.cells #[.int .i64 0,.int .i64 0,.int .i64 0,.int .i64 0,.string (⟨#[]⟩:ByteArray),.int .i64 0,.int .i64 0,.int .i64 0,.int .i64 0,.int .i64 0,.string (⟨#[]⟩:ByteArray),.int .i64 0,(.slice none 0 0),.bool false] 30 (0,0)))∧Aside0 (Below w.heap.size w wc))
      case first =>
       have H:=HC30.out
       clear HC30
       by_cases c40:a1_3 > 0
       ·rw [if_pos c40] at H
        have c40b0:decide (0 < a1_3)=true:=decide_eq_true c40
        clear c40
        (first|rw [c40b0]|(simp only [i64_w,i32_w];rw [c40b0])|skip)
        as_aux_lemma =>
         have H':=Aside0.mk H
         clear H
         try go_wp2
         have n0_:Aside0 (Kd.R k24 24 ((w33.setCell ⟨gb175,11,none⟩ (.int .i64 a1_8)).setCell ⟨gb175,12,none⟩ (.slice Ao34 t179.length co34)) w.heap.size (fun _=>True) (.slice Ao34 t179.length co34) t179):=⟨by (with_reducible repeat (first|apply zk1|apply zk2|apply zk3));exact Kd.R_mono (Kd.R_far (p:=⟨gb175,12,none⟩) (Kd.R_far (p:=⟨gb175,11,none⟩) (Kd.R_types HO181.out BK175.out (by decide)) (fun _ hk=>hk.2) (.int .i64 a1_8)) (fun _ hk=>hk.2) (.slice Ao34 t179.length co34)) (fun _ hk=>trivial)⟩
         have n1_:Aside0 (((w33.setCell ⟨gb175,11,none⟩ (.int .i64 a1_8)).setCell ⟨gb175,12,none⟩ (.slice Ao34 t179.length co34)).heap[gb175]?=some (.cells #[.int .i64 a0_0,.int .i64 a0_1,.int .i64 a0_2,.int .i64 a0_3,.string a0_4,.int .i64 a0_5,.int .i64 (wrap64 (a0_6 + 1)),.int .i64 a0_7,.int .i64 a0_8,.int .i64 a0_9,.string a0_10,.int .i64 a1_8,.slice Ao34 t179.length co34,.bool a0_13] 30 (0,0))):=⟨by apply zpe;(repeat (first|(with_reducible first|apply zb1|apply zb2|apply zb3|apply zpi|exact BK175.out)));rfl⟩
         have n2_:Aside0 (((w33.setCell ⟨gb175,11,none⟩ (.int .i64 a1_8)).setCell ⟨gb175,12,none⟩ (.slice Ao34 t179.length co34)).heap[gb176]?=some (.cells #[.slice A1_0 l1_0.length c1_0,.slice A1_1 l1_1.length c1_1,.slice A1_2 l1_2.length c1_2,.int .i64 a1_3,.int .i64 a1_4,.int .i64 a1_5,.int .i64 a1_6,.string a1_7,.int .i64 a1_8,.slice A1_9 l1_9.length c1_9] 39 (0,0))):=⟨by (repeat (first|(with_reducible first|apply zb1|apply zb2|apply zb3|exact BK176.out)|refine blk_far ?_ NB176_175.out _))⟩
         have n3_:Aside0 (((w33.setCell ⟨gb175,11,none⟩ (.int .i64 a1_8)).setCell ⟨gb175,12,none⟩ (.slice Ao34 t179.length co34)).heap[gb177]?=some (.cells #[.int .i64 0,.int .i64 0,.int .i64 0,.int .i64 0,.string (⟨#[]⟩:ByteArray),.int .i64 0,.int .i64 0,.int .i64 0,.int .i64 0,.int .i64 0,.string (⟨#[]⟩:ByteArray),.int .i64 0,.slice none 0 0,.bool false] 30 (0,0))):=⟨by (repeat (first|(with_reducible first|apply zb1|apply zb2|apply zb3|exact BK177.out)|refine blk_far ?_ NB177_175.out _))⟩
         have n4_:Aside0 (Below w.heap.size w ((w33.setCell ⟨gb175,11,none⟩ (.int .i64 a1_8)).setCell ⟨gb175,12,none⟩ (.slice Ao34 t179.length co34))):=⟨by repeat (first|(with_reducible first|exact HB.out|apply zl1|apply zl2|apply zl3|refine below_set ?_ GE175.out|refine below_set ?_ GE176.out|refine below_set ?_ GE177.out)|exact HB.out)⟩
         (try clear HO181)
         (try clear BK175)
         (try clear BK176)
         (try clear BK177)
         (try clear HB)
         generalize ((w33.setCell ⟨gb175,11,none⟩ (.int .i64 a1_8)).setCell ⟨gb175,12,none⟩ (.slice Ao34 t179.length co34))=w41 at n0_ n1_ n2_ n3_ n4_ ⊢
         have HO181:=n0_
         have BK175:=n1_
         have BK176:=n2_
         have BK177:=n3_
         have HB:=n4_
         clear n0_ n1_ n2_ n3_ n4_
         replace HO181:=Aside0.mk (Kd.R_drew HO181.out)
         replace BK175:=Aside0.mk (blk_drew BK175.out)
         replace BK176:=Aside0.mk (blk_drew BK176.out)
         replace BK177:=Aside0.mk (blk_drew BK177.out)
         replace HB:=Aside0.mk (below_drew1 HB.out)
         refine start_ (n:=8) (S:=fun w'=>w'.cell? ⟨gb176,0,none⟩=some (.slice A1_0 l1_0.length c1_0)∧w'.cell? ⟨gb176,1,none⟩=some (.slice A1_1 l1_1.length c1_1)∧w'.cell? ⟨gb176,2,none⟩=some (.slice A1_2 l1_2.length c1_2)∧w'.cell? ⟨gb176,3,none⟩=some (.int .i64 a1_3)∧w'.cell? ⟨gb176,4,none⟩=some (.int .i64 a1_4)∧w'.cell? ⟨gb176,5,none⟩=some (.int .i64 a1_5)∧w'.cell? ⟨gb176,6,none⟩=some (.int .i64 a1_6)∧w'.cell? ⟨gb176,7,none⟩=some (.string a1_7)∧w'.cell? ⟨gb176,8,none⟩=some (.int .i64 a1_8)∧w'.cell? ⟨gb176,9,none⟩=some (.slice A1_9 l1_9.length c1_9)) (ds:=[]) #[false,false,false,false,false,false,false,false] (by kernel_rfl) rfl rfl ⟨(blk_cell BK176.out 0).trans rfl,(blk_cell BK176.out 1).trans rfl,(blk_cell BK176.out 2).trans rfl,(blk_cell BK176.out 3).trans rfl,(blk_cell BK176.out 4).trans rfl,(blk_cell BK176.out 5).trans rfl,(blk_cell BK176.out 6).trans rfl,(blk_cell BK176.out 7).trans rfl,(blk_cell BK176.out 8).trans rfl,(blk_cell BK176.out 9).trans rfl⟩ (fun hHeld=>?_);refine with_tabW flows_Next.tab11 flows_Next.bits11 (fun HT_ HW_=>?_)
         generalize w41.drew=w42 at HO181 BK175 BK176 BK177 HB hHeld ⊢
         refine pure_ (i:=0) (N:=some 44) (v:=?_) (a':=?_) #[true,false,false,false,false,false,false,false] rfl rfl (any_of HT_.out (by kernel_rfl)) (fun _ _ _ h=>h) (Or.inl ⟨by rfl,?_⟩) ?_ ?_
         rotate_left
         ·intro w'
          go_simp
          with_reducible rfl
         rotate_left
         ·simp only [Act.put,List.setIfInBounds_toArray,List.set_cons_zero,List.set_cons_succ,i64_w,i32_w]
          rfl
         refine pure_ (i:=1) (N:=some 45) (v:=?_) (a':=?_) #[true,true,false,false,false,false,false,false] rfl rfl (any_of HT_.out (by kernel_rfl)) (fun _ _ _ h=>h) (Or.inl ⟨by rfl,?_⟩) ?_ ?_
         rotate_left
         ·intro w'
          go_simp
          with_reducible rfl
         rotate_left
         ·simp only [Act.put,List.setIfInBounds_toArray,List.set_cons_zero,List.set_cons_succ,i64_w,i32_w]
          rfl
         refine pure_ (i:=4) (N:=some 48) (v:=?_) (a':=?_) #[true,true,false,false,true,false,false,false] rfl rfl (any_of HT_.out (by kernel_rfl)) (fun _ _ _ h=>h) (Or.inl ⟨by rfl,?_⟩) ?_ ?_
         rotate_left
         ·intro w'
          go_simp
          with_reducible rfl
         rotate_left
         ·simp only [Act.put,List.setIfInBounds_toArray,List.set_cons_zero,List.set_cons_succ,i64_w,i32_w]
          rfl
         refine take_ (i:=2) (N:=some 46) (v:=?_) (a':=?_) #[true,true,true,false,true,false,false,false] rfl rfl (take_ofW HT_.out HW_.out (by kernel_rfl)) (fun _ _ _ h=>h) (Or.inl ⟨by rfl,?_⟩) hHeld ?_ ?_
         rotate_left
         ·rintro w' ⟨s0,s1,s2,s3,s4,s5,s6,s7,s8,s9⟩
          go_simp
          with_reducible rfl
         rotate_left
         ·simp only [Act.put,List.setIfInBounds_toArray,List.set_cons_zero,List.set_cons_succ,i64_w,i32_w]
          rfl
         refine pure_ (i:=3) (N:=some 47) (v:=?_) (a':=?_) #[true,true,true,true,true,false,false,false] rfl rfl (any_of HT_.out (by kernel_rfl)) (fun _ _ _ h=>h) (Or.inl ⟨by rfl,?_⟩) ?_ ?_
         rotate_left
         ·intro w'
          go_simp
          with_reducible rfl
         rotate_left
         ·simp only [Act.put,List.setIfInBounds_toArray,List.set_cons_zero,List.set_cons_succ,i64_w,i32_w]
          rfl
         refine one_ (i:=5) (N:=none) #[true,true,true,true,true,true,false,false] rfl rfl (one_of HT_.out (by kernel_rfl)) (by decide) (fun K hK=>?_)
         have hs43:w42.cell? ⟨gb175,5,none⟩=some (.int .i64 a0_5):=(blk_cell BK175.out 5).trans rfl
         have hfs43:=blk_frozen BK175.out 5
         have hns43_1:=NB176_175.out
         have hns43_2:=NB177_175.out
         have hms43_1:=NB175_176.out
         have hms43_2:=NB175_177.out
         refine skip_ (w1:=?_) (by rfl) rfl ?_ ?_
         rotate_left
         ·go_simp
          rfl
         refine hK.out _ _ ⟨((cell_far (p:=⟨gb175,_,none⟩) NB176_175.out _).trans (hHeld.1)),((cell_far (p:=⟨gb175,_,none⟩) NB176_175.out _).trans (hHeld.2.1)),((cell_far (p:=⟨gb175,_,none⟩) NB176_175.out _).trans (hHeld.2.2.1)),((cell_far (p:=⟨gb175,_,none⟩) NB176_175.out _).trans (hHeld.2.2.2.1)),((cell_far (p:=⟨gb175,_,none⟩) NB176_175.out _).trans (hHeld.2.2.2.2.1)),((cell_far (p:=⟨gb175,_,none⟩) NB176_175.out _).trans (hHeld.2.2.2.2.2.1)),((cell_far (p:=⟨gb175,_,none⟩) NB176_175.out _).trans (hHeld.2.2.2.2.2.2.1)),((cell_far (p:=⟨gb175,_,none⟩) NB176_175.out _).trans (hHeld.2.2.2.2.2.2.2.1)),((cell_far (p:=⟨gb175,_,none⟩) NB176_175.out _).trans (hHeld.2.2.2.2.2.2.2.2.1)),((cell_far (p:=⟨gb175,_,none⟩) NB176_175.out _).trans (hHeld.2.2.2.2.2.2.2.2.2))⟩ (fun hHeld=>?_)
         clear hK K
         refine pure_ (i:=6) (N:=some 49) (v:=?_) (a':=?_) #[true,true,true,true,true,true,true,false] rfl rfl (any_of HT_.out (by kernel_rfl)) (fun _ _ _ h=>h) (Or.inl ⟨by rfl,?_⟩) ?_ ?_
         rotate_left
         ·intro w'
          go_simp
          with_reducible rfl
         rotate_left
         ·simp only [Act.put,List.setIfInBounds_toArray,List.set_cons_zero,List.set_cons_succ,i64_w,i32_w]
          rfl
         refine one_ (i:=7) (N:=none) #[true,true,true,true,true,true,true,true] rfl rfl (one_of HT_.out (by kernel_rfl)) (by decide) (fun K hK=>?_)
         have hs44:w42.cell? ⟨gb175,7,none⟩=some (.int .i64 a0_7):=(blk_cell BK175.out 7).trans rfl
         have hfs44:=blk_frozen BK175.out 7
         have hns44_1:=NB176_175.out
         have hns44_2:=NB177_175.out
         have hms44_1:=NB175_176.out
         have hms44_2:=NB175_177.out
         refine skip_ (w1:=?_) (by rfl) rfl ?_ ?_
         rotate_left
         ·go_simp
          rfl
         refine hK.out _ _ ⟨((cell_far (p:=⟨gb175,_,none⟩) NB176_175.out _).trans (hHeld.1)),((cell_far (p:=⟨gb175,_,none⟩) NB176_175.out _).trans (hHeld.2.1)),((cell_far (p:=⟨gb175,_,none⟩) NB176_175.out _).trans (hHeld.2.2.1)),((cell_far (p:=⟨gb175,_,none⟩) NB176_175.out _).trans (hHeld.2.2.2.1)),((cell_far (p:=⟨gb175,_,none⟩) NB176_175.out _).trans (hHeld.2.2.2.2.1)),((cell_far (p:=⟨gb175,_,none⟩) NB176_175.out _).trans (hHeld.2.2.2.2.2.1)),((cell_far (p:=⟨gb175,_,none⟩) NB176_175.out _).trans (hHeld.2.2.2.2.2.2.1)),((cell_far (p:=⟨gb175,_,none⟩) NB176_175.out _).trans (hHeld.2.2.2.2.2.2.2.1)),((cell_far (p:=⟨gb175,_,none⟩) NB176_175.out _).trans (hHeld.2.2.2.2.2.2.2.2.1)),((cell_far (p:=⟨gb175,_,none⟩) NB176_175.out _).trans (hHeld.2.2.2.2.2.2.2.2.2))⟩ (fun hHeld=>?_)
         clear hK K
         refine done_ (done_of HT_.out (by kernel_rfl)) ?_
         try go_wp2
         go_meet
         case rel=>exact ⟨_,(2),(wrap64 (a2 + a1_3)),H',⟨by first|omega|exact Nat.le_refl _⟩,⟨by (with_reducible repeat (first|apply zk1|apply zk2|apply zk3));exact Kd.R_mono (Kd.R_far (p:=⟨gb175,7,none⟩) (Kd.R_far (p:=⟨gb175,5,none⟩) (Kd.R_types HO181.out BK175.out (by decide)) (fun _ hk=>hk.2) (.int .i64 2)) (fun _ hk=>hk.2) (.int .i64 (wrap64 (a2 + a1_3)))) (fun _ hk=>trivial)⟩,⟨by apply zpe;(repeat (first|(with_reducible first|apply zb1|apply zb2|apply zb3|apply zpi|exact BK175.out)));rfl⟩,⟨by (repeat (first|(with_reducible first|apply zb1|apply zb2|apply zb3|exact BK176.out)|refine blk_far ?_ NB176_175.out _))⟩,⟨by (repeat (first|(with_reducible first|apply zb1|apply zb2|apply zb3|exact BK177.out)|refine blk_far ?_ NB177_175.out _))⟩,⟨by repeat (first|(with_reducible first|exact HB.out|apply zl1|apply zl2|apply zl3|refine below_set ?_ GE175.out|refine below_set ?_ GE176.out|refine below_set ?_ GE177.out)|exact HB.out)⟩⟩
       ·rw [if_neg c40] at H
        have c40b0:decide (0 < a1_3)=false:=decide_eq_false c40
        clear c40
        (first|rw [c40b0]|(simp only [i64_w,i32_w];rw [c40b0])|skip)
        as_aux_lemma =>
         have H':=Aside0.mk H
         clear H
         go_wp2
         go_meet
         case rel=>exact ⟨_,(a0_5),(a0_7),H',⟨by first|omega|exact Nat.le_refl _⟩,⟨by (with_reducible repeat (first|apply zk1|apply zk2|apply zk3));exact Kd.R_mono (Kd.R_far (p:=⟨gb175,12,none⟩) (Kd.R_far (p:=⟨gb175,11,none⟩) (Kd.R_types HO181.out BK175.out (by decide)) (fun _ hk=>hk.2) (.int .i64 a1_8)) (fun _ hk=>hk.2) (.slice Ao34 t179.length co34)) (fun _ hk=>trivial)⟩,⟨by apply zpe;(repeat (first|(with_reducible first|apply zb1|apply zb2|apply zb3|apply zpi|exact BK175.out)));rfl⟩,⟨by (repeat (first|(with_reducible first|apply zb1|apply zb2|apply zb3|exact BK176.out)|refine blk_far ?_ NB176_175.out _))⟩,⟨by (repeat (first|(with_reducible first|apply zb1|apply zb2|apply zb3|exact BK177.out)|refine blk_far ?_ NB177_175.out _))⟩,⟨by repeat (first|(with_reducible first|exact HB.out|apply zl1|apply zl2|apply zl3|refine below_set ?_ GE175.out|refine below_set ?_ GE176.out|refine below_set ?_ GE177.out)|exact HB.out)⟩⟩
      case rest =>
       clear HC30
       try clear hcz13_0 hcz13_1 hcz13_10
       try clear c1
       try clear c2
       try clear p2
       try clear c3
       try clear c4
       try clear c5
       try clear c6
       try clear c6b0
       try clear c6b1
       try clear p6
       try clear c7
       try clear c7b0
       try clear c7b1
       try clear c11
       try clear c12
       try clear c21
       try clear c22
       try clear c26
       try clear c28
       try clear c28b0
       try clear c28b1
       try clear c29
       try clear c32
       try clear c37
       try clear c38
       try clear c40
       try clear c40b0
       try clear hcz13_11 hcz13_12 hcz13_13 hcz13_2 hcz13_3 hcz13_4 hcz13_5 hcz13_6 hcz13_7 hcz13_8 hcz13_9 hcz15_0 hcz15_1 hcz15_10 hcz15_11 hcz15_12 hcz15_13 hcz15_2 hcz15_3 hcz15_4 hcz15_5 hcz15_6 hcz15_7 hcz15_8 hcz15_9 hcz23_0 hcz23_1 hcz23_10 hcz23_11 hcz23_12
       try clear hcz23_13 hcz23_2 hcz23_3 hcz23_4 hcz23_5 hcz23_6 hcz23_7 hcz23_8 hcz23_9 hcz25_0 hcz25_1 hcz25_10 hcz25_11 hcz25_12 hcz25_13 hcz25_2 hcz25_3 hcz25_4 hcz25_5 hcz25_6 hcz25_7 hcz25_8 hcz25_9 hcz27_0 hcz27_1 hcz27_2 hcz27_3 hcz27_4 hcz27_5 hcz27_6
       try clear hfz13_0 hfz13_1 hfz13_10 hfz13_11 hfz13_12 hfz13_13 hfz13_2 hfz13_3 hfz13_4 hfz13_5 hfz13_6 hfz13_7 hfz13_8 hfz13_9 hfz15_0 hfz15_1 hfz15_10
       try clear hcz27_7 hcz27_8 hcz27_9 hcz39_0 hcz39_1 hcz39_2 hcz39_3 hcz39_4 hcz39_5 hcz39_6 hcz39_7 hcz39_8 hcz39_9
       try clear hfz15_11 hfz15_12 hfz15_13 hfz15_2 hfz15_3 hfz15_4 hfz15_5 hfz15_6 hfz15_7 hfz15_8 hfz15_9 hfz23_0 hfz23_1 hfz23_10 hfz23_11 hfz23_12 hfz23_13 hfz23_2 hfz23_3 hfz23_4 hfz23_5 hfz23_6 hfz23_7 hfz23_8 hfz23_9 hfz25_0 hfz25_1 hfz25_10 hfz25_11 hfz25_12
       try clear hfz25_13 hfz25_2 hfz25_3 hfz25_4 hfz25_5 hfz25_6 hfz25_7 hfz25_8 hfz25_9 hfz27_0 hfz27_1 hfz27_2 hfz27_3 hfz27_4 hfz27_5 hfz27_6 hfz27_7 hfz27_8 hfz27_9 hfz39_0 hfz39_1 hfz39_2 hfz39_3 hfz39_4 hfz39_5 hfz39_6 hfz39_7 hfz39_8 hfz39_9
       obtain ⟨kq,x176005_29,x176007_29,HA,HJ29,HO_176012,BK175,BK176,BK177,HB⟩:=hcut
       cases kq with
       | zero=>exact absurd HA.out (by simp [flows_Next.j0])
       | succ kj29 =>
        have H:=HA.out
        clear HA
        simp only [flows_Next.j0] at H
        by_cases c45:(wrap64 (a0_6 + 1))=24
        ·rw [if_pos c45] at H
         have c45b0:((wrap64 (a0_6 + 1)) == 24)=true:=beq_iff_eq.mpr c45
         have c45b1:((wrap64 (a0_6 + 1)) != 24)=false:=bne_eq_false_iff_eq.mpr c45
         clear c45
         replace H:=Option.bind_eq_some_iff.mp H
         obtain ⟨⟨t182,t183,t184⟩,A460,H⟩:=H
         replace H:(flows_Next.j1 kj29 a0_0 a0_1 a0_2 a0_3 a0_4 4 (wrap64 (a0_6 + 1)) 0 t182 t183 t184 0 ([]:List (S24)) a0_13)=some (r1,r2,r3,r4,r5,r6,r7,r8,r9,r10,r11,r12,r13,r14,r15):=H
         have A46:=Aside0.mk A460
         clear A460
         as_aux_lemma =>
          have H':=Aside0.mk H
          clear H
          have hnb47:=NB175_176.out
          have hnc47:=NB176_175.out
          have hnb48:=NB175_177.out
          have hnc48:=NB177_175.out
          obtain ⟨hcz49_0,hcz49_1,hcz49_2,hcz49_3,hcz49_4,hcz49_5,hcz49_6,hcz49_7,hcz49_8,hcz49_9,hcz49_10,hcz49_11,hcz49_12,hcz49_13⟩:=zc14 BK175.out
          obtain ⟨hfz49_0,hfz49_1,hfz49_2,hfz49_3,hfz49_4,hfz49_5,hfz49_6,hfz49_7,hfz49_8,hfz49_9,hfz49_10,hfz49_11,hfz49_12,hfz49_13⟩:=zf14 BK175.out
          go_wp2_with (first|((with_reducible refine gate_callee (f:=34) rfl ?_);refine goesL_ (some 53) rfl rfl Tryd.func34 (by kernel_rfl) rfl #[.int .i64 (-2)] rfl (by (try simp only [List.map_toArray,List.map_cons,List.map_nil]);first|done|rfl|(simp only [List.length_drop,List.length_take];rfl)|(simp (disch:=omega) only [u64_in];rfl)) ?_;(with_reducible refine (flows_fault.calls (-2) t182 t183 t184 _ A46.out).mono ?_);rintro e w50 ⟨rfl,hb⟩;refine ⟨_,rfl,?_⟩;replace HO_176012:=Aside0.mk (Kd.R_below (by (with_reducible repeat (first|apply zk1|apply zk2|apply zk3));exact HO_176012.out) hb);replace BK175:=Aside0.mk (blk_below (g:=gb175) (o:=.cells #[.int .i64 a0_0,.int .i64 a0_1,.int .i64 a0_2,.int .i64 a0_3,.string a0_4,.int .i64 x176005_29,.int .i64 (wrap64 (a0_6 + 1)),.int .i64 x176007_29,.int .i64 a0_8,.int .i64 a0_9,.string a0_10,.int .i64 a1_8,.slice Ao34 t179.length co34,.bool a0_13] 30 (0,0)) (by (with_reducible repeat (first|apply zb1|apply zb2|apply zb3));exact BK175.out) hb);replace BK176:=Aside0.mk (blk_below (g:=gb176) (o:=.cells #[.slice A1_0 l1_0.length c1_0,.slice A1_1 l1_1.length c1_1,.slice A1_2 l1_2.length c1_2,.int .i64 a1_3,.int .i64 a1_4,.int .i64 a1_5,.int .i64 a1_6,.string a1_7,.int .i64 a1_8,.slice A1_9 l1_9.length c1_9] 39 (0,0)) (by (with_reducible repeat (first|apply zb1|apply zb2|apply zb3));exact BK176.out) hb);replace BK177:=Aside0.mk (blk_below (g:=gb177) (o:=.cells #[.int .i64 0,.int .i64 0,.int .i64 0,.int .i64 0,.string (⟨#[]⟩:ByteArray),.int .i64 0,.int .i64 0,.int .i64 0,.int .i64 0,.int .i64 0,.string (⟨#[]⟩:ByteArray),.int .i64 0,.slice none 0 0,.bool false] 30 (0,0)) (by (with_reducible repeat (first|apply zb1|apply zb2|apply zb3));exact BK177.out) hb);replace HB:=Aside0.mk (below_step (by repeat (first|(with_reducible first|exact HB.out|apply zl1|apply zl2|apply zl3|refine below_set ?_ GE175.out|refine below_set ?_ GE176.out|refine below_set ?_ GE177.out)|exact HB.out)) hb);(try clear hb))|((with_reducible refine gate_callee (f:=33) rfl ?_);refine goesL_ (some 54) rfl rfl Tryd.func33 (by kernel_rfl) rfl #[.pointer (some ⟨gb175,0,none⟩),.int .i64 4,.agg #[.int .i64 t182,.int .i64 t183,.string t184]] rfl (by (try simp only [List.map_toArray,List.map_cons,List.map_nil]);first|done|rfl|(simp only [List.length_drop,List.length_take];rfl)|(simp (disch:=omega) only [u64_in];rfl)) ?_;(with_reducible refine (flows_end.calls gb175 4 t182 t183 t184 (.int .i64 a0_0) (.int .i64 a0_1) (.int .i64 a0_2) (.int .i64 a0_3) (.string a0_4) (.int .i64 x176005_29) (.int .i64 (wrap64 (a0_6 + 1))) (.int .i64 x176007_29) (.int .i64 a0_8) (.int .i64 a0_9) (.string a0_10) (.int .i64 a1_8) (.slice Ao34 t179.length co34) (.bool a0_13) _ ?side1).mono ?_);(case side1=>exact (by (with_reducible repeat (first|apply zb1|apply zb2|apply zb3));exact BK175.out));rintro e w51 ⟨rfl,hx,hg⟩;refine ⟨_,rfl,?_⟩;replace HO_176012:=Aside0.mk (Kd.R_mono (Kd.R_grown (Kd.R_types HO_176012.out BK175.out (by decide)) hg (fun k_ hk_ he_=>(hk_.2) (Option.some.inj he_))) (fun _ h_=>h_.1));replace BK176:=Aside0.mk (blk_grown (g:=gb176) (o:=.cells #[.slice A1_0 l1_0.length c1_0,.slice A1_1 l1_1.length c1_1,.slice A1_2 l1_2.length c1_2,.int .i64 a1_3,.int .i64 a1_4,.int .i64 a1_5,.int .i64 a1_6,.string a1_7,.int .i64 a1_8,.slice A1_9 l1_9.length c1_9] 39 (0,0)) (by (with_reducible repeat (first|apply zb1|apply zb2|apply zb3));exact BK176.out) hg (fun e_=>NB176_175.out (Option.some.inj e_)));replace BK177:=Aside0.mk (blk_grown (g:=gb177) (o:=.cells #[.int .i64 0,.int .i64 0,.int .i64 0,.int .i64 0,.string (⟨#[]⟩:ByteArray),.int .i64 0,.int .i64 0,.int .i64 0,.int .i64 0,.int .i64 0,.string (⟨#[]⟩:ByteArray),.int .i64 0,.slice none 0 0,.bool false] 30 (0,0)) (by (with_reducible repeat (first|apply zb1|apply zb2|apply zb3));exact BK177.out) hg (fun e_=>NB177_175.out (Option.some.inj e_)));replace HB:=Aside0.mk ((fun {W_:World} (hB_:Below w.heap.size w W_) (hg_:W_.grownBy w51 (some gb175))=>hB_.grown hg_ hB_.size (fun k_ e_=>by cases e_;exact GE175.out)) (by repeat (first|(with_reducible first|exact HB.out|apply zl1|apply zl2|apply zl3|refine below_set ?_ GE175.out|refine below_set ?_ GE176.out|refine below_set ?_ GE177.out)|exact HB.out)) hg);replace BK175:=Aside0.mk (hx);clear hx hg))
          go_meet
          case rel=>exact ⟨_,(4),(0),(t182),(t183),(t184),(0),(([]:List (S24))),(0),(0),(0),(0),((⟨#[]⟩:ByteArray)),(0),(0),(0),(0),(0),((⟨#[]⟩:ByteArray)),(0),(false),(.slice none 0 0),H',⟨by have:=HJ29.out;first|omega|exact Nat.le_refl _⟩,⟨by first|exact Kd.R_nil _ _ _ _ _|exact Kd.N_nil _ _ _ _ _|exact Kd.V_nil _ _ _ _ _|exact Kd.Q_nil _ _ _ _ _|exact Kd.S_nil _ _ _ _ _⟩,⟨by (with_reducible repeat (first|apply zb1|apply zb2|apply zb3));exact BK175.out⟩,⟨by (with_reducible repeat (first|apply zb1|apply zb2|apply zb3));exact BK177.out⟩,⟨by repeat (first|(with_reducible first|exact HB.out|apply zl1|apply zl2|apply zl3|refine below_set ?_ GE175.out|refine below_set ?_ GE176.out|refine below_set ?_ GE177.out)|exact HB.out)⟩⟩
        ·rw [if_neg c45] at H
         have c45b0:((wrap64 (a0_6 + 1)) == 24)=false:=beq_eq_false_iff_ne.mpr c45
         have c45b1:((wrap64 (a0_6 + 1)) != 24)=true:=bne_iff_ne.mpr c45
         as_aux_lemma =>
          have H':=Aside0.mk H
          clear H
          have hnb52:=NB175_176.out
          have hnc52:=NB176_175.out
          have hnb53:=NB175_177.out
          have hnc53:=NB177_175.out
          obtain ⟨hcz54_0,hcz54_1,hcz54_2,hcz54_3,hcz54_4,hcz54_5,hcz54_6,hcz54_7,hcz54_8,hcz54_9,hcz54_10,hcz54_11,hcz54_12,hcz54_13⟩:=zc14 BK175.out
          obtain ⟨hfz54_0,hfz54_1,hfz54_2,hfz54_3,hfz54_4,hfz54_5,hfz54_6,hfz54_7,hfz54_8,hfz54_9,hfz54_10,hfz54_11,hfz54_12,hfz54_13⟩:=zf14 BK175.out
          go_wp2
          go_meet
          case rel=>exact ⟨_,(x176005_29),(x176007_29),(a0_8),(a0_9),(a0_10),(a1_8),(t179),(0),(0),(0),(0),((⟨#[]⟩:ByteArray)),(0),(0),(0),(0),(0),((⟨#[]⟩:ByteArray)),(0),(false),(.slice Ao34 t179.length co34),H',⟨by have:=HJ29.out;first|omega|exact Nat.le_refl _⟩,⟨by (with_reducible repeat (first|apply zk1|apply zk2|apply zk3));exact HO_176012.out⟩,⟨by (with_reducible repeat (first|apply zb1|apply zb2|apply zb3));exact BK175.out⟩,⟨by (with_reducible repeat (first|apply zb1|apply zb2|apply zb3));exact BK177.out⟩,⟨by repeat (first|(with_reducible first|exact HB.out|apply zl1|apply zl2|apply zl3|refine below_set ?_ GE175.out|refine below_set ?_ GE176.out|refine below_set ?_ GE177.out)|exact HB.out)⟩⟩
     ·rw [if_neg c28] at H
      have c28b0:(a1_4 == 0)=false:=beq_eq_false_iff_ne.mpr c28
      have c28b1:(a1_4 != 0)=true:=bne_iff_ne.mpr c28
      (first|rw [c28b0]|(simp only [i64_w,i32_w];rw [c28b0])|skip)
      by_cases c55:a1_4=1
      ·rw [if_pos c55] at H
       have c55b0:(a1_4 == 1)=true:=beq_iff_eq.mpr c55
       have c55b1:(a1_4 != 1)=false:=bne_eq_false_iff_eq.mpr c55
       clear c55
       as_aux_lemma =>
        have H':=Aside0.mk H
        clear H
        have hnb56:=NB176_175.out
        have hnc56:=NB175_176.out
        have hnb57:=NB176_177.out
        have hnc57:=NB177_176.out
        obtain ⟨hcz58_0,hcz58_1,hcz58_2,hcz58_3,hcz58_4,hcz58_5,hcz58_6,hcz58_7,hcz58_8,hcz58_9⟩:=zc10 BK176.out
        obtain ⟨hfz58_0,hfz58_1,hfz58_2,hfz58_3,hfz58_4,hfz58_5,hfz58_6,hfz58_7,hfz58_8,hfz58_9⟩:=zf10 BK176.out
        go_wp2_with (first|((with_reducible refine gate_callee (f:=33) rfl ?_);refine goesL_ (some 59) rfl rfl Tryd.func33 (by kernel_rfl) rfl #[.pointer (some ⟨gb175,0,none⟩),.int .i64 3,.agg #[.int .i64 a1_5,.int .i64 a1_6,.string a1_7]] rfl (by (try simp only [List.map_toArray,List.map_cons,List.map_nil]);first|done|rfl|(simp only [List.length_drop,List.length_take];rfl)|(simp (disch:=omega) only [u64_in];rfl)) ?_;(with_reducible refine (flows_end.calls gb175 3 a1_5 a1_6 a1_7 (.int .i64 a0_0) (.int .i64 a0_1) (.int .i64 a0_2) (.int .i64 a0_3) (.string a0_4) (.int .i64 a0_5) (.int .i64 (wrap64 (a0_6 + 1))) (.int .i64 a0_7) (.int .i64 a0_8) (.int .i64 a0_9) (.string a0_10) (.int .i64 a0_11) (.slice A0_12 l0_12.length c0_12) (.bool a0_13) _ ?side1).mono ?_);(case side1=>exact (by apply zpe;(repeat (first|(with_reducible first|apply zb1|apply zb2|apply zb3|apply zpi|exact BK175.out)));rfl));rintro e w59 ⟨rfl,hx,hg⟩;refine ⟨_,rfl,?_⟩;replace BK176:=Aside0.mk (blk_grown (g:=gb176) (o:=.cells #[.slice A1_0 l1_0.length c1_0,.slice A1_1 l1_1.length c1_1,.slice A1_2 l1_2.length c1_2,.int .i64 a1_3,.int .i64 a1_4,.int .i64 a1_5,.int .i64 a1_6,.string a1_7,.int .i64 a1_8,.slice A1_9 l1_9.length c1_9] 39 (0,0)) (by (repeat (first|(with_reducible first|apply zb1|apply zb2|apply zb3|exact BK176.out)|refine blk_far ?_ NB176_175.out _))) hg (fun e_=>NB176_175.out (Option.some.inj e_)));replace BK177:=Aside0.mk (blk_grown (g:=gb177) (o:=.cells #[.int .i64 0,.int .i64 0,.int .i64 0,.int .i64 0,.string (⟨#[]⟩:ByteArray),.int .i64 0,.int .i64 0,.int .i64 0,.int .i64 0,.int .i64 0,.string (⟨#[]⟩:ByteArray),.int .i64 0,.slice none 0 0,.bool false] 30 (0,0)) (by (repeat (first|(with_reducible first|apply zb1|apply zb2|apply zb3|exact BK177.out)|refine blk_far ?_ NB177_175.out _))) hg (fun e_=>NB177_175.out (Option.some.inj e_)));replace HB:=Aside0.mk ((fun {W_:World} (hB_:Below w.heap.size w W_) (hg_:W_.grownBy w59 (some gb175))=>hB_.grown hg_ hB_.size (fun k_ e_=>by cases e_;exact GE175.out)) (by repeat (first|(with_reducible first|exact HB.out|apply zl1|apply zl2|apply zl3|refine below_set ?_ GE175.out|refine below_set ?_ GE176.out|refine below_set ?_ GE177.out)|exact HB.out)) hg);replace BK175:=Aside0.mk (hx);clear hx hg))
        go_meet
        case rel=>exact ⟨_,(3),(0),(a1_5),(a1_6),(a1_7),(0),(([]:List (S24))),(0),(0),(0),(0),((⟨#[]⟩:ByteArray)),(0),(0),(0),(0),(0),((⟨#[]⟩:ByteArray)),(0),(false),(.slice none 0 0),H',⟨by first|omega|exact Nat.le_refl _⟩,⟨by first|exact Kd.R_nil _ _ _ _ _|exact Kd.N_nil _ _ _ _ _|exact Kd.V_nil _ _ _ _ _|exact Kd.Q_nil _ _ _ _ _|exact Kd.S_nil _ _ _ _ _⟩,⟨by (with_reducible repeat (first|apply zb1|apply zb2|apply zb3));exact BK175.out⟩,⟨by (with_reducible repeat (first|apply zb1|apply zb2|apply zb3));exact BK177.out⟩,⟨by repeat (first|(with_reducible first|exact HB.out|apply zl1|apply zl2|apply zl3|refine below_set ?_ GE175.out|refine below_set ?_ GE176.out|refine below_set ?_ GE177.out)|exact HB.out)⟩⟩
      ·rw [if_neg c55] at H
       have c55b0:(a1_4 == 1)=false:=beq_eq_false_iff_ne.mpr c55
       have c55b1:(a1_4 != 1)=true:=bne_iff_ne.mpr c55
       by_cases c60:a1_4=2
       ·rw [if_pos c60] at H
        have c60b0:(a1_4 == 2)=true:=beq_iff_eq.mpr c60
        have c60b1:(a1_4 != 2)=false:=bne_eq_false_iff_eq.mpr c60
        clear c60
        as_aux_lemma =>
         have H':=Aside0.mk H
         clear H
         have hnb61:=NB176_175.out
         have hnc61:=NB175_176.out
         have hnb62:=NB176_177.out
         have hnc62:=NB177_176.out
         obtain ⟨hcz63_0,hcz63_1,hcz63_2,hcz63_3,hcz63_4,hcz63_5,hcz63_6,hcz63_7,hcz63_8,hcz63_9⟩:=zc10 BK176.out
         obtain ⟨hfz63_0,hfz63_1,hfz63_2,hfz63_3,hfz63_4,hfz63_5,hfz63_6,hfz63_7,hfz63_8,hfz63_9⟩:=zf10 BK176.out
         go_wp2_with (first|((with_reducible refine gate_callee (f:=33) rfl ?_);refine goesL_ (some 64) rfl rfl Tryd.func33 (by kernel_rfl) rfl #[.pointer (some ⟨gb175,0,none⟩),.int .i64 4,.agg #[.int .i64 a1_5,.int .i64 a1_6,.string a1_7]] rfl (by (try simp only [List.map_toArray,List.map_cons,List.map_nil]);first|done|rfl|(simp only [List.length_drop,List.length_take];rfl)|(simp (disch:=omega) only [u64_in];rfl)) ?_;(with_reducible refine (flows_end.calls gb175 4 a1_5 a1_6 a1_7 (.int .i64 a0_0) (.int .i64 a0_1) (.int .i64 a0_2) (.int .i64 a0_3) (.string a0_4) (.int .i64 a0_5) (.int .i64 (wrap64 (a0_6 + 1))) (.int .i64 a0_7) (.int .i64 a0_8) (.int .i64 a0_9) (.string a0_10) (.int .i64 a0_11) (.slice A0_12 l0_12.length c0_12) (.bool a0_13) _ ?side1).mono ?_);(case side1=>exact (by apply zpe;(repeat (first|(with_reducible first|apply zb1|apply zb2|apply zb3|apply zpi|exact BK175.out)));rfl));rintro e w64 ⟨rfl,hx,hg⟩;refine ⟨_,rfl,?_⟩;replace BK176:=Aside0.mk (blk_grown (g:=gb176) (o:=.cells #[.slice A1_0 l1_0.length c1_0,.slice A1_1 l1_1.length c1_1,.slice A1_2 l1_2.length c1_2,.int .i64 a1_3,.int .i64 a1_4,.int .i64 a1_5,.int .i64 a1_6,.string a1_7,.int .i64 a1_8,.slice A1_9 l1_9.length c1_9] 39 (0,0)) (by (repeat (first|(with_reducible first|apply zb1|apply zb2|apply zb3|exact BK176.out)|refine blk_far ?_ NB176_175.out _))) hg (fun e_=>NB176_175.out (Option.some.inj e_)));replace BK177:=Aside0.mk (blk_grown (g:=gb177) (o:=.cells #[.int .i64 0,.int .i64 0,.int .i64 0,.int .i64 0,.string (⟨#[]⟩:ByteArray),.int .i64 0,.int .i64 0,.int .i64 0,.int .i64 0,.int .i64 0,.string (⟨#[]⟩:ByteArray),.int .i64 0,.slice none 0 0,.bool false] 30 (0,0)) (by (repeat (first|(with_reducible first|apply zb1|apply zb2|apply zb3|exact BK177.out)|refine blk_far ?_ NB177_175.out _))) hg (fun e_=>NB177_175.out (Option.some.inj e_)));replace HB:=Aside0.mk ((fun {W_:World} (hB_:Below w.heap.size w W_) (hg_:W_.grownBy w64 (some gb175))=>hB_.grown hg_ hB_.size (fun k_ e_=>by cases e_;exact GE175.out)) (by repeat (first|(with_reducible first|exact HB.out|apply zl1|apply zl2|apply zl3|refine below_set ?_ GE175.out|refine below_set ?_ GE176.out|refine below_set ?_ GE177.out)|exact HB.out)) hg);replace BK175:=Aside0.mk (hx);clear hx hg))
         go_meet
         case rel=>exact ⟨_,(4),(0),(a1_5),(a1_6),(a1_7),(0),(([]:List (S24))),(0),(0),(0),(0),((⟨#[]⟩:ByteArray)),(0),(0),(0),(0),(0),((⟨#[]⟩:ByteArray)),(0),(false),(.slice none 0 0),H',⟨by first|omega|exact Nat.le_refl _⟩,⟨by first|exact Kd.R_nil _ _ _ _ _|exact Kd.N_nil _ _ _ _ _|exact Kd.V_nil _ _ _ _ _|exact Kd.Q_nil _ _ _ _ _|exact Kd.S_nil _ _ _ _ _⟩,⟨by (with_reducible repeat (first|apply zb1|apply zb2|apply zb3));exact BK175.out⟩,⟨by (with_reducible repeat (first|apply zb1|apply zb2|apply zb3));exact BK177.out⟩,⟨by repeat (first|(with_reducible first|exact HB.out|apply zl1|apply zl2|apply zl3|refine below_set ?_ GE175.out|refine below_set ?_ GE176.out|refine below_set ?_ GE177.out)|exact HB.out)⟩⟩
       ·rw [if_neg c60] at H
        have c60b0:(a1_4 == 2)=false:=beq_eq_false_iff_ne.mpr c60
        have c60b1:(a1_4 != 2)=true:=bne_iff_ne.mpr c60
        by_cases c65:a1_4=3
        ·rw [if_pos c65] at H
         have c65b0:(a1_4 == 3)=true:=beq_iff_eq.mpr c65
         have c65b1:(a1_4 != 3)=false:=bne_eq_false_iff_eq.mpr c65
         clear c65
         replace H:=Option.bind_eq_some_iff.mp H
         obtain ⟨⟨t185,t186,t187⟩,A660,H⟩:=H
         replace H:(flows_Next.j1 k a0_0 a0_1 a0_2 a0_3 a0_4 4 (wrap64 (a0_6 + 1)) 0 t185 t186 t187 0 ([]:List (S24)) a0_13)=some (r1,r2,r3,r4,r5,r6,r7,r8,r9,r10,r11,r12,r13,r14,r15):=H
         have A66:=Aside0.mk A660
         clear A660
         as_aux_lemma =>
          have H':=Aside0.mk H
          clear H
          go_wp2_with (first|((with_reducible refine gate_callee (f:=34) rfl ?_);refine goesL_ (some 67) rfl rfl Tryd.func34 (by kernel_rfl) rfl #[.int .i64 (-1)] rfl (by (try simp only [List.map_toArray,List.map_cons,List.map_nil]);first|done|rfl|(simp only [List.length_drop,List.length_take];rfl)|(simp (disch:=omega) only [u64_in];rfl)) ?_;(with_reducible refine (flows_fault.calls (-1) t185 t186 t187 _ A66.out).mono ?_);rintro e w67 ⟨rfl,hb⟩;refine ⟨_,rfl,?_⟩;replace BK175:=Aside0.mk (blk_below (g:=gb175) (o:=.cells #[.int .i64 a0_0,.int .i64 a0_1,.int .i64 a0_2,.int .i64 a0_3,.string a0_4,.int .i64 a0_5,.int .i64 (wrap64 (a0_6 + 1)),.int .i64 a0_7,.int .i64 a0_8,.int .i64 a0_9,.string a0_10,.int .i64 a0_11,.slice A0_12 l0_12.length c0_12,.bool a0_13] 30 (0,0)) (by apply zpe;(repeat (first|(with_reducible first|apply zb1|apply zb2|apply zb3|apply zpi|exact BK175.out)));rfl) hb);replace BK176:=Aside0.mk (blk_below (g:=gb176) (o:=.cells #[.slice A1_0 l1_0.length c1_0,.slice A1_1 l1_1.length c1_1,.slice A1_2 l1_2.length c1_2,.int .i64 a1_3,.int .i64 a1_4,.int .i64 a1_5,.int .i64 a1_6,.string a1_7,.int .i64 a1_8,.slice A1_9 l1_9.length c1_9] 39 (0,0)) (by (repeat (first|(with_reducible first|apply zb1|apply zb2|apply zb3|exact BK176.out)|refine blk_far ?_ NB176_175.out _))) hb);replace BK177:=Aside0.mk (blk_below (g:=gb177) (o:=.cells #[.int .i64 0,.int .i64 0,.int .i64 0,.int .i64 0,.string (⟨#[]⟩:ByteArray),.int .i64 0,.int .i64 0,.int .i64 0,.int .i64 0,.int .i64 0,.string (⟨#[]⟩:ByteArray),.int .i64 0,.slice none 0 0,.bool false] 30 (0,0)) (by (repeat (first|(with_reducible first|apply zb1|apply zb2|apply zb3|exact BK177.out)|refine blk_far ?_ NB177_175.out _))) hb);replace HB:=Aside0.mk (below_step (by repeat (first|(with_reducible first|exact HB.out|apply zl1|apply zl2|apply zl3|refine below_set ?_ GE175.out|refine below_set ?_ GE176.out|refine below_set ?_ GE177.out)|exact HB.out)) hb);(try clear hb))|((with_reducible refine gate_callee (f:=33) rfl ?_);refine goesL_ (some 68) rfl rfl Tryd.func33 (by kernel_rfl) rfl #[.pointer (some ⟨gb175,0,none⟩),.int .i64 4,.agg #[.int .i64 t185,.int .i64 t186,.string t187]] rfl (by (try simp only [List.map_toArray,List.map_cons,List.map_nil]);first|done|rfl|(simp only [List.length_drop,List.length_take];rfl)|(simp (disch:=omega) only [u64_in];rfl)) ?_;(with_reducible refine (flows_end.calls gb175 4 t185 t186 t187 (.int .i64 a0_0) (.int .i64 a0_1) (.int .i64 a0_2) (.int .i64 a0_3) (.string a0_4) (.int .i64 a0_5) (.int .i64 (wrap64 (a0_6 + 1))) (.int .i64 a0_7) (.int .i64 a0_8) (.int .i64 a0_9) (.string a0_10) (.int .i64 a0_11) (.slice A0_12 l0_12.length c0_12) (.bool a0_13) _ ?side1).mono ?_);(case side1=>exact (by (with_reducible repeat (first|apply zb1|apply zb2|apply zb3));exact BK175.out));rintro e w68 ⟨rfl,hx,hg⟩;refine ⟨_,rfl,?_⟩;replace BK176:=Aside0.mk (blk_grown (g:=gb176) (o:=.cells #[.slice A1_0 l1_0.length c1_0,.slice A1_1 l1_1.length c1_1,.slice A1_2 l1_2.length c1_2,.int .i64 a1_3,.int .i64 a1_4,.int .i64 a1_5,.int .i64 a1_6,.string a1_7,.int .i64 a1_8,.slice A1_9 l1_9.length c1_9] 39 (0,0)) (by (with_reducible repeat (first|apply zb1|apply zb2|apply zb3));exact BK176.out) hg (fun e_=>NB176_175.out (Option.some.inj e_)));replace BK177:=Aside0.mk (blk_grown (g:=gb177) (o:=.cells #[.int .i64 0,.int .i64 0,.int .i64 0,.int .i64 0,.string (⟨#[]⟩:ByteArray),.int .i64 0,.int .i64 0,.int .i64 0,.int .i64 0,.int .i64 0,.string (⟨#[]⟩:ByteArray),.int .i64 0,.slice none 0 0,.bool false] 30 (0,0)) (by (with_reducible repeat (first|apply zb1|apply zb2|apply zb3));exact BK177.out) hg (fun e_=>NB177_175.out (Option.some.inj e_)));replace HB:=Aside0.mk ((fun {W_:World} (hB_:Below w.heap.size w W_) (hg_:W_.grownBy w68 (some gb175))=>hB_.grown hg_ hB_.size (fun k_ e_=>by cases e_;exact GE175.out)) (by repeat (first|(with_reducible first|exact HB.out|apply zl1|apply zl2|apply zl3|refine below_set ?_ GE175.out|refine below_set ?_ GE176.out|refine below_set ?_ GE177.out)|exact HB.out)) hg);replace BK175:=Aside0.mk (hx);clear hx hg))
          go_meet
          case rel=>exact ⟨_,(4),(0),(t185),(t186),(t187),(0),(([]:List (S24))),(0),(0),(0),(0),((⟨#[]⟩:ByteArray)),(0),(0),(0),(0),(0),((⟨#[]⟩:ByteArray)),(0),(false),(.slice none 0 0),H',⟨by first|omega|exact Nat.le_refl _⟩,⟨by first|exact Kd.R_nil _ _ _ _ _|exact Kd.N_nil _ _ _ _ _|exact Kd.V_nil _ _ _ _ _|exact Kd.Q_nil _ _ _ _ _|exact Kd.S_nil _ _ _ _ _⟩,⟨by (with_reducible repeat (first|apply zb1|apply zb2|apply zb3));exact BK175.out⟩,⟨by (with_reducible repeat (first|apply zb1|apply zb2|apply zb3));exact BK177.out⟩,⟨by repeat (first|(with_reducible first|exact HB.out|apply zl1|apply zl2|apply zl3|refine below_set ?_ GE175.out|refine below_set ?_ GE176.out|refine below_set ?_ GE177.out)|exact HB.out)⟩⟩
        ·rw [if_neg c65] at H
         have c65b0:(a1_4 == 3)=false:=beq_eq_false_iff_ne.mpr c65
         have c65b1:(a1_4 != 3)=true:=bne_iff_ne.mpr c65
         simp only [Option.some.injEq,Prod.mk.injEq] at H
         obtain ⟨rfl,rfl,rfl,rfl,rfl,rfl,rfl,rfl,rfl,rfl,rfl,rfl,rfl,rfl,rfl⟩:=H
         go_wp2_with (first|((with_reducible refine gate_store (t:=30) (p:=6) rfl ?_);refine store_all 30 gb177 30 #[.int .i64 0,.int .i64 0,.int .i64 0,.int .i64 0,.string (⟨#[]⟩:ByteArray),.int .i64 0,.int .i64 0,.int .i64 0,.int .i64 0,.int .i64 0,.string (⟨#[]⟩:ByteArray),.int .i64 0,.slice none 0 0,.bool false] #[.int .i64 0,.int .i64 0,.int .i64 0,.int .i64 0,.string (⟨#[]⟩:ByteArray),.int .i64 0,.int .i64 0,.int .i64 0,.int .i64 0,.int .i64 0,.string (⟨#[]⟩:ByteArray),.int .i64 0,.slice none 0 0,.bool false] rfl rfl rfl (by first|rfl|(go_simp;done)) (by (repeat (first|(with_reducible first|apply zb1|apply zb2|apply zb3|exact BK177.out)|refine blk_far ?_ NB177_175.out _))) (by kernel_rfl) rfl (by kernel_rfl) ?_;intro w69 hx hg;replace BK175:=Aside0.mk (blk_grown (g:=gb175) (o:=.cells #[.int .i64 a0_0,.int .i64 a0_1,.int .i64 a0_2,.int .i64 a0_3,.string a0_4,.int .i64 a0_5,.int .i64 (wrap64 (a0_6 + 1)),.int .i64 a0_7,.int .i64 a0_8,.int .i64 a0_9,.string a0_10,.int .i64 a0_11,.slice A0_12 l0_12.length c0_12,.bool a0_13] 30 (0,0)) (by apply zpe;(repeat (first|(with_reducible first|apply zb1|apply zb2|apply zb3|apply zpi|exact BK175.out)));rfl) hg (fun e_=>NB175_177.out (Option.some.inj e_)));replace BK176:=Aside0.mk (blk_grown (g:=gb176) (o:=.cells #[.slice A1_0 l1_0.length c1_0,.slice A1_1 l1_1.length c1_1,.slice A1_2 l1_2.length c1_2,.int .i64 a1_3,.int .i64 a1_4,.int .i64 a1_5,.int .i64 a1_6,.string a1_7,.int .i64 a1_8,.slice A1_9 l1_9.length c1_9] 39 (0,0)) (by (repeat (first|(with_reducible first|apply zb1|apply zb2|apply zb3|exact BK176.out)|refine blk_far ?_ NB176_175.out _))) hg (fun e_=>NB176_177.out (Option.some.inj e_)));replace HB:=Aside0.mk ((fun {W_:World} (hB_:Below w.heap.size w W_) (hg_:W_.grownBy w69 (some gb177))=>hB_.grown hg_ hB_.size (fun k_ e_=>by cases e_;exact GE177.out)) (by repeat (first|(with_reducible first|exact HB.out|apply zl1|apply zl2|apply zl3|refine below_set ?_ GE175.out|refine below_set ?_ GE176.out|refine below_set ?_ GE177.out)|exact HB.out)) hg);replace BK177:=Aside0.mk (hx);clear hx hg))
         refine bodyPost_ret (results_ct rfl _ _ gb177 30 #[.int .i64 0,.int .i64 0,.int .i64 0,.int .i64 0,.string (⟨#[]⟩:ByteArray),.int .i64 0,.int .i64 0,.int .i64 0,.int .i64 0,.int .i64 0,.string (⟨#[]⟩:ByteArray),.int .i64 0,.slice none 0 0,.bool false] (0,0) _ rfl (by (with_reducible repeat (first|apply zb1|apply zb2|apply zb3));exact BK177.out) Tryd.underlying30 rfl (by kernel_rfl)) rfl ?_
         exact ⟨_,by first|(with_reducible rfl)|(simp only [isEmpty_bne,Bool.not_not] <;> rfl)|rfl|(simp [*,errW_none,errW_some] <;> rfl),by first|exact Kd.R_nil _ _ _ _ _|exact Kd.N_nil _ _ _ _ _|exact Kd.V_nil _ _ _ _ _|exact Kd.Q_nil _ _ _ _ _|exact Kd.S_nil _ _ _ _ _,by repeat (first|(with_reducible first|exact HB.out|apply zl1|apply zl2|apply zl3|refine below_set ?_ GE175.out|refine below_set ?_ GE176.out|refine below_set ?_ GE177.out)|exact HB.out)⟩
    case rest =>
     clear HC17
     try clear c1
     try clear c2
     try clear p2
     try clear c3
     try clear c4
     try clear c5
     try clear c6
     try clear c6b0
     try clear c6b1
     try clear p6
     try clear c7
     try clear c7b0
     try clear c7b1
     try clear c11
     try clear c12
     try clear c21
     try clear c22
     try clear c26
     try clear c28
     try clear c28b0
     try clear c28b1
     try clear c29
     try clear c32
     try clear c33
     try clear c34
     try clear c37
     try clear c38
     try clear c40
     try clear c40b0
     try clear c45
     try clear hcz13_0 hcz13_1 hcz13_10 hcz13_11 hcz13_12 hcz13_13 hcz13_2 hcz13_3 hcz13_4 hcz13_5
     try clear c45b0
     try clear c45b1
     try clear c47
     try clear c48
     try clear c52
     try clear c53
     try clear c55
     try clear c55b0
     try clear c55b1
     try clear c56
     try clear c57
     try clear c60
     try clear c60b0
     try clear c60b1
     try clear c61
     try clear c62
     try clear p64
     try clear c65
     try clear c65b0
     try clear c65b1
     try clear hcz13_6 hcz13_7 hcz13_8 hcz13_9 hcz15_0 hcz15_1 hcz15_10 hcz15_11 hcz15_12 hcz15_13 hcz15_2 hcz15_3 hcz15_4 hcz15_5 hcz15_6 hcz15_7 hcz15_8 hcz15_9 hcz23_0 hcz23_1 hcz23_10 hcz23_11 hcz23_12 hcz23_13 hcz23_2 hcz23_3 hcz23_4 hcz23_5 hcz23_6 hcz23_7
     try clear hcz23_8 hcz23_9 hcz25_0 hcz25_1 hcz25_10 hcz25_11 hcz25_12 hcz25_13 hcz25_2 hcz25_3 hcz25_4 hcz25_5 hcz25_6 hcz25_7 hcz25_8 hcz25_9 hcz27_0 hcz27_1 hcz27_2 hcz27_3 hcz27_4 hcz27_5 hcz27_6 hcz27_7 hcz27_8 hcz27_9 hcz39_0 hcz39_1 hcz39_2 hcz39_3
     try clear hcz39_4 hcz39_5 hcz39_6 hcz39_7 hcz39_8 hcz39_9 hcz49_0 hcz49_1 hcz49_10 hcz49_11 hcz49_12 hcz49_13 hcz49_2 hcz49_3 hcz49_4 hcz49_5 hcz49_6 hcz49_7 hcz49_8 hcz49_9 hcz54_0 hcz54_1 hcz54_10 hcz54_11 hcz54_12 hcz54_13 hcz54_2 hcz54_3 hcz54_4 hcz54_5
     try clear hfz13_0 hfz13_1 hfz13_10 hfz13_11 hfz13_12 hfz13_13
     try clear hcz54_6 hcz54_7 hcz54_8 hcz54_9 hcz58_0 hcz58_1 hcz58_2 hcz58_3 hcz58_4 hcz58_5 hcz58_6 hcz58_7 hcz58_8 hcz58_9 hcz63_0 hcz63_1 hcz63_2 hcz63_3 hcz63_4 hcz63_5 hcz63_6 hcz63_7 hcz63_8 hcz63_9
     try clear hfz13_2 hfz13_3 hfz13_4 hfz13_5 hfz13_6 hfz13_7 hfz13_8 hfz13_9 hfz15_0 hfz15_1 hfz15_10 hfz15_11 hfz15_12 hfz15_13 hfz15_2 hfz15_3 hfz15_4 hfz15_5 hfz15_6 hfz15_7 hfz15_8 hfz15_9 hfz23_0 hfz23_1 hfz23_10 hfz23_11 hfz23_12 hfz23_13 hfz23_2 hfz23_3
     try clear hfz23_4 hfz23_5 hfz23_6 hfz23_7 hfz23_8 hfz23_9 hfz25_0 hfz25_1 hfz25_10 hfz25_11 hfz25_12 hfz25_13 hfz25_2 hfz25_3 hfz25_4 hfz25_5 hfz25_6 hfz25_7 hfz25_8 hfz25_9 hfz27_0 hfz27_1 hfz27_2 hfz27_3 hfz27_4 hfz27_5 hfz27_6 hfz27_7 hfz27_8 hfz27_9
     try clear hfz39_0 hfz39_1 hfz39_2 hfz39_3 hfz39_4 hfz39_5 hfz39_6 hfz39_7 hfz39_8 hfz39_9 hfz49_0 hfz49_1 hfz49_10 hfz49_11 hfz49_12 hfz49_13 hfz49_2 hfz49_3 hfz49_4 hfz49_5 hfz49_6 hfz49_7 hfz49_8 hfz49_9 hfz54_0 hfz54_1 hfz54_10 hfz54_11 hfz54_12 hfz54_13
     try clear hfz54_2 hfz54_3 hfz54_4 hfz54_5 hfz54_6 hfz54_7 hfz54_8 hfz54_9 hfz58_0 hfz58_1 hfz58_2 hfz58_3 hfz58_4 hfz58_5 hfz58_6 hfz58_7 hfz58_8 hfz58_9 hfz63_0 hfz63_1 hfz63_2 hfz63_3 hfz63_4 hfz63_5 hfz63_6 hfz63_7 hfz63_8 hfz63_9
     try clear p2
     try clear p6
     obtain ⟨kq,x176005_16,x176007_16,x176008_16,x176009_16,x176010_16,x176011_16,x176012_16,x178000_16,x178001_16,x178002_16,x178003_16,x178004_16,x178005_16,x178006_16,x178007_16,x178008_16,x178009_16,x178010_16,x178011_16,x178013_16,u176012,HA,HJ16,HO_176012,BK175,BK177,HB⟩:=hcut
     cases kq with
     | zero=>exact absurd HA.out (by simp [flows_Next.j1])
     | succ kj16 =>
      have H:=HA.out
      clear HA
      simp only [flows_Next.j1] at H
      replace H:=Option.bind_eq_some_iff.mp H
      obtain ⟨t188,A700,H⟩:=H
      replace H:(if t188=true then (some (a0_0,a0_1,a0_2,a0_3,a0_4,x176005_16,(wrap64 (a0_6 + 1)),x176007_16,x176008_16,x176009_16,x176010_16,x176011_16,x176012_16,a0_13,0)) else (some (0,0,0,0,(⟨#[]⟩:ByteArray),0,0,0,0,0,(⟨#[]⟩:ByteArray),0,([]:List (S24)),false,4)))=some (r1,r2,r3,r4,r5,r6,r7,r8,r9,r10,r11,r12,r13,r14,r15):=H
      have A70:=Aside0.mk A700
      clear A700
      by_cases c71:t188=true
      ·subst c71
       have H1:(some (a0_0,a0_1,a0_2,a0_3,a0_4,x176005_16,(wrap64 (a0_6 + 1)),x176007_16,x176008_16,x176009_16,x176010_16,x176011_16,x176012_16,a0_13,0))=some (r1,r2,r3,r4,r5,r6,r7,r8,r9,r10,r11,r12,r13,r14,r15):=by rw [if_pos rfl] at H;exact H
       clear H
       have H:=H1
       clear H1
       simp only [Option.some.injEq,Prod.mk.injEq] at H
       obtain ⟨rfl,rfl,rfl,rfl,rfl,rfl,rfl,rfl,rfl,rfl,rfl,rfl,rfl,rfl,rfl⟩:=H
       have hnb72:=NB175_177.out
       have hnc72:=NB177_175.out
       obtain ⟨hcz73_0,hcz73_1,hcz73_2,hcz73_3,hcz73_4,hcz73_5,hcz73_6,hcz73_7,hcz73_8,hcz73_9,hcz73_10,hcz73_11,hcz73_12,hcz73_13⟩:=zc14 BK175.out
       obtain ⟨hfz73_0,hfz73_1,hfz73_2,hfz73_3,hfz73_4,hfz73_5,hfz73_6,hfz73_7,hfz73_8,hfz73_9,hfz73_10,hfz73_11,hfz73_12,hfz73_13⟩:=zf14 BK175.out
       obtain ⟨Ao74,co74,eo74⟩:=Kd.R_slice HO_176012.out
       subst eo74
       go_wp2_with (first|((with_reducible refine gate_callee (f:=29) rfl ?_);refine goesL_ (some 70) rfl rfl Tryd.func29 (by kernel_rfl) rfl #[.agg #[.int .i64 a0_0,.int .i64 a0_1,.int .i64 a0_2,.int .i64 a0_3,.string a0_4,.int .i64 x176005_16,.int .i64 (wrap64 (a0_6 + 1)),.int .i64 x176007_16,.int .i64 x176008_16,.int .i64 x176009_16,.string x176010_16,.int .i64 x176011_16,.slice Ao74 x176012_16.length co74,.bool a0_13]] rfl (by (try simp only [List.map_toArray,List.map_cons,List.map_nil]);first|done|rfl|(simp only [List.length_drop,List.length_take];rfl)|(simp (disch:=omega) only [u64_in];rfl)) ?_;(with_reducible refine (flows_right.calls kj16 a0_0 a0_1 a0_2 a0_3 a0_4 x176005_16 (wrap64 (a0_6 + 1)) x176007_16 x176008_16 x176009_16 x176010_16 x176011_16 _ _ x176012_16 a0_13 true _ ?side1 ?side2 A70.out).mono ?_);(case side1=>repeat (first|exact (Kd.R_reads' HO_176012.out).2.2|(with_reducible refine Kd.C_alloc ?_ _)|(with_reducible refine Kd.C_drewN ?_ _)|(with_reducible refine Kd.C_drew ?_)));(case side2=>exact (Kd.R_reads' HO_176012.out).2.1);rintro e w75 ⟨rfl,hb⟩;refine ⟨_,rfl,?_⟩;replace HO_176012:=Aside0.mk (Kd.R_below (by (with_reducible repeat (first|apply zk1|apply zk2|apply zk3));exact HO_176012.out) hb);replace BK175:=Aside0.mk (blk_below (g:=gb175) (o:=.cells #[.int .i64 a0_0,.int .i64 a0_1,.int .i64 a0_2,.int .i64 a0_3,.string a0_4,.int .i64 x176005_16,.int .i64 (wrap64 (a0_6 + 1)),.int .i64 x176007_16,.int .i64 x176008_16,.int .i64 x176009_16,.string x176010_16,.int .i64 x176011_16,.slice Ao74 x176012_16.length co74,.bool a0_13] 30 (0,0)) (by (with_reducible repeat (first|apply zb1|apply zb2|apply zb3));exact BK175.out) hb);replace BK177:=Aside0.mk (blk_below (g:=gb177) (o:=.cells #[.int .i64 x178000_16,.int .i64 x178001_16,.int .i64 x178002_16,.int .i64 x178003_16,.string x178004_16,.int .i64 x178005_16,.int .i64 x178006_16,.int .i64 x178007_16,.int .i64 x178008_16,.int .i64 x178009_16,.string x178010_16,.int .i64 x178011_16,.slice none 0 0,.bool x178013_16] 30 (0,0)) (by (with_reducible repeat (first|apply zb1|apply zb2|apply zb3));exact BK177.out) hb);replace HB:=Aside0.mk (below_step (by repeat (first|(with_reducible first|exact HB.out|apply zl1|apply zl2|apply zl3|refine below_set ?_ GE175.out|refine below_set ?_ GE177.out)|exact HB.out)) hb);(try clear hb);obtain ⟨hcz76_0,hcz76_1,hcz76_2,hcz76_3,hcz76_4,hcz76_5,hcz76_6,hcz76_7,hcz76_8,hcz76_9,hcz76_10,hcz76_11,hcz76_12,hcz76_13⟩:=zc14 BK175.out;obtain ⟨hfz76_0,hfz76_1,hfz76_2,hfz76_3,hfz76_4,hfz76_5,hfz76_6,hfz76_7,hfz76_8,hfz76_9,hfz76_10,hfz76_11,hfz76_12,hfz76_13⟩:=zf14 BK175.out)|((with_reducible refine gate_store (t:=30) (p:=6) rfl ?_);refine store_all 30 gb177 30 #[.int .i64 x178000_16,.int .i64 x178001_16,.int .i64 x178002_16,.int .i64 x178003_16,.string x178004_16,.int .i64 x178005_16,.int .i64 x178006_16,.int .i64 x178007_16,.int .i64 x178008_16,.int .i64 x178009_16,.string x178010_16,.int .i64 x178011_16,.slice none 0 0,.bool x178013_16] #[.int .i64 a0_0,.int .i64 a0_1,.int .i64 a0_2,.int .i64 a0_3,.string a0_4,.int .i64 x176005_16,.int .i64 (wrap64 (a0_6 + 1)),.int .i64 x176007_16,.int .i64 x176008_16,.int .i64 x176009_16,.string x176010_16,.int .i64 x176011_16,.slice Ao74 x176012_16.length co74,.bool a0_13] rfl rfl rfl (by first|rfl|(go_simp;done)) (by (with_reducible repeat (first|apply zb1|apply zb2|apply zb3));exact BK177.out) (by kernel_rfl) rfl (by kernel_rfl) ?_;intro w77 hx hg;replace HO_176012:=Aside0.mk (Kd.R_mono (Kd.R_grown (Kd.R_types HO_176012.out BK177.out (by decide)) hg (fun k_ hk_ he_=>(hk_.2) (Option.some.inj he_))) (fun _ h_=>h_.1));replace BK175:=Aside0.mk (blk_grown (g:=gb175) (o:=.cells #[.int .i64 a0_0,.int .i64 a0_1,.int .i64 a0_2,.int .i64 a0_3,.string a0_4,.int .i64 x176005_16,.int .i64 (wrap64 (a0_6 + 1)),.int .i64 x176007_16,.int .i64 x176008_16,.int .i64 x176009_16,.string x176010_16,.int .i64 x176011_16,.slice Ao74 x176012_16.length co74,.bool a0_13] 30 (0,0)) (by (with_reducible repeat (first|apply zb1|apply zb2|apply zb3));exact BK175.out) hg (fun e_=>NB175_177.out (Option.some.inj e_)));replace HB:=Aside0.mk ((fun {W_:World} (hB_:Below w.heap.size w W_) (hg_:W_.grownBy w77 (some gb177))=>hB_.grown hg_ hB_.size (fun k_ e_=>by cases e_;exact GE177.out)) (by repeat (first|(with_reducible first|exact HB.out|apply zl1|apply zl2|apply zl3|refine below_set ?_ GE175.out|refine below_set ?_ GE177.out)|exact HB.out)) hg);replace BK177:=Aside0.mk (hx);clear hx hg))
       refine bodyPost_ret (results_ct rfl _ _ gb177 30 #[.int .i64 a0_0,.int .i64 a0_1,.int .i64 a0_2,.int .i64 a0_3,.string a0_4,.int .i64 x176005_16,.int .i64 (wrap64 (a0_6 + 1)),.int .i64 x176007_16,.int .i64 x176008_16,.int .i64 x176009_16,.string x176010_16,.int .i64 x176011_16,.slice Ao74 x176012_16.length co74,.bool a0_13] (0,0) _ rfl (by (with_reducible repeat (first|apply zb1|apply zb2|apply zb3));exact BK177.out) Tryd.underlying30 rfl (by kernel_rfl)) rfl ?_
       exact ⟨_,by first|(with_reducible rfl)|(simp only [isEmpty_bne,Bool.not_not] <;> rfl)|rfl|(simp [*,errW_none,errW_some] <;> rfl),by (with_reducible repeat (first|apply zk1|apply zk2|apply zk3));exact HO_176012.out,by repeat (first|(with_reducible first|exact HB.out|apply zl1|apply zl2|apply zl3|refine below_set ?_ GE175.out|refine below_set ?_ GE177.out)|exact HB.out)⟩
      ·replace c71:=Bool.eq_false_iff.mpr c71
       subst c71
       have H1:(some (0,0,0,0,(⟨#[]⟩:ByteArray),0,0,0,0,0,(⟨#[]⟩:ByteArray),0,([]:List (S24)),false,4))=some (r1,r2,r3,r4,r5,r6,r7,r8,r9,r10,r11,r12,r13,r14,r15):=by rw [if_neg (show ¬ (false=true) by decide)] at H;exact H
       clear H
       have H:=H1
       clear H1
       simp only [Option.some.injEq,Prod.mk.injEq] at H
       obtain ⟨rfl,rfl,rfl,rfl,rfl,rfl,rfl,rfl,rfl,rfl,rfl,rfl,rfl,rfl,rfl⟩:=H
       have hnb78:=NB175_177.out
       have hnc78:=NB177_175.out
       obtain ⟨hcz79_0,hcz79_1,hcz79_2,hcz79_3,hcz79_4,hcz79_5,hcz79_6,hcz79_7,hcz79_8,hcz79_9,hcz79_10,hcz79_11,hcz79_12,hcz79_13⟩:=zc14 BK175.out
       obtain ⟨hfz79_0,hfz79_1,hfz79_2,hfz79_3,hfz79_4,hfz79_5,hfz79_6,hfz79_7,hfz79_8,hfz79_9,hfz79_10,hfz79_11,hfz79_12,hfz79_13⟩:=zf14 BK175.out
       obtain ⟨Ao80,co80,eo80⟩:=Kd.R_slice HO_176012.out
       subst eo80
       go_wp2_with (first|((with_reducible refine gate_callee (f:=29) rfl ?_);refine goesL_ (some 70) rfl rfl Tryd.func29 (by kernel_rfl) rfl #[.agg #[.int .i64 a0_0,.int .i64 a0_1,.int .i64 a0_2,.int .i64 a0_3,.string a0_4,.int .i64 x176005_16,.int .i64 (wrap64 (a0_6 + 1)),.int .i64 x176007_16,.int .i64 x176008_16,.int .i64 x176009_16,.string x176010_16,.int .i64 x176011_16,.slice Ao80 x176012_16.length co80,.bool a0_13]] rfl (by (try simp only [List.map_toArray,List.map_cons,List.map_nil]);first|done|rfl|(simp only [List.length_drop,List.length_take];rfl)|(simp (disch:=omega) only [u64_in];rfl)) ?_;(with_reducible refine (flows_right.calls kj16 a0_0 a0_1 a0_2 a0_3 a0_4 x176005_16 (wrap64 (a0_6 + 1)) x176007_16 x176008_16 x176009_16 x176010_16 x176011_16 _ _ x176012_16 a0_13 false _ ?side1 ?side2 A70.out).mono ?_);(case side1=>repeat (first|exact (Kd.R_reads' HO_176012.out).2.2|(with_reducible refine Kd.C_alloc ?_ _)|(with_reducible refine Kd.C_drewN ?_ _)|(with_reducible refine Kd.C_drew ?_)));(case side2=>exact (Kd.R_reads' HO_176012.out).2.1);rintro e w81 ⟨rfl,hb⟩;refine ⟨_,rfl,?_⟩;replace HO_176012:=Aside0.mk (Kd.R_below (by (with_reducible repeat (first|apply zk1|apply zk2|apply zk3));exact HO_176012.out) hb);replace BK175:=Aside0.mk (blk_below (g:=gb175) (o:=.cells #[.int .i64 a0_0,.int .i64 a0_1,.int .i64 a0_2,.int .i64 a0_3,.string a0_4,.int .i64 x176005_16,.int .i64 (wrap64 (a0_6 + 1)),.int .i64 x176007_16,.int .i64 x176008_16,.int .i64 x176009_16,.string x176010_16,.int .i64 x176011_16,.slice Ao80 x176012_16.length co80,.bool a0_13] 30 (0,0)) (by (with_reducible repeat (first|apply zb1|apply zb2|apply zb3));exact BK175.out) hb);replace BK177:=Aside0.mk (blk_below (g:=gb177) (o:=.cells #[.int .i64 x178000_16,.int .i64 x178001_16,.int .i64 x178002_16,.int .i64 x178003_16,.string x178004_16,.int .i64 x178005_16,.int .i64 x178006_16,.int .i64 x178007_16,.int .i64 x178008_16,.int .i64 x178009_16,.string x178010_16,.int .i64 x178011_16,.slice none 0 0,.bool x178013_16] 30 (0,0)) (by (with_reducible repeat (first|apply zb1|apply zb2|apply zb3));exact BK177.out) hb);replace HB:=Aside0.mk (below_step (by repeat (first|(with_reducible first|exact HB.out|apply zl1|apply zl2|apply zl3|refine below_set ?_ GE175.out|refine below_set ?_ GE177.out)|exact HB.out)) hb);(try clear hb))|((with_reducible refine gate_store (t:=30) (p:=6) rfl ?_);refine store_all 30 gb177 30 #[.int .i64 x178000_16,.int .i64 x178001_16,.int .i64 x178002_16,.int .i64 x178003_16,.string x178004_16,.int .i64 x178005_16,.int .i64 x178006_16,.int .i64 x178007_16,.int .i64 x178008_16,.int .i64 x178009_16,.string x178010_16,.int .i64 x178011_16,.slice none 0 0,.bool x178013_16] #[.int .i64 0,.int .i64 0,.int .i64 0,.int .i64 0,.string (⟨#[]⟩:ByteArray),.int .i64 0,.int .i64 0,.int .i64 0,.int .i64 0,.int .i64 0,.string (⟨#[]⟩:ByteArray),.int .i64 0,.slice none 0 0,.bool false] rfl rfl rfl (by first|rfl|(go_simp;done)) (by (with_reducible repeat (first|apply zb1|apply zb2|apply zb3));exact BK177.out) (by kernel_rfl) rfl (by kernel_rfl) ?_;intro w82 hx hg;replace HO_176012:=Aside0.mk (Kd.R_mono (Kd.R_grown (Kd.R_types HO_176012.out BK177.out (by decide)) hg (fun k_ hk_ he_=>(hk_.2) (Option.some.inj he_))) (fun _ h_=>h_.1));replace BK175:=Aside0.mk (blk_grown (g:=gb175) (o:=.cells #[.int .i64 a0_0,.int .i64 a0_1,.int .i64 a0_2,.int .i64 a0_3,.string a0_4,.int .i64 x176005_16,.int .i64 (wrap64 (a0_6 + 1)),.int .i64 x176007_16,.int .i64 x176008_16,.int .i64 x176009_16,.string x176010_16,.int .i64 x176011_16,.slice Ao80 x176012_16.length co80,.bool a0_13] 30 (0,0)) (by (with_reducible repeat (first|apply zb1|apply zb2|apply zb3));exact BK175.out) hg (fun e_=>NB175_177.out (Option.some.inj e_)));replace HB:=Aside0.mk ((fun {W_:World} (hB_:Below w.heap.size w W_) (hg_:W_.grownBy w82 (some gb177))=>hB_.grown hg_ hB_.size (fun k_ e_=>by cases e_;exact GE177.out)) (by repeat (first|(with_reducible first|exact HB.out|apply zl1|apply zl2|apply zl3|refine below_set ?_ GE175.out|refine below_set ?_ GE177.out)|exact HB.out)) hg);replace BK177:=Aside0.mk (hx);clear hx hg))
       refine bodyPost_ret (results_ct rfl _ _ gb177 30 #[.int .i64 0,.int .i64 0,.int .i64 0,.int .i64 0,.string (⟨#[]⟩:ByteArray),.int .i64 0,.int .i64 0,.int .i64 0,.int .i64 0,.int .i64 0,.string (⟨#[]⟩:ByteArray),.int .i64 0,.slice none 0 0,.bool false] (0,0) _ rfl (by (with_reducible repeat (first|apply zb1|apply zb2|apply zb3));exact BK177.out) Tryd.underlying30 rfl (by kernel_rfl)) rfl ?_
       exact ⟨_,by first|(with_reducible rfl)|(simp only [isEmpty_bne,Bool.not_not] <;> rfl)|rfl|(simp [*,errW_none,errW_some] <;> rfl),by first|exact Kd.R_nil _ _ _ _ _|exact Kd.N_nil _ _ _ _ _|exact Kd.V_nil _ _ _ _ _|exact Kd.Q_nil _ _ _ _ _|exact Kd.S_nil _ _ _ _ _,by repeat (first|(with_reducible first|exact HB.out|apply zl1|apply zl2|apply zl3|refine below_set ?_ GE175.out|refine below_set ?_ GE177.out)|exact HB.out)⟩
  ·rw [if_neg c6] at H
   have c6b0:(a0_5 == 1)=false:=beq_eq_false_iff_ne.mpr c6
   have c6b1:(a0_5 != 1)=true:=bne_iff_ne.mpr c6
   simp only [Option.some.injEq,Prod.mk.injEq] at H
   obtain ⟨rfl,rfl,rfl,rfl,rfl,rfl,rfl,rfl,rfl,rfl,rfl,rfl,rfl,rfl,rfl⟩:=H
   go_enter Tryd.func12,Tryd.ntmps12
   go_wp2_with (first|((with_reducible refine gate_dst (N:=3) rfl ?_);refine box_event ?hg (N:=3) ?hd (cs:=#[.int .i64 a0_0,.int .i64 a0_1,.int .i64 a0_2,.int .i64 a0_3,.string a0_4,.int .i64 a0_5,.int .i64 a0_6,.int .i64 a0_7,.int .i64 a0_8,.int .i64 a0_9,.string a0_10,.int .i64 a0_11,.slice A0_12 l0_12.length c0_12,.bool a0_13]) (t:=30) ?hr ?_;(case hd=>rfl);(case hg=>rfl);(case hr=>first|(go_simp;done)|(go_simp;rfl));intro gb175 hg w83 hbox hb;have BK175:=Aside0.mk (hbox);have GW175:=Aside0.mk ((by rw [hg];exact (below_size (by repeat (first|(with_reducible first|exact HB.out|apply zl1|apply zl2|apply zl3)|exact HB.out))):w.heap.size≤gb175));have GE175:=Aside0.mk ((by rw [hg];exact (below_size (by repeat (first|(with_reducible first|exact HB.out|apply zl1|apply zl2|apply zl3)|exact HB.out))):w.heap.size≤gb175));replace HB:=Aside0.mk (below_step (by repeat (first|(with_reducible first|exact HB.out|apply zl1|apply zl2|apply zl3)|exact HB.out)) hb);clear hb hbox hg)|((with_reducible refine gate_dst (N:=4) rfl ?_);refine box_event ?hg (N:=4) ?hd (cs:=#[.slice A1_0 l1_0.length c1_0,.slice A1_1 l1_1.length c1_1,.slice A1_2 l1_2.length c1_2,.int .i64 a1_3,.int .i64 a1_4,.int .i64 a1_5,.int .i64 a1_6,.string a1_7,.int .i64 a1_8,.slice A1_9 l1_9.length c1_9]) (t:=39) ?hr ?_;(case hd=>rfl);(case hg=>rfl);(case hr=>first|(go_simp;done)|(go_simp;rfl));intro gb176 hg w84 hbox hb;have BK176:=Aside0.mk (hbox);have GW176:=Aside0.mk ((by rw [hg];exact (below_size (by repeat (first|(with_reducible first|exact HB.out|apply zl1|apply zl2|apply zl3|refine below_set ?_ GE175.out)|exact HB.out))):w.heap.size≤gb176));have GE176:=Aside0.mk ((by rw [hg];exact (below_size (by repeat (first|(with_reducible first|exact HB.out|apply zl1|apply zl2|apply zl3|refine below_set ?_ GE175.out)|exact HB.out))):w.heap.size≤gb176));replace HB:=Aside0.mk (below_step (by repeat (first|(with_reducible first|exact HB.out|apply zl1|apply zl2|apply zl3|refine below_set ?_ GE175.out)|exact HB.out)) hb);have NB175_176:=Aside0.mk ((by rw [hg];exact Nat.ne_of_lt (blk_lt (g:=gb175) (o:=.cells #[.int .i64 a0_0,.int .i64 a0_1,.int .i64 a0_2,.int .i64 a0_3,.string a0_4,.int .i64 a0_5,.int .i64 a0_6,.int .i64 a0_7,.int .i64 a0_8,.int .i64 a0_9,.string a0_10,.int .i64 a0_11,.slice A0_12 l0_12.length c0_12,.bool a0_13] 30 (0,0)) (by (with_reducible repeat (first|apply zb1|apply zb2|apply zb3));exact BK175.out)):gb175 ≠ gb176));have NB176_175:=Aside0.mk ((by rw [hg];exact Nat.ne_of_gt (blk_lt (g:=gb175) (o:=.cells #[.int .i64 a0_0,.int .i64 a0_1,.int .i64 a0_2,.int .i64 a0_3,.string a0_4,.int .i64 a0_5,.int .i64 a0_6,.int .i64 a0_7,.int .i64 a0_8,.int .i64 a0_9,.string a0_10,.int .i64 a0_11,.slice A0_12 l0_12.length c0_12,.bool a0_13] 30 (0,0)) (by (with_reducible repeat (first|apply zb1|apply zb2|apply zb3));exact BK175.out)):gb176 ≠ gb175));replace BK175:=Aside0.mk (blk_below (g:=gb175) (o:=.cells #[.int .i64 a0_0,.int .i64 a0_1,.int .i64 a0_2,.int .i64 a0_3,.string a0_4,.int .i64 a0_5,.int .i64 a0_6,.int .i64 a0_7,.int .i64 a0_8,.int .i64 a0_9,.string a0_10,.int .i64 a0_11,.slice A0_12 l0_12.length c0_12,.bool a0_13] 30 (0,0)) (by (with_reducible repeat (first|apply zb1|apply zb2|apply zb3));exact BK175.out) hb);clear hb hbox hg)|((with_reducible refine gate_dst (N:=6) rfl ?_);refine box_event ?hg (N:=6) ?hd (cs:=#[.int .i64 0,.int .i64 0,.int .i64 0,.int .i64 0,.string (⟨#[]⟩:ByteArray),.int .i64 0,.int .i64 0,.int .i64 0,.int .i64 0,.int .i64 0,.string (⟨#[]⟩:ByteArray),.int .i64 0,.slice none 0 0,.bool false]) (t:=30) ?hr ?_;(case hd=>rfl);(case hg=>rfl);(case hr=>first|(go_simp;done)|(go_simp;rfl));intro gb177 hg w85 hbox hb;have BK177:=Aside0.mk (hbox);have GW177:=Aside0.mk ((by rw [hg];exact (below_size (by repeat (first|(with_reducible first|exact HB.out|apply zl1|apply zl2|apply zl3|refine below_set ?_ GE175.out|refine below_set ?_ GE176.out)|exact HB.out))):w.heap.size≤gb177));have GE177:=Aside0.mk ((by rw [hg];exact (below_size (by repeat (first|(with_reducible first|exact HB.out|apply zl1|apply zl2|apply zl3|refine below_set ?_ GE175.out|refine below_set ?_ GE176.out)|exact HB.out))):w.heap.size≤gb177));replace HB:=Aside0.mk (below_step (by repeat (first|(with_reducible first|exact HB.out|apply zl1|apply zl2|apply zl3|refine below_set ?_ GE175.out|refine below_set ?_ GE176.out)|exact HB.out)) hb);have NB175_177:=Aside0.mk ((by rw [hg];exact Nat.ne_of_lt (blk_lt (g:=gb175) (o:=.cells #[.int .i64 a0_0,.int .i64 a0_1,.int .i64 a0_2,.int .i64 a0_3,.string a0_4,.int .i64 a0_5,.int .i64 a0_6,.int .i64 a0_7,.int .i64 a0_8,.int .i64 a0_9,.string a0_10,.int .i64 a0_11,.slice A0_12 l0_12.length c0_12,.bool a0_13] 30 (0,0)) (by (with_reducible repeat (first|apply zb1|apply zb2|apply zb3));exact BK175.out)):gb175 ≠ gb177));have NB177_175:=Aside0.mk ((by rw [hg];exact Nat.ne_of_gt (blk_lt (g:=gb175) (o:=.cells #[.int .i64 a0_0,.int .i64 a0_1,.int .i64 a0_2,.int .i64 a0_3,.string a0_4,.int .i64 a0_5,.int .i64 a0_6,.int .i64 a0_7,.int .i64 a0_8,.int .i64 a0_9,.string a0_10,.int .i64 a0_11,.slice A0_12 l0_12.length c0_12,.bool a0_13] 30 (0,0)) (by (with_reducible repeat (first|apply zb1|apply zb2|apply zb3));exact BK175.out)):gb177 ≠ gb175));replace BK175:=Aside0.mk (blk_below (g:=gb175) (o:=.cells #[.int .i64 a0_0,.int .i64 a0_1,.int .i64 a0_2,.int .i64 a0_3,.string a0_4,.int .i64 a0_5,.int .i64 a0_6,.int .i64 a0_7,.int .i64 a0_8,.int .i64 a0_9,.string a0_10,.int .i64 a0_11,.slice A0_12 l0_12.length c0_12,.bool a0_13] 30 (0,0)) (by (with_reducible repeat (first|apply zb1|apply zb2|apply zb3));exact BK175.out) hb);have NB176_177:=Aside0.mk ((by rw [hg];exact Nat.ne_of_lt (blk_lt (g:=gb176) (o:=.cells #[.slice A1_0 l1_0.length c1_0,.slice A1_1 l1_1.length c1_1,.slice A1_2 l1_2.length c1_2,.int .i64 a1_3,.int .i64 a1_4,.int .i64 a1_5,.int .i64 a1_6,.string a1_7,.int .i64 a1_8,.slice A1_9 l1_9.length c1_9] 39 (0,0)) (by (with_reducible repeat (first|apply zb1|apply zb2|apply zb3));exact BK176.out)):gb176 ≠ gb177));have NB177_176:=Aside0.mk ((by rw [hg];exact Nat.ne_of_gt (blk_lt (g:=gb176) (o:=.cells #[.slice A1_0 l1_0.length c1_0,.slice A1_1 l1_1.length c1_1,.slice A1_2 l1_2.length c1_2,.int .i64 a1_3,.int .i64 a1_4,.int .i64 a1_5,.int .i64 a1_6,.string a1_7,.int .i64 a1_8,.slice A1_9 l1_9.length c1_9] 39 (0,0)) (by (with_reducible repeat (first|apply zb1|apply zb2|apply zb3));exact BK176.out)):gb177 ≠ gb176));replace BK176:=Aside0.mk (blk_below (g:=gb176) (o:=.cells #[.slice A1_0 l1_0.length c1_0,.slice A1_1 l1_1.length c1_1,.slice A1_2 l1_2.length c1_2,.int .i64 a1_3,.int .i64 a1_4,.int .i64 a1_5,.int .i64 a1_6,.string a1_7,.int .i64 a1_8,.slice A1_9 l1_9.length c1_9] 39 (0,0)) (by (with_reducible repeat (first|apply zb1|apply zb2|apply zb3));exact BK176.out) hb);clear hb hbox hg;have hnb86:=NB175_176.out;have hnc86:=NB176_175.out;have hnb87:=NB175_177.out;have hnc87:=NB177_175.out;obtain ⟨hcz88_0,hcz88_1,hcz88_2,hcz88_3,hcz88_4,hcz88_5,hcz88_6,hcz88_7,hcz88_8,hcz88_9,hcz88_10,hcz88_11,hcz88_12,hcz88_13⟩:=zc14 BK175.out;obtain ⟨hfz88_0,hfz88_1,hfz88_2,hfz88_3,hfz88_4,hfz88_5,hfz88_6,hfz88_7,hfz88_8,hfz88_9,hfz88_10,hfz88_11,hfz88_12,hfz88_13⟩:=zf14 BK175.out)|((with_reducible refine gate_callee (f:=29) rfl ?_);refine goesL_ (some 10) rfl rfl Tryd.func29 (by kernel_rfl) rfl #[.agg #[.int .i64 a0_0,.int .i64 a0_1,.int .i64 a0_2,.int .i64 a0_3,.string a0_4,.int .i64 a0_5,.int .i64 a0_6,.int .i64 a0_7,.int .i64 a0_8,.int .i64 a0_9,.string a0_10,.int .i64 a0_11,.slice A0_12 l0_12.length c0_12,.bool a0_13]] rfl (by (try simp only [List.map_toArray,List.map_cons,List.map_nil]);first|done|rfl|(simp only [List.length_drop,List.length_take];rfl)|(simp (disch:=omega) only [u64_in];rfl)) ?_;(with_reducible refine (flows_right.calls k a0_0 a0_1 a0_2 a0_3 a0_4 a0_5 a0_6 a0_7 a0_8 a0_9 a0_10 a0_11 _ _ l0_12 a0_13 true _ ?side1 ?side2 A4.out).mono ?_);(case side1=>repeat (first|exact (Kd.C_below HR0_12.out HB.out)|(with_reducible refine Kd.C_alloc ?_ _)|(with_reducible refine Kd.C_drewN ?_ _)|(with_reducible refine Kd.C_drew ?_)));(case side2=>exact HC0_12.out);rintro e w89 ⟨rfl,hb⟩;refine ⟨_,rfl,?_⟩;replace BK175:=Aside0.mk (blk_below (g:=gb175) (o:=.cells #[.int .i64 a0_0,.int .i64 a0_1,.int .i64 a0_2,.int .i64 a0_3,.string a0_4,.int .i64 a0_5,.int .i64 a0_6,.int .i64 a0_7,.int .i64 a0_8,.int .i64 a0_9,.string a0_10,.int .i64 a0_11,.slice A0_12 l0_12.length c0_12,.bool a0_13] 30 (0,0)) (by (with_reducible repeat (first|apply zb1|apply zb2|apply zb3));exact BK175.out) hb);replace BK176:=Aside0.mk (blk_below (g:=gb176) (o:=.cells #[.slice A1_0 l1_0.length c1_0,.slice A1_1 l1_1.length c1_1,.slice A1_2 l1_2.length c1_2,.int .i64 a1_3,.int .i64 a1_4,.int .i64 a1_5,.int .i64 a1_6,.string a1_7,.int .i64 a1_8,.slice A1_9 l1_9.length c1_9] 39 (0,0)) (by (with_reducible repeat (first|apply zb1|apply zb2|apply zb3));exact BK176.out) hb);replace BK177:=Aside0.mk (blk_below (g:=gb177) (o:=.cells #[.int .i64 0,.int .i64 0,.int .i64 0,.int .i64 0,.string (⟨#[]⟩:ByteArray),.int .i64 0,.int .i64 0,.int .i64 0,.int .i64 0,.int .i64 0,.string (⟨#[]⟩:ByteArray),.int .i64 0,.slice none 0 0,.bool false] 30 (0,0)) (by (with_reducible repeat (first|apply zb1|apply zb2|apply zb3));exact BK177.out) hb);replace HB:=Aside0.mk (below_step (by repeat (first|(with_reducible first|exact HB.out|apply zl1|apply zl2|apply zl3|refine below_set ?_ GE175.out|refine below_set ?_ GE176.out|refine below_set ?_ GE177.out)|exact HB.out)) hb);(try clear hb);obtain ⟨hcz90_0,hcz90_1,hcz90_2,hcz90_3,hcz90_4,hcz90_5,hcz90_6,hcz90_7,hcz90_8,hcz90_9,hcz90_10,hcz90_11,hcz90_12,hcz90_13⟩:=zc14 BK175.out;obtain ⟨hfz90_0,hfz90_1,hfz90_2,hfz90_3,hfz90_4,hfz90_5,hfz90_6,hfz90_7,hfz90_8,hfz90_9,hfz90_10,hfz90_11,hfz90_12,hfz90_13⟩:=zf14 BK175.out)|((with_reducible refine gate_store (t:=30) (p:=6) rfl ?_);refine store_all 30 gb177 30 #[.int .i64 0,.int .i64 0,.int .i64 0,.int .i64 0,.string (⟨#[]⟩:ByteArray),.int .i64 0,.int .i64 0,.int .i64 0,.int .i64 0,.int .i64 0,.string (⟨#[]⟩:ByteArray),.int .i64 0,.slice none 0 0,.bool false] #[.int .i64 0,.int .i64 0,.int .i64 0,.int .i64 0,.string (⟨#[]⟩:ByteArray),.int .i64 0,.int .i64 0,.int .i64 0,.int .i64 0,.int .i64 0,.string (⟨#[]⟩:ByteArray),.int .i64 0,.slice none 0 0,.bool false] rfl rfl rfl (by first|rfl|(go_simp;done)) (by (with_reducible repeat (first|apply zb1|apply zb2|apply zb3));exact BK177.out) (by kernel_rfl) rfl (by kernel_rfl) ?_;intro w91 hx hg;replace BK175:=Aside0.mk (blk_grown (g:=gb175) (o:=.cells #[.int .i64 a0_0,.int .i64 a0_1,.int .i64 a0_2,.int .i64 a0_3,.string a0_4,.int .i64 a0_5,.int .i64 a0_6,.int .i64 a0_7,.int .i64 a0_8,.int .i64 a0_9,.string a0_10,.int .i64 a0_11,.slice A0_12 l0_12.length c0_12,.bool a0_13] 30 (0,0)) (by (with_reducible repeat (first|apply zb1|apply zb2|apply zb3));exact BK175.out) hg (fun e_=>NB175_177.out (Option.some.inj e_)));replace BK176:=Aside0.mk (blk_grown (g:=gb176) (o:=.cells #[.slice A1_0 l1_0.length c1_0,.slice A1_1 l1_1.length c1_1,.slice A1_2 l1_2.length c1_2,.int .i64 a1_3,.int .i64 a1_4,.int .i64 a1_5,.int .i64 a1_6,.string a1_7,.int .i64 a1_8,.slice A1_9 l1_9.length c1_9] 39 (0,0)) (by (with_reducible repeat (first|apply zb1|apply zb2|apply zb3));exact BK176.out) hg (fun e_=>NB176_177.out (Option.some.inj e_)));replace HB:=Aside0.mk ((fun {W_:World} (hB_:Below w.heap.size w W_) (hg_:W_.grownBy w91 (some gb177))=>hB_.grown hg_ hB_.size (fun k_ e_=>by cases e_;exact GE177.out)) (by repeat (first|(with_reducible first|exact HB.out|apply zl1|apply zl2|apply zl3|refine below_set ?_ GE175.out|refine below_set ?_ GE176.out|refine below_set ?_ GE177.out)|exact HB.out)) hg);replace BK177:=Aside0.mk (hx);clear hx hg))
   refine bodyPost_ret (results_ct rfl _ _ gb177 30 #[.int .i64 0,.int .i64 0,.int .i64 0,.int .i64 0,.string (⟨#[]⟩:ByteArray),.int .i64 0,.int .i64 0,.int .i64 0,.int .i64 0,.int .i64 0,.string (⟨#[]⟩:ByteArray),.int .i64 0,.slice none 0 0,.bool false] (0,0) _ rfl (by (with_reducible repeat (first|apply zb1|apply zb2|apply zb3));exact BK177.out) Tryd.underlying30 rfl (by kernel_rfl)) rfl ?_
   exact ⟨_,by first|(with_reducible rfl)|(simp only [isEmpty_bne,Bool.not_not] <;> rfl)|rfl|(simp [*,errW_none,errW_some] <;> rfl),by first|exact Kd.R_nil _ _ _ _ _|exact Kd.N_nil _ _ _ _ _|exact Kd.V_nil _ _ _ _ _|exact Kd.Q_nil _ _ _ _ _|exact Kd.S_nil _ _ _ _ _,by repeat (first|(with_reducible first|exact HB.out|apply zl1|apply zl2|apply zl3|refine below_set ?_ GE175.out|refine below_set ?_ GE176.out|refine below_set ?_ GE177.out)|exact HB.out)⟩
 ·replace c5:=Bool.eq_false_iff.mpr c5
  subst c5
  have H1:(some (0,0,0,0,(⟨#[]⟩:ByteArray),0,0,0,0,0,(⟨#[]⟩:ByteArray),0,([]:List (S24)),false,4))=some (r1,r2,r3,r4,r5,r6,r7,r8,r9,r10,r11,r12,r13,r14,r15):=by rw [if_neg (show ¬ (false=true) by decide)] at H;exact H
  clear H
  have H:=H1
  clear H1
  simp only [Option.some.injEq,Prod.mk.injEq] at H
  obtain ⟨rfl,rfl,rfl,rfl,rfl,rfl,rfl,rfl,rfl,rfl,rfl,rfl,rfl,rfl,rfl⟩:=H
  go_enter Tryd.func12,Tryd.ntmps12
  go_wp2_with (first|((with_reducible refine gate_dst (N:=3) rfl ?_);refine box_event ?hg (N:=3) ?hd (cs:=#[.int .i64 a0_0,.int .i64 a0_1,.int .i64 a0_2,.int .i64 a0_3,.string a0_4,.int .i64 a0_5,.int .i64 a0_6,.int .i64 a0_7,.int .i64 a0_8,.int .i64 a0_9,.string a0_10,.int .i64 a0_11,.slice A0_12 l0_12.length c0_12,.bool a0_13]) (t:=30) ?hr ?_;(case hd=>rfl);(case hg=>rfl);(case hr=>first|(go_simp;done)|(go_simp;rfl));intro gb175 hg w92 hbox hb;have BK175:=Aside0.mk (hbox);have GW175:=Aside0.mk ((by rw [hg];exact (below_size (by repeat (first|(with_reducible first|exact HB.out|apply zl1|apply zl2|apply zl3)|exact HB.out))):w.heap.size≤gb175));have GE175:=Aside0.mk ((by rw [hg];exact (below_size (by repeat (first|(with_reducible first|exact HB.out|apply zl1|apply zl2|apply zl3)|exact HB.out))):w.heap.size≤gb175));replace HB:=Aside0.mk (below_step (by repeat (first|(with_reducible first|exact HB.out|apply zl1|apply zl2|apply zl3)|exact HB.out)) hb);clear hb hbox hg)|((with_reducible refine gate_dst (N:=4) rfl ?_);refine box_event ?hg (N:=4) ?hd (cs:=#[.slice A1_0 l1_0.length c1_0,.slice A1_1 l1_1.length c1_1,.slice A1_2 l1_2.length c1_2,.int .i64 a1_3,.int .i64 a1_4,.int .i64 a1_5,.int .i64 a1_6,.string a1_7,.int .i64 a1_8,.slice A1_9 l1_9.length c1_9]) (t:=39) ?hr ?_;(case hd=>rfl);(case hg=>rfl);(case hr=>first|(go_simp;done)|(go_simp;rfl));intro gb176 hg w93 hbox hb;have BK176:=Aside0.mk (hbox);have GW176:=Aside0.mk ((by rw [hg];exact (below_size (by repeat (first|(with_reducible first|exact HB.out|apply zl1|apply zl2|apply zl3|refine below_set ?_ GE175.out)|exact HB.out))):w.heap.size≤gb176));have GE176:=Aside0.mk ((by rw [hg];exact (below_size (by repeat (first|(with_reducible first|exact HB.out|apply zl1|apply zl2|apply zl3|refine below_set ?_ GE175.out)|exact HB.out))):w.heap.size≤gb176));replace HB:=Aside0.mk (below_step (by repeat (first|(with_reducible first|exact HB.out|apply zl1|apply zl2|apply zl3|refine below_set ?_ GE175.out)|exact HB.out)) hb);have NB175_176:=Aside0.mk ((by rw [hg];exact Nat.ne_of_lt (blk_lt (g:=gb175) (o:=.cells #[.int .i64 a0_0,.int .i64 a0_1,.int .i64 a0_2,.int .i64 a0_3,.string a0_4,.int .i64 a0_5,.int .i64 a0_6,.int .i64 a0_7,.int .i64 a0_8,.int .i64 a0_9,.string a0_10,.int .i64 a0_11,.slice A0_12 l0_12.length c0_12,.bool a0_13] 30 (0,0)) (by (with_reducible repeat (first|apply zb1|apply zb2|apply zb3));exact BK175.out)):gb175 ≠ gb176));have NB176_175:=Aside0.mk ((by rw [hg];exact Nat.ne_of_gt (blk_lt (g:=gb175) (o:=.cells #[.int .i64 a0_0,.int .i64 a0_1,.int .i64 a0_2,.int .i64 a0_3,.string a0_4,.int .i64 a0_5,.int .i64 a0_6,.int .i64 a0_7,.int .i64 a0_8,.int .i64 a0_9,.string a0_10,.int .i64 a0_11,.slice A0_12 l0_12.length c0_12,.bool a0_13] 30 (0,0)) (by (with_reducible repeat (first|apply zb1|apply zb2|apply zb3));exact BK175.out)):gb176 ≠ gb175));replace BK175:=Aside0.mk (blk_below (g:=gb175) (o:=.cells #[.int .i64 a0_0,.int .i64 a0_1,.int .i64 a0_2,.int .i64 a0_3,.string a0_4,.int .i64 a0_5,.int .i64 a0_6,.int .i64 a0_7,.int .i64 a0_8,.int .i64 a0_9,.string a0_10,.int .i64 a0_11,.slice A0_12 l0_12.length c0_12,.bool a0_13] 30 (0,0)) (by (with_reducible repeat (first|apply zb1|apply zb2|apply zb3));exact BK175.out) hb);clear hb hbox hg)|((with_reducible refine gate_dst (N:=6) rfl ?_);refine box_event ?hg (N:=6) ?hd (cs:=#[.int .i64 0,.int .i64 0,.int .i64 0,.int .i64 0,.string (⟨#[]⟩:ByteArray),.int .i64 0,.int .i64 0,.int .i64 0,.int .i64 0,.int .i64 0,.string (⟨#[]⟩:ByteArray),.int .i64 0,.slice none 0 0,.bool false]) (t:=30) ?hr ?_;(case hd=>rfl);(case hg=>rfl);(case hr=>first|(go_simp;done)|(go_simp;rfl));intro gb177 hg w94 hbox hb;have BK177:=Aside0.mk (hbox);have GW177:=Aside0.mk ((by rw [hg];exact (below_size (by repeat (first|(with_reducible first|exact HB.out|apply zl1|apply zl2|apply zl3|refine below_set ?_ GE175.out|refine below_set ?_ GE176.out)|exact HB.out))):w.heap.size≤gb177));have GE177:=Aside0.mk ((by rw [hg];exact (below_size (by repeat (first|(with_reducible first|exact HB.out|apply zl1|apply zl2|apply zl3|refine below_set ?_ GE175.out|refine below_set ?_ GE176.out)|exact HB.out))):w.heap.size≤gb177));replace HB:=Aside0.mk (below_step (by repeat (first|(with_reducible first|exact HB.out|apply zl1|apply zl2|apply zl3|refine below_set ?_ GE175.out|refine below_set ?_ GE176.out)|exact HB.out)) hb);have NB175_177:=Aside0.mk ((by rw [hg];exact Nat.ne_of_lt (blk_lt (g:=gb175) (o:=.cells #[.int .i64 a0_0,.int .i64 a0_1,.int .i64 a0_2,.int .i64 a0_3,.string a0_4,.int .i64 a0_5,.int .i64 a0_6,.int .i64 a0_7,.int .i64 a0_8,.int .i64 a0_9,.string a0_10,.int .i64 a0_11,.slice A0_12 l0_12.length c0_12,.bool a0_13] 30 (0,0)) (by (with_reducible repeat (first|apply zb1|apply zb2|apply zb3));exact BK175.out)):gb175 ≠ gb177));have NB177_175:=Aside0.mk ((by rw [hg];exact Nat.ne_of_gt (blk_lt (g:=gb175) (o:=.cells #[.int .i64 a0_0,.int .i64 a0_1,.int .i64 a0_2,.int .i64 a0_3,.string a0_4,.int .i64 a0_5,.int .i64 a0_6,.int .i64 a0_7,.int .i64 a0_8,.int .i64 a0_9,.string a0_10,.int .i64 a0_11,.slice A0_12 l0_12.length c0_12,.bool a0_13] 30 (0,0)) (by (with_reducible repeat (first|apply zb1|apply zb2|apply zb3));exact BK175.out)):gb177 ≠ gb175));replace BK175:=Aside0.mk (blk_below (g:=gb175) (o:=.cells #[.int .i64 a0_0,.int .i64 a0_1,.int .i64 a0_2,.int .i64 a0_3,.string a0_4,.int .i64 a0_5,.int .i64 a0_6,.int .i64 a0_7,.int .i64 a0_8,.int .i64 a0_9,.string a0_10,.int .i64 a0_11,.slice A0_12 l0_12.length c0_12,.bool a0_13] 30 (0,0)) (by (with_reducible repeat (first|apply zb1|apply zb2|apply zb3));exact BK175.out) hb);have NB176_177:=Aside0.mk ((by rw [hg];exact Nat.ne_of_lt (blk_lt (g:=gb176) (o:=.cells #[.slice A1_0 l1_0.length c1_0,.slice A1_1 l1_1.length c1_1,.slice A1_2 l1_2.length c1_2,.int .i64 a1_3,.int .i64 a1_4,.int .i64 a1_5,.int .i64 a1_6,.string a1_7,.int .i64 a1_8,.slice A1_9 l1_9.length c1_9] 39 (0,0)) (by (with_reducible repeat (first|apply zb1|apply zb2|apply zb3));exact BK176.out)):gb176 ≠ gb177));have NB177_176:=Aside0.mk ((by rw [hg];exact Nat.ne_of_gt (blk_lt (g:=gb176) (o:=.cells #[.slice A1_0 l1_0.length c1_0,.slice A1_1 l1_1.length c1_1,.slice A1_2 l1_2.length c1_2,.int .i64 a1_3,.int .i64 a1_4,.int .i64 a1_5,.int .i64 a1_6,.string a1_7,.int .i64 a1_8,.slice A1_9 l1_9.length c1_9] 39 (0,0)) (by (with_reducible repeat (first|apply zb1|apply zb2|apply zb3));exact BK176.out)):gb177 ≠ gb176));replace BK176:=Aside0.mk (blk_below (g:=gb176) (o:=.cells #[.slice A1_0 l1_0.length c1_0,.slice A1_1 l1_1.length c1_1,.slice A1_2 l1_2.length c1_2,.int .i64 a1_3,.int .i64 a1_4,.int .i64 a1_5,.int .i64 a1_6,.string a1_7,.int .i64 a1_8,.slice A1_9 l1_9.length c1_9] 39 (0,0)) (by (with_reducible repeat (first|apply zb1|apply zb2|apply zb3));exact BK176.out) hb);clear hb hbox hg;have hnb95:=NB175_176.out;have hnc95:=NB176_175.out;have hnb96:=NB175_177.out;have hnc96:=NB177_175.out;obtain ⟨hcz97_0,hcz97_1,hcz97_2,hcz97_3,hcz97_4,hcz97_5,hcz97_6,hcz97_7,hcz97_8,hcz97_9,hcz97_10,hcz97_11,hcz97_12,hcz97_13⟩:=zc14 BK175.out;obtain ⟨hfz97_0,hfz97_1,hfz97_2,hfz97_3,hfz97_4,hfz97_5,hfz97_6,hfz97_7,hfz97_8,hfz97_9,hfz97_10,hfz97_11,hfz97_12,hfz97_13⟩:=zf14 BK175.out)|((with_reducible refine gate_callee (f:=29) rfl ?_);refine goesL_ (some 10) rfl rfl Tryd.func29 (by kernel_rfl) rfl #[.agg #[.int .i64 a0_0,.int .i64 a0_1,.int .i64 a0_2,.int .i64 a0_3,.string a0_4,.int .i64 a0_5,.int .i64 a0_6,.int .i64 a0_7,.int .i64 a0_8,.int .i64 a0_9,.string a0_10,.int .i64 a0_11,.slice A0_12 l0_12.length c0_12,.bool a0_13]] rfl (by (try simp only [List.map_toArray,List.map_cons,List.map_nil]);first|done|rfl|(simp only [List.length_drop,List.length_take];rfl)|(simp (disch:=omega) only [u64_in];rfl)) ?_;(with_reducible refine (flows_right.calls k a0_0 a0_1 a0_2 a0_3 a0_4 a0_5 a0_6 a0_7 a0_8 a0_9 a0_10 a0_11 _ _ l0_12 a0_13 false _ ?side1 ?side2 A4.out).mono ?_);(case side1=>repeat (first|exact (Kd.C_below HR0_12.out HB.out)|(with_reducible refine Kd.C_alloc ?_ _)|(with_reducible refine Kd.C_drewN ?_ _)|(with_reducible refine Kd.C_drew ?_)));(case side2=>exact HC0_12.out);rintro e w98 ⟨rfl,hb⟩;refine ⟨_,rfl,?_⟩;replace BK175:=Aside0.mk (blk_below (g:=gb175) (o:=.cells #[.int .i64 a0_0,.int .i64 a0_1,.int .i64 a0_2,.int .i64 a0_3,.string a0_4,.int .i64 a0_5,.int .i64 a0_6,.int .i64 a0_7,.int .i64 a0_8,.int .i64 a0_9,.string a0_10,.int .i64 a0_11,.slice A0_12 l0_12.length c0_12,.bool a0_13] 30 (0,0)) (by (with_reducible repeat (first|apply zb1|apply zb2|apply zb3));exact BK175.out) hb);replace BK176:=Aside0.mk (blk_below (g:=gb176) (o:=.cells #[.slice A1_0 l1_0.length c1_0,.slice A1_1 l1_1.length c1_1,.slice A1_2 l1_2.length c1_2,.int .i64 a1_3,.int .i64 a1_4,.int .i64 a1_5,.int .i64 a1_6,.string a1_7,.int .i64 a1_8,.slice A1_9 l1_9.length c1_9] 39 (0,0)) (by (with_reducible repeat (first|apply zb1|apply zb2|apply zb3));exact BK176.out) hb);replace BK177:=Aside0.mk (blk_below (g:=gb177) (o:=.cells #[.int .i64 0,.int .i64 0,.int .i64 0,.int .i64 0,.string (⟨#[]⟩:ByteArray),.int .i64 0,.int .i64 0,.int .i64 0,.int .i64 0,.int .i64 0,.string (⟨#[]⟩:ByteArray),.int .i64 0,.slice none 0 0,.bool false] 30 (0,0)) (by (with_reducible repeat (first|apply zb1|apply zb2|apply zb3));exact BK177.out) hb);replace HB:=Aside0.mk (below_step (by repeat (first|(with_reducible first|exact HB.out|apply zl1|apply zl2|apply zl3|refine below_set ?_ GE175.out|refine below_set ?_ GE176.out|refine below_set ?_ GE177.out)|exact HB.out)) hb);(try clear hb))|((with_reducible refine gate_store (t:=30) (p:=6) rfl ?_);refine store_all 30 gb177 30 #[.int .i64 0,.int .i64 0,.int .i64 0,.int .i64 0,.string (⟨#[]⟩:ByteArray),.int .i64 0,.int .i64 0,.int .i64 0,.int .i64 0,.int .i64 0,.string (⟨#[]⟩:ByteArray),.int .i64 0,.slice none 0 0,.bool false] #[.int .i64 0,.int .i64 0,.int .i64 0,.int .i64 0,.string (⟨#[]⟩:ByteArray),.int .i64 0,.int .i64 0,.int .i64 0,.int .i64 0,.int .i64 0,.string (⟨#[]⟩:ByteArray),.int .i64 0,.slice none 0 0,.bool false] rfl rfl rfl (by first|rfl|(go_simp;done)) (by (with_reducible repeat (first|apply zb1|apply zb2|apply zb3));exact BK177.out) (by kernel_rfl) rfl (by kernel_rfl) ?_;intro w99 hx hg;replace BK175:=Aside0.mk (blk_grown (g:=gb175) (o:=.cells #[.int .i64 a0_0,.int .i64 a0_1,.int .i64 a0_2,.int .i64 a0_3,.string a0_4,.int .i64 a0_5,.int .i64 a0_6,.int .i64 a0_7,.int .i64 a0_8,.int .i64 a0_9,.string a0_10,.int .i64 a0_11,.slice A0_12 l0_12.length c0_12,.bool a0_13] 30 (0,0)) (by (with_reducible repeat (first|apply zb1|apply zb2|apply zb3));exact BK175.out) hg (fun e_=>NB175_177.out (Option.some.inj e_)));replace BK176:=Aside0.mk (blk_grown (g:=gb176) (o:=.cells #[.slice A1_0 l1_0.length c1_0,.slice A1_1 l1_1.length c1_1,.slice A1_2 l1_2.length c1_2,.int .i64 a1_3,.int .i64 a1_4,.int .i64 a1_5,.int .i64 a1_6,.string a1_7,.int .i64 a1_8,.slice A1_9 l1_9.length c1_9] 39 (0,0)) (by (with_reducible repeat (first|apply zb1|apply zb2|apply zb3));exact BK176.out) hg (fun e_=>NB176_177.out (Option.some.inj e_)));replace HB:=Aside0.mk ((fun {W_:World} (hB_:Below w.heap.size w W_) (hg_:W_.grownBy w99 (some gb177))=>hB_.grown hg_ hB_.size (fun k_ e_=>by cases e_;exact GE177.out)) (by repeat (first|(with_reducible first|exact HB.out|apply zl1|apply zl2|apply zl3|refine below_set ?_ GE175.out|refine below_set ?_ GE176.out|refine below_set ?_ GE177.out)|exact HB.out)) hg);replace BK177:=Aside0.mk (hx);clear hx hg))
  refine bodyPost_ret (results_ct rfl _ _ gb177 30 #[.int .i64 0,.int .i64 0,.int .i64 0,.int .i64 0,.string (⟨#[]⟩:ByteArray),.int .i64 0,.int .i64 0,.int .i64 0,.int .i64 0,.int .i64 0,.string (⟨#[]⟩:ByteArray),.int .i64 0,.slice none 0 0,.bool false] (0,0) _ rfl (by (with_reducible repeat (first|apply zb1|apply zb2|apply zb3));exact BK177.out) Tryd.underlying30 rfl (by kernel_rfl)) rfl ?_
  exact ⟨_,by first|(with_reducible rfl)|(simp only [isEmpty_bne,Bool.not_not] <;> rfl)|rfl|(simp [*,errW_none,errW_some] <;> rfl),by first|exact Kd.R_nil _ _ _ _ _|exact Kd.N_nil _ _ _ _ _|exact Kd.V_nil _ _ _ _ _|exact Kd.Q_nil _ _ _ _ _|exact Kd.S_nil _ _ _ _ _,by repeat (first|(with_reducible first|exact HB.out|apply zl1|apply zl2|apply zl3|refine below_set ?_ GE175.out|refine below_set ?_ GE176.out|refine below_set ?_ GE177.out)|exact HB.out)⟩

end Go.Proofs.YtobjnhkjahhfnaaDoor.PAll
