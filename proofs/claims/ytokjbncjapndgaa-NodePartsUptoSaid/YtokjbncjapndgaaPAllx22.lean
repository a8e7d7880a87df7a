/- Printed walks of the functions that the laws reach: each function, what it computes, and that it does. No conditions. -/
import Derived.Test.YtokjbncjapndgaaPAllx0
import Derived.Test.YtokjbncjapndgaaPAllx9
import Derived.Test.YtokjbncjapndgaaPAllx12
import Derived.Test.YtokjbncjapndgaaPAllx15
import Derived.Test.YtokjbncjapndgaaPAllx19
import Derived.Test.YtokjbncjapndgaaPAllx20
import Derived.Test.YtokjbncjapndgaaPAllx21
namespace Go.Proofs.Ytokjbncjapndgaa.PAll
open Go.RowKit Go.Proofs.Ytokjbncjapndgaa.XW Go.Proofs.Ytokjbncjapndgaa.XLib Go.Proofs.YtokjbncjapndgaaW.PrintWords Go.Proofs.YtokjbncjapndgaaW.PrintLast Go.Proofs.YtokjbncjapndgaaW.PrintMore
attribute [local go_sem] max2_int min2_int max_two min_two max_three min_three max_four min_four   -- for this text's walks alone
set_option linter.unusedVariables false
set_option linter.unusedSimpArgs false

/-! ### factotumlaw09_NodeParts: function 6 -/
mutual
def factotumlaw09_NodeParts.j0:Nat→Bool→Bool→List (S43)→List ByteArray→List Int→Option (Bool)
 | 0,_,_,_,_,_=>none
 | k + 1,x14,x351000,x351001,x351002,x351003=>if x14=true then ((factotumlaw09_lives.f k).bind fun t353=>(some t353)) else ((node_Split.f k x351000 x351001 x351002 x351003).bind fun bt354=>(if bt354.2.2.2.2.2.2.2.2.toList=([]:List UInt8) then ((factotumref09_Same.f k bt354.1 bt354.2.1 bt354.2.2.1 bt354.2.2.2.1 x351000 x351001 x351002 x351003).bind fun t377=>(if t377=true then ((node_Size.f k bt354.2.2.2.2.1 bt354.2.2.2.2.2.1 bt354.2.2.2.2.2.2.1 bt354.2.2.2.2.2.2.2.1).bind fun t378=>(some (decide (t378≤4)))) else (none))) else ((node_Join.f bt354.1 bt354.2.1 bt354.2.2.1 bt354.2.2.2.1 bt354.2.2.2.2.1 bt354.2.2.2.2.2.1 bt354.2.2.2.2.2.2.1 bt354.2.2.2.2.2.2.2.1 bt354.2.2.2.2.2.2.2.2).bind fun bt379=>((factotumref09_Same.f k bt379.1 bt379.2.1 bt379.2.2.1 bt379.2.2.2 x351000 x351001 x351002 x351003).bind fun t389=>(if t389=true then ((factotumref09_Right.f k bt354.1 bt354.2.1 bt354.2.2.1 bt354.2.2.2.1).bind fun t390=>(if t390=true then ((factotumref09_Right.f k bt354.2.2.2.2.1 bt354.2.2.2.2.2.1 bt354.2.2.2.2.2.2.1 bt354.2.2.2.2.2.2.2.1).bind fun t391=>(factotumlaw09_NodeParts.j1 k bt354.2.2.2.2.2.2.2.2 (!t391) x351000 x351001 x351002 x351003 bt354.1 bt354.2.1 bt354.2.2.1 bt354.2.2.2.1 bt354.2.2.2.2.1 bt354.2.2.2.2.2.1 bt354.2.2.2.2.2.2.1 bt354.2.2.2.2.2.2.2.1)) else (factotumlaw09_NodeParts.j1 k bt354.2.2.2.2.2.2.2.2 true x351000 x351001 x351002 x351003 bt354.1 bt354.2.1 bt354.2.2.1 bt354.2.2.2.1 bt354.2.2.2.2.1 bt354.2.2.2.2.2.1 bt354.2.2.2.2.2.2.1 bt354.2.2.2.2.2.2.2.1))) else (factotumlaw09_NodeParts.j1 k bt354.2.2.2.2.2.2.2.2 true x351000 x351001 x351002 x351003 bt354.1 bt354.2.1 bt354.2.2.1 bt354.2.2.2.1 bt354.2.2.2.2.1 bt354.2.2.2.2.2.1 bt354.2.2.2.2.2.2.1 bt354.2.2.2.2.2.2.2.1))))))
def factotumlaw09_NodeParts.j1:Nat→ByteArray→Bool→Bool→List (S43)→List ByteArray→List Int→Bool→List (S43)→List ByteArray→List Int→Bool→List (S43)→List ByteArray→List Int→Option (Bool)
 | 0,_,_,_,_,_,_,_,_,_,_,_,_,_,_=>none
 | k + 1,x5,x48,x351000,x351001,x351002,x351003,x376000,x376001,x376002,x376003,x377000,x377001,x377002,x377003=>if x48=true then (none) else (factotumlaw09_NodeParts.l0 k x5 0 x351000 x351001 x351002 x351003 x376000 x376001 x376002 x376003 x377000 x377001 x377002 x377003)
def factotumlaw09_NodeParts.l0:Nat→ByteArray→Int→Bool→List (S43)→List ByteArray→List Int→Bool→List (S43)→List ByteArray→List Int→Bool→List (S43)→List ByteArray→List Int→Option (Bool)
 | 0,_,_,_,_,_,_,_,_,_,_,_,_,_,_=>none
 | k + 1,x5,x6,x351000,x351001,x351002,x351003,x376000,x376001,x376002,x376003,x377000,x377001,x377002,x377003=>if x6 < (x376001.length:Int) then (if 0≤x6 then (if ((Op.bytesLess (((rd_T43 x376001 x6).f0).toList) x5.toList)=true) then (factotumlaw09_NodeParts.l0 k x5 (wrap64 (x6 + 1)) x351000 x351001 x351002 x351003 x376000 x376001 x376002 x376003 x377000 x377001 x377002 x377003) else (none)) else (none)) else (factotumlaw09_NodeParts.l1 k x5 0 x351000 x351001 x351002 x351003 x376000 x376001 x376002 x376003 x377000 x377001 x377002 x377003)
def factotumlaw09_NodeParts.l1:Nat→ByteArray→Int→Bool→List (S43)→List ByteArray→List Int→Bool→List (S43)→List ByteArray→List Int→Bool→List (S43)→List ByteArray→List Int→Option (Bool)
 | 0,_,_,_,_,_,_,_,_,_,_,_,_,_,_=>none
 | k + 1,x5,x7,x351000,x351001,x351002,x351003,x376000,x376001,x376002,x376003,x377000,x377001,x377002,x377003=>if x7 < (x377001.length:Int) then (if 0≤x7 then (if (Op.bytesLess (((rd_T43 x377001 x7).f0).toList) x5.toList)=true then (none) else (factotumlaw09_NodeParts.l1 k x5 (wrap64 (x7 + 1)) x351000 x351001 x351002 x351003 x376000 x376001 x376002 x376003 x377000 x377001 x377002 x377003)) else (none)) else ((node_Size.f k x351000 x351001 x351002 x351003).bind fun t394=>(if t394 > 330 then (some true) else ((node_Size.f k x376000 x376001 x376002 x376003).bind fun t395=>(if t395≤256 then ((node_Size.f k x377000 x377001 x377002 x377003).bind fun t396=>(some (decide (t396≤256)))) else (none)))))
end
def factotumlaw09_NodeParts.f (k:Nat) (a0_0:Bool) (l0_1:List (S43)) (l0_2:List ByteArray) (l0_3:List Int):Option (Bool):=(factotumlaw09_lives.f k).bind fun t351=>(if t351=true then ((factotumref09_Right.f k a0_0 l0_1 l0_2 l0_3).bind fun t352=>(factotumlaw09_NodeParts.j0 k (!t352) a0_0 l0_1 l0_2 l0_3)) else (factotumlaw09_NodeParts.j0 k true a0_0 l0_1 l0_2 l0_3))
theorem factotumlaw09_NodeParts.mono_l:∀ k,(∀ y0 y1 y2 y3 y4,LeO (factotumlaw09_NodeParts.j0 k y0 y1 y2 y3 y4) (factotumlaw09_NodeParts.j0 (k + 1) y0 y1 y2 y3 y4))∧(∀ y0 y1 y2 y3 y4 y5 y6 y7 y8 y9 y10 y11 y12 y13,LeO (factotumlaw09_NodeParts.j1 k y0 y1 y2 y3 y4 y5 y6 y7 y8 y9 y10 y11 y12 y13) (factotumlaw09_NodeParts.j1 (k + 1) y0 y1 y2 y3 y4 y5 y6 y7 y8 y9 y10 y11 y12 y13))∧(∀ y0 y1 y2 y3 y4 y5 y6 y7 y8 y9 y10 y11 y12 y13,LeO (factotumlaw09_NodeParts.l0 k y0 y1 y2 y3 y4 y5 y6 y7 y8 y9 y10 y11 y12 y13) (factotumlaw09_NodeParts.l0 (k + 1) y0 y1 y2 y3 y4 y5 y6 y7 y8 y9 y10 y11 y12 y13))∧(∀ y0 y1 y2 y3 y4 y5 y6 y7 y8 y9 y10 y11 y12 y13,LeO (factotumlaw09_NodeParts.l1 k y0 y1 y2 y3 y4 y5 y6 y7 y8 y9 y10 y11 y12 y13) (factotumlaw09_NodeParts.l1 (k + 1) y0 y1 y2 y3 y4 y5 y6 y7 y8 y9 y10 y11 y12 y13))
 | 0=>⟨fun _ _ _ _ _ r h=>by simp [factotumlaw09_NodeParts.j0] at h,fun _ _ _ _ _ _ _ _ _ _ _ _ _ _ r h=>by simp [factotumlaw09_NodeParts.j1] at h,fun _ _ _ _ _ _ _ _ _ _ _ _ _ _ r h=>by simp [factotumlaw09_NodeParts.l0] at h,fun _ _ _ _ _ _ _ _ _ _ _ _ _ _ r h=>by simp [factotumlaw09_NodeParts.l1] at h⟩
 | k + 1=>by
  obtain ⟨ih0,ih1,ih2,ih3⟩:=factotumlaw09_NodeParts.mono_l k
  refine ⟨?_,?_,?_,?_⟩
  ·intro y0 y1 y2 y3 y4
   unfold factotumlaw09_NodeParts.j0
   repeat' first
   | (with_reducible exact ih0 _ _ _ _ _)
   | (with_reducible exact ih1 _ _ _ _ _ _ _ _ _ _ _ _ _ _)
   | (with_reducible exact ih2 _ _ _ _ _ _ _ _ _ _ _ _ _ _)
   | (with_reducible exact ih3 _ _ _ _ _ _ _ _ _ _ _ _ _ _)
   | (with_reducible exact factotumlaw09_lives.mono _)
   | (with_reducible exact factotumref09_Right.mono _ _ _ _ _)
   | (with_reducible exact factotumref09_Same.mono _ _ _ _ _ _ _ _ _)
   | (with_reducible exact node_Size.mono _ _ _ _ _)
   | (with_reducible exact node_Split.mono _ _ _ _ _)
   | (with_reducible exact LeO.refl _)
   | (with_reducible exact LeO.none _)
   | (with_reducible refine LeO.ite ?_ ?_)
   | (with_reducible refine LeO.bind ?_ (fun _=>?_))
   | exact ih0 _ _ _ _ _
   | exact ih1 _ _ _ _ _ _ _ _ _ _ _ _ _ _
   | exact ih2 _ _ _ _ _ _ _ _ _ _ _ _ _ _
   | exact ih3 _ _ _ _ _ _ _ _ _ _ _ _ _ _
   | exact factotumlaw09_lives.mono _
   | exact factotumref09_Right.mono _ _ _ _ _
   | exact factotumref09_Same.mono _ _ _ _ _ _ _ _ _
   | exact node_Size.mono _ _ _ _ _
   | exact node_Split.mono _ _ _ _ _
   | exact LeO.none _
   | refine LeO.ite ?_ ?_
   | refine LeO.bind ?_ (fun _=>?_)
  ·intro y0 y1 y2 y3 y4 y5 y6 y7 y8 y9 y10 y11 y12 y13
   unfold factotumlaw09_NodeParts.j1
   repeat' first
   | (with_reducible exact ih0 _ _ _ _ _)
   | (with_reducible exact ih1 _ _ _ _ _ _ _ _ _ _ _ _ _ _)
   | (with_reducible exact ih2 _ _ _ _ _ _ _ _ _ _ _ _ _ _)
   | (with_reducible exact ih3 _ _ _ _ _ _ _ _ _ _ _ _ _ _)
   | (with_reducible exact factotumlaw09_lives.mono _)
   | (with_reducible exact factotumref09_Right.mono _ _ _ _ _)
   | (with_reducible exact factotumref09_Same.mono _ _ _ _ _ _ _ _ _)
   | (with_reducible exact node_Size.mono _ _ _ _ _)
   | (with_reducible exact node_Split.mono _ _ _ _ _)
   | (with_reducible exact LeO.refl _)
   | (with_reducible exact LeO.none _)
   | (with_reducible refine LeO.ite ?_ ?_)
   | (with_reducible refine LeO.bind ?_ (fun _=>?_))
   | exact ih0 _ _ _ _ _
   | exact ih1 _ _ _ _ _ _ _ _ _ _ _ _ _ _
   | exact ih2 _ _ _ _ _ _ _ _ _ _ _ _ _ _
   | exact ih3 _ _ _ _ _ _ _ _ _ _ _ _ _ _
   | exact factotumlaw09_lives.mono _
   | exact factotumref09_Right.mono _ _ _ _ _
   | exact factotumref09_Same.mono _ _ _ _ _ _ _ _ _
   | exact node_Size.mono _ _ _ _ _
   | exact node_Split.mono _ _ _ _ _
   | exact LeO.none _
   | refine LeO.ite ?_ ?_
   | refine LeO.bind ?_ (fun _=>?_)
  ·intro y0 y1 y2 y3 y4 y5 y6 y7 y8 y9 y10 y11 y12 y13
   unfold factotumlaw09_NodeParts.l0
   repeat' first
   | (with_reducible exact ih0 _ _ _ _ _)
   | (with_reducible exact ih1 _ _ _ _ _ _ _ _ _ _ _ _ _ _)
   | (with_reducible exact ih2 _ _ _ _ _ _ _ _ _ _ _ _ _ _)
   | (with_reducible exact ih3 _ _ _ _ _ _ _ _ _ _ _ _ _ _)
   | (with_reducible exact factotumlaw09_lives.mono _)
   | (with_reducible exact factotumref09_Right.mono _ _ _ _ _)
   | (with_reducible exact factotumref09_Same.mono _ _ _ _ _ _ _ _ _)
   | (with_reducible exact node_Size.mono _ _ _ _ _)
   | (with_reducible exact node_Split.mono _ _ _ _ _)
   | (with_reducible exact LeO.refl _)
   | (with_reducible exact LeO.none _)
   | (with_reducible refine LeO.ite ?_ ?_)
   | (with_reducible refine LeO.bind ?_ (fun _=>?_))
   | exact ih0 _ _ _ _ _
   | exact ih1 _ _ _ _ _ _ _ _ _ _ _ _ _ _
   | exact ih2 _ _ _ _ _ _ _ _ _ _ _ _ _ _
   | exact ih3 _ _ _ _ _ _ _ _ _ _ _ _ _ _
   | exact factotumlaw09_lives.mono _
   | exact factotumref09_Right.mono _ _ _ _ _
   | exact factotumref09_Same.mono _ _ _ _ _ _ _ _ _
   | exact node_Size.mono _ _ _ _ _
   | exact node_Split.mono _ _ _ _ _
   | exact LeO.none _
   | refine LeO.ite ?_ ?_
   | refine LeO.bind ?_ (fun _=>?_)
  ·intro y0 y1 y2 y3 y4 y5 y6 y7 y8 y9 y10 y11 y12 y13
   unfold factotumlaw09_NodeParts.l1
   repeat' first
   | (with_reducible exact ih0 _ _ _ _ _)
   | (with_reducible exact ih1 _ _ _ _ _ _ _ _ _ _ _ _ _ _)
   | (with_reducible exact ih2 _ _ _ _ _ _ _ _ _ _ _ _ _ _)
   | (with_reducible exact ih3 _ _ _ _ _ _ _ _ _ _ _ _ _ _)
   | (with_reducible exact factotumlaw09_lives.mono _)
   | (with_reducible exact factotumref09_Right.mono _ _ _ _ _)
   | (with_reducible exact factotumref09_Same.mono _ _ _ _ _ _ _ _ _)
   | (with_reducible exact node_Size.mono _ _ _ _ _)
   | (with_reducible exact node_Split.mono _ _ _ _ _)
   | (with_reducible exact LeO.refl _)
   | (with_reducible exact LeO.none _)
   | (with_reducible refine LeO.ite ?_ ?_)
   | (with_reducible refine LeO.bind ?_ (fun _=>?_))
   | exact ih0 _ _ _ _ _
   | exact ih1 _ _ _ _ _ _ _ _ _ _ _ _ _ _
   | exact ih2 _ _ _ _ _ _ _ _ _ _ _ _ _ _
   | exact ih3 _ _ _ _ _ _ _ _ _ _ _ _ _ _
   | exact factotumlaw09_lives.mono _
   | exact factotumref09_Right.mono _ _ _ _ _
   | exact factotumref09_Same.mono _ _ _ _ _ _ _ _ _
   | exact node_Size.mono _ _ _ _ _
   | exact node_Split.mono _ _ _ _ _
   | exact LeO.none _
   | refine LeO.ite ?_ ?_
   | refine LeO.bind ?_ (fun _=>?_)
theorem factotumlaw09_NodeParts.mono:∀ a0 a1 a2 a3 k,LeO (factotumlaw09_NodeParts.f k a0 a1 a2 a3) (factotumlaw09_NodeParts.f (k + 1) a0 a1 a2 a3):=by
 intro a0 a1 a2 a3 k
 obtain ⟨ih0,ih1,ih2,ih3⟩:=factotumlaw09_NodeParts.mono_l k
 unfold factotumlaw09_NodeParts.f
 repeat' first
   | (with_reducible exact ih0 _ _ _ _ _)
   | (with_reducible exact ih1 _ _ _ _ _ _ _ _ _ _ _ _ _ _)
   | (with_reducible exact ih2 _ _ _ _ _ _ _ _ _ _ _ _ _ _)
   | (with_reducible exact ih3 _ _ _ _ _ _ _ _ _ _ _ _ _ _)
   | (with_reducible exact factotumlaw09_lives.mono _)
   | (with_reducible exact factotumref09_Right.mono _ _ _ _ _)
   | (with_reducible exact factotumref09_Same.mono _ _ _ _ _ _ _ _ _)
   | (with_reducible exact node_Size.mono _ _ _ _ _)
   | (with_reducible exact node_Split.mono _ _ _ _ _)
   | (with_reducible exact LeO.refl _)
   | (with_reducible exact LeO.none _)
   | (with_reducible refine LeO.ite ?_ ?_)
   | (with_reducible refine LeO.bind ?_ (fun _=>?_))
   | exact ih0 _ _ _ _ _
   | exact ih1 _ _ _ _ _ _ _ _ _ _ _ _ _ _
   | exact ih2 _ _ _ _ _ _ _ _ _ _ _ _ _ _
   | exact ih3 _ _ _ _ _ _ _ _ _ _ _ _ _ _
   | exact factotumlaw09_lives.mono _
   | exact factotumref09_Right.mono _ _ _ _ _
   | exact factotumref09_Same.mono _ _ _ _ _ _ _ _ _
   | exact node_Size.mono _ _ _ _ _
   | exact node_Split.mono _ _ _ _ _
   | exact LeO.none _
   | refine LeO.ite ?_ ?_
   | refine LeO.bind ?_ (fun _=>?_)
def factotumlaw09_NodeParts.T6:Bool × List (List Nat × List Nat):=(true,[([],[]),([],[]),([],[]),([0,1,2],[0,1,2]),([],[]),([3,4,3],[3,4]),([5],[5]),([6,5],[6]),([7],[7]),([8,7,7],[7,8]),([9,7],[7,9]),([7,10],[7,10]),([11,9],[11]),([12],[12]),([13,12,12],[12,13]),([14,12],[12,14]),([12,15],[12,15])])
def factotumlaw09_NodeParts.B6:List Nat:=[0,0,0,7,0,31,63,127,255,511,1023,2047,4095,8191,16383,32767,65535]
theorem factotumlaw09_NodeParts.tab6:rtab .any (opsOf Try.f6 6)=factotumlaw09_NodeParts.T6:=by kernel_rfl
theorem factotumlaw09_NodeParts.bits6:waitsOk factotumlaw09_NodeParts.T6.2 factotumlaw09_NodeParts.B6=true:=by kernel_rfl
set_option maxHeartbeats 8000000 in
set_option maxRecDepth 100000 in
theorem factotumlaw09_NodeParts.calls (k:Nat) (a0_0:Bool) (A0_1:Option Addr) (c0_1:Nat) (l0_1:List (S43)) (A0_2:Option Addr) (c0_2:Nat) (l0_2:List ByteArray) (A0_3:Option Addr) (c0_3:Nat) (l0_3:List Int) (r:Bool) (w:World) (hr0_1:Kd.C k43 w A0_1 l0_1.length l0_1) (hc0_1:l0_1.length≤c0_1) (hr0_2:Kd.C Kd.string w A0_2 l0_2.length l0_2) (hc0_2:l0_2.length≤c0_2) (hr0_3:Kd.C (Kd.int .i64) w A0_3 l0_3.length l0_3) (hc0_3:l0_3.length≤c0_3) (h:factotumlaw09_NodeParts.f k a0_0 l0_1 l0_2 l0_3=some r) :
  Calls Try.prog 6 #[.agg #[.bool a0_0,.slice A0_1 l0_1.length c0_1,.slice A0_2 l0_2.length c0_2,.slice A0_3 l0_3.length c0_3]] w fun e w'=>e=.returned (.bool r)∧Below w.heap.size w w':=by
 have hu26:=Try.underlying26
 have HR0_1:=Aside0.mk hr0_1
 have HC0_1:=Aside0.mk hc0_1
 clear hr0_1 hc0_1
 have HR0_2:=Aside0.mk hr0_2
 have HC0_2:=Aside0.mk hc0_2
 clear hr0_2 hc0_2
 have HR0_3:=Aside0.mk hr0_3
 have HC0_3:=Aside0.mk hc0_3
 clear hr0_3 hc0_3
 have HB:=Aside0.mk (Below.refl w.heap.size w)
 have H:((factotumlaw09_lives.f k).bind fun t351=>(if t351=true then ((factotumref09_Right.f k a0_0 l0_1 l0_2 l0_3).bind fun t352=>(factotumlaw09_NodeParts.j0 k (!t352) a0_0 l0_1 l0_2 l0_3)) else (factotumlaw09_NodeParts.j0 k true a0_0 l0_1 l0_2 l0_3)))=some r:=h
 clear h
 have HC2:=Aside0.mk H
 clear H
 go_enter Try.func6,Try.ntmps6
 go_upto_region 1 with (first|((with_reducible refine gate_dst (N:=1) rfl ?_);refine box_event ?hg (N:=1) ?hd (cs:=#[.bool a0_0,.slice A0_1 l0_1.length c0_1,.slice A0_2 l0_2.length c0_2,.slice A0_3 l0_3.length c0_3]) (t:=26) ?hr ?_;(case hd=>rfl);(case hg=>rfl);(case hr=>first|(go_simp;done)|(go_simp;rfl));intro gb350 hg w3 hbox hb;have BK350:=Aside0.mk (hbox);have GW350:=Aside0.mk ((by rw [hg];exact (below_size (by repeat (first|(with_reducible first|exact HB.out|apply zl1|apply zl2|apply zl3)|exact HB.out))):w.heap.size≤gb350));have GE350:=Aside0.mk ((by rw [hg];exact (below_size (by repeat (first|(with_reducible first|exact HB.out|apply zl1|apply zl2|apply zl3)|exact HB.out))):w.heap.size≤gb350));replace HB:=Aside0.mk (below_step (by repeat (first|(with_reducible first|exact HB.out|apply zl1|apply zl2|apply zl3)|exact HB.out)) hb);clear hb hbox hg))
 (try simp only [Act.put,List.setIfInBounds_toArray,List.set_cons_zero,List.set_cons_succ])
 go_cut [14] (fun v14 wc=>∃ (kq:Nat) (x14_1:Bool),v14=.bool x14_1∧Aside0 (factotumlaw09_NodeParts.j0 kq x14_1 a0_0 l0_1 l0_2 l0_3=some r)∧Aside0 (kq≤k)∧Aside0 (wc.heap[gb350]?=some (.cells #[.bool a0_0,(.slice A0_1 l0_1.length c0_1),(.slice A0_2 l0_2.length c0_2),(.slice A0_3 l0_3.length c0_3)] 26 (0,0)))∧Aside0 (Below w.heap.size w wc))
 case first =>
  have H:=HC2.out
  clear HC2
  replace H:=Option.bind_eq_some_iff.mp H
  obtain ⟨t351,A40,H⟩:=H
  replace H:(if t351=true then ((factotumref09_Right.f k a0_0 l0_1 l0_2 l0_3).bind fun t352=>(factotumlaw09_NodeParts.j0 k (!t352) a0_0 l0_1 l0_2 l0_3)) else (factotumlaw09_NodeParts.j0 k true a0_0 l0_1 l0_2 l0_3))=some r:=H
  have A4:=Aside0.mk A40
  clear A40
  by_cases c5:t351=true
  ·subst c5
   have H1:((factotumref09_Right.f k a0_0 l0_1 l0_2 l0_3).bind fun t352=>(factotumlaw09_NodeParts.j0 k (!t352) a0_0 l0_1 l0_2 l0_3))=some r:=by rw [if_pos rfl] at H;exact H
   clear H
   have H:=H1
   clear H1
   replace H:=Option.bind_eq_some_iff.mp H
   obtain ⟨t352,A60,H⟩:=H
   replace H:(factotumlaw09_NodeParts.j0 k (!t352) a0_0 l0_1 l0_2 l0_3)=some r:=H
   have A6:=Aside0.mk A60
   clear A60
   have H':=Aside0.mk H
   clear H
   go_wp2_with (first|((with_reducible refine gate_callee (f:=7) rfl ?_);refine goesL_ (some 8) rfl rfl Try.func7 (by kernel_rfl) rfl #[] rfl (by (try simp only [List.map_toArray,List.map_cons,List.map_nil]);first|done|rfl|(simp only [List.length_drop,List.length_take];rfl)|(simp (disch:=omega) only [u64_in];rfl)) ?_;(with_reducible refine (factotumlaw09_lives.calls k  true _ A4.out).mono ?_);rintro e w7 ⟨rfl,hb⟩;refine ⟨_,rfl,?_⟩;replace BK350:=Aside0.mk (blk_below (g:=gb350) (o:=.cells #[.bool a0_0,.slice A0_1 l0_1.length c0_1,.slice A0_2 l0_2.length c0_2,.slice A0_3 l0_3.length c0_3] 26 (0,0)) (by (with_reducible repeat (first|apply zb1|apply zb2|apply zb3));exact BK350.out) hb);replace HB:=Aside0.mk (below_step (by repeat (first|(with_reducible first|exact HB.out|apply zl1|apply zl2|apply zl3|refine below_set ?_ GE350.out)|exact HB.out)) hb);(try clear hb);obtain ⟨hcz8_0,hcz8_1,hcz8_2,hcz8_3⟩:=zc4 BK350.out;obtain ⟨hfz8_0,hfz8_1,hfz8_2,hfz8_3⟩:=zf4 BK350.out)|(go_at_call 21;(with_reducible refine (factotumref09_Right.calls k a0_0 _ _ l0_1 _ _ l0_2 _ _ l0_3 t352 _ ?side1 ?side2 ?side3 ?side4 ?side5 ?side6 A6.out).mono ?_);(case side1=>repeat (first|exact (Kd.C_below HR0_1.out HB.out)|(with_reducible refine Kd.C_alloc ?_ _)|(with_reducible refine Kd.C_drewN ?_ _)|(with_reducible refine Kd.C_drew ?_)));(case side2=>exact HC0_1.out);(case side3=>repeat (first|exact (Kd.C_below HR0_2.out HB.out)|(with_reducible refine Kd.C_alloc ?_ _)|(with_reducible refine Kd.C_drewN ?_ _)|(with_reducible refine Kd.C_drew ?_)));(case side4=>exact HC0_2.out);(case side5=>repeat (first|exact (Kd.C_below HR0_3.out HB.out)|(with_reducible refine Kd.C_alloc ?_ _)|(with_reducible refine Kd.C_drewN ?_ _)|(with_reducible refine Kd.C_drew ?_)));(case side6=>exact HC0_3.out);rintro e w9 ⟨rfl,hb⟩;replace BK350:=Aside0.mk (blk_below (g:=gb350) (o:=.cells #[.bool a0_0,.slice A0_1 l0_1.length c0_1,.slice A0_2 l0_2.length c0_2,.slice A0_3 l0_3.length c0_3] 26 (0,0)) (by (with_reducible repeat (first|apply zb1|apply zb2|apply zb3));exact BK350.out) hb);replace HB:=Aside0.mk (below_step (by repeat (first|(with_reducible first|exact HB.out|apply zl1|apply zl2|apply zl3|refine below_set ?_ GE350.out)|exact HB.out)) hb);(try clear hb)))
   go_meet
   case rel=>exact ⟨_,(!t352),(by first|(with_reducible rfl)|(simp;done)|(simp [*];done)|rfl|(simp only [not_isEmpty_bne])),H',⟨by first|omega|exact Nat.le_refl _⟩,⟨by (with_reducible repeat (first|apply zb1|apply zb2|apply zb3));exact BK350.out⟩,⟨by repeat (first|(with_reducible first|exact HB.out|apply zl1|apply zl2|apply zl3|refine below_set ?_ GE350.out)|exact HB.out)⟩⟩
  ·replace c5:=Bool.eq_false_iff.mpr c5
   subst c5
   have H1:(factotumlaw09_NodeParts.j0 k true a0_0 l0_1 l0_2 l0_3)=some r:=by rw [if_neg (show ¬ (false=true) by decide)] at H;exact H
   clear H
   have H:=H1
   clear H1
   have H':=Aside0.mk H
   clear H
   go_wp2_with (first|((with_reducible refine gate_callee (f:=7) rfl ?_);refine goesL_ (some 8) rfl rfl Try.func7 (by kernel_rfl) rfl #[] rfl (by (try simp only [List.map_toArray,List.map_cons,List.map_nil]);first|done|rfl|(simp only [List.length_drop,List.length_take];rfl)|(simp (disch:=omega) only [u64_in];rfl)) ?_;(with_reducible refine (factotumlaw09_lives.calls k  false _ A4.out).mono ?_);rintro e w10 ⟨rfl,hb⟩;refine ⟨_,rfl,?_⟩;replace BK350:=Aside0.mk (blk_below (g:=gb350) (o:=.cells #[.bool a0_0,.slice A0_1 l0_1.length c0_1,.slice A0_2 l0_2.length c0_2,.slice A0_3 l0_3.length c0_3] 26 (0,0)) (by (with_reducible repeat (first|apply zb1|apply zb2|apply zb3));exact BK350.out) hb);replace HB:=Aside0.mk (below_step (by repeat (first|(with_reducible first|exact HB.out|apply zl1|apply zl2|apply zl3|refine below_set ?_ GE350.out)|exact HB.out)) hb);(try clear hb)))
   go_meet
   case rel=>exact ⟨_,(true),(by first|(with_reducible rfl)|(simp;done)|(simp [*];done)|rfl|(simp only [not_isEmpty_bne])),H',⟨by first|omega|exact Nat.le_refl _⟩,⟨by (with_reducible repeat (first|apply zb1|apply zb2|apply zb3));exact BK350.out⟩,⟨by repeat (first|(with_reducible first|exact HB.out|apply zl1|apply zl2|apply zl3|refine below_set ?_ GE350.out)|exact HB.out)⟩⟩
 case rest =>
  clear HC2
  try clear hfz8_0 hfz8_1 hfz8_2 hfz8_3
  try clear hcz8_0 hcz8_1 hcz8_2 hcz8_3
  try clear p2
  try clear c5
  try clear c6
  try clear c7
  obtain ⟨kq,x14_1,rfl,HA,HJ1,BK350,HB⟩:=hcut
  cases kq with
  | zero=>exact absurd HA.out (by simp [factotumlaw09_NodeParts.j0])
  | succ kj1 =>
   have H:=HA.out
   clear HA
   simp only [factotumlaw09_NodeParts.j0] at H
   by_cases c11:x14_1=true
   ·subst c11
    have H1:((factotumlaw09_lives.f kj1).bind fun t353=>(some t353))=some r:=by rw [if_pos rfl] at H;exact H
    clear H
    have H:=H1
    clear H1
    replace H:=Option.bind_eq_some_iff.mp H
    obtain ⟨t353,A120,H⟩:=H
    replace H:(some t353)=some r:=H
    have A12:=Aside0.mk A120
    clear A120
    obtain rfl:=Option.some.inj H
    go_wp2_with (first|((with_reducible refine gate_callee (f:=7) rfl ?_);refine goesL_ (some 15) rfl rfl Try.func7 (by kernel_rfl) rfl #[] rfl (by (try simp only [List.map_toArray,List.map_cons,List.map_nil]);first|done|rfl|(simp only [List.length_drop,List.length_take];rfl)|(simp (disch:=omega) only [u64_in];rfl)) ?_;(with_reducible refine (factotumlaw09_lives.calls kj1  t353 _ A12.out).mono ?_);rintro e w13 ⟨rfl,hb⟩;refine ⟨_,rfl,?_⟩;replace BK350:=Aside0.mk (blk_below (g:=gb350) (o:=.cells #[.bool a0_0,.slice A0_1 l0_1.length c0_1,.slice A0_2 l0_2.length c0_2,.slice A0_3 l0_3.length c0_3] 26 (0,0)) (by (with_reducible repeat (first|apply zb1|apply zb2|apply zb3));exact BK350.out) hb);replace HB:=Aside0.mk (below_step (by repeat (first|(with_reducible first|exact HB.out|apply zl1|apply zl2|apply zl3|refine below_set ?_ GE350.out)|exact HB.out)) hb);(try clear hb)))
    go_ret
    exact ⟨by first|(with_reducible rfl)|(simp only [isEmpty_bne,Bool.not_not] <;> rfl)|rfl|(simp [*,errW_none,errW_some] <;> rfl),by repeat (first|(with_reducible first|exact HB.out|apply zl1|apply zl2|apply zl3|refine below_set ?_ GE350.out)|exact HB.out)⟩
   ·replace c11:=Bool.eq_false_iff.mpr c11
    subst c11
    have H1:((node_Split.f kj1 a0_0 l0_1 l0_2 l0_3).bind fun bt354=>(if bt354.2.2.2.2.2.2.2.2.toList=([]:List UInt8) then ((factotumref09_Same.f kj1 bt354.1 bt354.2.1 bt354.2.2.1 bt354.2.2.2.1 a0_0 l0_1 l0_2 l0_3).bind fun t377=>(if t377=true then ((node_Size.f kj1 bt354.2.2.2.2.1 bt354.2.2.2.2.2.1 bt354.2.2.2.2.2.2.1 bt354.2.2.2.2.2.2.2.1).bind fun t378=>(some (decide (t378≤4)))) else (none))) else ((node_Join.f bt354.1 bt354.2.1 bt354.2.2.1 bt354.2.2.2.1 bt354.2.2.2.2.1 bt354.2.2.2.2.2.1 bt354.2.2.2.2.2.2.1 bt354.2.2.2.2.2.2.2.1 bt354.2.2.2.2.2.2.2.2).bind fun bt379=>((factotumref09_Same.f kj1 bt379.1 bt379.2.1 bt379.2.2.1 bt379.2.2.2 a0_0 l0_1 l0_2 l0_3).bind fun t389=>(if t389=true then ((factotumref09_Right.f kj1 bt354.1 bt354.2.1 bt354.2.2.1 bt354.2.2.2.1).bind fun t390=>(if t390=true then ((factotumref09_Right.f kj1 bt354.2.2.2.2.1 bt354.2.2.2.2.2.1 bt354.2.2.2.2.2.2.1 bt354.2.2.2.2.2.2.2.1).bind fun t391=>(factotumlaw09_NodeParts.j1 kj1 bt354.2.2.2.2.2.2.2.2 (!t391) a0_0 l0_1 l0_2 l0_3 bt354.1 bt354.2.1 bt354.2.2.1 bt354.2.2.2.1 bt354.2.2.2.2.1 bt354.2.2.2.2.2.1 bt354.2.2.2.2.2.2.1 bt354.2.2.2.2.2.2.2.1)) else (factotumlaw09_NodeParts.j1 kj1 bt354.2.2.2.2.2.2.2.2 true a0_0 l0_1 l0_2 l0_3 bt354.1 bt354.2.1 bt354.2.2.1 bt354.2.2.2.1 bt354.2.2.2.2.1 bt354.2.2.2.2.2.1 bt354.2.2.2.2.2.2.1 bt354.2.2.2.2.2.2.2.1))) else (factotumlaw09_NodeParts.j1 kj1 bt354.2.2.2.2.2.2.2.2 true a0_0 l0_1 l0_2 l0_3 bt354.1 bt354.2.1 bt354.2.2.1 bt354.2.2.2.1 bt354.2.2.2.2.1 bt354.2.2.2.2.2.1 bt354.2.2.2.2.2.2.1 bt354.2.2.2.2.2.2.2.1))))))=some r:=by rw [if_neg (show ¬ (false=true) by decide)] at H;exact H
    clear H
    have H:=H1
    clear H1
    replace H:=Option.bind_eq_some_iff.mp H
    obtain ⟨⟨t354,t355,t358,t361,t364,t365,t368,t371,t374⟩,A140,H⟩:=H
    replace H:(if t374.toList=([]:List UInt8) then ((factotumref09_Same.f kj1 t354 t355 t358 t361 a0_0 l0_1 l0_2 l0_3).bind fun t377=>(if t377=true then ((node_Size.f kj1 t364 t365 t368 t371).bind fun t378=>(some (decide (t378≤4)))) else (none))) else ((node_Join.f t354 t355 t358 t361 t364 t365 t368 t371 t374).bind fun bt379=>((factotumref09_Same.f kj1 bt379.1 bt379.2.1 bt379.2.2.1 bt379.2.2.2 a0_0 l0_1 l0_2 l0_3).bind fun t389=>(if t389=true then ((factotumref09_Right.f kj1 t354 t355 t358 t361).bind fun t390=>(if t390=true then ((factotumref09_Right.f kj1 t364 t365 t368 t371).bind fun t391=>(factotumlaw09_NodeParts.j1 kj1 t374 (!t391) a0_0 l0_1 l0_2 l0_3 t354 t355 t358 t361 t364 t365 t368 t371)) else (factotumlaw09_NodeParts.j1 kj1 t374 true a0_0 l0_1 l0_2 l0_3 t354 t355 t358 t361 t364 t365 t368 t371))) else (factotumlaw09_NodeParts.j1 kj1 t374 true a0_0 l0_1 l0_2 l0_3 t354 t355 t358 t361 t364 t365 t368 t371)))))=some r:=H
    have A14:=Aside0.mk A140
    clear A140
    by_cases c15:t374.toList=([]:List UInt8)
    ·rw [if_pos c15] at H
     have c15b0:(t374.toList == ([]:List UInt8))=true:=beq_iff_eq.mpr c15
     (try (have c15b7:(t374.toList.isEmpty)=true:=by simp only [isEmpty_beq];exact c15b0))
     have c15b1:(t374.toList != ([]:List UInt8))=false:=bne_eq_false_iff_eq.mpr c15
     clear c15
     replace H:=Option.bind_eq_some_iff.mp H
     obtain ⟨t377,A160,H⟩:=H
     replace H:(if t377=true then ((node_Size.f kj1 t364 t365 t368 t371).bind fun t378=>(some (decide (t378≤4)))) else (none))=some r:=H
     have A16:=Aside0.mk A160
     clear A160
     by_cases c17:t377=true
     ·subst c17
      have H1:((node_Size.f kj1 t364 t365 t368 t371).bind fun t378=>(some (decide (t378≤4))))=some r:=by rw [if_pos rfl] at H;exact H
      clear H
      have H:=H1
      clear H1
      replace H:=Option.bind_eq_some_iff.mp H
      obtain ⟨t378,A180,H⟩:=H
      replace H:(some (decide (t378≤4)))=some r:=H
      have A18:=Aside0.mk A180
      clear A180
      obtain rfl:=Option.some.inj H
      obtain ⟨hcz19_0,hcz19_1,hcz19_2,hcz19_3⟩:=zc4 BK350.out
      obtain ⟨hfz19_0,hfz19_1,hfz19_2,hfz19_3⟩:=zf4 BK350.out
      go_wp2_with (first|((with_reducible refine gate_callee (f:=16) rfl ?_);refine goesL_ (some 18) rfl rfl Try.func16 (by kernel_rfl) rfl #[.agg #[.bool a0_0,.slice A0_1 l0_1.length c0_1,.slice A0_2 l0_2.length c0_2,.slice A0_3 l0_3.length c0_3]] rfl (by (try simp only [List.map_toArray,List.map_cons,List.map_nil]);first|done|rfl|(simp only [List.length_drop,List.length_take];rfl)|(simp (disch:=omega) only [u64_in];rfl)) ?_;(with_reducible refine (node_Split.calls kj1 a0_0 (fun k_=>k_ < w.heap.size) _ _ l0_1 (fun k_=>k_ < w.heap.size) _ _ l0_2 (fun k_=>k_ < w.heap.size) _ _ l0_3 t354 t355 t358 t361 t364 t365 t368 t371 t374 _ ?side1 ?side2 ?side3 A14.out).mono ?_);(case side1=>exact Kd.V_mk HC0_1.out (Kd.F_below (Kd.C_F k43_heap HR0_1.out) (by repeat (first|(with_reducible first|exact HB.out|apply zl1|apply zl2|apply zl3|refine below_set ?_ GE350.out)|exact HB.out))));(case side2=>exact Kd.V_mk HC0_2.out (Kd.F_below (Kd.C_F Kd.heap_string HR0_2.out) (by repeat (first|(with_reducible first|exact HB.out|apply zl1|apply zl2|apply zl3|refine below_set ?_ GE350.out)|exact HB.out))));(case side3=>exact Kd.V_mk HC0_3.out (Kd.F_below (Kd.C_F (Kd.heap_int .i64) HR0_3.out) (by repeat (first|(with_reducible first|exact HB.out|apply zl1|apply zl2|apply zl3|refine below_set ?_ GE350.out)|exact HB.out))));rintro e w20 ⟨v356,v359,v362,v366,v369,v372,rfl,ho0,ho1,ho2,ho3,ho4,ho5,hb⟩;refine ⟨_,rfl,?_⟩;have HO357:=Aside0.mk (Kd.V_lower (Kd.V_mono (ok':=fun k_=>some k_ ≠ (v366:Value).ownBlock∧some k_ ≠ (v369:Value).ownBlock∧some k_ ≠ (v372:Value).ownBlock∧k_ ≠ gb350) ho0 (fun k_ hk_=>⟨hk_.2.1,hk_.2.2.1,hk_.2.2.2,Or.elim hk_.1 (fun hs_=>Or.elim hs_ (fun hs_=>fun e_=>Nat.not_le.2 hs_ (by rw [e_];exact GW350.out)) (fun hs_=>Or.elim hs_ (fun hs_=>fun e_=>Nat.not_le.2 hs_ (by rw [e_];exact GW350.out)) (fun hs_=>fun e_=>Nat.not_le.2 hs_ (by rw [e_];exact GW350.out)))) (fun hn_=>(Kd.freshB (g:=gb350) (o:=.cells #[.bool a0_0,.slice A0_1 l0_1.length c0_1,.slice A0_2 l0_2.length c0_2,.slice A0_3 l0_3.length c0_3] 26 (0,0)) (by (with_reducible repeat (first|apply zb1|apply zb2|apply zb3));exact BK350.out) k_ hn_))⟩)) (below_size (by repeat (first|(with_reducible first|exact HB.out|apply zl1|apply zl2|apply zl3|refine below_set ?_ GE350.out)|exact HB.out))));have HO360:=Aside0.mk (Kd.V_lower (Kd.V_mono (ok':=fun k_=>some k_ ≠ (v366:Value).ownBlock∧some k_ ≠ (v369:Value).ownBlock∧some k_ ≠ (v372:Value).ownBlock∧k_ ≠ gb350) ho1 (fun k_ hk_=>⟨hk_.2.1,hk_.2.2.1,hk_.2.2.2,Or.elim hk_.1 (fun hs_=>Or.elim hs_ (fun hs_=>fun e_=>Nat.not_le.2 hs_ (by rw [e_];exact GW350.out)) (fun hs_=>Or.elim hs_ (fun hs_=>fun e_=>Nat.not_le.2 hs_ (by rw [e_];exact GW350.out)) (fun hs_=>fun e_=>Nat.not_le.2 hs_ (by rw [e_];exact GW350.out)))) (fun hn_=>(Kd.freshB (g:=gb350) (o:=.cells #[.bool a0_0,.slice A0_1 l0_1.length c0_1,.slice A0_2 l0_2.length c0_2,.slice A0_3 l0_3.length c0_3] 26 (0,0)) (by (with_reducible repeat (first|apply zb1|apply zb2|apply zb3));exact BK350.out) k_ hn_))⟩)) (below_size (by repeat (first|(with_reducible first|exact HB.out|apply zl1|apply zl2|apply zl3|refine below_set ?_ GE350.out)|exact HB.out))));have HO363:=Aside0.mk (Kd.V_lower (Kd.V_mono (ok':=fun k_=>some k_ ≠ (v366:Value).ownBlock∧some k_ ≠ (v369:Value).ownBlock∧some k_ ≠ (v372:Value).ownBlock∧k_ ≠ gb350) ho2 (fun k_ hk_=>⟨hk_.2.1,hk_.2.2.1,hk_.2.2.2,Or.elim hk_.1 (fun hs_=>Or.elim hs_ (fun hs_=>fun e_=>Nat.not_le.2 hs_ (by rw [e_];exact GW350.out)) (fun hs_=>Or.elim hs_ (fun hs_=>fun e_=>Nat.not_le.2 hs_ (by rw [e_];exact GW350.out)) (fun hs_=>fun e_=>Nat.not_le.2 hs_ (by rw [e_];exact GW350.out)))) (fun hn_=>(Kd.freshB (g:=gb350) (o:=.cells #[.bool a0_0,.slice A0_1 l0_1.length c0_1,.slice A0_2 l0_2.length c0_2,.slice A0_3 l0_3.length c0_3] 26 (0,0)) (by (with_reducible repeat (first|apply zb1|apply zb2|apply zb3));exact BK350.out) k_ hn_))⟩)) (below_size (by repeat (first|(with_reducible first|exact HB.out|apply zl1|apply zl2|apply zl3|refine below_set ?_ GE350.out)|exact HB.out))));have HO367:=Aside0.mk (Kd.R_lower (Kd.R_mono (ok':=fun k_=>True) ho3 (fun _ hk_=>trivial)) (below_size (by repeat (first|(with_reducible first|exact HB.out|apply zl1|apply zl2|apply zl3|refine below_set ?_ GE350.out)|exact HB.out))));have HO370:=Aside0.mk (Kd.R_lower (Kd.R_mono (ok':=fun k_=>True) ho4 (fun _ hk_=>trivial)) (below_size (by repeat (first|(with_reducible first|exact HB.out|apply zl1|apply zl2|apply zl3|refine below_set ?_ GE350.out)|exact HB.out))));have HO373:=Aside0.mk (Kd.R_lower (Kd.R_mono (ok':=fun k_=>True) ho5 (fun _ hk_=>trivial)) (below_size (by repeat (first|(with_reducible first|exact HB.out|apply zl1|apply zl2|apply zl3|refine below_set ?_ GE350.out)|exact HB.out))));replace BK350:=Aside0.mk (blk_below (g:=gb350) (o:=.cells #[.bool a0_0,.slice A0_1 l0_1.length c0_1,.slice A0_2 l0_2.length c0_2,.slice A0_3 l0_3.length c0_3] 26 (0,0)) (by (with_reducible repeat (first|apply zb1|apply zb2|apply zb3));exact BK350.out) hb);replace HB:=Aside0.mk (below_step (by repeat (first|(with_reducible first|exact HB.out|apply zl1|apply zl2|apply zl3|refine below_set ?_ GE350.out)|exact HB.out)) hb);(try clear hb);(try clear ho0);(try clear ho1);(try clear ho2);(try clear ho3);(try clear ho4);(try clear ho5))|((with_reducible refine gate_dst (N:=3) rfl ?_);refine box_event ?hg (N:=3) ?hd (cs:=#[.bool false,.slice none 0 0,.slice none 0 0,.slice none 0 0]) (t:=26) ?hr ?_;(case hd=>rfl);(case hg=>rfl);(case hr=>first|(go_simp;done)|(go_simp;rfl));intro gb375 hg w21 hbox hb;replace HO357:=Aside0.mk (Kd.V_below (Kd.V_elderB (by (with_reducible repeat (first|apply Kd.V_alloc|apply Kd.V_drewN|apply Kd.V_drew));exact HO357.out) gb375 (Nat.le_of_eq hg.symm)) hb);replace HO360:=Aside0.mk (Kd.V_below (Kd.V_elderB (by (with_reducible repeat (first|apply Kd.V_alloc|apply Kd.V_drewN|apply Kd.V_drew));exact HO360.out) gb375 (Nat.le_of_eq hg.symm)) hb);replace HO363:=Aside0.mk (Kd.V_below (Kd.V_elderB (by (with_reducible repeat (first|apply Kd.V_alloc|apply Kd.V_drewN|apply Kd.V_drew));exact HO363.out) gb375 (Nat.le_of_eq hg.symm)) hb);replace HO367:=Aside0.mk (Kd.R_below (by (with_reducible repeat (first|apply zk1|apply zk2|apply zk3));exact HO367.out) hb);replace HO370:=Aside0.mk (Kd.R_below (by (with_reducible repeat (first|apply zk1|apply zk2|apply zk3));exact HO370.out) hb);replace HO373:=Aside0.mk (Kd.R_below (by (with_reducible repeat (first|apply zk1|apply zk2|apply zk3));exact HO373.out) hb);have BK375:=Aside0.mk (hbox);have GW375:=Aside0.mk ((by rw [hg];exact (below_size (by repeat (first|(with_reducible first|exact HB.out|apply zl1|apply zl2|apply zl3|refine below_set ?_ GE350.out)|exact HB.out))):w.heap.size≤gb375));have GE375:=Aside0.mk ((by rw [hg];exact (below_size (by repeat (first|(with_reducible first|exact HB.out|apply zl1|apply zl2|apply zl3|refine below_set ?_ GE350.out)|exact HB.out))):w.heap.size≤gb375));replace HB:=Aside0.mk (below_step (by repeat (first|(with_reducible first|exact HB.out|apply zl1|apply zl2|apply zl3|refine below_set ?_ GE350.out)|exact HB.out)) hb);have NB350_375:=Aside0.mk ((by rw [hg];exact Nat.ne_of_lt (blk_lt (g:=gb350) (o:=.cells #[.bool a0_0,.slice A0_1 l0_1.length c0_1,.slice A0_2 l0_2.length c0_2,.slice A0_3 l0_3.length c0_3] 26 (0,0)) (by (with_reducible repeat (first|apply zb1|apply zb2|apply zb3));exact BK350.out)):gb350 ≠ gb375));have NB375_350:=Aside0.mk ((by rw [hg];exact Nat.ne_of_gt (blk_lt (g:=gb350) (o:=.cells #[.bool a0_0,.slice A0_1 l0_1.length c0_1,.slice A0_2 l0_2.length c0_2,.slice A0_3 l0_3.length c0_3] 26 (0,0)) (by (with_reducible repeat (first|apply zb1|apply zb2|apply zb3));exact BK350.out)):gb375 ≠ gb350));replace BK350:=Aside0.mk (blk_below (g:=gb350) (o:=.cells #[.bool a0_0,.slice A0_1 l0_1.length c0_1,.slice A0_2 l0_2.length c0_2,.slice A0_3 l0_3.length c0_3] 26 (0,0)) (by (with_reducible repeat (first|apply zb1|apply zb2|apply zb3));exact BK350.out) hb);clear hb hbox hg)|((with_reducible refine gate_dst (N:=4) rfl ?_);refine box_event ?hg (N:=4) ?hd (cs:=#[.bool false,.slice none 0 0,.slice none 0 0,.slice none 0 0]) (t:=26) ?hr ?_;(case hd=>rfl);(case hg=>rfl);(case hr=>first|(go_simp;done)|(go_simp;rfl));intro gb376 hg w22 hbox hb;replace HO357:=Aside0.mk (Kd.V_below (Kd.V_elderB (by (with_reducible repeat (first|apply Kd.V_alloc|apply Kd.V_drewN|apply Kd.V_drew));exact HO357.out) gb376 (Nat.le_of_eq hg.symm)) hb);replace HO360:=Aside0.mk (Kd.V_below (Kd.V_elderB (by (with_reducible repeat (first|apply Kd.V_alloc|apply Kd.V_drewN|apply Kd.V_drew));exact HO360.out) gb376 (Nat.le_of_eq hg.symm)) hb);replace HO363:=Aside0.mk (Kd.V_below (Kd.V_elderB (by (with_reducible repeat (first|apply Kd.V_alloc|apply Kd.V_drewN|apply Kd.V_drew));exact HO363.out) gb376 (Nat.le_of_eq hg.symm)) hb);replace HO367:=Aside0.mk (Kd.R_below (by (with_reducible repeat (first|apply zk1|apply zk2|apply zk3));exact HO367.out) hb);replace HO370:=Aside0.mk (Kd.R_below (by (with_reducible repeat (first|apply zk1|apply zk2|apply zk3));exact HO370.out) hb);replace HO373:=Aside0.mk (Kd.R_below (by (with_reducible repeat (first|apply zk1|apply zk2|apply zk3));exact HO373.out) hb);have BK376:=Aside0.mk (hbox);have GW376:=Aside0.mk ((by rw [hg];exact (below_size (by repeat (first|(with_reducible first|exact HB.out|apply zl1|apply zl2|apply zl3|refine below_set ?_ GE350.out|refine below_set ?_ GE375.out)|exact HB.out))):w.heap.size≤gb376));have GE376:=Aside0.mk ((by rw [hg];exact (below_size (by repeat (first|(with_reducible first|exact HB.out|apply zl1|apply zl2|apply zl3|refine below_set ?_ GE350.out|refine below_set ?_ GE375.out)|exact HB.out))):w.heap.size≤gb376));replace HB:=Aside0.mk (below_step (by repeat (first|(with_reducible first|exact HB.out|apply zl1|apply zl2|apply zl3|refine below_set ?_ GE350.out|refine below_set ?_ GE375.out)|exact HB.out)) hb);have NB350_376:=Aside0.mk ((by rw [hg];exact Nat.ne_of_lt (blk_lt (g:=gb350) (o:=.cells #[.bool a0_0,.slice A0_1 l0_1.length c0_1,.slice A0_2 l0_2.length c0_2,.slice A0_3 l0_3.length c0_3] 26 (0,0)) (by (with_reducible repeat (first|apply zb1|apply zb2|apply zb3));exact BK350.out)):gb350 ≠ gb376));have NB376_350:=Aside0.mk ((by rw [hg];exact Nat.ne_of_gt (blk_lt (g:=gb350) (o:=.cells #[.bool a0_0,.slice A0_1 l0_1.length c0_1,.slice A0_2 l0_2.length c0_2,.slice A0_3 l0_3.length c0_3] 26 (0,0)) (by (with_reducible repeat (first|apply zb1|apply zb2|apply zb3));exact BK350.out)):gb376 ≠ gb350));replace BK350:=Aside0.mk (blk_below (g:=gb350) (o:=.cells #[.bool a0_0,.slice A0_1 l0_1.length c0_1,.slice A0_2 l0_2.length c0_2,.slice A0_3 l0_3.length c0_3] 26 (0,0)) (by (with_reducible repeat (first|apply zb1|apply zb2|apply zb3));exact BK350.out) hb);have NB375_376:=Aside0.mk ((by rw [hg];exact Nat.ne_of_lt (blk_lt (g:=gb375) (o:=.cells #[.bool false,.slice none 0 0,.slice none 0 0,.slice none 0 0] 26 (0,0)) (by (with_reducible repeat (first|apply zb1|apply zb2|apply zb3));exact BK375.out)):gb375 ≠ gb376));have NB376_375:=Aside0.mk ((by rw [hg];exact Nat.ne_of_gt (blk_lt (g:=gb375) (o:=.cells #[.bool false,.slice none 0 0,.slice none 0 0,.slice none 0 0] 26 (0,0)) (by (with_reducible repeat (first|apply zb1|apply zb2|apply zb3));exact BK375.out)):gb376 ≠ gb375));replace BK375:=Aside0.mk (blk_below (g:=gb375) (o:=.cells #[.bool false,.slice none 0 0,.slice none 0 0,.slice none 0 0] 26 (0,0)) (by (with_reducible repeat (first|apply zb1|apply zb2|apply zb3));exact BK375.out) hb);clear hb hbox hg;obtain ⟨Ao23,co23,eo23⟩:=Kd.V_slice HO357.out;subst eo23;obtain ⟨Ao24,co24,eo24⟩:=Kd.V_slice HO360.out;subst eo24;obtain ⟨Ao25,co25,eo25⟩:=Kd.V_slice HO363.out;subst eo25)|((with_reducible refine gate_store (t:=26) (p:=3) rfl ?_);refine store_all 26 gb375 26 #[.bool false,.slice none 0 0,.slice none 0 0,.slice none 0 0] #[.bool t354,.slice Ao23 t355.length co23,.slice Ao24 t358.length co24,.slice Ao25 t361.length co25] rfl rfl rfl (by first|rfl|(go_simp;done)) (by (with_reducible repeat (first|apply zb1|apply zb2|apply zb3));exact BK375.out) (by kernel_rfl) rfl (by kernel_rfl) ?_;intro w26 hx hg;replace BK350:=Aside0.mk (blk_grown (g:=gb350) (o:=.cells #[.bool a0_0,.slice A0_1 l0_1.length c0_1,.slice A0_2 l0_2.length c0_2,.slice A0_3 l0_3.length c0_3] 26 (0,0)) (by (with_reducible repeat (first|apply zb1|apply zb2|apply zb3));exact BK350.out) hg (fun e_=>NB350_375.out (Option.some.inj e_)));replace HO357:=Aside0.mk (Kd.V_grown HO357.out hg (fun k_ hk_ he_=>(hk_.1.2) (Option.some.inj he_)));replace HO360:=Aside0.mk (Kd.V_grown HO360.out hg (fun k_ hk_ he_=>(hk_.1.2) (Option.some.inj he_)));replace HO363:=Aside0.mk (Kd.V_grown HO363.out hg (fun k_ hk_ he_=>(hk_.1.2) (Option.some.inj he_)));replace HO367:=Aside0.mk (Kd.R_mono (Kd.R_grown (Kd.R_types HO367.out BK375.out (by decide)) hg (fun k_ hk_ he_=>(hk_.2) (Option.some.inj he_))) (fun _ h_=>h_.1));replace HO370:=Aside0.mk (Kd.R_mono (Kd.R_grown (Kd.R_types HO370.out BK375.out (by decide)) hg (fun k_ hk_ he_=>(hk_.2) (Option.some.inj he_))) (fun _ h_=>h_.1));replace HO373:=Aside0.mk (Kd.R_mono (Kd.R_grown (Kd.R_types HO373.out BK375.out (by decide)) hg (fun k_ hk_ he_=>(hk_.2) (Option.some.inj he_))) (fun _ h_=>h_.1));replace BK376:=Aside0.mk (blk_grown (g:=gb376) (o:=.cells #[.bool false,.slice none 0 0,.slice none 0 0,.slice none 0 0] 26 (0,0)) (by (with_reducible repeat (first|apply zb1|apply zb2|apply zb3));exact BK376.out) hg (fun e_=>NB376_375.out (Option.some.inj e_)));replace HB:=Aside0.mk ((fun {W_:World} (hB_:Below w.heap.size w W_) (hg_:W_.grownBy w26 (some gb375))=>hB_.grown hg_ hB_.size (fun k_ e_=>by cases e_;exact GE375.out)) (by repeat (first|(with_reducible first|exact HB.out|apply zl1|apply zl2|apply zl3|refine below_set ?_ GE350.out|refine below_set ?_ GE375.out|refine below_set ?_ GE376.out)|exact HB.out)) hg);replace BK375:=Aside0.mk (hx);clear hx hg;obtain ⟨Ao27,co27,eo27⟩:=Kd.R_slice HO367.out;subst eo27;obtain ⟨Ao28,co28,eo28⟩:=Kd.R_slice HO370.out;subst eo28;obtain ⟨Ao29,co29,eo29⟩:=Kd.R_slice HO373.out;subst eo29)|((with_reducible refine gate_store (t:=26) (p:=4) rfl ?_);refine store_all 26 gb376 26 #[.bool false,.slice none 0 0,.slice none 0 0,.slice none 0 0] #[.bool t364,.slice Ao27 t365.length co27,.slice Ao28 t368.length co28,.slice Ao29 t371.length co29] rfl rfl rfl (by first|rfl|(go_simp;done)) (by (with_reducible repeat (first|apply zb1|apply zb2|apply zb3));exact BK376.out) (by kernel_rfl) rfl (by kernel_rfl) ?_;intro w30 hx hg;replace BK350:=Aside0.mk (blk_grown (g:=gb350) (o:=.cells #[.bool a0_0,.slice A0_1 l0_1.length c0_1,.slice A0_2 l0_2.length c0_2,.slice A0_3 l0_3.length c0_3] 26 (0,0)) (by (with_reducible repeat (first|apply zb1|apply zb2|apply zb3));exact BK350.out) hg (fun e_=>NB350_376.out (Option.some.inj e_)));replace HO357:=Aside0.mk (Kd.V_grown HO357.out hg (fun k_ hk_ he_=>(hk_.2) (Option.some.inj he_)));replace HO360:=Aside0.mk (Kd.V_grown HO360.out hg (fun k_ hk_ he_=>(hk_.2) (Option.some.inj he_)));replace HO363:=Aside0.mk (Kd.V_grown HO363.out hg (fun k_ hk_ he_=>(hk_.2) (Option.some.inj he_)));replace HO367:=Aside0.mk (Kd.R_mono (Kd.R_grown (Kd.R_types HO367.out BK376.out (by decide)) hg (fun k_ hk_ he_=>(hk_.2) (Option.some.inj he_))) (fun _ h_=>h_.1));replace HO370:=Aside0.mk (Kd.R_mono (Kd.R_grown (Kd.R_types HO370.out BK376.out (by decide)) hg (fun k_ hk_ he_=>(hk_.2) (Option.some.inj he_))) (fun _ h_=>h_.1));replace HO373:=Aside0.mk (Kd.R_mono (Kd.R_grown (Kd.R_types HO373.out BK376.out (by decide)) hg (fun k_ hk_ he_=>(hk_.2) (Option.some.inj he_))) (fun _ h_=>h_.1));replace BK375:=Aside0.mk (blk_grown (g:=gb375) (o:=.cells #[.bool t354,.slice Ao23 t355.length co23,.slice Ao24 t358.length co24,.slice Ao25 t361.length co25] 26 (0,0)) (by (with_reducible repeat (first|apply zb1|apply zb2|apply zb3));exact BK375.out) hg (fun e_=>NB375_376.out (Option.some.inj e_)));replace HB:=Aside0.mk ((fun {W_:World} (hB_:Below w.heap.size w W_) (hg_:W_.grownBy w30 (some gb376))=>hB_.grown hg_ hB_.size (fun k_ e_=>by cases e_;exact GE376.out)) (by repeat (first|(with_reducible first|exact HB.out|apply zl1|apply zl2|apply zl3|refine below_set ?_ GE350.out|refine below_set ?_ GE375.out|refine below_set ?_ GE376.out)|exact HB.out)) hg);replace BK376:=Aside0.mk (hx);clear hx hg;have hnb31:=NB375_350.out;have hnc31:=NB350_375.out;have hnb32:=NB375_376.out;have hnc32:=NB376_375.out;obtain ⟨hcz33_0,hcz33_1,hcz33_2,hcz33_3⟩:=zc4 BK375.out;obtain ⟨hfz33_0,hfz33_1,hfz33_2,hfz33_3⟩:=zf4 BK375.out;have hnb34:=NB350_376.out;have hnc34:=NB376_350.out;obtain ⟨hcz35_0,hcz35_1,hcz35_2,hcz35_3⟩:=zc4 BK350.out;obtain ⟨hfz35_0,hfz35_1,hfz35_2,hfz35_3⟩:=zf4 BK350.out)|((with_reducible refine gate_callee (f:=18) rfl ?_);refine goesL_ (some 26) rfl rfl Try.func18 (by kernel_rfl) rfl #[.agg #[.bool t354,.slice Ao23 t355.length co23,.slice Ao24 t358.length co24,.slice Ao25 t361.length co25],.agg #[.bool a0_0,.slice A0_1 l0_1.length c0_1,.slice A0_2 l0_2.length c0_2,.slice A0_3 l0_3.length c0_3]] rfl (by (try simp only [List.map_toArray,List.map_cons,List.map_nil]);first|done|rfl|(simp only [List.length_drop,List.length_take];rfl)|(simp (disch:=omega) only [u64_in];rfl)) ?_;(with_reducible refine (factotumref09_Same.calls kj1 t354 _ _ t355 _ _ t358 _ _ t361 a0_0 _ _ l0_1 _ _ l0_2 _ _ l0_3 true _ ?side1 ?side2 ?side3 ?side4 ?side5 ?side6 ?side7 ?side8 ?side9 ?side10 ?side11 ?side12 A16.out).mono ?_);(case side1=>repeat (first|exact (Kd.V_reads' HO357.out).2.2|(with_reducible refine Kd.C_alloc ?_ _)|(with_reducible refine Kd.C_drewN ?_ _)|(with_reducible refine Kd.C_drew ?_)));(case side2=>exact (Kd.V_reads' HO357.out).2.1);(case side3=>repeat (first|exact (Kd.V_reads' HO360.out).2.2|(with_reducible refine Kd.C_alloc ?_ _)|(with_reducible refine Kd.C_drewN ?_ _)|(with_reducible refine Kd.C_drew ?_)));(case side4=>exact (Kd.V_reads' HO360.out).2.1);(case side5=>repeat (first|exact (Kd.V_reads' HO363.out).2.2|(with_reducible refine Kd.C_alloc ?_ _)|(with_reducible refine Kd.C_drewN ?_ _)|(with_reducible refine Kd.C_drew ?_)));(case side6=>exact (Kd.V_reads' HO363.out).2.1);(case side7=>repeat (first|exact (Kd.C_below HR0_1.out HB.out)|(with_reducible refine Kd.C_alloc ?_ _)|(with_reducible refine Kd.C_drewN ?_ _)|(with_reducible refine Kd.C_drew ?_)));(case side8=>exact HC0_1.out);(case side9=>repeat (first|exact (Kd.C_below HR0_2.out HB.out)|(with_reducible refine Kd.C_alloc ?_ _)|(with_reducible refine Kd.C_drewN ?_ _)|(with_reducible refine Kd.C_drew ?_)));(case side10=>exact HC0_2.out);(case side11=>repeat (first|exact (Kd.C_below HR0_3.out HB.out)|(with_reducible refine Kd.C_alloc ?_ _)|(with_reducible refine Kd.C_drewN ?_ _)|(with_reducible refine Kd.C_drew ?_)));(case side12=>exact HC0_3.out);rintro e w36 ⟨rfl,hb⟩;refine ⟨_,rfl,?_⟩;replace HO357:=Aside0.mk (Kd.V_below (by (with_reducible repeat (first|apply Kd.V_alloc|apply Kd.V_drewN|apply Kd.V_drew));exact HO357.out) hb);replace HO360:=Aside0.mk (Kd.V_below (by (with_reducible repeat (first|apply Kd.V_alloc|apply Kd.V_drewN|apply Kd.V_drew));exact HO360.out) hb);replace HO363:=Aside0.mk (Kd.V_below (by (with_reducible repeat (first|apply Kd.V_alloc|apply Kd.V_drewN|apply Kd.V_drew));exact HO363.out) hb);replace HO367:=Aside0.mk (Kd.R_below (by (with_reducible repeat (first|apply zk1|apply zk2|apply zk3));exact HO367.out) hb);replace HO370:=Aside0.mk (Kd.R_below (by (with_reducible repeat (first|apply zk1|apply zk2|apply zk3));exact HO370.out) hb);replace HO373:=Aside0.mk (Kd.R_below (by (with_reducible repeat (first|apply zk1|apply zk2|apply zk3));exact HO373.out) hb);replace BK350:=Aside0.mk (blk_below (g:=gb350) (o:=.cells #[.bool a0_0,.slice A0_1 l0_1.length c0_1,.slice A0_2 l0_2.length c0_2,.slice A0_3 l0_3.length c0_3] 26 (0,0)) (by (with_reducible repeat (first|apply zb1|apply zb2|apply zb3));exact BK350.out) hb);replace BK375:=Aside0.mk (blk_below (g:=gb375) (o:=.cells #[.bool t354,.slice Ao23 t355.length co23,.slice Ao24 t358.length co24,.slice Ao25 t361.length co25] 26 (0,0)) (by (with_reducible repeat (first|apply zb1|apply zb2|apply zb3));exact BK375.out) hb);replace BK376:=Aside0.mk (blk_below (g:=gb376) (o:=.cells #[.bool t364,.slice Ao27 t365.length co27,.slice Ao28 t368.length co28,.slice Ao29 t371.length co29] 26 (0,0)) (by (with_reducible repeat (first|apply zb1|apply zb2|apply zb3));exact BK376.out) hb);replace HB:=Aside0.mk (below_step (by repeat (first|(with_reducible first|exact HB.out|apply zl1|apply zl2|apply zl3|refine below_set ?_ GE350.out|refine below_set ?_ GE375.out|refine below_set ?_ GE376.out)|exact HB.out)) hb);(try clear hb);obtain ⟨hcz37_0,hcz37_1,hcz37_2,hcz37_3⟩:=zc4 BK376.out;obtain ⟨hfz37_0,hfz37_1,hfz37_2,hfz37_3⟩:=zf4 BK376.out)|(go_at_call 10;(with_reducible refine (node_Size.calls kj1 t364 _ _ t365 _ _ t368 _ _ t371 t378 _ ?side1 ?side2 ?side3 ?side4 ?side5 ?side6 A18.out).mono ?_);(case side1=>repeat (first|exact (Kd.R_reads' HO367.out).2.2|(with_reducible refine Kd.C_alloc ?_ _)|(with_reducible refine Kd.C_drewN ?_ _)|(with_reducible refine Kd.C_drew ?_)));(case side2=>exact (Kd.R_reads' HO367.out).2.1);(case side3=>repeat (first|exact (Kd.R_reads' HO370.out).2.2|(with_reducible refine Kd.C_alloc ?_ _)|(with_reducible refine Kd.C_drewN ?_ _)|(with_reducible refine Kd.C_drew ?_)));(case side4=>exact (Kd.R_reads' HO370.out).2.1);(case side5=>repeat (first|exact (Kd.R_reads' HO373.out).2.2|(with_reducible refine Kd.C_alloc ?_ _)|(with_reducible refine Kd.C_drewN ?_ _)|(with_reducible refine Kd.C_drew ?_)));(case side6=>exact (Kd.R_reads' HO373.out).2.1);rintro e w38 ⟨rfl,hb⟩;replace HO357:=Aside0.mk (Kd.V_below (by (with_reducible repeat (first|apply Kd.V_alloc|apply Kd.V_drewN|apply Kd.V_drew));exact HO357.out) hb);replace HO360:=Aside0.mk (Kd.V_below (by (with_reducible repeat (first|apply Kd.V_alloc|apply Kd.V_drewN|apply Kd.V_drew));exact HO360.out) hb);replace HO363:=Aside0.mk (Kd.V_below (by (with_reducible repeat (first|apply Kd.V_alloc|apply Kd.V_drewN|apply Kd.V_drew));exact HO363.out) hb);replace HO367:=Aside0.mk (Kd.R_below (by (with_reducible repeat (first|apply zk1|apply zk2|apply zk3));exact HO367.out) hb);replace HO370:=Aside0.mk (Kd.R_below (by (with_reducible repeat (first|apply zk1|apply zk2|apply zk3));exact HO370.out) hb);replace HO373:=Aside0.mk (Kd.R_below (by (with_reducible repeat (first|apply zk1|apply zk2|apply zk3));exact HO373.out) hb);replace BK350:=Aside0.mk (blk_below (g:=gb350) (o:=.cells #[.bool a0_0,.slice A0_1 l0_1.length c0_1,.slice A0_2 l0_2.length c0_2,.slice A0_3 l0_3.length c0_3] 26 (0,0)) (by (with_reducible repeat (first|apply zb1|apply zb2|apply zb3));exact BK350.out) hb);replace BK375:=Aside0.mk (blk_below (g:=gb375) (o:=.cells #[.bool t354,.slice Ao23 t355.length co23,.slice Ao24 t358.length co24,.slice Ao25 t361.length co25] 26 (0,0)) (by (with_reducible repeat (first|apply zb1|apply zb2|apply zb3));exact BK375.out) hb);replace BK376:=Aside0.mk (blk_below (g:=gb376) (o:=.cells #[.bool t364,.slice Ao27 t365.length co27,.slice Ao28 t368.length co28,.slice Ao29 t371.length co29] 26 (0,0)) (by (with_reducible repeat (first|apply zb1|apply zb2|apply zb3));exact BK376.out) hb);replace HB:=Aside0.mk (below_step (by repeat (first|(with_reducible first|exact HB.out|apply zl1|apply zl2|apply zl3|refine below_set ?_ GE350.out|refine below_set ?_ GE375.out|refine below_set ?_ GE376.out)|exact HB.out)) hb);(try clear hb)))
      go_ret
      exact ⟨by first|(with_reducible rfl)|(simp only [isEmpty_bne,Bool.not_not] <;> rfl)|rfl|(simp [*,errW_none,errW_some] <;> rfl),by repeat (first|(with_reducible first|exact HB.out|apply zl1|apply zl2|apply zl3|refine below_set ?_ GE350.out|refine below_set ?_ GE375.out|refine below_set ?_ GE376.out)|exact HB.out)⟩
     ·replace c17:=Bool.eq_false_iff.mpr c17
      subst c17
      have H1:(none)=some r:=by rw [if_neg (show ¬ (false=true) by decide)] at H;exact H
      clear H
      have H:=H1
      clear H1
      exact absurd H (by simp)
    ·rw [if_neg c15] at H
     have c15b0:(t374.toList == ([]:List UInt8))=false:=beq_eq_false_iff_ne.mpr c15
     (try (have c15b7:(t374.toList.isEmpty)=false:=by simp only [isEmpty_beq];exact c15b0))
     have c15b1:(t374.toList != ([]:List UInt8))=true:=bne_iff_ne.mpr c15
     have HC39:=Aside0.mk H
     clear H
     obtain ⟨hcz40_0,hcz40_1,hcz40_2,hcz40_3⟩:=zc4 BK350.out
     obtain ⟨hfz40_0,hfz40_1,hfz40_2,hfz40_3⟩:=zf4 BK350.out
     go_upto_region 6 with (first|((with_reducible refine gate_callee (f:=16) rfl ?_);refine goesL_ (some 18) rfl rfl Try.func16 (by kernel_rfl) rfl #[.agg #[.bool a0_0,.slice A0_1 l0_1.length c0_1,.slice A0_2 l0_2.length c0_2,.slice A0_3 l0_3.length c0_3]] rfl (by (try simp only [List.map_toArray,List.map_cons,List.map_nil]);first|done|rfl|(simp only [List.length_drop,List.length_take];rfl)|(simp (disch:=omega) only [u64_in];rfl)) ?_;(with_reducible refine (node_Split.calls kj1 a0_0 (fun k_=>k_ < w.heap.size) _ _ l0_1 (fun k_=>k_ < w.heap.size) _ _ l0_2 (fun k_=>k_ < w.heap.size) _ _ l0_3 t354 t355 t358 t361 t364 t365 t368 t371 t374 _ ?side1 ?side2 ?side3 A14.out).mono ?_);(case side1=>exact Kd.V_mk HC0_1.out (Kd.F_below (Kd.C_F k43_heap HR0_1.out) (by repeat (first|(with_reducible first|exact HB.out|apply zl1|apply zl2|apply zl3|refine below_set ?_ GE350.out)|exact HB.out))));(case side2=>exact Kd.V_mk HC0_2.out (Kd.F_below (Kd.C_F Kd.heap_string HR0_2.out) (by repeat (first|(with_reducible first|exact HB.out|apply zl1|apply zl2|apply zl3|refine below_set ?_ GE350.out)|exact HB.out))));(case side3=>exact Kd.V_mk HC0_3.out (Kd.F_below (Kd.C_F (Kd.heap_int .i64) HR0_3.out) (by repeat (first|(with_reducible first|exact HB.out|apply zl1|apply zl2|apply zl3|refine below_set ?_ GE350.out)|exact HB.out))));rintro e w41 ⟨v356,v359,v362,v366,v369,v372,rfl,ho0,ho1,ho2,ho3,ho4,ho5,hb⟩;refine ⟨_,rfl,?_⟩;have HO357:=Aside0.mk (Kd.V_lower (Kd.V_mono (ok':=fun k_=>some k_ ≠ (v366:Value).ownBlock∧some k_ ≠ (v369:Value).ownBlock∧some k_ ≠ (v372:Value).ownBlock∧k_ ≠ gb350) ho0 (fun k_ hk_=>⟨hk_.2.1,hk_.2.2.1,hk_.2.2.2,Or.elim hk_.1 (fun hs_=>Or.elim hs_ (fun hs_=>fun e_=>Nat.not_le.2 hs_ (by rw [e_];exact GW350.out)) (fun hs_=>Or.elim hs_ (fun hs_=>fun e_=>Nat.not_le.2 hs_ (by rw [e_];exact GW350.out)) (fun hs_=>fun e_=>Nat.not_le.2 hs_ (by rw [e_];exact GW350.out)))) (fun hn_=>(Kd.freshB (g:=gb350) (o:=.cells #[.bool a0_0,.slice A0_1 l0_1.length c0_1,.slice A0_2 l0_2.length c0_2,.slice A0_3 l0_3.length c0_3] 26 (0,0)) (by (with_reducible repeat (first|apply zb1|apply zb2|apply zb3));exact BK350.out) k_ hn_))⟩)) (below_size (by repeat (first|(with_reducible first|exact HB.out|apply zl1|apply zl2|apply zl3|refine below_set ?_ GE350.out)|exact HB.out))));have HO360:=Aside0.mk (Kd.V_lower (Kd.V_mono (ok':=fun k_=>some k_ ≠ (v366:Value).ownBlock∧some k_ ≠ (v369:Value).ownBlock∧some k_ ≠ (v372:Value).ownBlock∧k_ ≠ gb350) ho1 (fun k_ hk_=>⟨hk_.2.1,hk_.2.2.1,hk_.2.2.2,Or.elim hk_.1 (fun hs_=>Or.elim hs_ (fun hs_=>fun e_=>Nat.not_le.2 hs_ (by rw [e_];exact GW350.out)) (fun hs_=>Or.elim hs_ (fun hs_=>fun e_=>Nat.not_le.2 hs_ (by rw [e_];exact GW350.out)) (fun hs_=>fun e_=>Nat.not_le.2 hs_ (by rw [e_];exact GW350.out)))) (fun hn_=>(Kd.freshB (g:=gb350) (o:=.cells #[.bool a0_0,.slice A0_1 l0_1.length c0_1,.slice A0_2 l0_2.length c0_2,.slice A0_3 l0_3.length c0_3] 26 (0,0)) (by (with_reducible repeat (first|apply zb1|apply zb2|apply zb3));exact BK350.out) k_ hn_))⟩)) (below_size (by repeat (first|(with_reducible first|exact HB.out|apply zl1|apply zl2|apply zl3|refine below_set ?_ GE350.out)|exact HB.out))));have HO363:=Aside0.mk (Kd.V_lower (Kd.V_mono (ok':=fun k_=>some k_ ≠ (v366:Value).ownBlock∧some k_ ≠ (v369:Value).ownBlock∧some k_ ≠ (v372:Value).ownBlock∧k_ ≠ gb350) ho2 (fun k_ hk_=>⟨hk_.2.1,hk_.2.2.1,hk_.2.2.2,Or.elim hk_.1 (fun hs_=>Or.elim hs_ (fun hs_=>fun e_=>Nat.not_le.2 hs_ (by rw [e_];exact GW350.out)) (fun hs_=>Or.elim hs_ (fun hs_=>fun e_=>Nat.not_le.2 hs_ (by rw [e_];exact GW350.out)) (fun hs_=>fun e_=>Nat.not_le.2 hs_ (by rw [e_];exact GW350.out)))) (fun hn_=>(Kd.freshB (g:=gb350) (o:=.cells #[.bool a0_0,.slice A0_1 l0_1.length c0_1,.slice A0_2 l0_2.length c0_2,.slice A0_3 l0_3.length c0_3] 26 (0,0)) (by (with_reducible repeat (first|apply zb1|apply zb2|apply zb3));exact BK350.out) k_ hn_))⟩)) (below_size (by repeat (first|(with_reducible first|exact HB.out|apply zl1|apply zl2|apply zl3|refine below_set ?_ GE350.out)|exact HB.out))));have HO367:=Aside0.mk (Kd.R_lower (Kd.R_mono (ok':=fun k_=>True) ho3 (fun _ hk_=>trivial)) (below_size (by repeat (first|(with_reducible first|exact HB.out|apply zl1|apply zl2|apply zl3|refine below_set ?_ GE350.out)|exact HB.out))));have HO370:=Aside0.mk (Kd.R_lower (Kd.R_mono (ok':=fun k_=>True) ho4 (fun _ hk_=>trivial)) (below_size (by repeat (first|(with_reducible first|exact HB.out|apply zl1|apply zl2|apply zl3|refine below_set ?_ GE350.out)|exact HB.out))));have HO373:=Aside0.mk (Kd.R_lower (Kd.R_mono (ok':=fun k_=>True) ho5 (fun _ hk_=>trivial)) (below_size (by repeat (first|(with_reducible first|exact HB.out|apply zl1|apply zl2|apply zl3|refine below_set ?_ GE350.out)|exact HB.out))));replace BK350:=Aside0.mk (blk_below (g:=gb350) (o:=.cells #[.bool a0_0,.slice A0_1 l0_1.length c0_1,.slice A0_2 l0_2.length c0_2,.slice A0_3 l0_3.length c0_3] 26 (0,0)) (by (with_reducible repeat (first|apply zb1|apply zb2|apply zb3));exact BK350.out) hb);replace HB:=Aside0.mk (below_step (by repeat (first|(with_reducible first|exact HB.out|apply zl1|apply zl2|apply zl3|refine below_set ?_ GE350.out)|exact HB.out)) hb);(try clear hb);(try clear ho0);(try clear ho1);(try clear ho2);(try clear ho3);(try clear ho4);(try clear ho5))|((with_reducible refine gate_dst (N:=3) rfl ?_);refine box_event ?hg (N:=3) ?hd (cs:=#[.bool false,.slice none 0 0,.slice none 0 0,.slice none 0 0]) (t:=26) ?hr ?_;(case hd=>rfl);(case hg=>rfl);(case hr=>first|(go_simp;done)|(go_simp;rfl));intro gb375 hg w42 hbox hb;replace HO357:=Aside0.mk (Kd.V_below (Kd.V_elderB (by (with_reducible repeat (first|apply Kd.V_alloc|apply Kd.V_drewN|apply Kd.V_drew));exact HO357.out) gb375 (Nat.le_of_eq hg.symm)) hb);replace HO360:=Aside0.mk (Kd.V_below (Kd.V_elderB (by (with_reducible repeat (first|apply Kd.V_alloc|apply Kd.V_drewN|apply Kd.V_drew));exact HO360.out) gb375 (Nat.le_of_eq hg.symm)) hb);replace HO363:=Aside0.mk (Kd.V_below (Kd.V_elderB (by (with_reducible repeat (first|apply Kd.V_alloc|apply Kd.V_drewN|apply Kd.V_drew));exact HO363.out) gb375 (Nat.le_of_eq hg.symm)) hb);replace HO367:=Aside0.mk (Kd.R_below (by (with_reducible repeat (first|apply zk1|apply zk2|apply zk3));exact HO367.out) hb);replace HO370:=Aside0.mk (Kd.R_below (by (with_reducible repeat (first|apply zk1|apply zk2|apply zk3));exact HO370.out) hb);replace HO373:=Aside0.mk (Kd.R_below (by (with_reducible repeat (first|apply zk1|apply zk2|apply zk3));exact HO373.out) hb);have BK375:=Aside0.mk (hbox);have GW375:=Aside0.mk ((by rw [hg];exact (below_size (by repeat (first|(with_reducible first|exact HB.out|apply zl1|apply zl2|apply zl3|refine below_set ?_ GE350.out)|exact HB.out))):w.heap.size≤gb375));have GE375:=Aside0.mk ((by rw [hg];exact (below_size (by repeat (first|(with_reducible first|exact HB.out|apply zl1|apply zl2|apply zl3|refine below_set ?_ GE350.out)|exact HB.out))):w.heap.size≤gb375));replace HB:=Aside0.mk (below_step (by repeat (first|(with_reducible first|exact HB.out|apply zl1|apply zl2|apply zl3|refine below_set ?_ GE350.out)|exact HB.out)) hb);have NB350_375:=Aside0.mk ((by rw [hg];exact Nat.ne_of_lt (blk_lt (g:=gb350) (o:=.cells #[.bool a0_0,.slice A0_1 l0_1.length c0_1,.slice A0_2 l0_2.length c0_2,.slice A0_3 l0_3.length c0_3] 26 (0,0)) (by (with_reducible repeat (first|apply zb1|apply zb2|apply zb3));exact BK350.out)):gb350 ≠ gb375));have NB375_350:=Aside0.mk ((by rw [hg];exact Nat.ne_of_gt (blk_lt (g:=gb350) (o:=.cells #[.bool a0_0,.slice A0_1 l0_1.length c0_1,.slice A0_2 l0_2.length c0_2,.slice A0_3 l0_3.length c0_3] 26 (0,0)) (by (with_reducible repeat (first|apply zb1|apply zb2|apply zb3));exact BK350.out)):gb375 ≠ gb350));replace BK350:=Aside0.mk (blk_below (g:=gb350) (o:=.cells #[.bool a0_0,.slice A0_1 l0_1.length c0_1,.slice A0_2 l0_2.length c0_2,.slice A0_3 l0_3.length c0_3] 26 (0,0)) (by (with_reducible repeat (first|apply zb1|apply zb2|apply zb3));exact BK350.out) hb);clear hb hbox hg)|((with_reducible refine gate_dst (N:=4) rfl ?_);refine box_event ?hg (N:=4) ?hd (cs:=#[.bool false,.slice none 0 0,.slice none 0 0,.slice none 0 0]) (t:=26) ?hr ?_;(case hd=>rfl);(case hg=>rfl);(case hr=>first|(go_simp;done)|(go_simp;rfl));intro gb376 hg w43 hbox hb;replace HO357:=Aside0.mk (Kd.V_below (Kd.V_elderB (by (with_reducible repeat (first|apply Kd.V_alloc|apply Kd.V_drewN|apply Kd.V_drew));exact HO357.out) gb376 (Nat.le_of_eq hg.symm)) hb);replace HO360:=Aside0.mk (Kd.V_below (Kd.V_elderB (by (with_reducible repeat (first|apply Kd.V_alloc|apply Kd.V_drewN|apply Kd.V_drew));exact HO360.out) gb376 (Nat.le_of_eq hg.symm)) hb);replace HO363:=Aside0.mk (Kd.V_below (Kd.V_elderB (by (with_reducible repeat (first|apply Kd.V_alloc|apply Kd.V_drewN|apply Kd.V_drew));exact HO363.out) gb376 (Nat.le_of_eq hg.symm)) hb);replace HO367:=Aside0.mk (Kd.R_below (by (with_reducible repeat (first|apply zk1|apply zk2|apply zk3));exact HO367.out) hb);replace HO370:=Aside0.mk (Kd.R_below (by (with_reducible repeat (first|apply zk1|apply zk2|apply zk3));exact HO370.out) hb);replace HO373:=Aside0.mk (Kd.R_below (by (with_reducible repeat (first|apply zk1|apply zk2|apply zk3));exact HO373.out) hb);have BK376:=Aside0.mk (hbox);have GW376:=Aside0.mk ((by rw [hg];exact (below_size (by repeat (first|(with_reducible first|exact HB.out|apply zl1|apply zl2|apply zl3|refine below_set ?_ GE350.out|refine below_set ?_ GE375.out)|exact HB.out))):w.heap.size≤gb376));have GE376:=Aside0.mk ((by rw [hg];exact (below_size (by repeat (first|(with_reducible first|exact HB.out|apply zl1|apply zl2|apply zl3|refine below_set ?_ GE350.out|refine below_set ?_ GE375.out)|exact HB.out))):w.heap.size≤gb376));replace HB:=Aside0.mk (below_step (by repeat (first|(with_reducible first|exact HB.out|apply zl1|apply zl2|apply zl3|refine below_set ?_ GE350.out|refine below_set ?_ GE375.out)|exact HB.out)) hb);have NB350_376:=Aside0.mk ((by rw [hg];exact Nat.ne_of_lt (blk_lt (g:=gb350) (o:=.cells #[.bool a0_0,.slice A0_1 l0_1.length c0_1,.slice A0_2 l0_2.length c0_2,.slice A0_3 l0_3.length c0_3] 26 (0,0)) (by (with_reducible repeat (first|apply zb1|apply zb2|apply zb3));exact BK350.out)):gb350 ≠ gb376));have NB376_350:=Aside0.mk ((by rw [hg];exact Nat.ne_of_gt (blk_lt (g:=gb350) (o:=.cells #[.bool a0_0,.slice A0_1 l0_1.length c0_1,.slice A0_2 l0_2.length c0_2,.slice A0_3 l0_3.length c0_3] 26 (0,0)) (by (with_reducible repeat (first|apply zb1|apply zb2|apply zb3));exact BK350.out)):gb376 ≠ gb350));replace BK350:=Aside0.mk (blk_below (g:=gb350) (o:=.cells #[.bool a0_0,.slice A0_1 l0_1.length c0_1,.slice A0_2 l0_2.length c0_2,.slice A0_3 l0_3.length c0_3] 26 (0,0)) (by (with_reducible repeat (first|apply zb1|apply zb2|apply zb3));exact BK350.out) hb);have NB375_376:=Aside0.mk ((by rw [hg];exact Nat.ne_of_lt (blk_lt (g:=gb375) (o:=.cells #[.bool false,.slice none 0 0,.slice none 0 0,.slice none 0 0] 26 (0,0)) (by (with_reducible repeat (first|apply zb1|apply zb2|apply zb3));exact BK375.out)):gb375 ≠ gb376));have NB376_375:=Aside0.mk ((by rw [hg];exact Nat.ne_of_gt (blk_lt (g:=gb375) (o:=.cells #[.bool false,.slice none 0 0,.slice none 0 0,.slice none 0 0] 26 (0,0)) (by (with_reducible repeat (first|apply zb1|apply zb2|apply zb3));exact BK375.out)):gb376 ≠ gb375));replace BK375:=Aside0.mk (blk_below (g:=gb375) (o:=.cells #[.bool false,.slice none 0 0,.slice none 0 0,.slice none 0 0] 26 (0,0)) (by (with_reducible repeat (first|apply zb1|apply zb2|apply zb3));exact BK375.out) hb);clear hb hbox hg;obtain ⟨Ao44,co44,eo44⟩:=Kd.V_slice HO357.out;subst eo44;obtain ⟨Ao45,co45,eo45⟩:=Kd.V_slice HO360.out;subst eo45;obtain ⟨Ao46,co46,eo46⟩:=Kd.V_slice HO363.out;subst eo46)|((with_reducible refine gate_store (t:=26) (p:=3) rfl ?_);refine store_all 26 gb375 26 #[.bool false,.slice none 0 0,.slice none 0 0,.slice none 0 0] #[.bool t354,.slice Ao44 t355.length co44,.slice Ao45 t358.length co45,.slice Ao46 t361.length co46] rfl rfl rfl (by first|rfl|(go_simp;done)) (by (with_reducible repeat (first|apply zb1|apply zb2|apply zb3));exact BK375.out) (by kernel_rfl) rfl (by kernel_rfl) ?_;intro w47 hx hg;replace BK350:=Aside0.mk (blk_grown (g:=gb350) (o:=.cells #[.bool a0_0,.slice A0_1 l0_1.length c0_1,.slice A0_2 l0_2.length c0_2,.slice A0_3 l0_3.length c0_3] 26 (0,0)) (by (with_reducible repeat (first|apply zb1|apply zb2|apply zb3));exact BK350.out) hg (fun e_=>NB350_375.out (Option.some.inj e_)));replace HO357:=Aside0.mk (Kd.V_grown HO357.out hg (fun k_ hk_ he_=>(hk_.1.2) (Option.some.inj he_)));replace HO360:=Aside0.mk (Kd.V_grown HO360.out hg (fun k_ hk_ he_=>(hk_.1.2) (Option.some.inj he_)));replace HO363:=Aside0.mk (Kd.V_grown HO363.out hg (fun k_ hk_ he_=>(hk_.1.2) (Option.some.inj he_)));replace HO367:=Aside0.mk (Kd.R_mono (Kd.R_grown (Kd.R_types HO367.out BK375.out (by decide)) hg (fun k_ hk_ he_=>(hk_.2) (Option.some.inj he_))) (fun _ h_=>h_.1));replace HO370:=Aside0.mk (Kd.R_mono (Kd.R_grown (Kd.R_types HO370.out BK375.out (by decide)) hg (fun k_ hk_ he_=>(hk_.2) (Option.some.inj he_))) (fun _ h_=>h_.1));replace HO373:=Aside0.mk (Kd.R_mono (Kd.R_grown (Kd.R_types HO373.out BK375.out (by decide)) hg (fun k_ hk_ he_=>(hk_.2) (Option.some.inj he_))) (fun _ h_=>h_.1));replace BK376:=Aside0.mk (blk_grown (g:=gb376) (o:=.cells #[.bool false,.slice none 0 0,.slice none 0 0,.slice none 0 0] 26 (0,0)) (by (with_reducible repeat (first|apply zb1|apply zb2|apply zb3));exact BK376.out) hg (fun e_=>NB376_375.out (Option.some.inj e_)));replace HB:=Aside0.mk ((fun {W_:World} (hB_:Below w.heap.size w W_) (hg_:W_.grownBy w47 (some gb375))=>hB_.grown hg_ hB_.size (fun k_ e_=>by cases e_;exact GE375.out)) (by repeat (first|(with_reducible first|exact HB.out|apply zl1|apply zl2|apply zl3|refine below_set ?_ GE350.out|refine below_set ?_ GE375.out|refine below_set ?_ GE376.out)|exact HB.out)) hg);replace BK375:=Aside0.mk (hx);clear hx hg;obtain ⟨Ao48,co48,eo48⟩:=Kd.R_slice HO367.out;subst eo48;obtain ⟨Ao49,co49,eo49⟩:=Kd.R_slice HO370.out;subst eo49;obtain ⟨Ao50,co50,eo50⟩:=Kd.R_slice HO373.out;subst eo50)|((with_reducible refine gate_store (t:=26) (p:=4) rfl ?_);refine store_all 26 gb376 26 #[.bool false,.slice none 0 0,.slice none 0 0,.slice none 0 0] #[.bool t364,.slice Ao48 t365.length co48,.slice Ao49 t368.length co49,.slice Ao50 t371.length co50] rfl rfl rfl (by first|rfl|(go_simp;done)) (by (with_reducible repeat (first|apply zb1|apply zb2|apply zb3));exact BK376.out) (by kernel_rfl) rfl (by kernel_rfl) ?_;intro w51 hx hg;replace BK350:=Aside0.mk (blk_grown (g:=gb350) (o:=.cells #[.bool a0_0,.slice A0_1 l0_1.length c0_1,.slice A0_2 l0_2.length c0_2,.slice A0_3 l0_3.length c0_3] 26 (0,0)) (by (with_reducible repeat (first|apply zb1|apply zb2|apply zb3));exact BK350.out) hg (fun e_=>NB350_376.out (Option.some.inj e_)));replace HO357:=Aside0.mk (Kd.V_grown HO357.out hg (fun k_ hk_ he_=>(hk_.2) (Option.some.inj he_)));replace HO360:=Aside0.mk (Kd.V_grown HO360.out hg (fun k_ hk_ he_=>(hk_.2) (Option.some.inj he_)));replace HO363:=Aside0.mk (Kd.V_grown HO363.out hg (fun k_ hk_ he_=>(hk_.2) (Option.some.inj he_)));replace HO367:=Aside0.mk (Kd.R_mono (Kd.R_grown (Kd.R_types HO367.out BK376.out (by decide)) hg (fun k_ hk_ he_=>(hk_.2) (Option.some.inj he_))) (fun _ h_=>h_.1));replace HO370:=Aside0.mk (Kd.R_mono (Kd.R_grown (Kd.R_types HO370.out BK376.out (by decide)) hg (fun k_ hk_ he_=>(hk_.2) (Option.some.inj he_))) (fun _ h_=>h_.1));replace HO373:=Aside0.mk (Kd.R_mono (Kd.R_grown (Kd.R_types HO373.out BK376.out (by decide)) hg (fun k_ hk_ he_=>(hk_.2) (Option.some.inj he_))) (fun _ h_=>h_.1));replace BK375:=Aside0.mk (blk_grown (g:=gb375) (o:=.cells #[.bool t354,.slice Ao44 t355.length co44,.slice Ao45 t358.length co45,.slice Ao46 t361.length co46] 26 (0,0)) (by (with_reducible repeat (first|apply zb1|apply zb2|apply zb3));exact BK375.out) hg (fun e_=>NB375_376.out (Option.some.inj e_)));replace HB:=Aside0.mk ((fun {W_:World} (hB_:Below w.heap.size w W_) (hg_:W_.grownBy w51 (some gb376))=>hB_.grown hg_ hB_.size (fun k_ e_=>by cases e_;exact GE376.out)) (by repeat (first|(with_reducible first|exact HB.out|apply zl1|apply zl2|apply zl3|refine below_set ?_ GE350.out|refine below_set ?_ GE375.out|refine below_set ?_ GE376.out)|exact HB.out)) hg);replace BK376:=Aside0.mk (hx);clear hx hg))
     (try simp only [Act.put,List.setIfInBounds_toArray,List.set_cons_zero,List.set_cons_succ])
     go_cut [48] (fun v48 wc=>∃ (kq:Nat) (x48_38:Bool),v48=.bool x48_38∧Aside0 (factotumlaw09_NodeParts.j1 kq t374 x48_38 a0_0 l0_1 l0_2 l0_3 t354 t355 t358 t361 t364 t365 t368 t371=some r)∧Aside0 (kq≤kj1)∧Aside0 (Kd.V k43 43 wc w.heap.size (fun k_=>some k_ ≠ ((.slice Ao48 t365.length co48):Value).ownBlock∧some k_ ≠ ((.slice Ao49 t368.length co49):Value).ownBlock∧some k_ ≠ ((.slice Ao50 t371.length co50):Value).ownBlock∧k_ ≠ gb350∧k_ ≠ gb375∧k_ ≠ gb376) (.slice Ao44 t355.length co44) t355)∧Aside0 (Kd.V Kd.string 9 wc w.heap.size (fun k_=>some k_ ≠ ((.slice Ao48 t365.length co48):Value).ownBlock∧some k_ ≠ ((.slice Ao49 t368.length co49):Value).ownBlock∧some k_ ≠ ((.slice Ao50 t371.length co50):Value).ownBlock∧k_ ≠ gb350∧k_ ≠ gb375∧k_ ≠ gb376) (.slice Ao45 t358.length co45) t358)∧Aside0 (Kd.V (Kd.int .i64) 3 wc w.heap.size (fun k_=>some k_ ≠ ((.slice Ao48 t365.length co48):Value).ownBlock∧some k_ ≠ ((.slice Ao49 t368.length co49):Value).ownBlock∧some k_ ≠ ((.slice Ao50 t371.length co50):Value).ownBlock∧k_ ≠ gb350∧k_ ≠ gb375∧k_ ≠ gb376) (.slice Ao46 t361.length co46) t361)∧Aside0 (Kd.R k43 43 wc w.heap.size (fun _=>True) (.slice Ao48 t365.length co48) t365)∧Aside0 (Kd.R Kd.string 9 wc w.heap.size (fun _=>True) (.slice Ao49 t368.length co49) t368)∧Aside0 (Kd.R (Kd.int .i64) 3 wc w.heap.size (fun _=>True) (.slice Ao50 t371.length co50) t371)∧Aside0 (wc.heap[gb350]?=some (.cells #[.bool a0_0,(.slice A0_1 l0_1.length c0_1),(.slice A0_2 l0_2.length c0_2),(.slice A0_3 l0_3.length c0_3)] 26 (0,0)))∧Aside0 (wc.heap[gb375]?=some (.cells #[.bool t354,(.slice Ao44 t355.length co44),(.slice Ao45 t358.length co45),(.slice Ao46 t361.length co46)] 26 (0,0)))∧Aside0 (wc.heap[gb376]?=some (.cells #[.bool t364,(.slice Ao48 t365.length co48),(.slice Ao49 t368.length co49),(.slice Ao50 t371.length co50)] 26 (0,0)))∧Aside0 (Below w.heap.size w wc))
     case first =>
      have H:=HC39.out
      clear HC39
      replace H:=Option.bind_eq_some_iff.mp H
      obtain ⟨⟨t379,t380,t383,t386⟩,A520,H⟩:=H
      replace H:((factotumref09_Same.f kj1 t379 t380 t383 t386 a0_0 l0_1 l0_2 l0_3).bind fun t389=>(if t389=true then ((factotumref09_Right.f kj1 t354 t355 t358 t361).bind fun t390=>(if t390=true then ((factotumref09_Right.f kj1 t364 t365 t368 t371).bind fun t391=>(factotumlaw09_NodeParts.j1 kj1 t374 (!t391) a0_0 l0_1 l0_2 l0_3 t354 t355 t358 t361 t364 t365 t368 t371)) else (factotumlaw09_NodeParts.j1 kj1 t374 true a0_0 l0_1 l0_2 l0_3 t354 t355 t358 t361 t364 t365 t368 t371))) else (factotumlaw09_NodeParts.j1 kj1 t374 true a0_0 l0_1 l0_2 l0_3 t354 t355 t358 t361 t364 t365 t368 t371)))=some r:=H
      have A52:=Aside0.mk A520
      clear A520
      replace H:=Option.bind_eq_some_iff.mp H
      obtain ⟨t389,A530,H⟩:=H
      replace H:(if t389=true then ((factotumref09_Right.f kj1 t354 t355 t358 t361).bind fun t390=>(if t390=true then ((factotumref09_Right.f kj1 t364 t365 t368 t371).bind fun t391=>(factotumlaw09_NodeParts.j1 kj1 t374 (!t391) a0_0 l0_1 l0_2 l0_3 t354 t355 t358 t361 t364 t365 t368 t371)) else (factotumlaw09_NodeParts.j1 kj1 t374 true a0_0 l0_1 l0_2 l0_3 t354 t355 t358 t361 t364 t365 t368 t371))) else (factotumlaw09_NodeParts.j1 kj1 t374 true a0_0 l0_1 l0_2 l0_3 t354 t355 t358 t361 t364 t365 t368 t371))=some r:=H
      have A53:=Aside0.mk A530
      clear A530
      by_cases c54:t389=true
      ·subst c54
       have H1:((factotumref09_Right.f kj1 t354 t355 t358 t361).bind fun t390=>(if t390=true then ((factotumref09_Right.f kj1 t364 t365 t368 t371).bind fun t391=>(factotumlaw09_NodeParts.j1 kj1 t374 (!t391) a0_0 l0_1 l0_2 l0_3 t354 t355 t358 t361 t364 t365 t368 t371)) else (factotumlaw09_NodeParts.j1 kj1 t374 true a0_0 l0_1 l0_2 l0_3 t354 t355 t358 t361 t364 t365 t368 t371)))=some r:=by rw [if_pos rfl] at H;exact H
       clear H
       have H:=H1
       clear H1
       replace H:=Option.bind_eq_some_iff.mp H
       obtain ⟨t390,A550,H⟩:=H
       replace H:(if t390=true then ((factotumref09_Right.f kj1 t364 t365 t368 t371).bind fun t391=>(factotumlaw09_NodeParts.j1 kj1 t374 (!t391) a0_0 l0_1 l0_2 l0_3 t354 t355 t358 t361 t364 t365 t368 t371)) else (factotumlaw09_NodeParts.j1 kj1 t374 true a0_0 l0_1 l0_2 l0_3 t354 t355 t358 t361 t364 t365 t368 t371))=some r:=H
       have A55:=Aside0.mk A550
       clear A550
       by_cases c56:t390=true
       ·subst c56
        have H1:((factotumref09_Right.f kj1 t364 t365 t368 t371).bind fun t391=>(factotumlaw09_NodeParts.j1 kj1 t374 (!t391) a0_0 l0_1 l0_2 l0_3 t354 t355 t358 t361 t364 t365 t368 t371))=some r:=by rw [if_pos rfl] at H;exact H
        clear H
        have H:=H1
        clear H1
        replace H:=Option.bind_eq_some_iff.mp H
        obtain ⟨t391,A570,H⟩:=H
        replace H:(factotumlaw09_NodeParts.j1 kj1 t374 (!t391) a0_0 l0_1 l0_2 l0_3 t354 t355 t358 t361 t364 t365 t368 t371)=some r:=H
        have A57:=Aside0.mk A570
        clear A570
        have H':=Aside0.mk H
        clear H
        try go_wp2
        replace HO357:=Aside0.mk (Kd.V_drew HO357.out)
        replace HO360:=Aside0.mk (Kd.V_drew HO360.out)
        replace HO363:=Aside0.mk (Kd.V_drew HO363.out)
        replace HO367:=Aside0.mk (Kd.R_drew HO367.out)
        replace HO370:=Aside0.mk (Kd.R_drew HO370.out)
        replace HO373:=Aside0.mk (Kd.R_drew HO373.out)
        replace BK350:=Aside0.mk (blk_drew BK350.out)
        replace BK375:=Aside0.mk (blk_drew BK375.out)
        replace BK376:=Aside0.mk (blk_drew BK376.out)
        replace HB:=Aside0.mk (below_drew1 HB.out)
        refine start_ (n:=17) (S:=fun w'=>w'.cell? ⟨gb375,0,none⟩=some (.bool t354)∧w'.cell? ⟨gb375,1,none⟩=some (.slice Ao44 t355.length co44)∧w'.cell? ⟨gb375,2,none⟩=some (.slice Ao45 t358.length co45)∧w'.cell? ⟨gb375,3,none⟩=some (.slice Ao46 t361.length co46)∧w'.cell? ⟨gb376,0,none⟩=some (.bool t364)∧w'.cell? ⟨gb376,1,none⟩=some (.slice Ao48 t365.length co48)∧w'.cell? ⟨gb376,2,none⟩=some (.slice Ao49 t368.length co49)∧w'.cell? ⟨gb376,3,none⟩=some (.slice Ao50 t371.length co50)∧w'.cell? ⟨gb350,0,none⟩=some (.bool a0_0)∧w'.cell? ⟨gb350,1,none⟩=some (.slice A0_1 l0_1.length c0_1)∧w'.cell? ⟨gb350,2,none⟩=some (.slice A0_2 l0_2.length c0_2)∧w'.cell? ⟨gb350,3,none⟩=some (.slice A0_3 l0_3.length c0_3)) (ds:=[]) #[false,false,false,false,false,false,false,false,false,false,false,false,false,false,false,false,false] (by kernel_rfl) rfl rfl ⟨(blk_cell BK375.out 0).trans rfl,(blk_cell BK375.out 1).trans rfl,(blk_cell BK375.out 2).trans rfl,(blk_cell BK375.out 3).trans rfl,(blk_cell BK376.out 0).trans rfl,(blk_cell BK376.out 1).trans rfl,(blk_cell BK376.out 2).trans rfl,(blk_cell BK376.out 3).trans rfl,(blk_cell BK350.out 0).trans rfl,(blk_cell BK350.out 1).trans rfl,(blk_cell BK350.out 2).trans rfl,(blk_cell BK350.out 3).trans rfl⟩ (fun hHeld=>?_);refine with_tabW factotumlaw09_NodeParts.tab6 factotumlaw09_NodeParts.bits6 (fun HT_ HW_=>?_)
        generalize w51.drew=w58 at HO357 HO360 HO363 HO367 HO370 HO373 BK350 BK375 BK376 HB hHeld ⊢
        refine pure_ (i:=2) (N:=some 34) (v:=?_) (a':=?_) #[false,false,true,false,false,false,false,false,false,false,false,false,false,false,false,false,false] rfl rfl (any_of HT_.out (by kernel_rfl)) (fun _ _ _ h=>h) (Or.inl ⟨by rfl,?_⟩) ?_ ?_
        rotate_left
        ·intro w'
         go_simp
         with_reducible rfl
        rotate_left
        ·simp only [Act.put,List.setIfInBounds_toArray,List.set_cons_zero,List.set_cons_succ,i64_w,i32_w]
         rfl
        refine take_ (i:=0) (N:=some 32) (v:=?_) (a':=?_) #[true,false,true,false,false,false,false,false,false,false,false,false,false,false,false,false,false] rfl rfl (take_ofW HT_.out HW_.out (by kernel_rfl)) (fun _ _ _ h=>h) (Or.inl ⟨by rfl,?_⟩) hHeld ?_ ?_
        rotate_left
        ·rintro w' ⟨s0,s1,s2,s3,s4,s5,s6,s7,s8,s9,s10,s11⟩
         go_simp
         with_reducible rfl
        rotate_left
        ·simp only [Act.put,List.setIfInBounds_toArray,List.set_cons_zero,List.set_cons_succ,i64_w,i32_w]
         rfl
        refine take_ (i:=1) (N:=some 33) (v:=?_) (a':=?_) #[true,true,true,false,false,false,false,false,false,false,false,false,false,false,false,false,false] rfl rfl (take_ofW HT_.out HW_.out (by kernel_rfl)) (fun _ _ _ h=>h) (Or.inl ⟨by rfl,?_⟩) hHeld ?_ ?_
        rotate_left
        ·rintro w' ⟨s0,s1,s2,s3,s4,s5,s6,s7,s8,s9,s10,s11⟩
         go_simp
         with_reducible rfl
        rotate_left
        ·simp only [Act.put,List.setIfInBounds_toArray,List.set_cons_zero,List.set_cons_succ,i64_w,i32_w]
         rfl
        refine take_ (i:=4) (N:=some 36) (v:=?_) (a':=?_) #[true,true,true,false,true,false,false,false,false,false,false,false,false,false,false,false,false] rfl rfl (take_ofW HT_.out HW_.out (by kernel_rfl)) (fun _ _ _ h=>h) (Or.inl ⟨by rfl,?_⟩) hHeld ?_ ?_
        rotate_left
        ·rintro w' ⟨s0,s1,s2,s3,s4,s5,s6,s7,s8,s9,s10,s11⟩
         go_simp
         with_reducible rfl
        rotate_left
        ·simp only [Act.put,List.setIfInBounds_toArray,List.set_cons_zero,List.set_cons_succ,i64_w,i32_w]
         rfl
        refine one_ (i:=3) (N:=some 35) #[true,true,true,true,true,false,false,false,false,false,false,false,false,false,false,false,false] rfl rfl (one_of HT_.out (by kernel_rfl)) (by decide) (fun K hK=>?_)
        refine goes_ Try.func19 (by kernel_rfl) rfl #[.agg #[.bool t354,.slice Ao44 t355.length co44,.slice Ao45 t358.length co45,.slice Ao46 t361.length co46],.agg #[.bool t364,.slice Ao48 t365.length co48,.slice Ao49 t368.length co49,.slice Ao50 t371.length co50],.string t374] (by rfl) rfl rfl (by (try simp only [List.map_toArray,List.map_cons,List.map_nil]);first|done|rfl|(simp only [List.length_drop,List.length_take];rfl)|(simp (disch:=omega) only [u64_in];rfl)) ?_
        with_reducible refine (node_Join.calls t354 _ _ t355 _ _ t358 _ _ t361 t364 _ _ t365 _ _ t368 _ _ t371 t374 t379 t380 t383 t386 _ ?side1 ?side2 ?side3 ?side4 ?side5 ?side6 ?side7 ?side8 ?side9 ?side10 ?side11 ?side12 A52.out).mono ?_
        (case side1=>repeat (first|exact (Kd.V_reads' HO357.out).2.2|(with_reducible refine Kd.C_alloc ?_ _)|(with_reducible refine Kd.C_drewN ?_ _)|(with_reducible refine Kd.C_drew ?_)))
        (case side2=>exact (Kd.V_reads' HO357.out).2.1)
        (case side3=>repeat (first|exact (Kd.V_reads' HO360.out).2.2|(with_reducible refine Kd.C_alloc ?_ _)|(with_reducible refine Kd.C_drewN ?_ _)|(with_reducible refine Kd.C_drew ?_)))
        (case side4=>exact (Kd.V_reads' HO360.out).2.1)
        (case side5=>repeat (first|exact (Kd.V_reads' HO363.out).2.2|(with_reducible refine Kd.C_alloc ?_ _)|(with_reducible refine Kd.C_drewN ?_ _)|(with_reducible refine Kd.C_drew ?_)))
        (case side6=>exact (Kd.V_reads' HO363.out).2.1)
        (case side7=>repeat (first|exact (Kd.R_reads' HO367.out).2.2|(with_reducible refine Kd.C_alloc ?_ _)|(with_reducible refine Kd.C_drewN ?_ _)|(with_reducible refine Kd.C_drew ?_)))
        (case side8=>exact (Kd.R_reads' HO367.out).2.1)
        (case side9=>repeat (first|exact (Kd.R_reads' HO370.out).2.2|(with_reducible refine Kd.C_alloc ?_ _)|(with_reducible refine Kd.C_drewN ?_ _)|(with_reducible refine Kd.C_drew ?_)))
        (case side10=>exact (Kd.R_reads' HO370.out).2.1)
        (case side11=>repeat (first|exact (Kd.R_reads' HO373.out).2.2|(with_reducible refine Kd.C_alloc ?_ _)|(with_reducible refine Kd.C_drewN ?_ _)|(with_reducible refine Kd.C_drew ?_)))
        (case side12=>exact (Kd.R_reads' HO373.out).2.1)
        rintro e w59 ⟨v381,v384,v387,rfl,ho0,ho1,ho2,hb⟩
        refine ⟨_,rfl,?_⟩
        replace HO357:=Aside0.mk (Kd.V_mono (Kd.V_told (Kd.V_told (Kd.V_told (Kd.V_old (by (with_reducible repeat (first|apply Kd.V_alloc|apply Kd.V_drewN|apply Kd.V_drew));exact HO357.out) hb) (Kd.R_base ho0)) (Kd.R_base ho1)) (Kd.R_base ho2)) (fun _ h_=>h_.1))
        replace HO360:=Aside0.mk (Kd.V_mono (Kd.V_told (Kd.V_told (Kd.V_told (Kd.V_old (by (with_reducible repeat (first|apply Kd.V_alloc|apply Kd.V_drewN|apply Kd.V_drew));exact HO360.out) hb) (Kd.R_base ho0)) (Kd.R_base ho1)) (Kd.R_base ho2)) (fun _ h_=>h_.1))
        replace HO363:=Aside0.mk (Kd.V_mono (Kd.V_told (Kd.V_told (Kd.V_told (Kd.V_old (by (with_reducible repeat (first|apply Kd.V_alloc|apply Kd.V_drewN|apply Kd.V_drew));exact HO363.out) hb) (Kd.R_base ho0)) (Kd.R_base ho1)) (Kd.R_base ho2)) (fun _ h_=>h_.1))
        have HO382:=Aside0.mk (Kd.R_lower (Kd.R_new' ho0 (Kd.R_lt (by (with_reducible repeat (first|apply zk1|apply zk2|apply zk3));exact HO367.out))) (below_size (by repeat (first|(with_reducible first|exact HB.out|apply zl1|apply zl2|apply zl3|refine below_set ?_ GE350.out|refine below_set ?_ GE375.out|refine below_set ?_ GE376.out)|exact HB.out))))
        replace HO367:=Aside0.mk (Kd.R_elder' (by (with_reducible repeat (first|apply zk1|apply zk2|apply zk3));exact HO367.out) (Kd.R_base ho0) hb)
        have HO385:=Aside0.mk (Kd.R_lower (Kd.R_new' ho1 (Kd.R_lt (by (with_reducible repeat (first|apply zk1|apply zk2|apply zk3));exact HO370.out))) (below_size (by repeat (first|(with_reducible first|exact HB.out|apply zl1|apply zl2|apply zl3|refine below_set ?_ GE350.out|refine below_set ?_ GE375.out|refine below_set ?_ GE376.out)|exact HB.out))))
        replace HO370:=Aside0.mk (Kd.R_elder' (by (with_reducible repeat (first|apply zk1|apply zk2|apply zk3));exact HO370.out) (Kd.R_base ho1) hb)
        have HO388:=Aside0.mk (Kd.R_lower (Kd.R_new' ho2 (Kd.R_lt (by (with_reducible repeat (first|apply zk1|apply zk2|apply zk3));exact HO373.out))) (below_size (by repeat (first|(with_reducible first|exact HB.out|apply zl1|apply zl2|apply zl3|refine below_set ?_ GE350.out|refine below_set ?_ GE375.out|refine below_set ?_ GE376.out)|exact HB.out))))
        replace HO373:=Aside0.mk (Kd.R_elder' (by (with_reducible repeat (first|apply zk1|apply zk2|apply zk3));exact HO373.out) (Kd.R_base ho2) hb)
        replace BK350:=Aside0.mk (blk_below (g:=gb350) (o:=.cells #[.bool a0_0,.slice A0_1 l0_1.length c0_1,.slice A0_2 l0_2.length c0_2,.slice A0_3 l0_3.length c0_3] 26 (0,0)) (by (with_reducible repeat (first|apply zb1|apply zb2|apply zb3));exact BK350.out) hb)
        replace BK375:=Aside0.mk (blk_below (g:=gb375) (o:=.cells #[.bool t354,.slice Ao44 t355.length co44,.slice Ao45 t358.length co45,.slice Ao46 t361.length co46] 26 (0,0)) (by (with_reducible repeat (first|apply zb1|apply zb2|apply zb3));exact BK375.out) hb)
        replace BK376:=Aside0.mk (blk_below (g:=gb376) (o:=.cells #[.bool t364,.slice Ao48 t365.length co48,.slice Ao49 t368.length co49,.slice Ao50 t371.length co50] 26 (0,0)) (by (with_reducible repeat (first|apply zb1|apply zb2|apply zb3));exact BK376.out) hb)
        replace HB:=Aside0.mk (below_step (by repeat (first|(with_reducible first|exact HB.out|apply zl1|apply zl2|apply zl3|refine below_set ?_ GE350.out|refine below_set ?_ GE375.out|refine below_set ?_ GE376.out)|exact HB.out)) hb)
        (try clear hb)
        (try clear hb2)
        (try clear hk)
        (try clear hi)
        (try clear ho0)
        (try clear ho1)
        (try clear ho2)
        obtain ⟨Ao60,co60,eo60⟩:=Kd.R_slice HO382.out
        (first|subst eo60|(injection eo60 with f1_ f2_ f3_;have f4_:=f1_.symm;have f5_:=f3_.symm;clear f1_ f2_ f3_;subst f4_;subst f5_))
        obtain ⟨Ao61,co61,eo61⟩:=Kd.R_slice HO385.out
        (first|subst eo61|(injection eo61 with f1_ f2_ f3_;have f4_:=f1_.symm;have f5_:=f3_.symm;clear f1_ f2_ f3_;subst f4_;subst f5_))
        obtain ⟨Ao62,co62,eo62⟩:=Kd.R_slice HO388.out
        (first|subst eo62|(injection eo62 with f1_ f2_ f3_;have f4_:=f1_.symm;have f5_:=f3_.symm;clear f1_ f2_ f3_;subst f4_;subst f5_))
        refine hK.out _ _ ⟨(blk_cell BK375.out 0).trans rfl,(blk_cell BK375.out 1).trans rfl,(blk_cell BK375.out 2).trans rfl,(blk_cell BK375.out 3).trans rfl,(blk_cell BK376.out 0).trans rfl,(blk_cell BK376.out 1).trans rfl,(blk_cell BK376.out 2).trans rfl,(blk_cell BK376.out 3).trans rfl,(blk_cell BK350.out 0).trans rfl,(blk_cell BK350.out 1).trans rfl,(blk_cell BK350.out 2).trans rfl,(blk_cell BK350.out 3).trans rfl⟩ (fun hHeld=>?_)
        clear hK K
        refine norm_ (a':=?_) ?_ ?_
        rotate_left
        ·show Act.put _ (some 35) _=_
         simp only [Act.put,List.setIfInBounds_toArray,List.set_cons_zero,List.set_cons_succ,i64_w,i32_w]
         rfl
        refine one_ (i:=5) (N:=some 37) #[true,true,true,true,true,true,false,false,false,false,false,false,false,false,false,false,false] rfl rfl (one_of HT_.out (by kernel_rfl)) (by decide) (fun K hK=>?_)
        refine goes_ Try.func18 (by kernel_rfl) rfl #[.agg #[.bool t379,.slice Ao60 t380.length co60,.slice Ao61 t383.length co61,.slice Ao62 t386.length co62],.agg #[.bool a0_0,.slice A0_1 l0_1.length c0_1,.slice A0_2 l0_2.length c0_2,.slice A0_3 l0_3.length c0_3]] (by rfl) rfl rfl (by (try simp only [List.map_toArray,List.map_cons,List.map_nil]);first|done|rfl|(simp only [List.length_drop,List.length_take];rfl)|(simp (disch:=omega) only [u64_in];rfl)) ?_
        with_reducible refine (factotumref09_Same.calls kj1 t379 _ _ t380 _ _ t383 _ _ t386 a0_0 _ _ l0_1 _ _ l0_2 _ _ l0_3 true _ ?side1 ?side2 ?side3 ?side4 ?side5 ?side6 ?side7 ?side8 ?side9 ?side10 ?side11 ?side12 A53.out).mono ?_
        (case side1=>repeat (first|exact (Kd.R_reads' HO382.out).2.2|(with_reducible refine Kd.C_alloc ?_ _)|(with_reducible refine Kd.C_drewN ?_ _)|(with_reducible refine Kd.C_drew ?_)))
        (case side2=>exact (Kd.R_reads' HO382.out).2.1)
        (case side3=>repeat (first|exact (Kd.R_reads' HO385.out).2.2|(with_reducible refine Kd.C_alloc ?_ _)|(with_reducible refine Kd.C_drewN ?_ _)|(with_reducible refine Kd.C_drew ?_)))
        (case side4=>exact (Kd.R_reads' HO385.out).2.1)
        (case side5=>repeat (first|exact (Kd.R_reads' HO388.out).2.2|(with_reducible refine Kd.C_alloc ?_ _)|(with_reducible refine Kd.C_drewN ?_ _)|(with_reducible refine Kd.C_drew ?_)))
        (case side6=>exact (Kd.R_reads' HO388.out).2.1)
        (case side7=>repeat (first|exact (Kd.C_below HR0_1.out HB.out)|(with_reducible refine Kd.C_alloc ?_ _)|(with_reducible refine Kd.C_drewN ?_ _)|(with_reducible refine Kd.C_drew ?_)))
        (case side8=>exact HC0_1.out)
        (case side9=>repeat (first|exact (Kd.C_below HR0_2.out HB.out)|(with_reducible refine Kd.C_alloc ?_ _)|(with_reducible refine Kd.C_drewN ?_ _)|(with_reducible refine Kd.C_drew ?_)))
        (case side10=>exact HC0_2.out)
        (case side11=>repeat (first|exact (Kd.C_below HR0_3.out HB.out)|(with_reducible refine Kd.C_alloc ?_ _)|(with_reducible refine Kd.C_drewN ?_ _)|(with_reducible refine Kd.C_drew ?_)))
        (case side12=>exact HC0_3.out)
        rintro e w63 ⟨rfl,hb⟩
        refine ⟨_,rfl,?_⟩
        replace HO357:=Aside0.mk (Kd.V_below (by (with_reducible repeat (first|apply Kd.V_alloc|apply Kd.V_drewN|apply Kd.V_drew));exact HO357.out) hb)
        replace HO360:=Aside0.mk (Kd.V_below (by (with_reducible repeat (first|apply Kd.V_alloc|apply Kd.V_drewN|apply Kd.V_drew));exact HO360.out) hb)
        replace HO363:=Aside0.mk (Kd.V_below (by (with_reducible repeat (first|apply Kd.V_alloc|apply Kd.V_drewN|apply Kd.V_drew));exact HO363.out) hb)
        replace HO367:=Aside0.mk (Kd.R_below (by (with_reducible repeat (first|apply zk1|apply zk2|apply zk3));exact HO367.out) hb)
        replace HO370:=Aside0.mk (Kd.R_below (by (with_reducible repeat (first|apply zk1|apply zk2|apply zk3));exact HO370.out) hb)
        replace HO373:=Aside0.mk (Kd.R_below (by (with_reducible repeat (first|apply zk1|apply zk2|apply zk3));exact HO373.out) hb)
        replace HO382:=Aside0.mk (Kd.R_below (by (with_reducible repeat (first|apply zk1|apply zk2|apply zk3));exact HO382.out) hb)
        replace HO385:=Aside0.mk (Kd.R_below (by (with_reducible repeat (first|apply zk1|apply zk2|apply zk3));exact HO385.out) hb)
        replace HO388:=Aside0.mk (Kd.R_below (by (with_reducible repeat (first|apply zk1|apply zk2|apply zk3));exact HO388.out) hb)
        replace BK350:=Aside0.mk (blk_below (g:=gb350) (o:=.cells #[.bool a0_0,.slice A0_1 l0_1.length c0_1,.slice A0_2 l0_2.length c0_2,.slice A0_3 l0_3.length c0_3] 26 (0,0)) (by (with_reducible repeat (first|apply zb1|apply zb2|apply zb3));exact BK350.out) hb)
        replace BK375:=Aside0.mk (blk_below (g:=gb375) (o:=.cells #[.bool t354,.slice Ao44 t355.length co44,.slice Ao45 t358.length co45,.slice Ao46 t361.length co46] 26 (0,0)) (by (with_reducible repeat (first|apply zb1|apply zb2|apply zb3));exact BK375.out) hb)
        replace BK376:=Aside0.mk (blk_below (g:=gb376) (o:=.cells #[.bool t364,.slice Ao48 t365.length co48,.slice Ao49 t368.length co49,.slice Ao50 t371.length co50] 26 (0,0)) (by (with_reducible repeat (first|apply zb1|apply zb2|apply zb3));exact BK376.out) hb)
        replace HB:=Aside0.mk (below_step (by repeat (first|(with_reducible first|exact HB.out|apply zl1|apply zl2|apply zl3|refine below_set ?_ GE350.out|refine below_set ?_ GE375.out|refine below_set ?_ GE376.out)|exact HB.out)) hb)
        (try clear hb)
        (try clear hb2)
        (try clear hk)
        (try clear hi)
        refine hK.out _ _ ⟨(blk_cell BK375.out 0).trans rfl,(blk_cell BK375.out 1).trans rfl,(blk_cell BK375.out 2).trans rfl,(blk_cell BK375.out 3).trans rfl,(blk_cell BK376.out 0).trans rfl,(blk_cell BK376.out 1).trans rfl,(blk_cell BK376.out 2).trans rfl,(blk_cell BK376.out 3).trans rfl,(blk_cell BK350.out 0).trans rfl,(blk_cell BK350.out 1).trans rfl,(blk_cell BK350.out 2).trans rfl,(blk_cell BK350.out 3).trans rfl⟩ (fun hHeld=>?_)
        clear hK K
        refine norm_ (a':=?_) ?_ ?_
        rotate_left
        ·show Act.put _ (some 37) _=_
         simp only [Act.put,List.setIfInBounds_toArray,List.set_cons_zero,List.set_cons_succ,i64_w,i32_w]
         rfl
        refine pure_ (i:=6) (N:=some 38) (v:=?_) (a':=?_) #[true,true,true,true,true,true,true,false,false,false,false,false,false,false,false,false,false] rfl rfl (any_of HT_.out (by kernel_rfl)) (fun _ _ _ h=>h) (Or.inl ⟨by rfl,?_⟩) ?_ ?_
        rotate_left
        ·intro w'
         go_simp
         with_reducible rfl
        rotate_left
        ·simp only [Act.put,List.setIfInBounds_toArray,List.set_cons_zero,List.set_cons_succ,i64_w,i32_w]
         rfl
        refine pure_ (i:=7) (N:=some 39) (v:=?_) (a':=?_) #[true,true,true,true,true,true,true,true,false,false,false,false,false,false,false,false,false] rfl rfl (any_of HT_.out (by kernel_rfl)) (fun _ _ _ h=>h) (Or.inl ⟨by rfl,?_⟩) ?_ ?_
        rotate_left
        ·intro w'
         go_simp
         with_reducible rfl
        rotate_left
        ·simp only [Act.put,List.setIfInBounds_toArray,List.set_cons_zero,List.set_cons_succ,i64_w,i32_w]
         rfl
        refine take_ (i:=8) (N:=some 40) (v:=?_) (a':=?_) #[true,true,true,true,true,true,true,true,true,false,false,false,false,false,false,false,false] rfl rfl (take_ofW HT_.out HW_.out (by kernel_rfl)) (fun _ _ _ h=>h) (Or.inl ⟨by rfl,?_⟩) hHeld ?_ ?_
        rotate_left
        ·rintro w' ⟨s0,s1,s2,s3,s4,s5,s6,s7,s8,s9,s10,s11⟩
         go_simp
         with_reducible rfl
        rotate_left
        ·simp only [Act.put,List.setIfInBounds_toArray,List.set_cons_zero,List.set_cons_succ,i64_w,i32_w]
         rfl
        refine one_ (i:=9) (N:=some 41) #[true,true,true,true,true,true,true,true,true,true,false,false,false,false,false,false,false] rfl rfl (one_of HT_.out (by kernel_rfl)) (by decide) (fun K hK=>?_)
        refine goes_ Try.func21 (by kernel_rfl) rfl #[.agg #[.bool t354,.slice Ao44 t355.length co44,.slice Ao45 t358.length co45,.slice Ao46 t361.length co46]] (by rfl) rfl rfl (by (try simp only [List.map_toArray,List.map_cons,List.map_nil]);first|done|rfl|(simp only [List.length_drop,List.length_take];rfl)|(simp (disch:=omega) only [u64_in];rfl)) ?_
        with_reducible refine (factotumref09_Right.calls kj1 t354 _ _ t355 _ _ t358 _ _ t361 true _ ?side1 ?side2 ?side3 ?side4 ?side5 ?side6 A55.out).mono ?_
        (case side1=>repeat (first|exact (Kd.V_reads' HO357.out).2.2|(with_reducible refine Kd.C_alloc ?_ _)|(with_reducible refine Kd.C_drewN ?_ _)|(with_reducible refine Kd.C_drew ?_)))
        (case side2=>exact (Kd.V_reads' HO357.out).2.1)
        (case side3=>repeat (first|exact (Kd.V_reads' HO360.out).2.2|(with_reducible refine Kd.C_alloc ?_ _)|(with_reducible refine Kd.C_drewN ?_ _)|(with_reducible refine Kd.C_drew ?_)))
        (case side4=>exact (Kd.V_reads' HO360.out).2.1)
        (case side5=>repeat (first|exact (Kd.V_reads' HO363.out).2.2|(with_reducible refine Kd.C_alloc ?_ _)|(with_reducible refine Kd.C_drewN ?_ _)|(with_reducible refine Kd.C_drew ?_)))
        (case side6=>exact (Kd.V_reads' HO363.out).2.1)
        rintro e w64 ⟨rfl,hb⟩
        refine ⟨_,rfl,?_⟩
        replace HO357:=Aside0.mk (Kd.V_below (by (with_reducible repeat (first|apply Kd.V_alloc|apply Kd.V_drewN|apply Kd.V_drew));exact HO357.out) hb)
        replace HO360:=Aside0.mk (Kd.V_below (by (with_reducible repeat (first|apply Kd.V_alloc|apply Kd.V_drewN|apply Kd.V_drew));exact HO360.out) hb)
        replace HO363:=Aside0.mk (Kd.V_below (by (with_reducible repeat (first|apply Kd.V_alloc|apply Kd.V_drewN|apply Kd.V_drew));exact HO363.out) hb)
        replace HO367:=Aside0.mk (Kd.R_below (by (with_reducible repeat (first|apply zk1|apply zk2|apply zk3));exact HO367.out) hb)
        replace HO370:=Aside0.mk (Kd.R_below (by (with_reducible repeat (first|apply zk1|apply zk2|apply zk3));exact HO370.out) hb)
        replace HO373:=Aside0.mk (Kd.R_below (by (with_reducible repeat (first|apply zk1|apply zk2|apply zk3));exact HO373.out) hb)
        replace HO382:=Aside0.mk (Kd.R_below (by (with_reducible repeat (first|apply zk1|apply zk2|apply zk3));exact HO382.out) hb)
        replace HO385:=Aside0.mk (Kd.R_below (by (with_reducible repeat (first|apply zk1|apply zk2|apply zk3));exact HO385.out) hb)
        replace HO388:=Aside0.mk (Kd.R_below (by (with_reducible repeat (first|apply zk1|apply zk2|apply zk3));exact HO388.out) hb)
        replace BK350:=Aside0.mk (blk_below (g:=gb350) (o:=.cells #[.bool a0_0,.slice A0_1 l0_1.length c0_1,.slice A0_2 l0_2.length c0_2,.slice A0_3 l0_3.length c0_3] 26 (0,0)) (by (with_reducible repeat (first|apply zb1|apply zb2|apply zb3));exact BK350.out) hb)
        replace BK375:=Aside0.mk (blk_below (g:=gb375) (o:=.cells #[.bool t354,.slice Ao44 t355.length co44,.slice Ao45 t358.length co45,.slice Ao46 t361.length co46] 26 (0,0)) (by (with_reducible repeat (first|apply zb1|apply zb2|apply zb3));exact BK375.out) hb)
        replace BK376:=Aside0.mk (blk_below (g:=gb376) (o:=.cells #[.bool t364,.slice Ao48 t365.length co48,.slice Ao49 t368.length co49,.slice Ao50 t371.length co50] 26 (0,0)) (by (with_reducible repeat (first|apply zb1|apply zb2|apply zb3));exact BK376.out) hb)
        replace HB:=Aside0.mk (below_step (by repeat (first|(with_reducible first|exact HB.out|apply zl1|apply zl2|apply zl3|refine below_set ?_ GE350.out|refine below_set ?_ GE375.out|refine below_set ?_ GE376.out)|exact HB.out)) hb)
        (try clear hb)
        (try clear hb2)
        (try clear hk)
        (try clear hi)
        refine hK.out _ _ ⟨(blk_cell BK375.out 0).trans rfl,(blk_cell BK375.out 1).trans rfl,(blk_cell BK375.out 2).trans rfl,(blk_cell BK375.out 3).trans rfl,(blk_cell BK376.out 0).trans rfl,(blk_cell BK376.out 1).trans rfl,(blk_cell BK376.out 2).trans rfl,(blk_cell BK376.out 3).trans rfl,(blk_cell BK350.out 0).trans rfl,(blk_cell BK350.out 1).trans rfl,(blk_cell BK350.out 2).trans rfl,(blk_cell BK350.out 3).trans rfl⟩ (fun hHeld=>?_)
        clear hK K
        refine norm_ (a':=?_) ?_ ?_
        rotate_left
        ·show Act.put _ (some 41) _=_
         simp only [Act.put,List.setIfInBounds_toArray,List.set_cons_zero,List.set_cons_succ,i64_w,i32_w]
         rfl
        refine pure_ (i:=10) (N:=some 42) (v:=?_) (a':=?_) #[true,true,true,true,true,true,true,true,true,true,true,false,false,false,false,false,false] rfl rfl (any_of HT_.out (by kernel_rfl)) (fun _ _ _ h=>h) (Or.inl ⟨by rfl,?_⟩) ?_ ?_
        rotate_left
        ·intro w'
         go_simp
         with_reducible rfl
        rotate_left
        ·simp only [Act.put,List.setIfInBounds_toArray,List.set_cons_zero,List.set_cons_succ,i64_w,i32_w]
         rfl
        refine pure_ (i:=11) (N:=some 43) (v:=?_) (a':=?_) #[true,true,true,true,true,true,true,true,true,true,true,true,false,false,false,false,false] rfl rfl (any_of HT_.out (by kernel_rfl)) (fun _ _ _ h=>h) (Or.inl ⟨by rfl,?_⟩) ?_ ?_
        rotate_left
        ·intro w'
         go_simp
         with_reducible rfl
        rotate_left
        ·simp only [Act.put,List.setIfInBounds_toArray,List.set_cons_zero,List.set_cons_succ,i64_w,i32_w]
         rfl
        refine pure_ (i:=12) (N:=some 44) (v:=?_) (a':=?_) #[true,true,true,true,true,true,true,true,true,true,true,true,true,false,false,false,false] rfl rfl (any_of HT_.out (by kernel_rfl)) (fun _ _ _ h=>h) (Or.inl ⟨by rfl,?_⟩) ?_ ?_
        rotate_left
        ·intro w'
         go_simp
         with_reducible rfl
        rotate_left
        ·simp only [Act.put,List.setIfInBounds_toArray,List.set_cons_zero,List.set_cons_succ,i64_w,i32_w]
         rfl
        refine take_ (i:=13) (N:=some 45) (v:=?_) (a':=?_) #[true,true,true,true,true,true,true,true,true,true,true,true,true,true,false,false,false] rfl rfl (take_ofW HT_.out HW_.out (by kernel_rfl)) (fun _ _ _ h=>h) (Or.inl ⟨by rfl,?_⟩) hHeld ?_ ?_
        rotate_left
        ·rintro w' ⟨s0,s1,s2,s3,s4,s5,s6,s7,s8,s9,s10,s11⟩
         go_simp
         with_reducible rfl
        rotate_left
        ·simp only [Act.put,List.setIfInBounds_toArray,List.set_cons_zero,List.set_cons_succ,i64_w,i32_w]
         rfl
        refine one_ (i:=14) (N:=some 46) #[true,true,true,true,true,true,true,true,true,true,true,true,true,true,true,false,false] rfl rfl (one_of HT_.out (by kernel_rfl)) (by decide) (fun K hK=>?_)
        refine goes_ Try.func21 (by kernel_rfl) rfl #[.agg #[.bool t364,.slice Ao48 t365.length co48,.slice Ao49 t368.length co49,.slice Ao50 t371.length co50]] (by rfl) rfl rfl (by (try simp only [List.map_toArray,List.map_cons,List.map_nil]);first|done|rfl|(simp only [List.length_drop,List.length_take];rfl)|(simp (disch:=omega) only [u64_in];rfl)) ?_
        with_reducible refine (factotumref09_Right.calls kj1 t364 _ _ t365 _ _ t368 _ _ t371 t391 _ ?side1 ?side2 ?side3 ?side4 ?side5 ?side6 A57.out).mono ?_
        (case side1=>repeat (first|exact (Kd.R_reads' HO367.out).2.2|(with_reducible refine Kd.C_alloc ?_ _)|(with_reducible refine Kd.C_drewN ?_ _)|(with_reducible refine Kd.C_drew ?_)))
        (case side2=>exact (Kd.R_reads' HO367.out).2.1)
        (case side3=>repeat (first|exact (Kd.R_reads' HO370.out).2.2|(with_reducible refine Kd.C_alloc ?_ _)|(with_reducible refine Kd.C_drewN ?_ _)|(with_reducible refine Kd.C_drew ?_)))
        (case side4=>exact (Kd.R_reads' HO370.out).2.1)
        (case side5=>repeat (first|exact (Kd.R_reads' HO373.out).2.2|(with_reducible refine Kd.C_alloc ?_ _)|(with_reducible refine Kd.C_drewN ?_ _)|(with_reducible refine Kd.C_drew ?_)))
        (case side6=>exact (Kd.R_reads' HO373.out).2.1)
        rintro e w65 ⟨rfl,hb⟩
        refine ⟨_,rfl,?_⟩
        replace HO357:=Aside0.mk (Kd.V_below (by (with_reducible repeat (first|apply Kd.V_alloc|apply Kd.V_drewN|apply Kd.V_drew));exact HO357.out) hb)
        replace HO360:=Aside0.mk (Kd.V_below (by (with_reducible repeat (first|apply Kd.V_alloc|apply Kd.V_drewN|apply Kd.V_drew));exact HO360.out) hb)
        replace HO363:=Aside0.mk (Kd.V_below (by (with_reducible repeat (first|apply Kd.V_alloc|apply Kd.V_drewN|apply Kd.V_drew));exact HO363.out) hb)
        replace HO367:=Aside0.mk (Kd.R_below (by (with_reducible repeat (first|apply zk1|apply zk2|apply zk3));exact HO367.out) hb)
        replace HO370:=Aside0.mk (Kd.R_below (by (with_reducible repeat (first|apply zk1|apply zk2|apply zk3));exact HO370.out) hb)
        replace HO373:=Aside0.mk (Kd.R_below (by (with_reducible repeat (first|apply zk1|apply zk2|apply zk3));exact HO373.out) hb)
        replace HO382:=Aside0.mk (Kd.R_below (by (with_reducible repeat (first|apply zk1|apply zk2|apply zk3));exact HO382.out) hb)
        replace HO385:=Aside0.mk (Kd.R_below (by (with_reducible repeat (first|apply zk1|apply zk2|apply zk3));exact HO385.out) hb)
        replace HO388:=Aside0.mk (Kd.R_below (by (with_reducible repeat (first|apply zk1|apply zk2|apply zk3));exact HO388.out) hb)
        replace BK350:=Aside0.mk (blk_below (g:=gb350) (o:=.cells #[.bool a0_0,.slice A0_1 l0_1.length c0_1,.slice A0_2 l0_2.length c0_2,.slice A0_3 l0_3.length c0_3] 26 (0,0)) (by (with_reducible repeat (first|apply zb1|apply zb2|apply zb3));exact BK350.out) hb)
        replace BK375:=Aside0.mk (blk_below (g:=gb375) (o:=.cells #[.bool t354,.slice Ao44 t355.length co44,.slice Ao45 t358.length co45,.slice Ao46 t361.length co46] 26 (0,0)) (by (with_reducible repeat (first|apply zb1|apply zb2|apply zb3));exact BK375.out) hb)
        replace BK376:=Aside0.mk (blk_below (g:=gb376) (o:=.cells #[.bool t364,.slice Ao48 t365.length co48,.slice Ao49 t368.length co49,.slice Ao50 t371.length co50] 26 (0,0)) (by (with_reducible repeat (first|apply zb1|apply zb2|apply zb3));exact BK376.out) hb)
        replace HB:=Aside0.mk (below_step (by repeat (first|(with_reducible first|exact HB.out|apply zl1|apply zl2|apply zl3|refine below_set ?_ GE350.out|refine below_set ?_ GE375.out|refine below_set ?_ GE376.out)|exact HB.out)) hb)
        (try clear hb)
        (try clear hb2)
        (try clear hk)
        (try clear hi)
        refine hK.out _ _ ⟨(blk_cell BK375.out 0).trans rfl,(blk_cell BK375.out 1).trans rfl,(blk_cell BK375.out 2).trans rfl,(blk_cell BK375.out 3).trans rfl,(blk_cell BK376.out 0).trans rfl,(blk_cell BK376.out 1).trans rfl,(blk_cell BK376.out 2).trans rfl,(blk_cell BK376.out 3).trans rfl,(blk_cell BK350.out 0).trans rfl,(blk_cell BK350.out 1).trans rfl,(blk_cell BK350.out 2).trans rfl,(blk_cell BK350.out 3).trans rfl⟩ (fun hHeld=>?_)
        clear hK K
        refine norm_ (a':=?_) ?_ ?_
        rotate_left
        ·show Act.put _ (some 46) _=_
         simp only [Act.put,List.setIfInBounds_toArray,List.set_cons_zero,List.set_cons_succ,i64_w,i32_w]
         rfl
        refine pure_ (i:=15) (N:=some 47) (v:=?_) (a':=?_) #[true,true,true,true,true,true,true,true,true,true,true,true,true,true,true,true,false] rfl rfl (any_of HT_.out (by kernel_rfl)) (fun _ _ _ h=>h) (Or.inl ⟨by rfl,?_⟩) ?_ ?_
        rotate_left
        ·intro w'
         go_simp
         with_reducible rfl
        rotate_left
        ·simp only [Act.put,List.setIfInBounds_toArray,List.set_cons_zero,List.set_cons_succ,i64_w,i32_w]
         rfl
        refine pure_ (i:=16) (N:=some 48) (v:=?_) (a':=?_) #[true,true,true,true,true,true,true,true,true,true,true,true,true,true,true,true,true] rfl rfl (any_of HT_.out (by kernel_rfl)) (fun _ _ _ h=>h) (Or.inl ⟨by rfl,?_⟩) ?_ ?_
        rotate_left
        ·intro w'
         go_simp
         with_reducible rfl
        rotate_left
        ·simp only [Act.put,List.setIfInBounds_toArray,List.set_cons_zero,List.set_cons_succ,i64_w,i32_w]
         rfl
        refine done_ (done_of HT_.out (by kernel_rfl)) ?_
        try go_wp2
        go_meet
        case rel=>exact ⟨_,(!t391),(by first|(with_reducible rfl)|(simp;done)|(simp [*];done)|rfl|(simp only [not_isEmpty_bne])),H',⟨by have:=HJ1.out;first|omega|exact Nat.le_refl _⟩,⟨by (with_reducible repeat (first|apply Kd.V_alloc|apply Kd.V_drewN|apply Kd.V_drew));exact Kd.V_mono HO357.out (fun _ hk=>⟨hk.1.1.1.1.1.1,⟨hk.1.1.1.1.1.2.1,⟨hk.1.1.1.1.1.2.2.1,⟨hk.1.1.1.1.1.2.2.2,⟨hk.1.1.1.1.2,hk.1.1.1.2⟩⟩⟩⟩⟩)⟩,⟨by (with_reducible repeat (first|apply Kd.V_alloc|apply Kd.V_drewN|apply Kd.V_drew));exact Kd.V_mono HO360.out (fun _ hk=>⟨hk.1.1.1.1.1.1,⟨hk.1.1.1.1.1.2.1,⟨hk.1.1.1.1.1.2.2.1,⟨hk.1.1.1.1.1.2.2.2,⟨hk.1.1.1.1.2,hk.1.1.1.2⟩⟩⟩⟩⟩)⟩,⟨by (with_reducible repeat (first|apply Kd.V_alloc|apply Kd.V_drewN|apply Kd.V_drew));exact Kd.V_mono HO363.out (fun _ hk=>⟨hk.1.1.1.1.1.1,⟨hk.1.1.1.1.1.2.1,⟨hk.1.1.1.1.1.2.2.1,⟨hk.1.1.1.1.1.2.2.2,⟨hk.1.1.1.1.2,hk.1.1.1.2⟩⟩⟩⟩⟩)⟩,⟨by (with_reducible repeat (first|apply zk1|apply zk2|apply zk3));exact Kd.R_mono HO367.out (fun _ hk=>trivial)⟩,⟨by (with_reducible repeat (first|apply zk1|apply zk2|apply zk3));exact Kd.R_mono HO370.out (fun _ hk=>trivial)⟩,⟨by (with_reducible repeat (first|apply zk1|apply zk2|apply zk3));exact Kd.R_mono HO373.out (fun _ hk=>trivial)⟩,⟨by (with_reducible repeat (first|apply zb1|apply zb2|apply zb3));exact BK350.out⟩,⟨by (with_reducible repeat (first|apply zb1|apply zb2|apply zb3));exact BK375.out⟩,⟨by (with_reducible repeat (first|apply zb1|apply zb2|apply zb3));exact BK376.out⟩,⟨by repeat (first|(with_reducible first|exact HB.out|apply zl1|apply zl2|apply zl3|refine below_set ?_ GE350.out|refine below_set ?_ GE375.out|refine below_set ?_ GE376.out)|exact HB.out)⟩⟩
       ·replace c56:=Bool.eq_false_iff.mpr c56
        subst c56
        have H1:(factotumlaw09_NodeParts.j1 kj1 t374 true a0_0 l0_1 l0_2 l0_3 t354 t355 t358 t361 t364 t365 t368 t371)=some r:=by rw [if_neg (show ¬ (false=true) by decide)] at H;exact H
        clear H
        have H:=H1
        clear H1
        have H':=Aside0.mk H
        clear H
        try go_wp2
        replace HO357:=Aside0.mk (Kd.V_drew HO357.out)
        replace HO360:=Aside0.mk (Kd.V_drew HO360.out)
        replace HO363:=Aside0.mk (Kd.V_drew HO363.out)
        replace HO367:=Aside0.mk (Kd.R_drew HO367.out)
        replace HO370:=Aside0.mk (Kd.R_drew HO370.out)
        replace HO373:=Aside0.mk (Kd.R_drew HO373.out)
        replace BK350:=Aside0.mk (blk_drew BK350.out)
        replace BK375:=Aside0.mk (blk_drew BK375.out)
        replace BK376:=Aside0.mk (blk_drew BK376.out)
        replace HB:=Aside0.mk (below_drew1 HB.out)
        refine start_ (n:=17) (S:=fun w'=>w'.cell? ⟨gb375,0,none⟩=some (.bool t354)∧w'.cell? ⟨gb375,1,none⟩=some (.slice Ao44 t355.length co44)∧w'.cell? ⟨gb375,2,none⟩=some (.slice Ao45 t358.length co45)∧w'.cell? ⟨gb375,3,none⟩=some (.slice Ao46 t361.length co46)∧w'.cell? ⟨gb376,0,none⟩=some (.bool t364)∧w'.cell? ⟨gb376,1,none⟩=some (.slice Ao48 t365.length co48)∧w'.cell? ⟨gb376,2,none⟩=some (.slice Ao49 t368.length co49)∧w'.cell? ⟨gb376,3,none⟩=some (.slice Ao50 t371.length co50)∧w'.cell? ⟨gb350,0,none⟩=some (.bool a0_0)∧w'.cell? ⟨gb350,1,none⟩=some (.slice A0_1 l0_1.length c0_1)∧w'.cell? ⟨gb350,2,none⟩=some (.slice A0_2 l0_2.length c0_2)∧w'.cell? ⟨gb350,3,none⟩=some (.slice A0_3 l0_3.length c0_3)) (ds:=[]) #[false,false,false,false,false,false,false,false,false,false,false,false,false,false,false,false,false] (by kernel_rfl) rfl rfl ⟨(blk_cell BK375.out 0).trans rfl,(blk_cell BK375.out 1).trans rfl,(blk_cell BK375.out 2).trans rfl,(blk_cell BK375.out 3).trans rfl,(blk_cell BK376.out 0).trans rfl,(blk_cell BK376.out 1).trans rfl,(blk_cell BK376.out 2).trans rfl,(blk_cell BK376.out 3).trans rfl,(blk_cell BK350.out 0).trans rfl,(blk_cell BK350.out 1).trans rfl,(blk_cell BK350.out 2).trans rfl,(blk_cell BK350.out 3).trans rfl⟩ (fun hHeld=>?_);refine with_tabW factotumlaw09_NodeParts.tab6 factotumlaw09_NodeParts.bits6 (fun HT_ HW_=>?_)
        generalize w51.drew=w66 at HO357 HO360 HO363 HO367 HO370 HO373 BK350 BK375 BK376 HB hHeld ⊢
        refine pure_ (i:=2) (N:=some 34) (v:=?_) (a':=?_) #[false,false,true,false,false,false,false,false,false,false,false,false,false,false,false,false,false] rfl rfl (any_of HT_.out (by kernel_rfl)) (fun _ _ _ h=>h) (Or.inl ⟨by rfl,?_⟩) ?_ ?_
        rotate_left
        ·intro w'
         go_simp
         with_reducible rfl
        rotate_left
        ·simp only [Act.put,List.setIfInBounds_toArray,List.set_cons_zero,List.set_cons_succ,i64_w,i32_w]
         rfl
        refine take_ (i:=0) (N:=some 32) (v:=?_) (a':=?_) #[true,false,true,false,false,false,false,false,false,false,false,false,false,false,false,false,false] rfl rfl (take_ofW HT_.out HW_.out (by kernel_rfl)) (fun _ _ _ h=>h) (Or.inl ⟨by rfl,?_⟩) hHeld ?_ ?_
        rotate_left
        ·rintro w' ⟨s0,s1,s2,s3,s4,s5,s6,s7,s8,s9,s10,s11⟩
         go_simp
         with_reducible rfl
        rotate_left
        ·simp only [Act.put,List.setIfInBounds_toArray,List.set_cons_zero,List.set_cons_succ,i64_w,i32_w]
         rfl
        refine take_ (i:=1) (N:=some 33) (v:=?_) (a':=?_) #[true,true,true,false,false,false,false,false,false,false,false,false,false,false,false,false,false] rfl rfl (take_ofW HT_.out HW_.out (by kernel_rfl)) (fun _ _ _ h=>h) (Or.inl ⟨by rfl,?_⟩) hHeld ?_ ?_
        rotate_left
        ·rintro w' ⟨s0,s1,s2,s3,s4,s5,s6,s7,s8,s9,s10,s11⟩
         go_simp
         with_reducible rfl
        rotate_left
        ·simp only [Act.put,List.setIfInBounds_toArray,List.set_cons_zero,List.set_cons_succ,i64_w,i32_w]
         rfl
        refine take_ (i:=4) (N:=some 36) (v:=?_) (a':=?_) #[true,true,true,false,true,false,false,false,false,false,false,false,false,false,false,false,false] rfl rfl (take_ofW HT_.out HW_.out (by kernel_rfl)) (fun _ _ _ h=>h) (Or.inl ⟨by rfl,?_⟩) hHeld ?_ ?_
        rotate_left
        ·rintro w' ⟨s0,s1,s2,s3,s4,s5,s6,s7,s8,s9,s10,s11⟩
         go_simp
         with_reducible rfl
        rotate_left
        ·simp only [Act.put,List.setIfInBounds_toArray,List.set_cons_zero,List.set_cons_succ,i64_w,i32_w]
         rfl
        refine one_ (i:=3) (N:=some 35) #[true,true,true,true,true,false,false,false,false,false,false,false,false,false,false,false,false] rfl rfl (one_of HT_.out (by kernel_rfl)) (by decide) (fun K hK=>?_)
        refine goes_ Try.func19 (by kernel_rfl) rfl #[.agg #[.bool t354,.slice Ao44 t355.length co44,.slice Ao45 t358.length co45,.slice Ao46 t361.length co46],.agg #[.bool t364,.slice Ao48 t365.length co48,.slice Ao49 t368.length co49,.slice Ao50 t371.length co50],.string t374] (by rfl) rfl rfl (by (try simp only [List.map_toArray,List.map_cons,List.map_nil]);first|done|rfl|(simp only [List.length_drop,List.length_take];rfl)|(simp (disch:=omega) only [u64_in];rfl)) ?_
        with_reducible refine (node_Join.calls t354 _ _ t355 _ _ t358 _ _ t361 t364 _ _ t365 _ _ t368 _ _ t371 t374 t379 t380 t383 t386 _ ?side1 ?side2 ?side3 ?side4 ?side5 ?side6 ?side7 ?side8 ?side9 ?side10 ?side11 ?side12 A52.out).mono ?_
        (case side1=>repeat (first|exact (Kd.V_reads' HO357.out).2.2|(with_reducible refine Kd.C_alloc ?_ _)|(with_reducible refine Kd.C_drewN ?_ _)|(with_reducible refine Kd.C_drew ?_)))
        (case side2=>exact (Kd.V_reads' HO357.out).2.1)
        (case side3=>repeat (first|exact (Kd.V_reads' HO360.out).2.2|(with_reducible refine Kd.C_alloc ?_ _)|(with_reducible refine Kd.C_drewN ?_ _)|(with_reducible refine Kd.C_drew ?_)))
        (case side4=>exact (Kd.V_reads' HO360.out).2.1)
        (case side5=>repeat (first|exact (Kd.V_reads' HO363.out).2.2|(with_reducible refine Kd.C_alloc ?_ _)|(with_reducible refine Kd.C_drewN ?_ _)|(with_reducible refine Kd.C_drew ?_)))
        (case side6=>exact (Kd.V_reads' HO363.out).2.1)
        (case side7=>repeat (first|exact (Kd.R_reads' HO367.out).2.2|(with_reducible refine Kd.C_alloc ?_ _)|(with_reducible refine Kd.C_drewN ?_ _)|(with_reducible refine Kd.C_drew ?_)))
        (case side8=>exact (Kd.R_reads' HO367.out).2.1)
        (case side9=>repeat (first|exact (Kd.R_reads' HO370.out).2.2|(with_reducible refine Kd.C_alloc ?_ _)|(with_reducible refine Kd.C_drewN ?_ _)|(with_reducible refine Kd.C_drew ?_)))
        (case side10=>exact (Kd.R_reads' HO370.out).2.1)
        (case side11=>repeat (first|exact (Kd.R_reads' HO373.out).2.2|(with_reducible refine Kd.C_alloc ?_ _)|(with_reducible refine Kd.C_drewN ?_ _)|(with_reducible refine Kd.C_drew ?_)))
        (case side12=>exact (Kd.R_reads' HO373.out).2.1)
        rintro e w67 ⟨v381,v384,v387,rfl,ho0,ho1,ho2,hb⟩
        refine ⟨_,rfl,?_⟩
        replace HO357:=Aside0.mk (Kd.V_mono (Kd.V_told (Kd.V_told (Kd.V_told (Kd.V_old (by (with_reducible repeat (first|apply Kd.V_alloc|apply Kd.V_drewN|apply Kd.V_drew));exact HO357.out) hb) (Kd.R_base ho0)) (Kd.R_base ho1)) (Kd.R_base ho2)) (fun _ h_=>h_.1))
        replace HO360:=Aside0.mk (Kd.V_mono (Kd.V_told (Kd.V_told (Kd.V_told (Kd.V_old (by (with_reducible repeat (first|apply Kd.V_alloc|apply Kd.V_drewN|apply Kd.V_drew));exact HO360.out) hb) (Kd.R_base ho0)) (Kd.R_base ho1)) (Kd.R_base ho2)) (fun _ h_=>h_.1))
        replace HO363:=Aside0.mk (Kd.V_mono (Kd.V_told (Kd.V_told (Kd.V_told (Kd.V_old (by (with_reducible repeat (first|apply Kd.V_alloc|apply Kd.V_drewN|apply Kd.V_drew));exact HO363.out) hb) (Kd.R_base ho0)) (Kd.R_base ho1)) (Kd.R_base ho2)) (fun _ h_=>h_.1))
        have HO382:=Aside0.mk (Kd.R_lower (Kd.R_new' ho0 (Kd.R_lt (by (with_reducible repeat (first|apply zk1|apply zk2|apply zk3));exact HO367.out))) (below_size (by repeat (first|(with_reducible first|exact HB.out|apply zl1|apply zl2|apply zl3|refine below_set ?_ GE350.out|refine below_set ?_ GE375.out|refine below_set ?_ GE376.out)|exact HB.out))))
        replace HO367:=Aside0.mk (Kd.R_elder' (by (with_reducible repeat (first|apply zk1|apply zk2|apply zk3));exact HO367.out) (Kd.R_base ho0) hb)
        have HO385:=Aside0.mk (Kd.R_lower (Kd.R_new' ho1 (Kd.R_lt (by (with_reducible repeat (first|apply zk1|apply zk2|apply zk3));exact HO370.out))) (below_size (by repeat (first|(with_reducible first|exact HB.out|apply zl1|apply zl2|apply zl3|refine below_set ?_ GE350.out|refine below_set ?_ GE375.out|refine below_set ?_ GE376.out)|exact HB.out))))
        replace HO370:=Aside0.mk (Kd.R_elder' (by (with_reducible repeat (first|apply zk1|apply zk2|apply zk3));exact HO370.out) (Kd.R_base ho1) hb)
        have HO388:=Aside0.mk (Kd.R_lower (Kd.R_new' ho2 (Kd.R_lt (by (with_reducible repeat (first|apply zk1|apply zk2|apply zk3));exact HO373.out))) (below_size (by repeat (first|(with_reducible first|exact HB.out|apply zl1|apply zl2|apply zl3|refine below_set ?_ GE350.out|refine below_set ?_ GE375.out|refine below_set ?_ GE376.out)|exact HB.out))))
        replace HO373:=Aside0.mk (Kd.R_elder' (by (with_reducible repeat (first|apply zk1|apply zk2|apply zk3));exact HO373.out) (Kd.R_base ho2) hb)
        replace BK350:=Aside0.mk (blk_below (g:=gb350) (o:=.cells #[.bool a0_0,.slice A0_1 l0_1.length c0_1,.slice A0_2 l0_2.length c0_2,.slice A0_3 l0_3.length c0_3] 26 (0,0)) (by (with_reducible repeat (first|apply zb1|apply zb2|apply zb3));exact BK350.out) hb)
        replace BK375:=Aside0.mk (blk_below (g:=gb375) (o:=.cells #[.bool t354,.slice Ao44 t355.length co44,.slice Ao45 t358.length co45,.slice Ao46 t361.length co46] 26 (0,0)) (by (with_reducible repeat (first|apply zb1|apply zb2|apply zb3));exact BK375.out) hb)
        replace BK376:=Aside0.mk (blk_below (g:=gb376) (o:=.cells #[.bool t364,.slice Ao48 t365.length co48,.slice Ao49 t368.length co49,.slice Ao50 t371.length co50] 26 (0,0)) (by (with_reducible repeat (first|apply zb1|apply zb2|apply zb3));exact BK376.out) hb)
        replace HB:=Aside0.mk (below_step (by repeat (first|(with_reducible first|exact HB.out|apply zl1|apply zl2|apply zl3|refine below_set ?_ GE350.out|refine below_set ?_ GE375.out|refine below_set ?_ GE376.out)|exact HB.out)) hb)
        (try clear hb)
        (try clear hb2)
        (try clear hk)
        (try clear hi)
        (try clear ho0)
        (try clear ho1)
        (try clear ho2)
        obtain ⟨Ao68,co68,eo68⟩:=Kd.R_slice HO382.out
        (first|subst eo68|(injection eo68 with f1_ f2_ f3_;have f4_:=f1_.symm;have f5_:=f3_.symm;clear f1_ f2_ f3_;subst f4_;subst f5_))
        obtain ⟨Ao69,co69,eo69⟩:=Kd.R_slice HO385.out
        (first|subst eo69|(injection eo69 with f1_ f2_ f3_;have f4_:=f1_.symm;have f5_:=f3_.symm;clear f1_ f2_ f3_;subst f4_;subst f5_))
        obtain ⟨Ao70,co70,eo70⟩:=Kd.R_slice HO388.out
        (first|subst eo70|(injection eo70 with f1_ f2_ f3_;have f4_:=f1_.symm;have f5_:=f3_.symm;clear f1_ f2_ f3_;subst f4_;subst f5_))
        refine hK.out _ _ ⟨(blk_cell BK375.out 0).trans rfl,(blk_cell BK375.out 1).trans rfl,(blk_cell BK375.out 2).trans rfl,(blk_cell BK375.out 3).trans rfl,(blk_cell BK376.out 0).trans rfl,(blk_cell BK376.out 1).trans rfl,(blk_cell BK376.out 2).trans rfl,(blk_cell BK376.out 3).trans rfl,(blk_cell BK350.out 0).trans rfl,(blk_cell BK350.out 1).trans rfl,(blk_cell BK350.out 2).trans rfl,(blk_cell BK350.out 3).trans rfl⟩ (fun hHeld=>?_)
        clear hK K
        refine norm_ (a':=?_) ?_ ?_
        rotate_left
        ·show Act.put _ (some 35) _=_
         simp only [Act.put,List.setIfInBounds_toArray,List.set_cons_zero,List.set_cons_succ,i64_w,i32_w]
         rfl
        refine one_ (i:=5) (N:=some 37) #[true,true,true,true,true,true,false,false,false,false,false,false,false,false,false,false,false] rfl rfl (one_of HT_.out (by kernel_rfl)) (by decide) (fun K hK=>?_)
        refine goes_ Try.func18 (by kernel_rfl) rfl #[.agg #[.bool t379,.slice Ao68 t380.length co68,.slice Ao69 t383.length co69,.slice Ao70 t386.length co70],.agg #[.bool a0_0,.slice A0_1 l0_1.length c0_1,.slice A0_2 l0_2.length c0_2,.slice A0_3 l0_3.length c0_3]] (by rfl) rfl rfl (by (try simp only [List.map_toArray,List.map_cons,List.map_nil]);first|done|rfl|(simp only [List.length_drop,List.length_take];rfl)|(simp (disch:=omega) only [u64_in];rfl)) ?_
        with_reducible refine (factotumref09_Same.calls kj1 t379 _ _ t380 _ _ t383 _ _ t386 a0_0 _ _ l0_1 _ _ l0_2 _ _ l0_3 true _ ?side1 ?side2 ?side3 ?side4 ?side5 ?side6 ?side7 ?side8 ?side9 ?side10 ?side11 ?side12 A53.out).mono ?_
        (case side1=>repeat (first|exact (Kd.R_reads' HO382.out).2.2|(with_reducible refine Kd.C_alloc ?_ _)|(with_reducible refine Kd.C_drewN ?_ _)|(with_reducible refine Kd.C_drew ?_)))
        (case side2=>exact (Kd.R_reads' HO382.out).2.1)
        (case side3=>repeat (first|exact (Kd.R_reads' HO385.out).2.2|(with_reducible refine Kd.C_alloc ?_ _)|(with_reducible refine Kd.C_drewN ?_ _)|(with_reducible refine Kd.C_drew ?_)))
        (case side4=>exact (Kd.R_reads' HO385.out).2.1)
        (case side5=>repeat (first|exact (Kd.R_reads' HO388.out).2.2|(with_reducible refine Kd.C_alloc ?_ _)|(with_reducible refine Kd.C_drewN ?_ _)|(with_reducible refine Kd.C_drew ?_)))
        (case side6=>exact (Kd.R_reads' HO388.out).2.1)
        (case side7=>repeat (first|exact (Kd.C_below HR0_1.out HB.out)|(with_reducible refine Kd.C_alloc ?_ _)|(with_reducible refine Kd.C_drewN ?_ _)|(with_reducible refine Kd.C_drew ?_)))
        (case side8=>exact HC0_1.out)
        (case side9=>repeat (first|exact (Kd.C_below HR0_2.out HB.out)|(with_reducible refine Kd.C_alloc ?_ _)|(with_reducible refine Kd.C_drewN ?_ _)|(with_reducible refine Kd.C_drew ?_)))
        (case side10=>exact HC0_2.out)
        (case side11=>repeat (first|exact (Kd.C_below HR0_3.out HB.out)|(with_reducible refine Kd.C_alloc ?_ _)|(with_reducible refine Kd.C_drewN ?_ _)|(with_reducible refine Kd.C_drew ?_)))
        (case side12=>exact HC0_3.out)
        rintro e w71 ⟨rfl,hb⟩
        refine ⟨_,rfl,?_⟩
        replace HO357:=Aside0.mk (Kd.V_below (by (with_reducible repeat (first|apply Kd.V_alloc|apply Kd.V_drewN|apply Kd.V_drew));exact HO357.out) hb)
        replace HO360:=Aside0.mk (Kd.V_below (by (with_reducible repeat (first|apply Kd.V_alloc|apply Kd.V_drewN|apply Kd.V_drew));exact HO360.out) hb)
        replace HO363:=Aside0.mk (Kd.V_below (by (with_reducible repeat (first|apply Kd.V_alloc|apply Kd.V_drewN|apply Kd.V_drew));exact HO363.out) hb)
        replace HO367:=Aside0.mk (Kd.R_below (by (with_reducible repeat (first|apply zk1|apply zk2|apply zk3));exact HO367.out) hb)
        replace HO370:=Aside0.mk (Kd.R_below (by (with_reducible repeat (first|apply zk1|apply zk2|apply zk3));exact HO370.out) hb)
        replace HO373:=Aside0.mk (Kd.R_below (by (with_reducible repeat (first|apply zk1|apply zk2|apply zk3));exact HO373.out) hb)
        replace HO382:=Aside0.mk (Kd.R_below (by (with_reducible repeat (first|apply zk1|apply zk2|apply zk3));exact HO382.out) hb)
        replace HO385:=Aside0.mk (Kd.R_below (by (with_reducible repeat (first|apply zk1|apply zk2|apply zk3));exact HO385.out) hb)
        replace HO388:=Aside0.mk (Kd.R_below (by (with_reducible repeat (first|apply zk1|apply zk2|apply zk3));exact HO388.out) hb)
        replace BK350:=Aside0.mk (blk_below (g:=gb350) (o:=.cells #[.bool a0_0,.slice A0_1 l0_1.length c0_1,.slice A0_2 l0_2.length c0_2,.slice A0_3 l0_3.length c0_3] 26 (0,0)) (by (with_reducible repeat (first|apply zb1|apply zb2|apply zb3));exact BK350.out) hb)
        replace BK375:=Aside0.mk (blk_below (g:=gb375) (o:=.cells #[.bool t354,.slice Ao44 t355.length co44,.slice Ao45 t358.length co45,.slice Ao46 t361.length co46] 26 (0,0)) (by (with_reducible repeat (first|apply zb1|apply zb2|apply zb3));exact BK375.out) hb)
        replace BK376:=Aside0.mk (blk_below (g:=gb376) (o:=.cells #[.bool t364,.slice Ao48 t365.length co48,.slice Ao49 t368.length co49,.slice Ao50 t371.length co50] 26 (0,0)) (by (with_reducible repeat (first|apply zb1|apply zb2|apply zb3));exact BK376.out) hb)
        replace HB:=Aside0.mk (below_step (by repeat (first|(with_reducible first|exact HB.out|apply zl1|apply zl2|apply zl3|refine below_set ?_ GE350.out|refine below_set ?_ GE375.out|refine below_set ?_ GE376.out)|exact HB.out)) hb)
        (try clear hb)
        (try clear hb2)
        (try clear hk)
        (try clear hi)
        refine hK.out _ _ ⟨(blk_cell BK375.out 0).trans rfl,(blk_cell BK375.out 1).trans rfl,(blk_cell BK375.out 2).trans rfl,(blk_cell BK375.out 3).trans rfl,(blk_cell BK376.out 0).trans rfl,(blk_cell BK376.out 1).trans rfl,(blk_cell BK376.out 2).trans rfl,(blk_cell BK376.out 3).trans rfl,(blk_cell BK350.out 0).trans rfl,(blk_cell BK350.out 1).trans rfl,(blk_cell BK350.out 2).trans rfl,(blk_cell BK350.out 3).trans rfl⟩ (fun hHeld=>?_)
        clear hK K
        refine norm_ (a':=?_) ?_ ?_
        rotate_left
        ·show Act.put _ (some 37) _=_
         simp only [Act.put,List.setIfInBounds_toArray,List.set_cons_zero,List.set_cons_succ,i64_w,i32_w]
         rfl
        refine pure_ (i:=6) (N:=some 38) (v:=?_) (a':=?_) #[true,true,true,true,true,true,true,false,false,false,false,false,false,false,false,false,false] rfl rfl (any_of HT_.out (by kernel_rfl)) (fun _ _ _ h=>h) (Or.inl ⟨by rfl,?_⟩) ?_ ?_
        rotate_left
        ·intro w'
         go_simp
         with_reducible rfl
        rotate_left
        ·simp only [Act.put,List.setIfInBounds_toArray,List.set_cons_zero,List.set_cons_succ,i64_w,i32_w]
         rfl
        refine pure_ (i:=7) (N:=some 39) (v:=?_) (a':=?_) #[true,true,true,true,true,true,true,true,false,false,false,false,false,false,false,false,false] rfl rfl (any_of HT_.out (by kernel_rfl)) (fun _ _ _ h=>h) (Or.inl ⟨by rfl,?_⟩) ?_ ?_
        rotate_left
        ·intro w'
         go_simp
         with_reducible rfl
        rotate_left
        ·simp only [Act.put,List.setIfInBounds_toArray,List.set_cons_zero,List.set_cons_succ,i64_w,i32_w]
         rfl
        refine take_ (i:=8) (N:=some 40) (v:=?_) (a':=?_) #[true,true,true,true,true,true,true,true,true,false,false,false,false,false,false,false,false] rfl rfl (take_ofW HT_.out HW_.out (by kernel_rfl)) (fun _ _ _ h=>h) (Or.inl ⟨by rfl,?_⟩) hHeld ?_ ?_
        rotate_left
        ·rintro w' ⟨s0,s1,s2,s3,s4,s5,s6,s7,s8,s9,s10,s11⟩
         go_simp
         with_reducible rfl
        rotate_left
        ·simp only [Act.put,List.setIfInBounds_toArray,List.set_cons_zero,List.set_cons_succ,i64_w,i32_w]
         rfl
        refine one_ (i:=9) (N:=some 41) #[true,true,true,true,true,true,true,true,true,true,false,false,false,false,false,false,false] rfl rfl (one_of HT_.out (by kernel_rfl)) (by decide) (fun K hK=>?_)
        refine goes_ Try.func21 (by kernel_rfl) rfl #[.agg #[.bool t354,.slice Ao44 t355.length co44,.slice Ao45 t358.length co45,.slice Ao46 t361.length co46]] (by rfl) rfl rfl (by (try simp only [List.map_toArray,List.map_cons,List.map_nil]);first|done|rfl|(simp only [List.length_drop,List.length_take];rfl)|(simp (disch:=omega) only [u64_in];rfl)) ?_
        with_reducible refine (factotumref09_Right.calls kj1 t354 _ _ t355 _ _ t358 _ _ t361 false _ ?side1 ?side2 ?side3 ?side4 ?side5 ?side6 A55.out).mono ?_
        (case side1=>repeat (first|exact (Kd.V_reads' HO357.out).2.2|(with_reducible refine Kd.C_alloc ?_ _)|(with_reducible refine Kd.C_drewN ?_ _)|(with_reducible refine Kd.C_drew ?_)))
        (case side2=>exact (Kd.V_reads' HO357.out).2.1)
        (case side3=>repeat (first|exact (Kd.V_reads' HO360.out).2.2|(with_reducible refine Kd.C_alloc ?_ _)|(with_reducible refine Kd.C_drewN ?_ _)|(with_reducible refine Kd.C_drew ?_)))
        (case side4=>exact (Kd.V_reads' HO360.out).2.1)
        (case side5=>repeat (first|exact (Kd.V_reads' HO363.out).2.2|(with_reducible refine Kd.C_alloc ?_ _)|(with_reducible refine Kd.C_drewN ?_ _)|(with_reducible refine Kd.C_drew ?_)))
        (case side6=>exact (Kd.V_reads' HO363.out).2.1)
        rintro e w72 ⟨rfl,hb⟩
        refine ⟨_,rfl,?_⟩
        replace HO357:=Aside0.mk (Kd.V_below (by (with_reducible repeat (first|apply Kd.V_alloc|apply Kd.V_drewN|apply Kd.V_drew));exact HO357.out) hb)
        replace HO360:=Aside0.mk (Kd.V_below (by (with_reducible repeat (first|apply Kd.V_alloc|apply Kd.V_drewN|apply Kd.V_drew));exact HO360.out) hb)
        replace HO363:=Aside0.mk (Kd.V_below (by (with_reducible repeat (first|apply Kd.V_alloc|apply Kd.V_drewN|apply Kd.V_drew));exact HO363.out) hb)
        replace HO367:=Aside0.mk (Kd.R_below (by (with_reducible repeat (first|apply zk1|apply zk2|apply zk3));exact HO367.out) hb)
        replace HO370:=Aside0.mk (Kd.R_below (by (with_reducible repeat (first|apply zk1|apply zk2|apply zk3));exact HO370.out) hb)
        replace HO373:=Aside0.mk (Kd.R_below (by (with_reducible repeat (first|apply zk1|apply zk2|apply zk3));exact HO373.out) hb)
        replace HO382:=Aside0.mk (Kd.R_below (by (with_reducible repeat (first|apply zk1|apply zk2|apply zk3));exact HO382.out) hb)
        replace HO385:=Aside0.mk (Kd.R_below (by (with_reducible repeat (first|apply zk1|apply zk2|apply zk3));exact HO385.out) hb)
        replace HO388:=Aside0.mk (Kd.R_below (by (with_reducible repeat (first|apply zk1|apply zk2|apply zk3));exact HO388.out) hb)
        replace BK350:=Aside0.mk (blk_below (g:=gb350) (o:=.cells #[.bool a0_0,.slice A0_1 l0_1.length c0_1,.slice A0_2 l0_2.length c0_2,.slice A0_3 l0_3.length c0_3] 26 (0,0)) (by (with_reducible repeat (first|apply zb1|apply zb2|apply zb3));exact BK350.out) hb)
        replace BK375:=Aside0.mk (blk_below (g:=gb375) (o:=.cells #[.bool t354,.slice Ao44 t355.length co44,.slice Ao45 t358.length co45,.slice Ao46 t361.length co46] 26 (0,0)) (by (with_reducible repeat (first|apply zb1|apply zb2|apply zb3));exact BK375.out) hb)
        replace BK376:=Aside0.mk (blk_below (g:=gb376) (o:=.cells #[.bool t364,.slice Ao48 t365.length co48,.slice Ao49 t368.length co49,.slice Ao50 t371.length co50] 26 (0,0)) (by (with_reducible repeat (first|apply zb1|apply zb2|apply zb3));exact BK376.out) hb)
        replace HB:=Aside0.mk (below_step (by repeat (first|(with_reducible first|exact HB.out|apply zl1|apply zl2|apply zl3|refine below_set ?_ GE350.out|refine below_set ?_ GE375.out|refine below_set ?_ GE376.out)|exact HB.out)) hb)
        (try clear hb)
        (try clear hb2)
        (try clear hk)
        (try clear hi)
        refine hK.out _ _ ⟨(blk_cell BK375.out 0).trans rfl,(blk_cell BK375.out 1).trans rfl,(blk_cell BK375.out 2).trans rfl,(blk_cell BK375.out 3).trans rfl,(blk_cell BK376.out 0).trans rfl,(blk_cell BK376.out 1).trans rfl,(blk_cell BK376.out 2).trans rfl,(blk_cell BK376.out 3).trans rfl,(blk_cell BK350.out 0).trans rfl,(blk_cell BK350.out 1).trans rfl,(blk_cell BK350.out 2).trans rfl,(blk_cell BK350.out 3).trans rfl⟩ (fun hHeld=>?_)
        clear hK K
        refine norm_ (a':=?_) ?_ ?_
        rotate_left
        ·show Act.put _ (some 41) _=_
         simp only [Act.put,List.setIfInBounds_toArray,List.set_cons_zero,List.set_cons_succ,i64_w,i32_w]
         rfl
        refine pure_ (i:=10) (N:=some 42) (v:=?_) (a':=?_) #[true,true,true,true,true,true,true,true,true,true,true,false,false,false,false,false,false] rfl rfl (any_of HT_.out (by kernel_rfl)) (fun _ _ _ h=>h) (Or.inl ⟨by rfl,?_⟩) ?_ ?_
        rotate_left
        ·intro w'
         go_simp
         with_reducible rfl
        rotate_left
        ·simp only [Act.put,List.setIfInBounds_toArray,List.set_cons_zero,List.set_cons_succ,i64_w,i32_w]
         rfl
        refine pure_ (i:=11) (N:=some 43) (v:=?_) (a':=?_) #[true,true,true,true,true,true,true,true,true,true,true,true,false,false,false,false,false] rfl rfl (any_of HT_.out (by kernel_rfl)) (fun _ _ _ h=>h) (Or.inl ⟨by rfl,?_⟩) ?_ ?_
        rotate_left
        ·intro w'
         go_simp
         with_reducible rfl
        rotate_left
        ·simp only [Act.put,List.setIfInBounds_toArray,List.set_cons_zero,List.set_cons_succ,i64_w,i32_w]
         rfl
        refine pure_ (i:=12) (N:=some 44) (v:=?_) (a':=?_) #[true,true,true,true,true,true,true,true,true,true,true,true,true,false,false,false,false] rfl rfl (any_of HT_.out (by kernel_rfl)) (fun _ _ _ h=>h) (Or.inl ⟨by rfl,?_⟩) ?_ ?_
        rotate_left
        ·intro w'
         go_simp
         with_reducible rfl
        rotate_left
        ·simp only [Act.put,List.setIfInBounds_toArray,List.set_cons_zero,List.set_cons_succ,i64_w,i32_w]
         rfl
        refine pure_ (i:=13) (N:=some 45) (v:=undef) (a':=?_) #[true,true,true,true,true,true,true,true,true,true,true,true,true,true,false,false,false] rfl rfl (any_of HT_.out (by kernel_rfl)) (fun _ _ _ h=>h) (Or.inr ⟨by rfl,rfl⟩) ?_ ?_
        rotate_left
        ·simp only [Act.put,List.setIfInBounds_toArray,List.set_cons_zero,List.set_cons_succ,i64_w,i32_w]
         rfl
        refine pure_ (i:=14) (N:=some 46) (v:=undef) (a':=?_) #[true,true,true,true,true,true,true,true,true,true,true,true,true,true,true,false,false] rfl rfl (any_of HT_.out (by kernel_rfl)) (fun _ _ _ h=>h) (Or.inr ⟨by rfl,rfl⟩) ?_ ?_
        rotate_left
        ·simp only [Act.put,List.setIfInBounds_toArray,List.set_cons_zero,List.set_cons_succ,i64_w,i32_w]
         rfl
        refine pure_ (i:=15) (N:=some 47) (v:=undef) (a':=?_) #[true,true,true,true,true,true,true,true,true,true,true,true,true,true,true,true,false] rfl rfl (any_of HT_.out (by kernel_rfl)) (fun _ _ _ h=>h) (Or.inr ⟨by rfl,rfl⟩) ?_ ?_
        rotate_left
        ·simp only [Act.put,List.setIfInBounds_toArray,List.set_cons_zero,List.set_cons_succ,i64_w,i32_w]
         rfl
        refine pure_ (i:=16) (N:=some 48) (v:=?_) (a':=?_) #[true,true,true,true,true,true,true,true,true,true,true,true,true,true,true,true,true] rfl rfl (any_of HT_.out (by kernel_rfl)) (fun _ _ _ h=>h) (Or.inl ⟨by rfl,?_⟩) ?_ ?_
        rotate_left
        ·intro w'
         go_simp
         with_reducible rfl
        rotate_left
        ·simp only [Act.put,List.setIfInBounds_toArray,List.set_cons_zero,List.set_cons_succ,i64_w,i32_w]
         rfl
        refine done_ (done_of HT_.out (by kernel_rfl)) ?_
        try go_wp2
        go_meet
        case rel=>exact ⟨_,(true),(by first|(with_reducible rfl)|(simp;done)|(simp [*];done)|rfl|(simp only [not_isEmpty_bne])),H',⟨by have:=HJ1.out;first|omega|exact Nat.le_refl _⟩,⟨by (with_reducible repeat (first|apply Kd.V_alloc|apply Kd.V_drewN|apply Kd.V_drew));exact Kd.V_mono HO357.out (fun _ hk=>⟨hk.1.1.1.1.1.1,⟨hk.1.1.1.1.1.2.1,⟨hk.1.1.1.1.1.2.2.1,⟨hk.1.1.1.1.1.2.2.2,⟨hk.1.1.1.1.2,hk.1.1.1.2⟩⟩⟩⟩⟩)⟩,⟨by (with_reducible repeat (first|apply Kd.V_alloc|apply Kd.V_drewN|apply Kd.V_drew));exact Kd.V_mono HO360.out (fun _ hk=>⟨hk.1.1.1.1.1.1,⟨hk.1.1.1.1.1.2.1,⟨hk.1.1.1.1.1.2.2.1,⟨hk.1.1.1.1.1.2.2.2,⟨hk.1.1.1.1.2,hk.1.1.1.2⟩⟩⟩⟩⟩)⟩,⟨by (with_reducible repeat (first|apply Kd.V_alloc|apply Kd.V_drewN|apply Kd.V_drew));exact Kd.V_mono HO363.out (fun _ hk=>⟨hk.1.1.1.1.1.1,⟨hk.1.1.1.1.1.2.1,⟨hk.1.1.1.1.1.2.2.1,⟨hk.1.1.1.1.1.2.2.2,⟨hk.1.1.1.1.2,hk.1.1.1.2⟩⟩⟩⟩⟩)⟩,⟨by (with_reducible repeat (first|apply zk1|apply zk2|apply zk3));exact Kd.R_mono HO367.out (fun _ hk=>trivial)⟩,⟨by (with_reducible repeat (first|apply zk1|apply zk2|apply zk3));exact Kd.R_mono HO370.out (fun _ hk=>trivial)⟩,⟨by (with_reducible repeat (first|apply zk1|apply zk2|apply zk3));exact Kd.R_mono HO373.out (fun _ hk=>trivial)⟩,⟨by (with_reducible repeat (first|apply zb1|apply zb2|apply zb3));exact BK350.out⟩,⟨by (with_reducible repeat (first|apply zb1|apply zb2|apply zb3));exact BK375.out⟩,⟨by (with_reducible repeat (first|apply zb1|apply zb2|apply zb3));exact BK376.out⟩,⟨by repeat (first|(with_reducible first|exact HB.out|apply zl1|apply zl2|apply zl3|refine below_set ?_ GE350.out|refine below_set ?_ GE375.out|refine below_set ?_ GE376.out)|exact HB.out)⟩⟩
      ·replace c54:=Bool.eq_false_iff.mpr c54
       subst c54
       have H1:(factotumlaw09_NodeParts.j1 kj1 t374 true a0_0 l0_1 l0_2 l0_3 t354 t355 t358 t361 t364 t365 t368 t371)=some r:=by rw [if_neg (show ¬ (false=true) by decide)] at H;exact H
       clear H
       have H:=H1
       clear H1
       have H':=Aside0.mk H
       clear H
       try go_wp2
       replace HO357:=Aside0.mk (Kd.V_drew HO357.out)
       replace HO360:=Aside0.mk (Kd.V_drew HO360.out)
       replace HO363:=Aside0.mk (Kd.V_drew HO363.out)
       replace HO367:=Aside0.mk (Kd.R_drew HO367.out)
       replace HO370:=Aside0.mk (Kd.R_drew HO370.out)
       replace HO373:=Aside0.mk (Kd.R_drew HO373.out)
       replace BK350:=Aside0.mk (blk_drew BK350.out)
       replace BK375:=Aside0.mk (blk_drew BK375.out)
       replace BK376:=Aside0.mk (blk_drew BK376.out)
       replace HB:=Aside0.mk (below_drew1 HB.out)
       refine start_ (n:=17) (S:=fun w'=>w'.cell? ⟨gb375,0,none⟩=some (.bool t354)∧w'.cell? ⟨gb375,1,none⟩=some (.slice Ao44 t355.length co44)∧w'.cell? ⟨gb375,2,none⟩=some (.slice Ao45 t358.length co45)∧w'.cell? ⟨gb375,3,none⟩=some (.slice Ao46 t361.length co46)∧w'.cell? ⟨gb376,0,none⟩=some (.bool t364)∧w'.cell? ⟨gb376,1,none⟩=some (.slice Ao48 t365.length co48)∧w'.cell? ⟨gb376,2,none⟩=some (.slice Ao49 t368.length co49)∧w'.cell? ⟨gb376,3,none⟩=some (.slice Ao50 t371.length co50)∧w'.cell? ⟨gb350,0,none⟩=some (.bool a0_0)∧w'.cell? ⟨gb350,1,none⟩=some (.slice A0_1 l0_1.length c0_1)∧w'.cell? ⟨gb350,2,none⟩=some (.slice A0_2 l0_2.length c0_2)∧w'.cell? ⟨gb350,3,none⟩=some (.slice A0_3 l0_3.length c0_3)) (ds:=[]) #[false,false,false,false,false,false,false,false,false,false,false,false,false,false,false,false,false] (by kernel_rfl) rfl rfl ⟨(blk_cell BK375.out 0).trans rfl,(blk_cell BK375.out 1).trans rfl,(blk_cell BK375.out 2).trans rfl,(blk_cell BK375.out 3).trans rfl,(blk_cell BK376.out 0).trans rfl,(blk_cell BK376.out 1).trans rfl,(blk_cell BK376.out 2).trans rfl,(blk_cell BK376.out 3).trans rfl,(blk_cell BK350.out 0).trans rfl,(blk_cell BK350.out 1).trans rfl,(blk_cell BK350.out 2).trans rfl,(blk_cell BK350.out 3).trans rfl⟩ (fun hHeld=>?_);refine with_tabW factotumlaw09_NodeParts.tab6 factotumlaw09_NodeParts.bits6 (fun HT_ HW_=>?_)
       generalize w51.drew=w73 at HO357 HO360 HO363 HO367 HO370 HO373 BK350 BK375 BK376 HB hHeld ⊢
       refine pure_ (i:=2) (N:=some 34) (v:=?_) (a':=?_) #[false,false,true,false,false,false,false,false,false,false,false,false,false,false,false,false,false] rfl rfl (any_of HT_.out (by kernel_rfl)) (fun _ _ _ h=>h) (Or.inl ⟨by rfl,?_⟩) ?_ ?_
       rotate_left
       ·intro w'
        go_simp
        with_reducible rfl
       rotate_left
       ·simp only [Act.put,List.setIfInBounds_toArray,List.set_cons_zero,List.set_cons_succ,i64_w,i32_w]
        rfl
       refine take_ (i:=0) (N:=some 32) (v:=?_) (a':=?_) #[true,false,true,false,false,false,false,false,false,false,false,false,false,false,false,false,false] rfl rfl (take_ofW HT_.out HW_.out (by kernel_rfl)) (fun _ _ _ h=>h) (Or.inl ⟨by rfl,?_⟩) hHeld ?_ ?_
       rotate_left
       ·rintro w' ⟨s0,s1,s2,s3,s4,s5,s6,s7,s8,s9,s10,s11⟩
        go_simp
        with_reducible rfl
       rotate_left
       ·simp only [Act.put,List.setIfInBounds_toArray,List.set_cons_zero,List.set_cons_succ,i64_w,i32_w]
        rfl
       refine take_ (i:=1) (N:=some 33) (v:=?_) (a':=?_) #[true,true,true,false,false,false,false,false,false,false,false,false,false,false,false,false,false] rfl rfl (take_ofW HT_.out HW_.out (by kernel_rfl)) (fun _ _ _ h=>h) (Or.inl ⟨by rfl,?_⟩) hHeld ?_ ?_
       rotate_left
       ·rintro w' ⟨s0,s1,s2,s3,s4,s5,s6,s7,s8,s9,s10,s11⟩
        go_simp
        with_reducible rfl
       rotate_left
       ·simp only [Act.put,List.setIfInBounds_toArray,List.set_cons_zero,List.set_cons_succ,i64_w,i32_w]
        rfl
       refine take_ (i:=4) (N:=some 36) (v:=?_) (a':=?_) #[true,true,true,false,true,false,false,false,false,false,false,false,false,false,false,false,false] rfl rfl (take_ofW HT_.out HW_.out (by kernel_rfl)) (fun _ _ _ h=>h) (Or.inl ⟨by rfl,?_⟩) hHeld ?_ ?_
       rotate_left
       ·rintro w' ⟨s0,s1,s2,s3,s4,s5,s6,s7,s8,s9,s10,s11⟩
        go_simp
        with_reducible rfl
       rotate_left
       ·simp only [Act.put,List.setIfInBounds_toArray,List.set_cons_zero,List.set_cons_succ,i64_w,i32_w]
        rfl
       refine one_ (i:=3) (N:=some 35) #[true,true,true,true,true,false,false,false,false,false,false,false,false,false,false,false,false] rfl rfl (one_of HT_.out (by kernel_rfl)) (by decide) (fun K hK=>?_)
       refine goes_ Try.func19 (by kernel_rfl) rfl #[.agg #[.bool t354,.slice Ao44 t355.length co44,.slice Ao45 t358.length co45,.slice Ao46 t361.length co46],.agg #[.bool t364,.slice Ao48 t365.length co48,.slice Ao49 t368.length co49,.slice Ao50 t371.length co50],.string t374] (by rfl) rfl rfl (by (try simp only [List.map_toArray,List.map_cons,List.map_nil]);first|done|rfl|(simp only [List.length_drop,List.length_take];rfl)|(simp (disch:=omega) only [u64_in];rfl)) ?_
       with_reducible refine (node_Join.calls t354 _ _ t355 _ _ t358 _ _ t361 t364 _ _ t365 _ _ t368 _ _ t371 t374 t379 t380 t383 t386 _ ?side1 ?side2 ?side3 ?side4 ?side5 ?side6 ?side7 ?side8 ?side9 ?side10 ?side11 ?side12 A52.out).mono ?_
       (case side1=>repeat (first|exact (Kd.V_reads' HO357.out).2.2|(with_reducible refine Kd.C_alloc ?_ _)|(with_reducible refine Kd.C_drewN ?_ _)|(with_reducible refine Kd.C_drew ?_)))
       (case side2=>exact (Kd.V_reads' HO357.out).2.1)
       (case side3=>repeat (first|exact (Kd.V_reads' HO360.out).2.2|(with_reducible refine Kd.C_alloc ?_ _)|(with_reducible refine Kd.C_drewN ?_ _)|(with_reducible refine Kd.C_drew ?_)))
       (case side4=>exact (Kd.V_reads' HO360.out).2.1)
       (case side5=>repeat (first|exact (Kd.V_reads' HO363.out).2.2|(with_reducible refine Kd.C_alloc ?_ _)|(with_reducible refine Kd.C_drewN ?_ _)|(with_reducible refine Kd.C_drew ?_)))
       (case side6=>exact (Kd.V_reads' HO363.out).2.1)
       (case side7=>repeat (first|exact (Kd.R_reads' HO367.out).2.2|(with_reducible refine Kd.C_alloc ?_ _)|(with_reducible refine Kd.C_drewN ?_ _)|(with_reducible refine Kd.C_drew ?_)))
       (case side8=>exact (Kd.R_reads' HO367.out).2.1)
       (case side9=>repeat (first|exact (Kd.R_reads' HO370.out).2.2|(with_reducible refine Kd.C_alloc ?_ _)|(with_reducible refine Kd.C_drewN ?_ _)|(with_reducible refine Kd.C_drew ?_)))
       (case side10=>exact (Kd.R_reads' HO370.out).2.1)
       (case side11=>repeat (first|exact (Kd.R_reads' HO373.out).2.2|(with_reducible refine Kd.C_alloc ?_ _)|(with_reducible refine Kd.C_drewN ?_ _)|(with_reducible refine Kd.C_drew ?_)))
       (case side12=>exact (Kd.R_reads' HO373.out).2.1)
       rintro e w74 ⟨v381,v384,v387,rfl,ho0,ho1,ho2,hb⟩
       refine ⟨_,rfl,?_⟩
       replace HO357:=Aside0.mk (Kd.V_mono (Kd.V_told (Kd.V_told (Kd.V_told (Kd.V_old (by (with_reducible repeat (first|apply Kd.V_alloc|apply Kd.V_drewN|apply Kd.V_drew));exact HO357.out) hb) (Kd.R_base ho0)) (Kd.R_base ho1)) (Kd.R_base ho2)) (fun _ h_=>h_.1))
       replace HO360:=Aside0.mk (Kd.V_mono (Kd.V_told (Kd.V_told (Kd.V_told (Kd.V_old (by (with_reducible repeat (first|apply Kd.V_alloc|apply Kd.V_drewN|apply Kd.V_drew));exact HO360.out) hb) (Kd.R_base ho0)) (Kd.R_base ho1)) (Kd.R_base ho2)) (fun _ h_=>h_.1))
       replace HO363:=Aside0.mk (Kd.V_mono (Kd.V_told (Kd.V_told (Kd.V_told (Kd.V_old (by (with_reducible repeat (first|apply Kd.V_alloc|apply Kd.V_drewN|apply Kd.V_drew));exact HO363.out) hb) (Kd.R_base ho0)) (Kd.R_base ho1)) (Kd.R_base ho2)) (fun _ h_=>h_.1))
       have HO382:=Aside0.mk (Kd.R_lower (Kd.R_new' ho0 (Kd.R_lt (by (with_reducible repeat (first|apply zk1|apply zk2|apply zk3));exact HO367.out))) (below_size (by repeat (first|(with_reducible first|exact HB.out|apply zl1|apply zl2|apply zl3|refine below_set ?_ GE350.out|refine below_set ?_ GE375.out|refine below_set ?_ GE376.out)|exact HB.out))))
       replace HO367:=Aside0.mk (Kd.R_elder' (by (with_reducible repeat (first|apply zk1|apply zk2|apply zk3));exact HO367.out) (Kd.R_base ho0) hb)
       have HO385:=Aside0.mk (Kd.R_lower (Kd.R_new' ho1 (Kd.R_lt (by (with_reducible repeat (first|apply zk1|apply zk2|apply zk3));exact HO370.out))) (below_size (by repeat (first|(with_reducible first|exact HB.out|apply zl1|apply zl2|apply zl3|refine below_set ?_ GE350.out|refine below_set ?_ GE375.out|refine below_set ?_ GE376.out)|exact HB.out))))
       replace HO370:=Aside0.mk (Kd.R_elder' (by (with_reducible repeat (first|apply zk1|apply zk2|apply zk3));exact HO370.out) (Kd.R_base ho1) hb)
       have HO388:=Aside0.mk (Kd.R_lower (Kd.R_new' ho2 (Kd.R_lt (by (with_reducible repeat (first|apply zk1|apply zk2|apply zk3));exact HO373.out))) (below_size (by repeat (first|(with_reducible first|exact HB.out|apply zl1|apply zl2|apply zl3|refine below_set ?_ GE350.out|refine below_set ?_ GE375.out|refine below_set ?_ GE376.out)|exact HB.out))))
       replace HO373:=Aside0.mk (Kd.R_elder' (by (with_reducible repeat (first|apply zk1|apply zk2|apply zk3));exact HO373.out) (Kd.R_base ho2) hb)
       replace BK350:=Aside0.mk (blk_below (g:=gb350) (o:=.cells #[.bool a0_0,.slice A0_1 l0_1.length c0_1,.slice A0_2 l0_2.length c0_2,.slice A0_3 l0_3.length c0_3] 26 (0,0)) (by (with_reducible repeat (first|apply zb1|apply zb2|apply zb3));exact BK350.out) hb)
       replace BK375:=Aside0.mk (blk_below (g:=gb375) (o:=.cells #[.bool t354,.slice Ao44 t355.length co44,.slice Ao45 t358.length co45,.slice Ao46 t361.length co46] 26 (0,0)) (by (with_reducible repeat (first|apply zb1|apply zb2|apply zb3));exact BK375.out) hb)
       replace BK376:=Aside0.mk (blk_below (g:=gb376) (o:=.cells #[.bool t364,.slice Ao48 t365.length co48,.slice Ao49 t368.length co49,.slice Ao50 t371.length co50] 26 (0,0)) (by (with_reducible repeat (first|apply zb1|apply zb2|apply zb3));exact BK376.out) hb)
       replace HB:=Aside0.mk (below_step (by repeat (first|(with_reducible first|exact HB.out|apply zl1|apply zl2|apply zl3|refine below_set ?_ GE350.out|refine below_set ?_ GE375.out|refine below_set ?_ GE376.out)|exact HB.out)) hb)
       (try clear hb)
       (try clear hb2)
       (try clear hk)
       (try clear hi)
       (try clear ho0)
       (try clear ho1)
       (try clear ho2)
       obtain ⟨Ao75,co75,eo75⟩:=Kd.R_slice HO382.out
       (first|subst eo75|(injection eo75 with f1_ f2_ f3_;have f4_:=f1_.symm;have f5_:=f3_.symm;clear f1_ f2_ f3_;subst f4_;subst f5_))
       obtain ⟨Ao76,co76,eo76⟩:=Kd.R_slice HO385.out
       (first|subst eo76|(injection eo76 with f1_ f2_ f3_;have f4_:=f1_.symm;have f5_:=f3_.symm;clear f1_ f2_ f3_;subst f4_;subst f5_))
       obtain ⟨Ao77,co77,eo77⟩:=Kd.R_slice HO388.out
       (first|subst eo77|(injection eo77 with f1_ f2_ f3_;have f4_:=f1_.symm;have f5_:=f3_.symm;clear f1_ f2_ f3_;subst f4_;subst f5_))
       refine hK.out _ _ ⟨(blk_cell BK375.out 0).trans rfl,(blk_cell BK375.out 1).trans rfl,(blk_cell BK375.out 2).trans rfl,(blk_cell BK375.out 3).trans rfl,(blk_cell BK376.out 0).trans rfl,(blk_cell BK376.out 1).trans rfl,(blk_cell BK376.out 2).trans rfl,(blk_cell BK376.out 3).trans rfl,(blk_cell BK350.out 0).trans rfl,(blk_cell BK350.out 1).trans rfl,(blk_cell BK350.out 2).trans rfl,(blk_cell BK350.out 3).trans rfl⟩ (fun hHeld=>?_)
       clear hK K
       refine norm_ (a':=?_) ?_ ?_
       rotate_left
       ·show Act.put _ (some 35) _=_
        simp only [Act.put,List.setIfInBounds_toArray,List.set_cons_zero,List.set_cons_succ,i64_w,i32_w]
        rfl
       refine one_ (i:=5) (N:=some 37) #[true,true,true,true,true,true,false,false,false,false,false,false,false,false,false,false,false] rfl rfl (one_of HT_.out (by kernel_rfl)) (by decide) (fun K hK=>?_)
       refine goes_ Try.func18 (by kernel_rfl) rfl #[.agg #[.bool t379,.slice Ao75 t380.length co75,.slice Ao76 t383.length co76,.slice Ao77 t386.length co77],.agg #[.bool a0_0,.slice A0_1 l0_1.length c0_1,.slice A0_2 l0_2.length c0_2,.slice A0_3 l0_3.length c0_3]] (by rfl) rfl rfl (by (try simp only [List.map_toArray,List.map_cons,List.map_nil]);first|done|rfl|(simp only [List.length_drop,List.length_take];rfl)|(simp (disch:=omega) only [u64_in];rfl)) ?_
       with_reducible refine (factotumref09_Same.calls kj1 t379 _ _ t380 _ _ t383 _ _ t386 a0_0 _ _ l0_1 _ _ l0_2 _ _ l0_3 false _ ?side1 ?side2 ?side3 ?side4 ?side5 ?side6 ?side7 ?side8 ?side9 ?side10 ?side11 ?side12 A53.out).mono ?_
       (case side1=>repeat (first|exact (Kd.R_reads' HO382.out).2.2|(with_reducible refine Kd.C_alloc ?_ _)|(with_reducible refine Kd.C_drewN ?_ _)|(with_reducible refine Kd.C_drew ?_)))
       (case side2=>exact (Kd.R_reads' HO382.out).2.1)
       (case side3=>repeat (first|exact (Kd.R_reads' HO385.out).2.2|(with_reducible refine Kd.C_alloc ?_ _)|(with_reducible refine Kd.C_drewN ?_ _)|(with_reducible refine Kd.C_drew ?_)))
       (case side4=>exact (Kd.R_reads' HO385.out).2.1)
       (case side5=>repeat (first|exact (Kd.R_reads' HO388.out).2.2|(with_reducible refine Kd.C_alloc ?_ _)|(with_reducible refine Kd.C_drewN ?_ _)|(with_reducible refine Kd.C_drew ?_)))
       (case side6=>exact (Kd.R_reads' HO388.out).2.1)
       (case side7=>repeat (first|exact (Kd.C_below HR0_1.out HB.out)|(with_reducible refine Kd.C_alloc ?_ _)|(with_reducible refine Kd.C_drewN ?_ _)|(with_reducible refine Kd.C_drew ?_)))
       (case side8=>exact HC0_1.out)
       (case side9=>repeat (first|exact (Kd.C_below HR0_2.out HB.out)|(with_reducible refine Kd.C_alloc ?_ _)|(with_reducible refine Kd.C_drewN ?_ _)|(with_reducible refine Kd.C_drew ?_)))
       (case side10=>exact HC0_2.out)
       (case side11=>repeat (first|exact (Kd.C_below HR0_3.out HB.out)|(with_reducible refine Kd.C_alloc ?_ _)|(with_reducible refine Kd.C_drewN ?_ _)|(with_reducible refine Kd.C_drew ?_)))
       (case side12=>exact HC0_3.out)
       rintro e w78 ⟨rfl,hb⟩
       refine ⟨_,rfl,?_⟩
       replace HO357:=Aside0.mk (Kd.V_below (by (with_reducible repeat (first|apply Kd.V_alloc|apply Kd.V_drewN|apply Kd.V_drew));exact HO357.out) hb)
       replace HO360:=Aside0.mk (Kd.V_below (by (with_reducible repeat (first|apply Kd.V_alloc|apply Kd.V_drewN|apply Kd.V_drew));exact HO360.out) hb)
       replace HO363:=Aside0.mk (Kd.V_below (by (with_reducible repeat (first|apply Kd.V_alloc|apply Kd.V_drewN|apply Kd.V_drew));exact HO363.out) hb)
       replace HO367:=Aside0.mk (Kd.R_below (by (with_reducible repeat (first|apply zk1|apply zk2|apply zk3));exact HO367.out) hb)
       replace HO370:=Aside0.mk (Kd.R_below (by (with_reducible repeat (first|apply zk1|apply zk2|apply zk3));exact HO370.out) hb)
       replace HO373:=Aside0.mk (Kd.R_below (by (with_reducible repeat (first|apply zk1|apply zk2|apply zk3));exact HO373.out) hb)
       replace HO382:=Aside0.mk (Kd.R_below (by (with_reducible repeat (first|apply zk1|apply zk2|apply zk3));exact HO382.out) hb)
       replace HO385:=Aside0.mk (Kd.R_below (by (with_reducible repeat (first|apply zk1|apply zk2|apply zk3));exact HO385.out) hb)
       replace HO388:=Aside0.mk (Kd.R_below (by (with_reducible repeat (first|apply zk1|apply zk2|apply zk3));exact HO388.out) hb)
       replace BK350:=Aside0.mk (blk_below (g:=gb350) (o:=.cells #[.bool a0_0,.slice A0_1 l0_1.length c0_1,.slice A0_2 l0_2.length c0_2,.slice A0_3 l0_3.length c0_3] 26 (0,0)) (by (with_reducible repeat (first|apply zb1|apply zb2|apply zb3));exact BK350.out) hb)
       replace BK375:=Aside0.mk (blk_below (g:=gb375) (o:=.cells #[.bool t354,.slice Ao44 t355.length co44,.slice Ao45 t358.length co45,.slice Ao46 t361.length co46] 26 (0,0)) (by (with_reducible repeat (first|apply zb1|apply zb2|apply zb3));exact BK375.out) hb)
       replace BK376:=Aside0.mk (blk_below (g:=gb376) (o:=.cells #[.bool t364,.slice Ao48 t365.length co48,.slice Ao49 t368.length co49,.slice Ao50 t371.length co50] 26 (0,0)) (by (with_reducible repeat (first|apply zb1|apply zb2|apply zb3));exact BK376.out) hb)
       replace HB:=Aside0.mk (below_step (by repeat (first|(with_reducible first|exact HB.out|apply zl1|apply zl2|apply zl3|refine below_set ?_ GE350.out|refine below_set ?_ GE375.out|refine below_set ?_ GE376.out)|exact HB.out)) hb)
       (try clear hb)
       (try clear hb2)
       (try clear hk)
       (try clear hi)
       refine hK.out _ _ ⟨(blk_cell BK375.out 0).trans rfl,(blk_cell BK375.out 1).trans rfl,(blk_cell BK375.out 2).trans rfl,(blk_cell BK375.out 3).trans rfl,(blk_cell BK376.out 0).trans rfl,(blk_cell BK376.out 1).trans rfl,(blk_cell BK376.out 2).trans rfl,(blk_cell BK376.out 3).trans rfl,(blk_cell BK350.out 0).trans rfl,(blk_cell BK350.out 1).trans rfl,(blk_cell BK350.out 2).trans rfl,(blk_cell BK350.out 3).trans rfl⟩ (fun hHeld=>?_)
       clear hK K
       refine norm_ (a':=?_) ?_ ?_
       rotate_left
       ·show Act.put _ (some 37) _=_
        simp only [Act.put,List.setIfInBounds_toArray,List.set_cons_zero,List.set_cons_succ,i64_w,i32_w]
        rfl
       refine pure_ (i:=6) (N:=some 38) (v:=?_) (a':=?_) #[true,true,true,true,true,true,true,false,false,false,false,false,false,false,false,false,false] rfl rfl (any_of HT_.out (by kernel_rfl)) (fun _ _ _ h=>h) (Or.inl ⟨by rfl,?_⟩) ?_ ?_
       rotate_left
       ·intro w'
        go_simp
        with_reducible rfl
       rotate_left
       ·simp only [Act.put,List.setIfInBounds_toArray,List.set_cons_zero,List.set_cons_succ,i64_w,i32_w]
        rfl
       refine pure_ (i:=7) (N:=some 39) (v:=?_) (a':=?_) #[true,true,true,true,true,true,true,true,false,false,false,false,false,false,false,false,false] rfl rfl (any_of HT_.out (by kernel_rfl)) (fun _ _ _ h=>h) (Or.inl ⟨by rfl,?_⟩) ?_ ?_
       rotate_left
       ·intro w'
        go_simp
        with_reducible rfl
       rotate_left
       ·simp only [Act.put,List.setIfInBounds_toArray,List.set_cons_zero,List.set_cons_succ,i64_w,i32_w]
        rfl
       refine pure_ (i:=8) (N:=some 40) (v:=undef) (a':=?_) #[true,true,true,true,true,true,true,true,true,false,false,false,false,false,false,false,false] rfl rfl (any_of HT_.out (by kernel_rfl)) (fun _ _ _ h=>h) (Or.inr ⟨by rfl,rfl⟩) ?_ ?_
       rotate_left
       ·simp only [Act.put,List.setIfInBounds_toArray,List.set_cons_zero,List.set_cons_succ,i64_w,i32_w]
        rfl
       refine pure_ (i:=9) (N:=some 41) (v:=undef) (a':=?_) #[true,true,true,true,true,true,true,true,true,true,false,false,false,false,false,false,false] rfl rfl (any_of HT_.out (by kernel_rfl)) (fun _ _ _ h=>h) (Or.inr ⟨by rfl,rfl⟩) ?_ ?_
       rotate_left
       ·simp only [Act.put,List.setIfInBounds_toArray,List.set_cons_zero,List.set_cons_succ,i64_w,i32_w]
        rfl
       refine pure_ (i:=10) (N:=some 42) (v:=undef) (a':=?_) #[true,true,true,true,true,true,true,true,true,true,true,false,false,false,false,false,false] rfl rfl (any_of HT_.out (by kernel_rfl)) (fun _ _ _ h=>h) (Or.inr ⟨by rfl,rfl⟩) ?_ ?_
       rotate_left
       ·simp only [Act.put,List.setIfInBounds_toArray,List.set_cons_zero,List.set_cons_succ,i64_w,i32_w]
        rfl
       refine pure_ (i:=11) (N:=some 43) (v:=?_) (a':=?_) #[true,true,true,true,true,true,true,true,true,true,true,true,false,false,false,false,false] rfl rfl (any_of HT_.out (by kernel_rfl)) (fun _ _ _ h=>h) (Or.inl ⟨by rfl,?_⟩) ?_ ?_
       rotate_left
       ·intro w'
        go_simp
        with_reducible rfl
       rotate_left
       ·simp only [Act.put,List.setIfInBounds_toArray,List.set_cons_zero,List.set_cons_succ,i64_w,i32_w]
        rfl
       refine pure_ (i:=12) (N:=some 44) (v:=?_) (a':=?_) #[true,true,true,true,true,true,true,true,true,true,true,true,true,false,false,false,false] rfl rfl (any_of HT_.out (by kernel_rfl)) (fun _ _ _ h=>h) (Or.inl ⟨by rfl,?_⟩) ?_ ?_
       rotate_left
       ·intro w'
        go_simp
        with_reducible rfl
       rotate_left
       ·simp only [Act.put,List.setIfInBounds_toArray,List.set_cons_zero,List.set_cons_succ,i64_w,i32_w]
        rfl
       refine pure_ (i:=13) (N:=some 45) (v:=undef) (a':=?_) #[true,true,true,true,true,true,true,true,true,true,true,true,true,true,false,false,false] rfl rfl (any_of HT_.out (by kernel_rfl)) (fun _ _ _ h=>h) (Or.inr ⟨by rfl,rfl⟩) ?_ ?_
       rotate_left
       ·simp only [Act.put,List.setIfInBounds_toArray,List.set_cons_zero,List.set_cons_succ,i64_w,i32_w]
        rfl
       refine pure_ (i:=14) (N:=some 46) (v:=undef) (a':=?_) #[true,true,true,true,true,true,true,true,true,true,true,true,true,true,true,false,false] rfl rfl (any_of HT_.out (by kernel_rfl)) (fun _ _ _ h=>h) (Or.inr ⟨by rfl,rfl⟩) ?_ ?_
       rotate_left
       ·simp only [Act.put,List.setIfInBounds_toArray,List.set_cons_zero,List.set_cons_succ,i64_w,i32_w]
        rfl
       refine pure_ (i:=15) (N:=some 47) (v:=undef) (a':=?_) #[true,true,true,true,true,true,true,true,true,true,true,true,true,true,true,true,false] rfl rfl (any_of HT_.out (by kernel_rfl)) (fun _ _ _ h=>h) (Or.inr ⟨by rfl,rfl⟩) ?_ ?_
       rotate_left
       ·simp only [Act.put,List.setIfInBounds_toArray,List.set_cons_zero,List.set_cons_succ,i64_w,i32_w]
        rfl
       refine pure_ (i:=16) (N:=some 48) (v:=?_) (a':=?_) #[true,true,true,true,true,true,true,true,true,true,true,true,true,true,true,true,true] rfl rfl (any_of HT_.out (by kernel_rfl)) (fun _ _ _ h=>h) (Or.inl ⟨by rfl,?_⟩) ?_ ?_
       rotate_left
       ·intro w'
        go_simp
        with_reducible rfl
       rotate_left
       ·simp only [Act.put,List.setIfInBounds_toArray,List.set_cons_zero,List.set_cons_succ,i64_w,i32_w]
        rfl
       refine done_ (done_of HT_.out (by kernel_rfl)) ?_
       try go_wp2
       go_meet
       case rel=>exact ⟨_,(true),(by first|(with_reducible rfl)|(simp;done)|(simp [*];done)|rfl|(simp only [not_isEmpty_bne])),H',⟨by have:=HJ1.out;first|omega|exact Nat.le_refl _⟩,⟨by (with_reducible repeat (first|apply Kd.V_alloc|apply Kd.V_drewN|apply Kd.V_drew));exact Kd.V_mono HO357.out (fun _ hk=>⟨hk.1.1.1.1.1.1,⟨hk.1.1.1.1.1.2.1,⟨hk.1.1.1.1.1.2.2.1,⟨hk.1.1.1.1.1.2.2.2,⟨hk.1.1.1.1.2,hk.1.1.1.2⟩⟩⟩⟩⟩)⟩,⟨by (with_reducible repeat (first|apply Kd.V_alloc|apply Kd.V_drewN|apply Kd.V_drew));exact Kd.V_mono HO360.out (fun _ hk=>⟨hk.1.1.1.1.1.1,⟨hk.1.1.1.1.1.2.1,⟨hk.1.1.1.1.1.2.2.1,⟨hk.1.1.1.1.1.2.2.2,⟨hk.1.1.1.1.2,hk.1.1.1.2⟩⟩⟩⟩⟩)⟩,⟨by (with_reducible repeat (first|apply Kd.V_alloc|apply Kd.V_drewN|apply Kd.V_drew));exact Kd.V_mono HO363.out (fun _ hk=>⟨hk.1.1.1.1.1.1,⟨hk.1.1.1.1.1.2.1,⟨hk.1.1.1.1.1.2.2.1,⟨hk.1.1.1.1.1.2.2.2,⟨hk.1.1.1.1.2,hk.1.1.1.2⟩⟩⟩⟩⟩)⟩,⟨by (with_reducible repeat (first|apply zk1|apply zk2|apply zk3));exact Kd.R_mono HO367.out (fun _ hk=>trivial)⟩,⟨by (with_reducible repeat (first|apply zk1|apply zk2|apply zk3));exact Kd.R_mono HO370.out (fun _ hk=>trivial)⟩,⟨by (with_reducible repeat (first|apply zk1|apply zk2|apply zk3));exact Kd.R_mono HO373.out (fun _ hk=>trivial)⟩,⟨by (with_reducible repeat (first|apply zb1|apply zb2|apply zb3));exact BK350.out⟩,⟨by (with_reducible repeat (first|apply zb1|apply zb2|apply zb3));exact BK375.out⟩,⟨by (with_reducible repeat (first|apply zb1|apply zb2|apply zb3));exact BK376.out⟩,⟨by repeat (first|(with_reducible first|exact HB.out|apply zl1|apply zl2|apply zl3|refine below_set ?_ GE350.out|refine below_set ?_ GE375.out|refine below_set ?_ GE376.out)|exact HB.out)⟩⟩
     case rest =>
      clear HC39
      try clear c1
      try clear c2
      try clear p2
      try clear c5
      try clear c18
      try clear c19
      try clear c21
      try clear c54
      obtain ⟨kq,x48_38,rfl,HA,HJ38,HO_376001,HO_376002,HO_376003,HO_377001,HO_377002,HO_377003,BK350,BK375,BK376,HB⟩:=hcut
      cases kq with
      | zero=>exact absurd HA.out (by simp [factotumlaw09_NodeParts.j1])
      | succ kj38 =>
       have H:=HA.out
       clear HA
       simp only [factotumlaw09_NodeParts.j1] at H
       by_cases c79:x48_38=true
       ·subst c79
        have H1:(none)=some r:=by rw [if_pos rfl] at H;exact H
        clear H
        have H:=H1
        clear H1
        exact absurd H (by simp)
       ·replace c79:=Bool.eq_false_iff.mpr c79
        subst c79
        have H1:(factotumlaw09_NodeParts.l0 kj38 t374 0 a0_0 l0_1 l0_2 l0_3 t354 t355 t358 t361 t364 t365 t368 t371)=some r:=by rw [if_neg (show ¬ (false=true) by decide)] at H;exact H
        clear H
        have H:=H1
        clear H1
        have H':=Aside0.mk H
        clear H
        go_wp2
        go_loopg [6] kj38 (fun kq v6 w'=>∃ (x6_3:Int),v6=.int .i64 x6_3∧Aside0 (factotumlaw09_NodeParts.l0 kq t374 x6_3 a0_0 l0_1 l0_2 l0_3 t354 t355 t358 t361 t364 t365 t368 t371=some r)∧Aside0 (kq≤kj38)∧Aside0 (Kd.V k43 43 w' w.heap.size (fun k_=>some k_ ≠ ((.slice Ao48 t365.length co48):Value).ownBlock∧some k_ ≠ ((.slice Ao49 t368.length co49):Value).ownBlock∧some k_ ≠ ((.slice Ao50 t371.length co50):Value).ownBlock∧k_ ≠ gb350∧k_ ≠ gb375∧k_ ≠ gb376) (.slice Ao44 t355.length co44) t355)∧Aside0 (Kd.V Kd.string 9 w' w.heap.size (fun k_=>some k_ ≠ ((.slice Ao48 t365.length co48):Value).ownBlock∧some k_ ≠ ((.slice Ao49 t368.length co49):Value).ownBlock∧some k_ ≠ ((.slice Ao50 t371.length co50):Value).ownBlock∧k_ ≠ gb350∧k_ ≠ gb375∧k_ ≠ gb376) (.slice Ao45 t358.length co45) t358)∧Aside0 (Kd.V (Kd.int .i64) 3 w' w.heap.size (fun k_=>some k_ ≠ ((.slice Ao48 t365.length co48):Value).ownBlock∧some k_ ≠ ((.slice Ao49 t368.length co49):Value).ownBlock∧some k_ ≠ ((.slice Ao50 t371.length co50):Value).ownBlock∧k_ ≠ gb350∧k_ ≠ gb375∧k_ ≠ gb376) (.slice Ao46 t361.length co46) t361)∧Aside0 (Kd.R k43 43 w' w.heap.size (fun _=>True) (.slice Ao48 t365.length co48) t365)∧Aside0 (Kd.R Kd.string 9 w' w.heap.size (fun _=>True) (.slice Ao49 t368.length co49) t368)∧Aside0 (Kd.R (Kd.int .i64) 3 w' w.heap.size (fun _=>True) (.slice Ao50 t371.length co50) t371)∧Aside0 (w'.heap[gb350]?=some (.cells #[.bool a0_0,(.slice A0_1 l0_1.length c0_1),(.slice A0_2 l0_2.length c0_2),(.slice A0_3 l0_3.length c0_3)] 26 (0,0)))∧Aside0 (w'.heap[gb375]?=some (.cells #[.bool t354,(.slice Ao44 t355.length co44),(.slice Ao45 t358.length co45),(.slice Ao46 t361.length co46)] 26 (0,0)))∧Aside0 (w'.heap[gb376]?=some (.cells #[.bool t364,(.slice Ao48 t365.length co48),(.slice Ao49 t368.length co49),(.slice Ao50 t371.length co50)] 26 (0,0)))∧Aside0 (Below w.heap.size w w'))
        case atStart=>exact ⟨(0),(by first|(with_reducible rfl)|(simp;done)|(simp [*];done)|rfl|(simp only [not_isEmpty_bne])),H',⟨Nat.le_refl _⟩,⟨by (with_reducible repeat (first|apply Kd.V_alloc|apply Kd.V_drewN|apply Kd.V_drew));exact HO_376001.out⟩,⟨by (with_reducible repeat (first|apply Kd.V_alloc|apply Kd.V_drewN|apply Kd.V_drew));exact HO_376002.out⟩,⟨by (with_reducible repeat (first|apply Kd.V_alloc|apply Kd.V_drewN|apply Kd.V_drew));exact HO_376003.out⟩,⟨by (with_reducible repeat (first|apply zk1|apply zk2|apply zk3));exact HO_377001.out⟩,⟨by (with_reducible repeat (first|apply zk1|apply zk2|apply zk3));exact HO_377002.out⟩,⟨by (with_reducible repeat (first|apply zk1|apply zk2|apply zk3));exact HO_377003.out⟩,⟨by (with_reducible repeat (first|apply zb1|apply zb2|apply zb3));exact BK350.out⟩,⟨by (with_reducible repeat (first|apply zb1|apply zb2|apply zb3));exact BK375.out⟩,⟨by (with_reducible repeat (first|apply zb1|apply zb2|apply zb3));exact BK376.out⟩,⟨by repeat (first|(with_reducible first|exact HB.out|apply zl1|apply zl2|apply zl3|refine below_set ?_ GE350.out|refine below_set ?_ GE375.out|refine below_set ?_ GE376.out)|exact HB.out)⟩⟩
        case round =>
         clear H'
         try clear c1
         try clear c2
         try clear p2
         try clear c5
         try clear c7
         try clear c18
         try clear c19
         try clear c21
         try clear c54
         try clear c79
         try clear p2
         obtain ⟨x6_3,rfl,HA,HK3,HO_376001,HO_376002,HO_376003,HO_377001,HO_377002,HO_377003,BK350,BK375,BK376,HB⟩:=hrel
         cases gk with
         | zero=>exact absurd HA.out (by simp [factotumlaw09_NodeParts.l0])
         | succ k3 =>
          have H:=HA.out
          clear HA
          simp only [factotumlaw09_NodeParts.l0] at H
          by_cases c80:x6_3 < (t355.length:Int)
          ·rw [if_pos c80] at H
           have c80b0:decide (x6_3 < (t355.length:Int))=true:=decide_eq_true c80
           clear c80
           by_cases c81:0≤x6_3
           ·rw [if_pos c81] at H
            have c81b0:decide (0≤x6_3)=true:=decide_eq_true c81
            clear c81
            by_cases c82:((Op.bytesLess (((rd_T43 t355 x6_3).f0).toList) t374.toList)=true)
            ·rw [if_pos c82] at H
             have c82b0:(Op.bytesLess (((rd_T43 t355 x6_3).f0).toList) t374.toList)=true:=c82
             clear c82
             have H':=Aside0.mk H
             clear H
             have hnb83:=NB375_350.out
             have hnc83:=NB350_375.out
             have hnb84:=NB375_376.out
             have hnc84:=NB376_375.out
             obtain ⟨hcz85_0,hcz85_1,hcz85_2,hcz85_3⟩:=zc4 BK375.out
             obtain ⟨hfz85_0,hfz85_1,hfz85_2,hfz85_3⟩:=zf4 BK375.out
             have p392:0≤(x6_3:Int):=of_decide_eq_true (by first|(with_reducible assumption)|assumption)
             have q392:x6_3 < (t355.length:Int):=of_decide_eq_true (by first|(with_reducible assumption)|assumption)
             obtain ⟨ad392,e392,hx392_0,hx392_1⟩:=at_T43 (Kd.V_reads' HO_376001.out).2.2 x6_3 p392 q392
             cases e392
             replace p392:=eq_true p392
             replace q392:=eq_true q392
             go_wp2
             go_roundg k3
             case measure=>have:=HJ1.out;have:=HJ38.out;have:=HK3.out;omega
             case rel=>exact ⟨(wrap64 (x6_3 + 1)),(by first|(with_reducible rfl)|(simp;done)|(simp [*];done)|rfl|(simp only [not_isEmpty_bne])),H',⟨by have:=HJ1.out;have:=HJ38.out;have:=HK3.out;omega⟩,⟨by (with_reducible repeat (first|apply Kd.V_alloc|apply Kd.V_drewN|apply Kd.V_drew));exact HO_376001.out⟩,⟨by (with_reducible repeat (first|apply Kd.V_alloc|apply Kd.V_drewN|apply Kd.V_drew));exact HO_376002.out⟩,⟨by (with_reducible repeat (first|apply Kd.V_alloc|apply Kd.V_drewN|apply Kd.V_drew));exact HO_376003.out⟩,⟨by (with_reducible repeat (first|apply zk1|apply zk2|apply zk3));exact HO_377001.out⟩,⟨by (with_reducible repeat (first|apply zk1|apply zk2|apply zk3));exact HO_377002.out⟩,⟨by (with_reducible repeat (first|apply zk1|apply zk2|apply zk3));exact HO_377003.out⟩,⟨by (with_reducible repeat (first|apply zb1|apply zb2|apply zb3));exact BK350.out⟩,⟨by (with_reducible repeat (first|apply zb1|apply zb2|apply zb3));exact BK375.out⟩,⟨by (with_reducible repeat (first|apply zb1|apply zb2|apply zb3));exact BK376.out⟩,⟨by repeat (first|(with_reducible first|exact HB.out|apply zl1|apply zl2|apply zl3|refine below_set ?_ GE350.out|refine below_set ?_ GE375.out|refine below_set ?_ GE376.out)|exact HB.out)⟩⟩
            ·rw [if_neg c82] at H
             exact absurd H (by simp)
           ·rw [if_neg c81] at H
            exact absurd H (by simp)
          ·rw [if_neg c80] at H
           have c80b0:decide (x6_3 < (t355.length:Int))=false:=decide_eq_false c80
           clear c80
           have H':=Aside0.mk H
           clear H
           have hnb86:=NB375_350.out
           have hnc86:=NB350_375.out
           have hnb87:=NB375_376.out
           have hnc87:=NB376_375.out
           obtain ⟨hcz88_0,hcz88_1,hcz88_2,hcz88_3⟩:=zc4 BK375.out
           obtain ⟨hfz88_0,hfz88_1,hfz88_2,hfz88_3⟩:=zf4 BK375.out
           go_wp2
           go_loopg [7] k3 (fun kq v7 w'=>∃ (x7_4:Int),v7=.int .i64 x7_4∧Aside0 (factotumlaw09_NodeParts.l1 kq t374 x7_4 a0_0 l0_1 l0_2 l0_3 t354 t355 t358 t361 t364 t365 t368 t371=some r)∧Aside0 (kq≤k3)∧Aside0 (Kd.V k43 43 w' w.heap.size (fun k_=>some k_ ≠ ((.slice Ao48 t365.length co48):Value).ownBlock∧some k_ ≠ ((.slice Ao49 t368.length co49):Value).ownBlock∧some k_ ≠ ((.slice Ao50 t371.length co50):Value).ownBlock∧k_ ≠ gb350∧k_ ≠ gb375∧k_ ≠ gb376) (.slice Ao44 t355.length co44) t355)∧Aside0 (Kd.V Kd.string 9 w' w.heap.size (fun k_=>some k_ ≠ ((.slice Ao48 t365.length co48):Value).ownBlock∧some k_ ≠ ((.slice Ao49 t368.length co49):Value).ownBlock∧some k_ ≠ ((.slice Ao50 t371.length co50):Value).ownBlock∧k_ ≠ gb350∧k_ ≠ gb375∧k_ ≠ gb376) (.slice Ao45 t358.length co45) t358)∧Aside0 (Kd.V (Kd.int .i64) 3 w' w.heap.size (fun k_=>some k_ ≠ ((.slice Ao48 t365.length co48):Value).ownBlock∧some k_ ≠ ((.slice Ao49 t368.length co49):Value).ownBlock∧some k_ ≠ ((.slice Ao50 t371.length co50):Value).ownBlock∧k_ ≠ gb350∧k_ ≠ gb375∧k_ ≠ gb376) (.slice Ao46 t361.length co46) t361)∧Aside0 (Kd.R k43 43 w' w.heap.size (fun _=>True) (.slice Ao48 t365.length co48) t365)∧Aside0 (Kd.R Kd.string 9 w' w.heap.size (fun _=>True) (.slice Ao49 t368.length co49) t368)∧Aside0 (Kd.R (Kd.int .i64) 3 w' w.heap.size (fun _=>True) (.slice Ao50 t371.length co50) t371)∧Aside0 (w'.heap[gb350]?=some (.cells #[.bool a0_0,(.slice A0_1 l0_1.length c0_1),(.slice A0_2 l0_2.length c0_2),(.slice A0_3 l0_3.length c0_3)] 26 (0,0)))∧Aside0 (w'.heap[gb375]?=some (.cells #[.bool t354,(.slice Ao44 t355.length co44),(.slice Ao45 t358.length co45),(.slice Ao46 t361.length co46)] 26 (0,0)))∧Aside0 (w'.heap[gb376]?=some (.cells #[.bool t364,(.slice Ao48 t365.length co48),(.slice Ao49 t368.length co49),(.slice Ao50 t371.length co50)] 26 (0,0)))∧Aside0 (Below w.heap.size w w'))
           case atStart=>exact ⟨(0),(by first|(with_reducible rfl)|(simp;done)|(simp [*];done)|rfl|(simp only [not_isEmpty_bne])),H',⟨Nat.le_refl _⟩,⟨by (with_reducible repeat (first|apply Kd.V_alloc|apply Kd.V_drewN|apply Kd.V_drew));exact HO_376001.out⟩,⟨by (with_reducible repeat (first|apply Kd.V_alloc|apply Kd.V_drewN|apply Kd.V_drew));exact HO_376002.out⟩,⟨by (with_reducible repeat (first|apply Kd.V_alloc|apply Kd.V_drewN|apply Kd.V_drew));exact HO_376003.out⟩,⟨by (with_reducible repeat (first|apply zk1|apply zk2|apply zk3));exact HO_377001.out⟩,⟨by (with_reducible repeat (first|apply zk1|apply zk2|apply zk3));exact HO_377002.out⟩,⟨by (with_reducible repeat (first|apply zk1|apply zk2|apply zk3));exact HO_377003.out⟩,⟨by (with_reducible repeat (first|apply zb1|apply zb2|apply zb3));exact BK350.out⟩,⟨by (with_reducible repeat (first|apply zb1|apply zb2|apply zb3));exact BK375.out⟩,⟨by (with_reducible repeat (first|apply zb1|apply zb2|apply zb3));exact BK376.out⟩,⟨by repeat (first|(with_reducible first|exact HB.out|apply zl1|apply zl2|apply zl3|refine below_set ?_ GE350.out|refine below_set ?_ GE375.out|refine below_set ?_ GE376.out)|exact HB.out)⟩⟩
           case round =>
            clear H'
            try clear hcz85_0
            try clear c1
            try clear c2
            try clear p2
            try clear p3
            try clear q3
            try clear hx3
            try clear c5
            try clear p6
            try clear c7
            try clear c8
            try clear c18
            try clear c19
            try clear c21
            try clear p39
            try clear q39
            try clear hx39
            try clear c54
            try clear p64
            try clear c79
            try clear c80
            try clear c80b0
            try clear c81
            try clear c81b0
            try clear c82
            try clear c82b0
            try clear c83
            try clear c84
            try clear c86
            try clear c87
            try clear hfz85_0 hfz85_1 hfz85_2 hfz85_3 hfz88_0 hfz88_1 hfz88_2 hfz88_3
            try clear hcz85_1 hcz85_2 hcz85_3 hcz88_0 hcz88_1 hcz88_2 hcz88_3
            try clear hx392_0
            try clear hx392_1
            try clear p2
            try clear p392
            try clear q392
            obtain ⟨x7_4,rfl,HA,HK4,HO_376001,HO_376002,HO_376003,HO_377001,HO_377002,HO_377003,BK350,BK375,BK376,HB⟩:=hrel
            cases gk with
            | zero=>exact absurd HA.out (by simp [factotumlaw09_NodeParts.l1])
            | succ k4 =>
             have H:=HA.out
             clear HA
             simp only [factotumlaw09_NodeParts.l1] at H
             by_cases c89:x7_4 < (t365.length:Int)
             ·rw [if_pos c89] at H
              have c89b0:decide (x7_4 < (t365.length:Int))=true:=decide_eq_true c89
              clear c89
              by_cases c90:0≤x7_4
              ·rw [if_pos c90] at H
               have c90b0:decide (0≤x7_4)=true:=decide_eq_true c90
               clear c90
               by_cases c91:(Op.bytesLess (((rd_T43 t365 x7_4).f0).toList) t374.toList)=true
               ·rw [if_pos c91] at H
                exact absurd H (by simp)
               ·rw [if_neg c91] at H
                have c91b0:(Op.bytesLess (((rd_T43 t365 x7_4).f0).toList) t374.toList)=false:=by simpa using c91
                clear c91
                have H':=Aside0.mk H
                clear H
                have hnb92:=NB376_350.out
                have hnc92:=NB350_376.out
                have hnb93:=NB376_375.out
                have hnc93:=NB375_376.out
                obtain ⟨hcz94_0,hcz94_1,hcz94_2,hcz94_3⟩:=zc4 BK376.out
                obtain ⟨hfz94_0,hfz94_1,hfz94_2,hfz94_3⟩:=zf4 BK376.out
                have p393:0≤(x7_4:Int):=of_decide_eq_true (by first|(with_reducible assumption)|assumption)
                have q393:x7_4 < (t365.length:Int):=of_decide_eq_true (by first|(with_reducible assumption)|assumption)
                obtain ⟨ad393,e393,hx393_0,hx393_1⟩:=at_T43 (Kd.R_reads' HO_377001.out).2.2 x7_4 p393 q393
                cases e393
                replace p393:=eq_true p393
                replace q393:=eq_true q393
                go_wp2
                go_roundg k4
                case measure=>have:=HJ1.out;have:=HJ38.out;have:=HK3.out;have:=HK4.out;omega
                case rel=>exact ⟨(wrap64 (x7_4 + 1)),(by first|(with_reducible rfl)|(simp;done)|(simp [*];done)|rfl|(simp only [not_isEmpty_bne])),H',⟨by have:=HJ1.out;have:=HJ38.out;have:=HK3.out;have:=HK4.out;omega⟩,⟨by (with_reducible repeat (first|apply Kd.V_alloc|apply Kd.V_drewN|apply Kd.V_drew));exact HO_376001.out⟩,⟨by (with_reducible repeat (first|apply Kd.V_alloc|apply Kd.V_drewN|apply Kd.V_drew));exact HO_376002.out⟩,⟨by (with_reducible repeat (first|apply Kd.V_alloc|apply Kd.V_drewN|apply Kd.V_drew));exact HO_376003.out⟩,⟨by (with_reducible repeat (first|apply zk1|apply zk2|apply zk3));exact HO_377001.out⟩,⟨by (with_reducible repeat (first|apply zk1|apply zk2|apply zk3));exact HO_377002.out⟩,⟨by (with_reducible repeat (first|apply zk1|apply zk2|apply zk3));exact HO_377003.out⟩,⟨by (with_reducible repeat (first|apply zb1|apply zb2|apply zb3));exact BK350.out⟩,⟨by (with_reducible repeat (first|apply zb1|apply zb2|apply zb3));exact BK375.out⟩,⟨by (with_reducible repeat (first|apply zb1|apply zb2|apply zb3));exact BK376.out⟩,⟨by repeat (first|(with_reducible first|exact HB.out|apply zl1|apply zl2|apply zl3|refine below_set ?_ GE350.out|refine below_set ?_ GE375.out|refine below_set ?_ GE376.out)|exact HB.out)⟩⟩
              ·rw [if_neg c90] at H
               exact absurd H (by simp)
             ·rw [if_neg c89] at H
              have c89b0:decide (x7_4 < (t365.length:Int))=false:=decide_eq_false c89
              clear c89
              replace H:=Option.bind_eq_some_iff.mp H
              obtain ⟨t394,A950,H⟩:=H
              replace H:(if t394 > 330 then (some true) else ((node_Size.f k4 t354 t355 t358 t361).bind fun t395=>(if t395≤256 then ((node_Size.f k4 t364 t365 t368 t371).bind fun t396=>(some (decide (t396≤256)))) else (none))))=some r:=H
              have A95:=Aside0.mk A950
              clear A950
              by_cases c96:t394 > 330
              ·rw [if_pos c96] at H
               have c96b0:decide (330 < t394)=true:=decide_eq_true c96
               clear c96
               obtain rfl:=Option.some.inj H
               have hnb97:=NB376_350.out
               have hnc97:=NB350_376.out
               have hnb98:=NB376_375.out
               have hnc98:=NB375_376.out
               obtain ⟨hcz99_0,hcz99_1,hcz99_2,hcz99_3⟩:=zc4 BK376.out
               obtain ⟨hfz99_0,hfz99_1,hfz99_2,hfz99_3⟩:=zf4 BK376.out
               have hnb100:=NB350_375.out
               have hnc100:=NB375_350.out
               obtain ⟨hcz101_0,hcz101_1,hcz101_2,hcz101_3⟩:=zc4 BK350.out
               obtain ⟨hfz101_0,hfz101_1,hfz101_2,hfz101_3⟩:=zf4 BK350.out
               go_wp2_with (first|((with_reducible refine gate_callee (f:=10) rfl ?_);refine goesL_ (some 80) rfl rfl Try.func10 (by kernel_rfl) rfl #[.agg #[.bool a0_0,.slice A0_1 l0_1.length c0_1,.slice A0_2 l0_2.length c0_2,.slice A0_3 l0_3.length c0_3]] rfl (by (try simp only [List.map_toArray,List.map_cons,List.map_nil]);first|done|rfl|(simp only [List.length_drop,List.length_take];rfl)|(simp (disch:=omega) only [u64_in];rfl)) ?_;(with_reducible refine (node_Size.calls k4 a0_0 _ _ l0_1 _ _ l0_2 _ _ l0_3 t394 _ ?side1 ?side2 ?side3 ?side4 ?side5 ?side6 A95.out).mono ?_);(case side1=>repeat (first|exact (Kd.C_below HR0_1.out HB.out)|(with_reducible refine Kd.C_alloc ?_ _)|(with_reducible refine Kd.C_drewN ?_ _)|(with_reducible refine Kd.C_drew ?_)));(case side2=>exact HC0_1.out);(case side3=>repeat (first|exact (Kd.C_below HR0_2.out HB.out)|(with_reducible refine Kd.C_alloc ?_ _)|(with_reducible refine Kd.C_drewN ?_ _)|(with_reducible refine Kd.C_drew ?_)));(case side4=>exact HC0_2.out);(case side5=>repeat (first|exact (Kd.C_below HR0_3.out HB.out)|(with_reducible refine Kd.C_alloc ?_ _)|(with_reducible refine Kd.C_drewN ?_ _)|(with_reducible refine Kd.C_drew ?_)));(case side6=>exact HC0_3.out);rintro e w102 ⟨rfl,hb⟩;refine ⟨_,rfl,?_⟩;replace HO_376001:=Aside0.mk (Kd.V_below (by (with_reducible repeat (first|apply Kd.V_alloc|apply Kd.V_drewN|apply Kd.V_drew));exact HO_376001.out) hb);replace HO_376002:=Aside0.mk (Kd.V_below (by (with_reducible repeat (first|apply Kd.V_alloc|apply Kd.V_drewN|apply Kd.V_drew));exact HO_376002.out) hb);replace HO_376003:=Aside0.mk (Kd.V_below (by (with_reducible repeat (first|apply Kd.V_alloc|apply Kd.V_drewN|apply Kd.V_drew));exact HO_376003.out) hb);replace HO_377001:=Aside0.mk (Kd.R_below (by (with_reducible repeat (first|apply zk1|apply zk2|apply zk3));exact HO_377001.out) hb);replace HO_377002:=Aside0.mk (Kd.R_below (by (with_reducible repeat (first|apply zk1|apply zk2|apply zk3));exact HO_377002.out) hb);replace HO_377003:=Aside0.mk (Kd.R_below (by (with_reducible repeat (first|apply zk1|apply zk2|apply zk3));exact HO_377003.out) hb);replace BK350:=Aside0.mk (blk_below (g:=gb350) (o:=.cells #[.bool a0_0,.slice A0_1 l0_1.length c0_1,.slice A0_2 l0_2.length c0_2,.slice A0_3 l0_3.length c0_3] 26 (0,0)) (by (with_reducible repeat (first|apply zb1|apply zb2|apply zb3));exact BK350.out) hb);replace BK375:=Aside0.mk (blk_below (g:=gb375) (o:=.cells #[.bool t354,.slice Ao44 t355.length co44,.slice Ao45 t358.length co45,.slice Ao46 t361.length co46] 26 (0,0)) (by (with_reducible repeat (first|apply zb1|apply zb2|apply zb3));exact BK375.out) hb);replace BK376:=Aside0.mk (blk_below (g:=gb376) (o:=.cells #[.bool t364,.slice Ao48 t365.length co48,.slice Ao49 t368.length co49,.slice Ao50 t371.length co50] 26 (0,0)) (by (with_reducible repeat (first|apply zb1|apply zb2|apply zb3));exact BK376.out) hb);replace HB:=Aside0.mk (below_step (by repeat (first|(with_reducible first|exact HB.out|apply zl1|apply zl2|apply zl3|refine below_set ?_ GE350.out|refine below_set ?_ GE375.out|refine below_set ?_ GE376.out)|exact HB.out)) hb);(try clear hb)))
               go_ret
               exact ⟨by first|(with_reducible rfl)|(simp only [isEmpty_bne,Bool.not_not] <;> rfl)|rfl|(simp [*,errW_none,errW_some] <;> rfl),by repeat (first|(with_reducible first|exact HB.out|apply zl1|apply zl2|apply zl3|refine below_set ?_ GE350.out|refine below_set ?_ GE375.out|refine below_set ?_ GE376.out)|exact HB.out)⟩
              ·rw [if_neg c96] at H
               have c96b0:decide (330 < t394)=false:=decide_eq_false c96
               clear c96
               replace H:=Option.bind_eq_some_iff.mp H
               obtain ⟨t395,A1030,H⟩:=H
               replace H:(if t395≤256 then ((node_Size.f k4 t364 t365 t368 t371).bind fun t396=>(some (decide (t396≤256)))) else (none))=some r:=H
               have A103:=Aside0.mk A1030
               clear A1030
               by_cases c104:t395≤256
               ·rw [if_pos c104] at H
                have c104b0:decide (t395≤256)=true:=decide_eq_true c104
                clear c104
                replace H:=Option.bind_eq_some_iff.mp H
                obtain ⟨t396,A1050,H⟩:=H
                replace H:(some (decide (t396≤256)))=some r:=H
                have A105:=Aside0.mk A1050
                clear A1050
                obtain rfl:=Option.some.inj H
                have hnb106:=NB376_350.out
                have hnc106:=NB350_376.out
                have hnb107:=NB376_375.out
                have hnc107:=NB375_376.out
                obtain ⟨hcz108_0,hcz108_1,hcz108_2,hcz108_3⟩:=zc4 BK376.out
                obtain ⟨hfz108_0,hfz108_1,hfz108_2,hfz108_3⟩:=zf4 BK376.out
                have hnb109:=NB350_375.out
                have hnc109:=NB375_350.out
                obtain ⟨hcz110_0,hcz110_1,hcz110_2,hcz110_3⟩:=zc4 BK350.out
                obtain ⟨hfz110_0,hfz110_1,hfz110_2,hfz110_3⟩:=zf4 BK350.out
                go_wp2_with (first|((with_reducible refine gate_callee (f:=10) rfl ?_);refine goesL_ (some 80) rfl rfl Try.func10 (by kernel_rfl) rfl #[.agg #[.bool a0_0,.slice A0_1 l0_1.length c0_1,.slice A0_2 l0_2.length c0_2,.slice A0_3 l0_3.length c0_3]] rfl (by (try simp only [List.map_toArray,List.map_cons,List.map_nil]);first|done|rfl|(simp only [List.length_drop,List.length_take];rfl)|(simp (disch:=omega) only [u64_in];rfl)) ?_;(with_reducible refine (node_Size.calls k4 a0_0 _ _ l0_1 _ _ l0_2 _ _ l0_3 t394 _ ?side1 ?side2 ?side3 ?side4 ?side5 ?side6 A95.out).mono ?_);(case side1=>repeat (first|exact (Kd.C_below HR0_1.out HB.out)|(with_reducible refine Kd.C_alloc ?_ _)|(with_reducible refine Kd.C_drewN ?_ _)|(with_reducible refine Kd.C_drew ?_)));(case side2=>exact HC0_1.out);(case side3=>repeat (first|exact (Kd.C_below HR0_2.out HB.out)|(with_reducible refine Kd.C_alloc ?_ _)|(with_reducible refine Kd.C_drewN ?_ _)|(with_reducible refine Kd.C_drew ?_)));(case side4=>exact HC0_2.out);(case side5=>repeat (first|exact (Kd.C_below HR0_3.out HB.out)|(with_reducible refine Kd.C_alloc ?_ _)|(with_reducible refine Kd.C_drewN ?_ _)|(with_reducible refine Kd.C_drew ?_)));(case side6=>exact HC0_3.out);rintro e w111 ⟨rfl,hb⟩;refine ⟨_,rfl,?_⟩;replace HO_376001:=Aside0.mk (Kd.V_below (by (with_reducible repeat (first|apply Kd.V_alloc|apply Kd.V_drewN|apply Kd.V_drew));exact HO_376001.out) hb);replace HO_376002:=Aside0.mk (Kd.V_below (by (with_reducible repeat (first|apply Kd.V_alloc|apply Kd.V_drewN|apply Kd.V_drew));exact HO_376002.out) hb);replace HO_376003:=Aside0.mk (Kd.V_below (by (with_reducible repeat (first|apply Kd.V_alloc|apply Kd.V_drewN|apply Kd.V_drew));exact HO_376003.out) hb);replace HO_377001:=Aside0.mk (Kd.R_below (by (with_reducible repeat (first|apply zk1|apply zk2|apply zk3));exact HO_377001.out) hb);replace HO_377002:=Aside0.mk (Kd.R_below (by (with_reducible repeat (first|apply zk1|apply zk2|apply zk3));exact HO_377002.out) hb);replace HO_377003:=Aside0.mk (Kd.R_below (by (with_reducible repeat (first|apply zk1|apply zk2|apply zk3));exact HO_377003.out) hb);replace BK350:=Aside0.mk (blk_below (g:=gb350) (o:=.cells #[.bool a0_0,.slice A0_1 l0_1.length c0_1,.slice A0_2 l0_2.length c0_2,.slice A0_3 l0_3.length c0_3] 26 (0,0)) (by (with_reducible repeat (first|apply zb1|apply zb2|apply zb3));exact BK350.out) hb);replace BK375:=Aside0.mk (blk_below (g:=gb375) (o:=.cells #[.bool t354,.slice Ao44 t355.length co44,.slice Ao45 t358.length co45,.slice Ao46 t361.length co46] 26 (0,0)) (by (with_reducible repeat (first|apply zb1|apply zb2|apply zb3));exact BK375.out) hb);replace BK376:=Aside0.mk (blk_below (g:=gb376) (o:=.cells #[.bool t364,.slice Ao48 t365.length co48,.slice Ao49 t368.length co49,.slice Ao50 t371.length co50] 26 (0,0)) (by (with_reducible repeat (first|apply zb1|apply zb2|apply zb3));exact BK376.out) hb);replace HB:=Aside0.mk (below_step (by repeat (first|(with_reducible first|exact HB.out|apply zl1|apply zl2|apply zl3|refine below_set ?_ GE350.out|refine below_set ?_ GE375.out|refine below_set ?_ GE376.out)|exact HB.out)) hb);(try clear hb);obtain ⟨hcz112_0,hcz112_1,hcz112_2,hcz112_3⟩:=zc4 BK375.out;obtain ⟨hfz112_0,hfz112_1,hfz112_2,hfz112_3⟩:=zf4 BK375.out)|(go_at_call 10;(with_reducible refine (node_Size.calls k4 t354 _ _ t355 _ _ t358 _ _ t361 t395 _ ?side1 ?side2 ?side3 ?side4 ?side5 ?side6 A103.out).mono ?_);(case side1=>repeat (first|exact (Kd.V_reads' HO_376001.out).2.2|(with_reducible refine Kd.C_alloc ?_ _)|(with_reducible refine Kd.C_drewN ?_ _)|(with_reducible refine Kd.C_drew ?_)));(case side2=>exact (Kd.V_reads' HO_376001.out).2.1);(case side3=>repeat (first|exact (Kd.V_reads' HO_376002.out).2.2|(with_reducible refine Kd.C_alloc ?_ _)|(with_reducible refine Kd.C_drewN ?_ _)|(with_reducible refine Kd.C_drew ?_)));(case side4=>exact (Kd.V_reads' HO_376002.out).2.1);(case side5=>repeat (first|exact (Kd.V_reads' HO_376003.out).2.2|(with_reducible refine Kd.C_alloc ?_ _)|(with_reducible refine Kd.C_drewN ?_ _)|(with_reducible refine Kd.C_drew ?_)));(case side6=>exact (Kd.V_reads' HO_376003.out).2.1);rintro e w113 ⟨rfl,hb⟩;replace HO_376001:=Aside0.mk (Kd.V_below (by (with_reducible repeat (first|apply Kd.V_alloc|apply Kd.V_drewN|apply Kd.V_drew));exact HO_376001.out) hb);replace HO_376002:=Aside0.mk (Kd.V_below (by (with_reducible repeat (first|apply Kd.V_alloc|apply Kd.V_drewN|apply Kd.V_drew));exact HO_376002.out) hb);replace HO_376003:=Aside0.mk (Kd.V_below (by (with_reducible repeat (first|apply Kd.V_alloc|apply Kd.V_drewN|apply Kd.V_drew));exact HO_376003.out) hb);replace HO_377001:=Aside0.mk (Kd.R_below (by (with_reducible repeat (first|apply zk1|apply zk2|apply zk3));exact HO_377001.out) hb);replace HO_377002:=Aside0.mk (Kd.R_below (by (with_reducible repeat (first|apply zk1|apply zk2|apply zk3));exact HO_377002.out) hb);replace HO_377003:=Aside0.mk (Kd.R_below (by (with_reducible repeat (first|apply zk1|apply zk2|apply zk3));exact HO_377003.out) hb);replace BK350:=Aside0.mk (blk_below (g:=gb350) (o:=.cells #[.bool a0_0,.slice A0_1 l0_1.length c0_1,.slice A0_2 l0_2.length c0_2,.slice A0_3 l0_3.length c0_3] 26 (0,0)) (by (with_reducible repeat (first|apply zb1|apply zb2|apply zb3));exact BK350.out) hb);replace BK375:=Aside0.mk (blk_below (g:=gb375) (o:=.cells #[.bool t354,.slice Ao44 t355.length co44,.slice Ao45 t358.length co45,.slice Ao46 t361.length co46] 26 (0,0)) (by (with_reducible repeat (first|apply zb1|apply zb2|apply zb3));exact BK375.out) hb);replace BK376:=Aside0.mk (blk_below (g:=gb376) (o:=.cells #[.bool t364,.slice Ao48 t365.length co48,.slice Ao49 t368.length co49,.slice Ao50 t371.length co50] 26 (0,0)) (by (with_reducible repeat (first|apply zb1|apply zb2|apply zb3));exact BK376.out) hb);replace HB:=Aside0.mk (below_step (by repeat (first|(with_reducible first|exact HB.out|apply zl1|apply zl2|apply zl3|refine below_set ?_ GE350.out|refine below_set ?_ GE375.out|refine below_set ?_ GE376.out)|exact HB.out)) hb);(try clear hb);obtain ⟨hcz114_0,hcz114_1,hcz114_2,hcz114_3⟩:=zc4 BK376.out;obtain ⟨hfz114_0,hfz114_1,hfz114_2,hfz114_3⟩:=zf4 BK376.out)|(go_at_call 10;(with_reducible refine (node_Size.calls k4 t364 _ _ t365 _ _ t368 _ _ t371 t396 _ ?side1 ?side2 ?side3 ?side4 ?side5 ?side6 A105.out).mono ?_);(case side1=>repeat (first|exact (Kd.R_reads' HO_377001.out).2.2|(with_reducible refine Kd.C_alloc ?_ _)|(with_reducible refine Kd.C_drewN ?_ _)|(with_reducible refine Kd.C_drew ?_)));(case side2=>exact (Kd.R_reads' HO_377001.out).2.1);(case side3=>repeat (first|exact (Kd.R_reads' HO_377002.out).2.2|(with_reducible refine Kd.C_alloc ?_ _)|(with_reducible refine Kd.C_drewN ?_ _)|(with_reducible refine Kd.C_drew ?_)));(case side4=>exact (Kd.R_reads' HO_377002.out).2.1);(case side5=>repeat (first|exact (Kd.R_reads' HO_377003.out).2.2|(with_reducible refine Kd.C_alloc ?_ _)|(with_reducible refine Kd.C_drewN ?_ _)|(with_reducible refine Kd.C_drew ?_)));(case side6=>exact (Kd.R_reads' HO_377003.out).2.1);rintro e w115 ⟨rfl,hb⟩;replace HO_376001:=Aside0.mk (Kd.V_below (by (with_reducible repeat (first|apply Kd.V_alloc|apply Kd.V_drewN|apply Kd.V_drew));exact HO_376001.out) hb);replace HO_376002:=Aside0.mk (Kd.V_below (by (with_reducible repeat (first|apply Kd.V_alloc|apply Kd.V_drewN|apply Kd.V_drew));exact HO_376002.out) hb);replace HO_376003:=Aside0.mk (Kd.V_below (by (with_reducible repeat (first|apply Kd.V_alloc|apply Kd.V_drewN|apply Kd.V_drew));exact HO_376003.out) hb);replace HO_377001:=Aside0.mk (Kd.R_below (by (with_reducible repeat (first|apply zk1|apply zk2|apply zk3));exact HO_377001.out) hb);replace HO_377002:=Aside0.mk (Kd.R_below (by (with_reducible repeat (first|apply zk1|apply zk2|apply zk3));exact HO_377002.out) hb);replace HO_377003:=Aside0.mk (Kd.R_below (by (with_reducible repeat (first|apply zk1|apply zk2|apply zk3));exact HO_377003.out) hb);replace BK350:=Aside0.mk (blk_below (g:=gb350) (o:=.cells #[.bool a0_0,.slice A0_1 l0_1.length c0_1,.slice A0_2 l0_2.length c0_2,.slice A0_3 l0_3.length c0_3] 26 (0,0)) (by (with_reducible repeat (first|apply zb1|apply zb2|apply zb3));exact BK350.out) hb);replace BK375:=Aside0.mk (blk_below (g:=gb375) (o:=.cells #[.bool t354,.slice Ao44 t355.length co44,.slice Ao45 t358.length co45,.slice Ao46 t361.length co46] 26 (0,0)) (by (with_reducible repeat (first|apply zb1|apply zb2|apply zb3));exact BK375.out) hb);replace BK376:=Aside0.mk (blk_below (g:=gb376) (o:=.cells #[.bool t364,.slice Ao48 t365.length co48,.slice Ao49 t368.length co49,.slice Ao50 t371.length co50] 26 (0,0)) (by (with_reducible repeat (first|apply zb1|apply zb2|apply zb3));exact BK376.out) hb);replace HB:=Aside0.mk (below_step (by repeat (first|(with_reducible first|exact HB.out|apply zl1|apply zl2|apply zl3|refine below_set ?_ GE350.out|refine below_set ?_ GE375.out|refine below_set ?_ GE376.out)|exact HB.out)) hb);(try clear hb)))
                go_ret
                exact ⟨by first|(with_reducible rfl)|(simp only [isEmpty_bne,Bool.not_not] <;> rfl)|rfl|(simp [*,errW_none,errW_some] <;> rfl),by repeat (first|(with_reducible first|exact HB.out|apply zl1|apply zl2|apply zl3|refine below_set ?_ GE350.out|refine below_set ?_ GE375.out|refine below_set ?_ GE376.out)|exact HB.out)⟩
               ·rw [if_neg c104] at H
                exact absurd H (by simp)

end Go.Proofs.Ytokjbncjapndgaa.PAll
