/- Printed walks of the functions that the laws reach: each function, what it computes, and that it does. No conditions. -/
import Derived.Test.YtokjbncjapndgaaDoorPAllx0
import Derived.Test.YtokjbncjapndgaaDoorPAllx8
import Derived.Test.YtokjbncjapndgaaDoorPAllx9
import Derived.Test.YtokjbncjapndgaaDoorPAllx10
namespace Go.Proofs.YtokjbncjapndgaaDoor.PAll
open Go.RowKit Go.Proofs.YtokjbncjapndgaaDoor.XW Go.Proofs.YtokjbncjapndgaaDoor.XLib Go.Proofs.YtokjbncjapndgaaDoorW.PrintWords Go.Proofs.YtokjbncjapndgaaDoorW.PrintLast Go.Proofs.YtokjbncjapndgaaDoorW.PrintMore
attribute [local go_sem] max2_int min2_int max_two min_two max_three min_three max_four min_four   -- for this text's walks alone
set_option linter.unusedVariables false
set_option linter.unusedSimpArgs false

/-! ### node_Write: function 9 -/
mutual
def node_Write.j2 : Nat → List Int → Option (ByteArray × Int)
 | 0,_ => none
 | k + 1,x4 => (strings_Repeat.f (⟨#[0]⟩ : ByteArray) (wrap64 (256 - (x4.length : Int)))).bind fun t209 => (if (strOfNums x4).size + t209.size ≤ 9223372036854775807 then (some ((strOfNums x4) ++ t209,0)) else (none))
def node_Write.l0 : Nat → List Int → List (S44) → Int → Int → Option (ByteArray × Int)
 | 0,_,_,_,_ => none
 | k + 1,x4,x27,x28,x29 => if x29 < x28 then (if 0 ≤ x29 then (if x29 < (x27.length : Int) then ((pack_Str.f x4 ((rd_T44 x27 x29).f0)).bind fun t185 => ((pack_Str.f t185 ((rd_T44 x27 x29).f1)).bind fun t188 => (node_Write.l0 k t188 x27 x28 (wrap64 (x29 + 1))))) else (none)) else (none)) else (node_Write.j2 k x4)
def node_Write.l1 : Nat → List Int → List ByteArray → Int → Int → Bool → List (S44) → List ByteArray → List Int → Option (ByteArray × Int)
 | 0,_,_,_,_,_,_,_,_ => none
 | k + 1,x4,x55,x56,x57,x175000,x175001,x175002,x175003 => if x57 < x56 then (if 0 ≤ x57 then (if x57 < (x55.length : Int) then ((pack_Str.f x4 (rdOf ByteArray.empty x55 x57)).bind fun t202 => (if 0 ≤ (wrap64 (x57 + 1)) then (if (wrap64 (x57 + 1)) < (x175003.length : Int) then ((pack_Num.f k t202 (IntKind.u64.wrap (rd x175003 (wrap64 (x57 + 1)))) 2).bind fun t206 => (node_Write.l1 k t206 x55 x56 (wrap64 (x57 + 1)) x175000 x175001 x175002 x175003)) else (none)) else (none))) else (none)) else (none)) else (node_Write.j2 k x4)
end
def node_Write.f (k : Nat) (a0_0 : Bool) (l0_1 : List (S44)) (l0_2 : List ByteArray) (l0_3 : List Int) : Option (ByteArray × Int):=(node_right.f k a0_0 l0_1 l0_2 l0_3).bind fun t175 => (if t175 = true then ((node_Size.f k a0_0 l0_1 l0_2 l0_3).bind fun t176 => (if t176 > 256 then (some ((⟨#[]⟩ : ByteArray),3)) else (if a0_0 = true then ((some (([1,((l0_1.length : Int)) % 256] : List Int) : List Int)).bind fun y177 => (if ([] : List Int).length + y177.length < 140737488355328 then (node_Write.l0 k (([] : List Int) ++ y177) l0_1 (l0_1.length : Int) 0) else (none))) else ((some (([2,((l0_2.length : Int)) % 256] : List Int) : List Int)).bind fun y191 => (if ([] : List Int).length + y191.length < 140737488355328 then (if 0 < (l0_3.length : Int) then ((pack_Num.f k (([] : List Int) ++ y191) (IntKind.u64.wrap (rd l0_3 0)) 2).bind fun t198 => (node_Write.l1 k t198 l0_2 (l0_2.length : Int) 0 a0_0 l0_1 l0_2 l0_3)) else (none)) else (none)))))) else (some ((⟨#[]⟩ : ByteArray),4)))
theorem node_Write.mono_l : ∀ k,(∀ y0,LeO (node_Write.j2 k y0) (node_Write.j2 (k + 1) y0))∧(∀ y0 y1 y2 y3,LeO (node_Write.l0 k y0 y1 y2 y3) (node_Write.l0 (k + 1) y0 y1 y2 y3))∧(∀ y0 y1 y2 y3 y4 y5 y6 y7,LeO (node_Write.l1 k y0 y1 y2 y3 y4 y5 y6 y7) (node_Write.l1 (k + 1) y0 y1 y2 y3 y4 y5 y6 y7))
 | 0 => ⟨fun _ r h => by simp [node_Write.j2] at h,fun _ _ _ _ r h => by simp [node_Write.l0] at h,fun _ _ _ _ _ _ _ _ r h => by simp [node_Write.l1] at h⟩
 | k + 1 => by
  obtain ⟨ih0,ih1,ih2⟩:=node_Write.mono_l k
  refine ⟨?_,?_,?_⟩
  ·intro y0
   unfold node_Write.j2
   repeat' first
   | (with_reducible exact ih0 _)
   | (with_reducible exact ih1 _ _ _ _)
   | (with_reducible exact ih2 _ _ _ _ _ _ _ _)
   | (with_reducible exact node_Size.mono _ _ _ _ _)
   | (with_reducible exact node_right.mono _ _ _ _ _)
   | (with_reducible exact pack_Num.mono _ _ _ _)
   | (with_reducible exact LeO.refl _)
   | (with_reducible exact LeO.none _)
   | (with_reducible refine LeO.ite ?_ ?_)
   | (with_reducible refine LeO.bind ?_ (fun _ => ?_))
   | exact ih0 _
   | exact ih1 _ _ _ _
   | exact ih2 _ _ _ _ _ _ _ _
   | exact node_Size.mono _ _ _ _ _
   | exact node_right.mono _ _ _ _ _
   | exact pack_Num.mono _ _ _ _
   | exact LeO.none _
   | refine LeO.ite ?_ ?_
   | refine LeO.bind ?_ (fun _ => ?_)
  ·intro y0 y1 y2 y3
   unfold node_Write.l0
   repeat' first
   | (with_reducible exact ih0 _)
   | (with_reducible exact ih1 _ _ _ _)
   | (with_reducible exact ih2 _ _ _ _ _ _ _ _)
   | (with_reducible exact node_Size.mono _ _ _ _ _)
   | (with_reducible exact node_right.mono _ _ _ _ _)
   | (with_reducible exact pack_Num.mono _ _ _ _)
   | (with_reducible exact LeO.refl _)
   | (with_reducible exact LeO.none _)
   | (with_reducible refine LeO.ite ?_ ?_)
   | (with_reducible refine LeO.bind ?_ (fun _ => ?_))
   | exact ih0 _
   | exact ih1 _ _ _ _
   | exact ih2 _ _ _ _ _ _ _ _
   | exact node_Size.mono _ _ _ _ _
   | exact node_right.mono _ _ _ _ _
   | exact pack_Num.mono _ _ _ _
   | exact LeO.none _
   | refine LeO.ite ?_ ?_
   | refine LeO.bind ?_ (fun _ => ?_)
  ·intro y0 y1 y2 y3 y4 y5 y6 y7
   unfold node_Write.l1
   repeat' first
   | (with_reducible exact ih0 _)
   | (with_reducible exact ih1 _ _ _ _)
   | (with_reducible exact ih2 _ _ _ _ _ _ _ _)
   | (with_reducible exact node_Size.mono _ _ _ _ _)
   | (with_reducible exact node_right.mono _ _ _ _ _)
   | (with_reducible exact pack_Num.mono _ _ _ _)
   | (with_reducible exact LeO.refl _)
   | (with_reducible exact LeO.none _)
   | (with_reducible refine LeO.ite ?_ ?_)
   | (with_reducible refine LeO.bind ?_ (fun _ => ?_))
   | exact ih0 _
   | exact ih1 _ _ _ _
   | exact ih2 _ _ _ _ _ _ _ _
   | exact node_Size.mono _ _ _ _ _
   | exact node_right.mono _ _ _ _ _
   | exact pack_Num.mono _ _ _ _
   | exact LeO.none _
   | refine LeO.ite ?_ ?_
   | refine LeO.bind ?_ (fun _ => ?_)
theorem node_Write.mono : ∀ a0 a1 a2 a3 k,LeO (node_Write.f k a0 a1 a2 a3) (node_Write.f (k + 1) a0 a1 a2 a3):=by
 intro a0 a1 a2 a3 k
 obtain ⟨ih0,ih1,ih2⟩:=node_Write.mono_l k
 unfold node_Write.f
 repeat' first
   | (with_reducible exact ih0 _)
   | (with_reducible exact ih1 _ _ _ _)
   | (with_reducible exact ih2 _ _ _ _ _ _ _ _)
   | (with_reducible exact node_Size.mono _ _ _ _ _)
   | (with_reducible exact node_right.mono _ _ _ _ _)
   | (with_reducible exact pack_Num.mono _ _ _ _)
   | (with_reducible exact LeO.refl _)
   | (with_reducible exact LeO.none _)
   | (with_reducible refine LeO.ite ?_ ?_)
   | (with_reducible refine LeO.bind ?_ (fun _ => ?_))
   | exact ih0 _
   | exact ih1 _ _ _ _
   | exact ih2 _ _ _ _ _ _ _ _
   | exact node_Size.mono _ _ _ _ _
   | exact node_right.mono _ _ _ _ _
   | exact pack_Num.mono _ _ _ _
   | exact LeO.none _
   | refine LeO.ite ?_ ?_
   | refine LeO.bind ?_ (fun _ => ?_)
def node_Write.T11 : Bool × List (List Nat × List Nat):=(true,[([],[]),([],[]),([1],[1]),([0,2],[0,2]),([],[]),([4],[4]),([3,5,3],[3,5]),([6,6,0,1,2,3,4,5,6],[0,6])])
def node_Write.B11 : List Nat:=[0,0,2,7,0,16,63,127]
theorem node_Write.tab11 : rtab .any (opsOf Tryd.f9 11) = node_Write.T11:=by kernel_rfl
theorem node_Write.bits11 : waitsOk node_Write.T11.2 node_Write.B11 = true:=by kernel_rfl
def node_Write.T13 : Bool × List (List Nat × List Nat):=(true,[([],[]),([],[]),([1],[1]),([2],[2]),([3],[3]),([4],[4]),([0,5],[0,5]),([],[]),([7],[7]),([8],[8]),([9],[9]),([10],[10]),([6,11,6],[6,11]),([12,12,0,1,2,3,4,5,6,7,8,9,10,11,12],[0,12])])
def node_Write.B13 : List Nat:=[0,0,2,6,14,30,63,0,128,384,896,1920,4095,8191]
theorem node_Write.tab13 : rtab .any (opsOf Tryd.f9 13) = node_Write.T13:=by kernel_rfl
theorem node_Write.bits13 : waitsOk node_Write.T13.2 node_Write.B13 = true:=by kernel_rfl
def node_Write.T17 : Bool × List (List Nat × List Nat):=(true,[([],[]),([],[]),([0,1],[0,1]),([],[]),([3],[3]),([],[]),([5],[5]),([4,6],[4,6]),([7],[7]),([8],[8]),([2,9,2],[2,9]),([10,10,0,1,2,3,4,5,6,7,8,9,10],[0,10])])
def node_Write.B17 : List Nat:=[0,0,3,0,8,0,32,120,248,504,1023,2047]
theorem node_Write.tab17 : rtab .any (opsOf Tryd.f9 17) = node_Write.T17:=by kernel_rfl
theorem node_Write.bits17 : waitsOk node_Write.T17.2 node_Write.B17 = true:=by kernel_rfl
def node_Write.T19 : Bool × List (List Nat × List Nat):=(true,[([],[]),([0],[0]),([],[]),([2],[2]),([3],[3]),([4],[4]),([1,5],[1,5]),([6,5,0,1,2,3,4,5,6],[6]),([7,0,1,2,3,4,5,6,7],[])])
def node_Write.B19 : List Nat:=[0,1,0,4,12,28,63,127,255]
theorem node_Write.tab19 : rtab .any (opsOf Tryd.f9 19) = node_Write.T19:=by kernel_rfl
theorem node_Write.bits19 : waitsOk node_Write.T19.2 node_Write.B19 = true:=by kernel_rfl
set_option maxHeartbeats 8000000 in
set_option maxRecDepth 100000 in
theorem node_Write.calls (k : Nat) (a0_0 : Bool) (A0_1 : Option Addr) (c0_1 : Nat) (l0_1 : List (S44)) (A0_2 : Option Addr) (c0_2 : Nat) (l0_2 : List ByteArray) (A0_3 : Option Addr) (c0_3 : Nat) (l0_3 : List Int) (r1 : ByteArray) (r2 : Int) (w : World) (hr0_1 : Kd.C k44 w A0_1 l0_1.length l0_1) (hc0_1 : l0_1.length ≤ c0_1) (hr0_2 : Kd.C Kd.string w A0_2 l0_2.length l0_2) (hc0_2 : l0_2.length ≤ c0_2) (hr0_3 : Kd.C (Kd.int .i64) w A0_3 l0_3.length l0_3) (hc0_3 : l0_3.length ≤ c0_3) (h : node_Write.f k a0_0 l0_1 l0_2 l0_3 = some (r1,r2)) :
  Calls Tryd.prog 9 #[.agg #[.bool a0_0,.slice A0_1 l0_1.length c0_1,.slice A0_2 l0_2.length c0_2,.slice A0_3 l0_3.length c0_3]] w fun e w' => e = .returned (.tuple #[.string r1,.int .i64 r2])∧Below w.heap.size w w':=by
 have hu27:=Tryd.underlying27
 have hu44:=Tryd.underlying44
 have HR0_1:=Aside0.mk hr0_1
 have HC0_1:=Aside0.mk hc0_1
 clear hr0_1 hc0_1
 have HR0_2:=Aside0.mk hr0_2
 have HC0_2:=Aside0.mk hc0_2
 clear hr0_2 hc0_2
 have HR0_3:=Aside0.mk hr0_3
 have HC0_3:=Aside0.mk hc0_3
 clear hr0_3 hc0_3
 have HB:=Aside0.mk (Below.refl w.heap.size w)
 have H : ((node_right.f k a0_0 l0_1 l0_2 l0_3).bind fun t175 => (if t175 = true then ((node_Size.f k a0_0 l0_1 l0_2 l0_3).bind fun t176 => (if t176 > 256 then (some ((⟨#[]⟩ : ByteArray),3)) else (if a0_0 = true then ((some (([1,((l0_1.length : Int)) % 256] : List Int) : List Int)).bind fun y177 => (if ([] : List Int).length + y177.length < 140737488355328 then (node_Write.l0 k (([] : List Int) ++ y177) l0_1 (l0_1.length : Int) 0) else (none))) else ((some (([2,((l0_2.length : Int)) % 256] : List Int) : List Int)).bind fun y191 => (if ([] : List Int).length + y191.length < 140737488355328 then (if 0 < (l0_3.length : Int) then ((pack_Num.f k (([] : List Int) ++ y191) (IntKind.u64.wrap (rd l0_3 0)) 2).bind fun t198 => (node_Write.l1 k t198 l0_2 (l0_2.length : Int) 0 a0_0 l0_1 l0_2 l0_3)) else (none)) else (none)))))) else (some ((⟨#[]⟩ : ByteArray),4)))) = some (r1,r2):=h
 clear h
 replace H:=Option.bind_eq_some_iff.mp H
 obtain ⟨t175,A20,H⟩:=H
 replace H : (if t175 = true then ((node_Size.f k a0_0 l0_1 l0_2 l0_3).bind fun t176 => (if t176 > 256 then (some ((⟨#[]⟩ : ByteArray),3)) else (if a0_0 = true then ((some (([1,((l0_1.length : Int)) % 256] : List Int) : List Int)).bind fun y177 => (if ([] : List Int).length + y177.length < 140737488355328 then (node_Write.l0 k (([] : List Int) ++ y177) l0_1 (l0_1.length : Int) 0) else (none))) else ((some (([2,((l0_2.length : Int)) % 256] : List Int) : List Int)).bind fun y191 => (if ([] : List Int).length + y191.length < 140737488355328 then (if 0 < (l0_3.length : Int) then ((pack_Num.f k (([] : List Int) ++ y191) (IntKind.u64.wrap (rd l0_3 0)) 2).bind fun t198 => (node_Write.l1 k t198 l0_2 (l0_2.length : Int) 0 a0_0 l0_1 l0_2 l0_3)) else (none)) else (none)))))) else (some ((⟨#[]⟩ : ByteArray),4))) = some (r1,r2):=H
 have A2:=Aside0.mk A20
 clear A20
 by_cases c3 : t175 = true
 ·subst c3
  have H1 : ((node_Size.f k a0_0 l0_1 l0_2 l0_3).bind fun t176 => (if t176 > 256 then (some ((⟨#[]⟩ : ByteArray),3)) else (if a0_0 = true then ((some (([1,((l0_1.length : Int)) % 256] : List Int) : List Int)).bind fun y177 => (if ([] : List Int).length + y177.length < 140737488355328 then (node_Write.l0 k (([] : List Int) ++ y177) l0_1 (l0_1.length : Int) 0) else (none))) else ((some (([2,((l0_2.length : Int)) % 256] : List Int) : List Int)).bind fun y191 => (if ([] : List Int).length + y191.length < 140737488355328 then (if 0 < (l0_3.length : Int) then ((pack_Num.f k (([] : List Int) ++ y191) (IntKind.u64.wrap (rd l0_3 0)) 2).bind fun t198 => (node_Write.l1 k t198 l0_2 (l0_2.length : Int) 0 a0_0 l0_1 l0_2 l0_3)) else (none)) else (none)))))) = some (r1,r2):=by rw [if_pos rfl] at H;exact H
  clear H
  have H:=H1
  clear H1
  replace H:=Option.bind_eq_some_iff.mp H
  obtain ⟨t176,A40,H⟩:=H
  replace H : (if t176 > 256 then (some ((⟨#[]⟩ : ByteArray),3)) else (if a0_0 = true then ((some (([1,((l0_1.length : Int)) % 256] : List Int) : List Int)).bind fun y177 => (if ([] : List Int).length + y177.length < 140737488355328 then (node_Write.l0 k (([] : List Int) ++ y177) l0_1 (l0_1.length : Int) 0) else (none))) else ((some (([2,((l0_2.length : Int)) % 256] : List Int) : List Int)).bind fun y191 => (if ([] : List Int).length + y191.length < 140737488355328 then (if 0 < (l0_3.length : Int) then ((pack_Num.f k (([] : List Int) ++ y191) (IntKind.u64.wrap (rd l0_3 0)) 2).bind fun t198 => (node_Write.l1 k t198 l0_2 (l0_2.length : Int) 0 a0_0 l0_1 l0_2 l0_3)) else (none)) else (none))))) = some (r1,r2):=H
  have A4:=Aside0.mk A40
  clear A40
  by_cases c5 : t176 > 256
  ·rw [if_pos c5] at H
   have c5b0 : decide (256 < t176) = true:=decide_eq_true c5
   clear c5
   simp only [Option.some.injEq,Prod.mk.injEq] at H
   obtain ⟨rfl,rfl⟩:=H
   go_enter Tryd.func9,Tryd.ntmps9
   go_wp2_with (first|((with_reducible refine gate_dst (N:=1) rfl ?_);refine box_event ?hg (N:=1) ?hd (cs:=#[.bool a0_0,.slice A0_1 l0_1.length c0_1,.slice A0_2 l0_2.length c0_2,.slice A0_3 l0_3.length c0_3]) (t:=27) ?hr ?_;(case hd => rfl);(case hg => rfl);(case hr => first|(go_simp;done)|(go_simp;rfl));intro gb174 hg w6 hbox hb;have BK174:=Aside0.mk (hbox);have GW174:=Aside0.mk ((by rw [hg];exact (below_size (by repeat (first|(with_reducible first|exact HB.out|apply zl1|apply zl2|apply zl3)|exact HB.out))) : w.heap.size ≤ gb174));have GE174:=Aside0.mk ((by rw [hg];exact (below_size (by repeat (first|(with_reducible first|exact HB.out|apply zl1|apply zl2|apply zl3)|exact HB.out))) : w.heap.size ≤ gb174));replace HB:=Aside0.mk (below_step (by repeat (first|(with_reducible first|exact HB.out|apply zl1|apply zl2|apply zl3)|exact HB.out)) hb);clear hb hbox hg;have hcz7_0 : w6.cell? ⟨gb174,0,none⟩ = some (.bool a0_0):=(blk_cell BK174.out 0).trans rfl;have hcz7_1 : w6.cell? ⟨gb174,1,none⟩ = some (.slice A0_1 l0_1.length c0_1):=(blk_cell BK174.out 1).trans rfl;have hcz7_2 : w6.cell? ⟨gb174,2,none⟩ = some (.slice A0_2 l0_2.length c0_2):=(blk_cell BK174.out 2).trans rfl;have hcz7_3 : w6.cell? ⟨gb174,3,none⟩ = some (.slice A0_3 l0_3.length c0_3):=(blk_cell BK174.out 3).trans rfl;have hfz7_0:=blk_frozen BK174.out 0;have hfz7_1:=blk_frozen BK174.out 1;have hfz7_2:=blk_frozen BK174.out 2;have hfz7_3:=blk_frozen BK174.out 3)|((with_reducible refine gate_callee (f:=18) rfl ?_);refine goesL_ (some 11) rfl rfl Tryd.func18 (by kernel_rfl) rfl #[.agg #[.bool a0_0,.slice A0_1 l0_1.length c0_1,.slice A0_2 l0_2.length c0_2,.slice A0_3 l0_3.length c0_3]] rfl (by (try simp only [List.map_toArray,List.map_cons,List.map_nil]);first|done|rfl|(simp only [List.length_drop,List.length_take];rfl)|(simp (disch:=omega) only [u64_in];rfl)) ?_;(with_reducible refine (node_right.calls k a0_0 _ _ l0_1 _ _ l0_2 _ _ l0_3 true _ ?side1 ?side2 ?side3 ?side4 ?side5 ?side6 A2.out).mono ?_);(case side1 => repeat (first|exact (Kd.C_below HR0_1.out HB.out)|(with_reducible refine Kd.C_alloc ?_ _)|(with_reducible refine Kd.C_drewN ?_ _)|(with_reducible refine Kd.C_drew ?_)));(case side2 => exact HC0_1.out);(case side3 => repeat (first|exact (Kd.C_below HR0_2.out HB.out)|(with_reducible refine Kd.C_alloc ?_ _)|(with_reducible refine Kd.C_drewN ?_ _)|(with_reducible refine Kd.C_drew ?_)));(case side4 => exact HC0_2.out);(case side5 => repeat (first|exact (Kd.C_below HR0_3.out HB.out)|(with_reducible refine Kd.C_alloc ?_ _)|(with_reducible refine Kd.C_drewN ?_ _)|(with_reducible refine Kd.C_drew ?_)));(case side6 => exact HC0_3.out);rintro e w8 ⟨rfl,hb⟩;refine ⟨_,rfl,?_⟩;replace BK174:=Aside0.mk (blk_below (g:=gb174) (o:=.cells #[.bool a0_0,.slice A0_1 l0_1.length c0_1,.slice A0_2 l0_2.length c0_2,.slice A0_3 l0_3.length c0_3] 27 (0,0)) (by (with_reducible repeat (first|apply zb1|apply zb2|apply zb3));exact BK174.out) hb);replace HB:=Aside0.mk (below_step (by repeat (first|(with_reducible first|exact HB.out|apply zl1|apply zl2|apply zl3|refine below_set ?_ GE174.out)|exact HB.out)) hb);(try clear hb);have hcz9_0 : w8.cell? ⟨gb174,0,none⟩ = some (.bool a0_0):=(blk_cell BK174.out 0).trans rfl;have hcz9_1 : w8.cell? ⟨gb174,1,none⟩ = some (.slice A0_1 l0_1.length c0_1):=(blk_cell BK174.out 1).trans rfl;have hcz9_2 : w8.cell? ⟨gb174,2,none⟩ = some (.slice A0_2 l0_2.length c0_2):=(blk_cell BK174.out 2).trans rfl;have hcz9_3 : w8.cell? ⟨gb174,3,none⟩ = some (.slice A0_3 l0_3.length c0_3):=(blk_cell BK174.out 3).trans rfl;have hfz9_0:=blk_frozen BK174.out 0;have hfz9_1:=blk_frozen BK174.out 1;have hfz9_2:=blk_frozen BK174.out 2;have hfz9_3:=blk_frozen BK174.out 3)|((with_reducible refine gate_callee (f:=11) rfl ?_);refine goesL_ (some 15) rfl rfl Tryd.func11 (by kernel_rfl) rfl #[.agg #[.bool a0_0,.slice A0_1 l0_1.length c0_1,.slice A0_2 l0_2.length c0_2,.slice A0_3 l0_3.length c0_3]] rfl (by (try simp only [List.map_toArray,List.map_cons,List.map_nil]);first|done|rfl|(simp only [List.length_drop,List.length_take];rfl)|(simp (disch:=omega) only [u64_in];rfl)) ?_;(with_reducible refine (node_Size.calls k a0_0 _ _ l0_1 _ _ l0_2 _ _ l0_3 t176 _ ?side1 ?side2 ?side3 ?side4 ?side5 ?side6 A4.out).mono ?_);(case side1 => repeat (first|exact (Kd.C_below HR0_1.out HB.out)|(with_reducible refine Kd.C_alloc ?_ _)|(with_reducible refine Kd.C_drewN ?_ _)|(with_reducible refine Kd.C_drew ?_)));(case side2 => exact HC0_1.out);(case side3 => repeat (first|exact (Kd.C_below HR0_2.out HB.out)|(with_reducible refine Kd.C_alloc ?_ _)|(with_reducible refine Kd.C_drewN ?_ _)|(with_reducible refine Kd.C_drew ?_)));(case side4 => exact HC0_2.out);(case side5 => repeat (first|exact (Kd.C_below HR0_3.out HB.out)|(with_reducible refine Kd.C_alloc ?_ _)|(with_reducible refine Kd.C_drewN ?_ _)|(with_reducible refine Kd.C_drew ?_)));(case side6 => exact HC0_3.out);rintro e w10 ⟨rfl,hb⟩;refine ⟨_,rfl,?_⟩;replace BK174:=Aside0.mk (blk_below (g:=gb174) (o:=.cells #[.bool a0_0,.slice A0_1 l0_1.length c0_1,.slice A0_2 l0_2.length c0_2,.slice A0_3 l0_3.length c0_3] 27 (0,0)) (by (with_reducible repeat (first|apply zb1|apply zb2|apply zb3));exact BK174.out) hb);replace HB:=Aside0.mk (below_step (by repeat (first|(with_reducible first|exact HB.out|apply zl1|apply zl2|apply zl3|refine below_set ?_ GE174.out)|exact HB.out)) hb);(try clear hb)))
   go_ret2
   exact ⟨by first|(with_reducible rfl)|(simp only [isEmpty_bne,Bool.not_not] <;> rfl)|rfl|(simp [*,errW_none,errW_some] <;> rfl),by repeat (first|(with_reducible first|exact HB.out|apply zl1|apply zl2|apply zl3|refine below_set ?_ GE174.out)|exact HB.out)⟩
  ·rw [if_neg c5] at H
   have c5b0 : decide (256 < t176) = false:=decide_eq_false c5
   clear c5
   have HC11:=Aside0.mk H
   clear H
   go_enter Tryd.func9,Tryd.ntmps9
   go_upto_if 18 with (first|((with_reducible refine gate_dst (N:=1) rfl ?_);refine box_event ?hg (N:=1) ?hd (cs:=#[.bool a0_0,.slice A0_1 l0_1.length c0_1,.slice A0_2 l0_2.length c0_2,.slice A0_3 l0_3.length c0_3]) (t:=27) ?hr ?_;(case hd => rfl);(case hg => rfl);(case hr => first|(go_simp;done)|(go_simp;rfl));intro gb174 hg w12 hbox hb;have BK174:=Aside0.mk (hbox);have GW174:=Aside0.mk ((by rw [hg];exact (below_size (by repeat (first|(with_reducible first|exact HB.out|apply zl1|apply zl2|apply zl3)|exact HB.out))) : w.heap.size ≤ gb174));have GE174:=Aside0.mk ((by rw [hg];exact (below_size (by repeat (first|(with_reducible first|exact HB.out|apply zl1|apply zl2|apply zl3)|exact HB.out))) : w.heap.size ≤ gb174));replace HB:=Aside0.mk (below_step (by repeat (first|(with_reducible first|exact HB.out|apply zl1|apply zl2|apply zl3)|exact HB.out)) hb);clear hb hbox hg;have hcz13_0 : w12.cell? ⟨gb174,0,none⟩ = some (.bool a0_0):=(blk_cell BK174.out 0).trans rfl;have hcz13_1 : w12.cell? ⟨gb174,1,none⟩ = some (.slice A0_1 l0_1.length c0_1):=(blk_cell BK174.out 1).trans rfl;have hcz13_2 : w12.cell? ⟨gb174,2,none⟩ = some (.slice A0_2 l0_2.length c0_2):=(blk_cell BK174.out 2).trans rfl;have hcz13_3 : w12.cell? ⟨gb174,3,none⟩ = some (.slice A0_3 l0_3.length c0_3):=(blk_cell BK174.out 3).trans rfl;have hfz13_0:=blk_frozen BK174.out 0;have hfz13_1:=blk_frozen BK174.out 1;have hfz13_2:=blk_frozen BK174.out 2;have hfz13_3:=blk_frozen BK174.out 3)|((with_reducible refine gate_callee (f:=18) rfl ?_);refine goesL_ (some 11) rfl rfl Tryd.func18 (by kernel_rfl) rfl #[.agg #[.bool a0_0,.slice A0_1 l0_1.length c0_1,.slice A0_2 l0_2.length c0_2,.slice A0_3 l0_3.length c0_3]] rfl (by (try simp only [List.map_toArray,List.map_cons,List.map_nil]);first|done|rfl|(simp only [List.length_drop,List.length_take];rfl)|(simp (disch:=omega) only [u64_in];rfl)) ?_;(with_reducible refine (node_right.calls k a0_0 _ _ l0_1 _ _ l0_2 _ _ l0_3 true _ ?side1 ?side2 ?side3 ?side4 ?side5 ?side6 A2.out).mono ?_);(case side1 => repeat (first|exact (Kd.C_below HR0_1.out HB.out)|(with_reducible refine Kd.C_alloc ?_ _)|(with_reducible refine Kd.C_drewN ?_ _)|(with_reducible refine Kd.C_drew ?_)));(case side2 => exact HC0_1.out);(case side3 => repeat (first|exact (Kd.C_below HR0_2.out HB.out)|(with_reducible refine Kd.C_alloc ?_ _)|(with_reducible refine Kd.C_drewN ?_ _)|(with_reducible refine Kd.C_drew ?_)));(case side4 => exact HC0_2.out);(case side5 => repeat (first|exact (Kd.C_below HR0_3.out HB.out)|(with_reducible refine Kd.C_alloc ?_ _)|(with_reducible refine Kd.C_drewN ?_ _)|(with_reducible refine Kd.C_drew ?_)));(case side6 => exact HC0_3.out);rintro e w14 ⟨rfl,hb⟩;refine ⟨_,rfl,?_⟩;replace BK174:=Aside0.mk (blk_below (g:=gb174) (o:=.cells #[.bool a0_0,.slice A0_1 l0_1.length c0_1,.slice A0_2 l0_2.length c0_2,.slice A0_3 l0_3.length c0_3] 27 (0,0)) (by (with_reducible repeat (first|apply zb1|apply zb2|apply zb3));exact BK174.out) hb);replace HB:=Aside0.mk (below_step (by repeat (first|(with_reducible first|exact HB.out|apply zl1|apply zl2|apply zl3|refine below_set ?_ GE174.out)|exact HB.out)) hb);(try clear hb);have hcz15_0 : w14.cell? ⟨gb174,0,none⟩ = some (.bool a0_0):=(blk_cell BK174.out 0).trans rfl;have hcz15_1 : w14.cell? ⟨gb174,1,none⟩ = some (.slice A0_1 l0_1.length c0_1):=(blk_cell BK174.out 1).trans rfl;have hcz15_2 : w14.cell? ⟨gb174,2,none⟩ = some (.slice A0_2 l0_2.length c0_2):=(blk_cell BK174.out 2).trans rfl;have hcz15_3 : w14.cell? ⟨gb174,3,none⟩ = some (.slice A0_3 l0_3.length c0_3):=(blk_cell BK174.out 3).trans rfl;have hfz15_0:=blk_frozen BK174.out 0;have hfz15_1:=blk_frozen BK174.out 1;have hfz15_2:=blk_frozen BK174.out 2;have hfz15_3:=blk_frozen BK174.out 3)|((with_reducible refine gate_callee (f:=11) rfl ?_);refine goesL_ (some 15) rfl rfl Tryd.func11 (by kernel_rfl) rfl #[.agg #[.bool a0_0,.slice A0_1 l0_1.length c0_1,.slice A0_2 l0_2.length c0_2,.slice A0_3 l0_3.length c0_3]] rfl (by (try simp only [List.map_toArray,List.map_cons,List.map_nil]);first|done|rfl|(simp only [List.length_drop,List.length_take];rfl)|(simp (disch:=omega) only [u64_in];rfl)) ?_;(with_reducible refine (node_Size.calls k a0_0 _ _ l0_1 _ _ l0_2 _ _ l0_3 t176 _ ?side1 ?side2 ?side3 ?side4 ?side5 ?side6 A4.out).mono ?_);(case side1 => repeat (first|exact (Kd.C_below HR0_1.out HB.out)|(with_reducible refine Kd.C_alloc ?_ _)|(with_reducible refine Kd.C_drewN ?_ _)|(with_reducible refine Kd.C_drew ?_)));(case side2 => exact HC0_1.out);(case side3 => repeat (first|exact (Kd.C_below HR0_2.out HB.out)|(with_reducible refine Kd.C_alloc ?_ _)|(with_reducible refine Kd.C_drewN ?_ _)|(with_reducible refine Kd.C_drew ?_)));(case side4 => exact HC0_2.out);(case side5 => repeat (first|exact (Kd.C_below HR0_3.out HB.out)|(with_reducible refine Kd.C_alloc ?_ _)|(with_reducible refine Kd.C_drewN ?_ _)|(with_reducible refine Kd.C_drew ?_)));(case side6 => exact HC0_3.out);rintro e w16 ⟨rfl,hb⟩;refine ⟨_,rfl,?_⟩;replace BK174:=Aside0.mk (blk_below (g:=gb174) (o:=.cells #[.bool a0_0,.slice A0_1 l0_1.length c0_1,.slice A0_2 l0_2.length c0_2,.slice A0_3 l0_3.length c0_3] 27 (0,0)) (by (with_reducible repeat (first|apply zb1|apply zb2|apply zb3));exact BK174.out) hb);replace HB:=Aside0.mk (below_step (by repeat (first|(with_reducible first|exact HB.out|apply zl1|apply zl2|apply zl3|refine below_set ?_ GE174.out)|exact HB.out)) hb);(try clear hb);have hcz17_0 : w16.cell? ⟨gb174,0,none⟩ = some (.bool a0_0):=(blk_cell BK174.out 0).trans rfl;have hcz17_1 : w16.cell? ⟨gb174,1,none⟩ = some (.slice A0_1 l0_1.length c0_1):=(blk_cell BK174.out 1).trans rfl;have hcz17_2 : w16.cell? ⟨gb174,2,none⟩ = some (.slice A0_2 l0_2.length c0_2):=(blk_cell BK174.out 2).trans rfl;have hcz17_3 : w16.cell? ⟨gb174,3,none⟩ = some (.slice A0_3 l0_3.length c0_3):=(blk_cell BK174.out 3).trans rfl;have hfz17_0:=blk_frozen BK174.out 0;have hfz17_1:=blk_frozen BK174.out 1;have hfz17_2:=blk_frozen BK174.out 2;have hfz17_3:=blk_frozen BK174.out 3))
   (try simp only [Act.put,List.setIfInBounds_toArray,List.set_cons_zero,List.set_cons_succ])
   go_cut [4] (fun v4 wc => ∃ (kq : Nat) (x4_10 : List Int),Aside0 (node_Write.j2 kq x4_10 = some (r1,r2))∧Aside0 (kq ≤ k)∧Aside0 (Kd.R (Kd.int .u8) 5 wc w.heap.size (fun _ => True) v4 x4_10)∧Aside0 (wc.heap[gb174]? = some (.cells #[.bool a0_0,(.slice A0_1 l0_1.length c0_1),(.slice A0_2 l0_2.length c0_2),(.slice A0_3 l0_3.length c0_3)] 27 (0,0)))∧Aside0 (Below w.heap.size w wc))
   case first =>
    have H:=HC11.out
    clear HC11
    by_cases c18 : a0_0 = true
    ·subst c18
     have H1 : ((some (([1,((l0_1.length : Int)) % 256] : List Int) : List Int)).bind fun y177 => (if ([] : List Int).length + y177.length < 140737488355328 then (node_Write.l0 k (([] : List Int) ++ y177) l0_1 (l0_1.length : Int) 0) else (none))) = some (r1,r2):=by rw [if_pos rfl] at H;exact H
     clear H
     have H:=H1
     clear H1
     obtain ⟨y177,hy177⟩ : ∃ y_ : List Int,y_ = (([1,((l0_1.length : Int)) % 256] : List Int)):=⟨_,rfl⟩
     replace H : (if ([] : List Int).length + y177.length < 140737488355328 then (node_Write.l0 k (([] : List Int) ++ y177) l0_1 (l0_1.length : Int) 0) else (none)) = some (r1,r2):=by first|(rw [hy177];with_reducible exact H)|(have H2_:=(Option.bind_some _ _).symm.trans H;rw [hy177];with_reducible exact H2_)|(have H2_:=(Option.bind_some _ _).symm.trans H;with_reducible exact H2_)|with_reducible exact H|(rw [hy177];exact H)|exact H
     have Ny177:=Aside0.mk hy177
     clear hy177
     by_cases c19 : ([] : List Int).length + y177.length < 140737488355328
     ·rw [if_pos c19] at H
      have LMc19:=Aside0.mk c19
      clear c19
      obtain ⟨y180,hy180⟩ : ∃ y_ : List Int,y_ = (([] : List Int) ++ y177):=⟨_,rfl⟩
      replace H : (node_Write.l0 k y180 l0_1 (l0_1.length : Int) 0) = some (r1,r2):=by first|(rw [hy180];with_reducible exact H)|(have H2_:=(Option.bind_some _ _).symm.trans H;rw [hy180];with_reducible exact H2_)|(have H2_:=(Option.bind_some _ _).symm.trans H;with_reducible exact H2_)|with_reducible exact H|(rw [hy180];exact H)|exact H
      have Ny180:=Aside0.mk hy180
      clear hy180
      have H':=Aside0.mk H
      clear H
      have hcz20_0 : w16.cell? ⟨gb174,0,none⟩ = some (.bool true):=(blk_cell BK174.out 0).trans rfl
      have hcz20_1 : w16.cell? ⟨gb174,1,none⟩ = some (.slice A0_1 l0_1.length c0_1):=(blk_cell BK174.out 1).trans rfl
      have hcz20_2 : w16.cell? ⟨gb174,2,none⟩ = some (.slice A0_2 l0_2.length c0_2):=(blk_cell BK174.out 2).trans rfl
      have hcz20_3 : w16.cell? ⟨gb174,3,none⟩ = some (.slice A0_3 l0_3.length c0_3):=(blk_cell BK174.out 3).trans rfl
      have hfz20_0:=blk_frozen BK174.out 0
      have hfz20_1:=blk_frozen BK174.out 1
      have hfz20_2:=blk_frozen BK174.out 2
      have hfz20_3:=blk_frozen BK174.out 3
      go_wp2_with (first|((with_reducible refine gate_dst (N:=24) rfl ?_);refine Kd.R_lit (Kd.int .u8) _ 5 ?hg (N:=24) ?hd (xs:=([1,((l0_1.length : Int)) % 256] : List Int)) (inner:=[.int .u8 1,.int .u8 (((l0_1.length : Int)) % 256)]) (ok:=fun _ => True) (okp:=fun _ => True) ?hr ?hp (fun _ hk => hk) trivial (Below.refl _ _) (Nat.le_refl _) (by simp) ?_;(case hd => rfl);(case hg => rfl);(case hr => first|(go_simp;done)|(go_simp;rfl));(case hp => exact (Reps.one (show Kd.M (Kd.int .u8) _ _ _ 1 [.int .u8 1] from rfl) (Reps.one (show Kd.M (Kd.int .u8) _ _ _ (((l0_1.length : Int)) % 256) [.int .u8 (((l0_1.length : Int)) % 256)] from rfl) (Reps.none _ _))));intro v178 w21 ho22 hb hg_ hnew_;clear hg_ hnew_;(first|rw [← Ny177.out] at ho22|(simp only [Int.reduceToNat] at ho22;rw [← Ny177.out] at ho22));have HO179:=Aside0.mk (Kd.R_lower ho22 (below_size (by repeat (first|(with_reducible first|exact HB.out|apply zl1|apply zl2|apply zl3|refine below_set ?_ GE174.out)|exact HB.out))));replace BK174:=Aside0.mk (blk_below (g:=gb174) (o:=.cells #[.bool true,.slice A0_1 l0_1.length c0_1,.slice A0_2 l0_2.length c0_2,.slice A0_3 l0_3.length c0_3] 27 (0,0)) (by (with_reducible repeat (first|apply zb1|apply zb2|apply zb3));exact BK174.out) hb);replace HB:=Aside0.mk (below_step (by repeat (first|(with_reducible first|exact HB.out|apply zl1|apply zl2|apply zl3|refine below_set ?_ GE174.out)|exact HB.out)) hb);clear hb ho22;obtain ⟨Ao24,co24,eo24⟩:=Kd.R_slice HO179.out;subst eo24)|((with_reducible refine gate_builtin (b:=.append) (xs:=#[.tmp 19,.tmp 24]) rfl ?_);at_builtin;refine Kd.R_append_rows (Kd.int .u8) (w0:=w) w.heap.size rfl (.tmp 19) (.tmp 24) 52 5 (.int .u8 0) 1 rfl Tryd.underlying52 info5 rfl (by decide) (by omega) (.slice none 0 0) ([] : List Int) y177 _ _ _ (fun k_ => some k_ ≠ (.slice Ao24 y177.length co24 : Value).ownBlock) (fun _ => False) rfl rfl ?aO ?aR (fun _ _ h => h) (fun _ h => h.elim) ?aF ?aB ?aS ?aL ?_;(case aR => repeat (first|exact (Kd.R_reads' HO179.out).2.2|(with_reducible refine Kd.C_alloc ?_ _)|(with_reducible refine Kd.C_drewN ?_ _)|(with_reducible refine Kd.C_drew ?_)));(case aB => exact (by repeat (first|(with_reducible first|exact HB.out|apply zl1|apply zl2|apply zl3|refine below_set ?_ GE174.out)|exact HB.out)));(case aF => exact (fun k_ hk => Kd.fresh' (Kd.R_lt (by (with_reducible repeat (first|apply zk1|apply zk2|apply zk3));exact HO179.out)) k_ hk));(case aO => exact ((Kd.R_nil _ _ _ _ (fun k_ => some k_ ≠ (.slice Ao24 y177.length co24 : Value).ownBlock))));(case aS => exact (below_size (by repeat (first|(with_reducible first|exact HB.out|apply zl1|apply zl2|apply zl3|refine below_set ?_ GE174.out)|exact HB.out))));(case aL => have:=LMc19.out;omega);intro v181 w23 ho hb hg hat;rw [← Ny180.out] at ho;replace BK174:=Aside0.mk (blk_grown (g:=gb174) (o:=.cells #[.bool true,.slice A0_1 l0_1.length c0_1,.slice A0_2 l0_2.length c0_2,.slice A0_3 l0_3.length c0_3] 27 (0,0)) (by (with_reducible repeat (first|apply zb1|apply zb2|apply zb3));exact BK174.out) hg (by simp [Value.ownBlock]));replace HO179:=Aside0.mk (Kd.R_after (Kd.R_apart_nil (by (with_reducible repeat (first|apply zk1|apply zk2|apply zk3));exact HO179.out)) hg hat);replace HB:=Aside0.mk (hb);have HO182:=Aside0.mk (ho);clear ho hb hg hat;have hcz25_0 : w23.cell? ⟨gb174,0,none⟩ = some (.bool true):=(blk_cell BK174.out 0).trans rfl;have hcz25_1 : w23.cell? ⟨gb174,1,none⟩ = some (.slice A0_1 l0_1.length c0_1):=(blk_cell BK174.out 1).trans rfl;have hcz25_2 : w23.cell? ⟨gb174,2,none⟩ = some (.slice A0_2 l0_2.length c0_2):=(blk_cell BK174.out 2).trans rfl;have hcz25_3 : w23.cell? ⟨gb174,3,none⟩ = some (.slice A0_3 l0_3.length c0_3):=(blk_cell BK174.out 3).trans rfl;have hfz25_0:=blk_frozen BK174.out 0;have hfz25_1:=blk_frozen BK174.out 1;have hfz25_2:=blk_frozen BK174.out 2;have hfz25_3:=blk_frozen BK174.out 3))
      go_loopg [4,29] k (fun kq v4 v29 w' => ∃ (x4_1 : List Int) (x29_1 : Int),v29 = .int .i64 x29_1∧Aside0 (node_Write.l0 kq x4_1 l0_1 (l0_1.length : Int) x29_1 = some (r1,r2))∧Aside0 (kq ≤ k)∧Aside0 (Kd.R (Kd.int .u8) 5 w' w.heap.size (fun _ => True) v4 x4_1)∧Aside0 (w'.heap[gb174]? = some (.cells #[.bool true,(.slice A0_1 l0_1.length c0_1),(.slice A0_2 l0_2.length c0_2),(.slice A0_3 l0_3.length c0_3)] 27 (0,0)))∧Aside0 (Below w.heap.size w w'))
      case atStart => exact ⟨(y180),(0),(by first|(with_reducible rfl)|(simp;done)|(simp [*];done)|rfl|(simp only [not_isEmpty_bne])),H',⟨Nat.le_refl _⟩,⟨by (with_reducible repeat (first|apply zk1|apply zk2|apply zk3));exact Kd.R_mono HO182.out (fun _ hk => trivial)⟩,⟨by (with_reducible repeat (first|apply zb1|apply zb2|apply zb3));exact BK174.out⟩,⟨by repeat (first|(with_reducible first|exact HB.out|apply zl1|apply zl2|apply zl3|refine below_set ?_ GE174.out)|exact HB.out)⟩⟩
      case round =>
       clear H'
       try clear hcz13_0 hcz13_1 hcz13_2 hcz13_3 hcz15_0 hcz15_1 hcz15_2 hcz15_3 hcz17_0 hcz17_1 hcz17_2 hcz17_3 hcz20_0 hcz20_1 hcz20_2 hcz20_3 hcz25_0 hcz25_1 hcz25_2 hcz25_3 hcz7_0
       try clear c1
       try clear p2
       try clear c3
       try clear c5
       try clear c5b0
       try clear c9
       try clear c11
       try clear c18
       try clear c19
       try clear hfz13_0 hfz13_1 hfz13_2 hfz13_3 hfz15_0 hfz15_1 hfz15_2 hfz15_3 hfz17_0 hfz17_1 hfz17_2 hfz17_3 hfz20_0 hfz20_1 hfz20_2 hfz20_3 hfz25_0 hfz25_1 hfz25_2 hfz25_3 hfz7_0 hfz7_1 hfz7_2
       try clear hcz7_1 hcz7_2 hcz7_3 hcz9_0 hcz9_1 hcz9_2 hcz9_3
       try clear hfz7_3 hfz9_0 hfz9_1 hfz9_2 hfz9_3
       obtain ⟨x4_1,x29_1,rfl,HA,HK1,HO_4,BK174,HB⟩:=hrel
       cases gk with
       | zero => exact absurd HA.out (by simp [node_Write.l0])
       | succ k1 =>
        have H:=HA.out
        clear HA
        simp only [node_Write.l0] at H
        by_cases c26 : x29_1 < (l0_1.length : Int)
        ·rw [if_pos c26] at H
         have c26b0 : decide (x29_1 < (l0_1.length : Int)) = true:=decide_eq_true c26
         clear c26
         (first|rw [c26b0]|(simp only [i64_w,i32_w];rw [c26b0])|skip)
         by_cases c27 : 0 ≤ x29_1
         ·rw [if_pos c27] at H
          have c27b0 : decide (0 ≤ x29_1) = true:=decide_eq_true c27
          clear c27
          by_cases c28 : x29_1 < (l0_1.length : Int)
          ·rw [if_pos c28] at H
           have c28b0 : decide (x29_1 < (l0_1.length : Int)) = true:=decide_eq_true c28
           clear c28
           replace H:=Option.bind_eq_some_iff.mp H
           obtain ⟨t185,A290,H⟩:=H
           replace H : ((pack_Str.f t185 ((rd_T44 l0_1 x29_1).f1)).bind fun t188 => (node_Write.l0 k1 t188 l0_1 (l0_1.length : Int) (wrap64 (x29_1 + 1)))) = some (r1,r2):=H
           have A29:=Aside0.mk A290
           clear A290
           replace H:=Option.bind_eq_some_iff.mp H
           obtain ⟨t188,A300,H⟩:=H
           replace H : (node_Write.l0 k1 t188 l0_1 (l0_1.length : Int) (wrap64 (x29_1 + 1))) = some (r1,r2):=H
           have A30:=Aside0.mk A300
           clear A300
           have H':=Aside0.mk H
           clear H
           have p183 : 0 ≤ (x29_1 : Int):=of_decide_eq_true (by first|(with_reducible assumption)|assumption)
           have q183 : x29_1 < (l0_1.length : Int):=of_decide_eq_true (by first|(with_reducible assumption)|assumption)
           obtain ⟨ad183,e183,hx183_0,hx183_1⟩:=at_T44 HR0_1.out x29_1 p183 q183
           cases e183
           replace hx183_0:=(HB.out.cell (World.block_lt_of_cell? w _ hx183_0)).trans hx183_0
           replace hx183_1:=(HB.out.cell (World.block_lt_of_cell? w _ hx183_1)).trans hx183_1
           replace p183:=eq_true p183
           replace q183:=eq_true q183
           try go_wp2_with (first|((with_reducible refine gate_dst (N:=6) rfl ?_);refine box_event ?hg (N:=6) ?hd (cs:=#[.string (⟨#[]⟩ : ByteArray),.string (⟨#[]⟩ : ByteArray)]) (t:=44) ?hr ?_;(case hd => rfl);(case hg => rfl);(case hr => first|(go_simp;done)|(go_simp;rfl));intro gb184 hg w31 hbox hb;replace HO_4:=Aside0.mk (Kd.R_below (by (with_reducible repeat (first|apply zk1|apply zk2|apply zk3));exact HO_4.out) hb);have BK184:=Aside0.mk (hbox);have GW184:=Aside0.mk ((by rw [hg];exact (below_size (by repeat (first|(with_reducible first|exact HB.out|apply zl1|apply zl2|apply zl3|refine below_set ?_ GE174.out)|exact HB.out))) : w.heap.size ≤ gb184));have GE184:=Aside0.mk ((by rw [hg];exact (below_size (by repeat (first|(with_reducible first|exact HB.out|apply zl1|apply zl2|apply zl3|refine below_set ?_ GE174.out)|exact HB.out))) : w.heap.size ≤ gb184));replace HB:=Aside0.mk (below_step (by repeat (first|(with_reducible first|exact HB.out|apply zl1|apply zl2|apply zl3|refine below_set ?_ GE174.out)|exact HB.out)) hb);have NB174_184:=Aside0.mk ((by rw [hg];exact Nat.ne_of_lt (blk_lt (g:=gb174) (o:=.cells #[.bool true,.slice (some ad183) l0_1.length c0_1,.slice A0_2 l0_2.length c0_2,.slice A0_3 l0_3.length c0_3] 27 (0,0)) (by (with_reducible repeat (first|apply zb1|apply zb2|apply zb3));exact BK174.out)) : gb174 ≠ gb184));have NB184_174:=Aside0.mk ((by rw [hg];exact Nat.ne_of_gt (blk_lt (g:=gb174) (o:=.cells #[.bool true,.slice (some ad183) l0_1.length c0_1,.slice A0_2 l0_2.length c0_2,.slice A0_3 l0_3.length c0_3] 27 (0,0)) (by (with_reducible repeat (first|apply zb1|apply zb2|apply zb3));exact BK174.out)) : gb184 ≠ gb174));replace BK174:=Aside0.mk (blk_below (g:=gb174) (o:=.cells #[.bool true,.slice (some ad183) l0_1.length c0_1,.slice A0_2 l0_2.length c0_2,.slice A0_3 l0_3.length c0_3] 27 (0,0)) (by (with_reducible repeat (first|apply zb1|apply zb2|apply zb3));exact BK174.out) hb);clear hb hbox hg;have hnb32:=NB184_174.out;have hnc32:=NB174_184.out;have hcz33_0 : w31.cell? ⟨gb184,0,none⟩ = some (.string (⟨#[]⟩ : ByteArray)):=(blk_cell BK184.out 0).trans rfl;have hcz33_1 : w31.cell? ⟨gb184,1,none⟩ = some (.string (⟨#[]⟩ : ByteArray)):=(blk_cell BK184.out 1).trans rfl;have hfz33_0:=blk_frozen BK184.out 0;have hfz33_1:=blk_frozen BK184.out 1))
           have n0_ : Aside0 (Kd.R (Kd.int .u8) 5 ((w31.setCell ⟨gb184,0,none⟩ (.string ((rd_T44 l0_1 x29_1).f0))).setCell ⟨gb184,1,none⟩ (.string ((rd_T44 l0_1 x29_1).f1))) w.heap.size (fun _ => True) u4 x4_1):=⟨by (with_reducible repeat (first|apply zk1|apply zk2|apply zk3));exact Kd.R_mono (Kd.R_far (p:=⟨gb184,1,none⟩) (Kd.R_far (p:=⟨gb184,0,none⟩) (Kd.R_types HO_4.out BK184.out (by decide)) (fun _ hk => hk.2) (.string ((rd_T44 l0_1 x29_1).f0))) (fun _ hk => hk.2) (.string ((rd_T44 l0_1 x29_1).f1))) (fun _ hk => trivial)⟩
           have n1_ : Aside0 (((w31.setCell ⟨gb184,0,none⟩ (.string ((rd_T44 l0_1 x29_1).f0))).setCell ⟨gb184,1,none⟩ (.string ((rd_T44 l0_1 x29_1).f1))).heap[gb174]? = some (.cells #[.bool true,.slice (some ad183) l0_1.length c0_1,.slice A0_2 l0_2.length c0_2,.slice A0_3 l0_3.length c0_3] 27 (0,0))):=⟨by (with_reducible repeat (first|apply zb1|apply zb2|apply zb3));refine blk_far ?_ NB174_184.out _;(with_reducible repeat (first|apply zb1|apply zb2|apply zb3));refine blk_far ?_ NB174_184.out _;(with_reducible repeat (first|apply zb1|apply zb2|apply zb3));exact BK174.out⟩
           have n2_ : Aside0 (((w31.setCell ⟨gb184,0,none⟩ (.string ((rd_T44 l0_1 x29_1).f0))).setCell ⟨gb184,1,none⟩ (.string ((rd_T44 l0_1 x29_1).f1))).heap[gb184]? = some (.cells #[.string ((rd_T44 l0_1 x29_1).f0),.string ((rd_T44 l0_1 x29_1).f1)] 44 (0,0))):=⟨by (with_reducible repeat (first|apply zb1|apply zb2|apply zb3));refine blk_put (cs:=#[.string ((rd_T44 l0_1 x29_1).f0),.string (⟨#[]⟩ : ByteArray)]) ?_ 1 _ rfl;(with_reducible repeat (first|apply zb1|apply zb2|apply zb3));refine blk_put (cs:=#[.string (⟨#[]⟩ : ByteArray),.string (⟨#[]⟩ : ByteArray)]) ?_ 0 _ rfl;(with_reducible repeat (first|apply zb1|apply zb2|apply zb3));exact BK184.out⟩
           have n3_ : Aside0 (Below w.heap.size w ((w31.setCell ⟨gb184,0,none⟩ (.string ((rd_T44 l0_1 x29_1).f0))).setCell ⟨gb184,1,none⟩ (.string ((rd_T44 l0_1 x29_1).f1)))):=⟨by repeat (first|(with_reducible first|exact HB.out|apply zl1|apply zl2|apply zl3|refine below_set ?_ GE174.out|refine below_set ?_ GE184.out)|exact HB.out)⟩
           (try clear HO_4)
           (try clear BK174)
           (try clear BK184)
           (try clear HB)
           generalize ((w31.setCell ⟨gb184,0,none⟩ (.string ((rd_T44 l0_1 x29_1).f0))).setCell ⟨gb184,1,none⟩ (.string ((rd_T44 l0_1 x29_1).f1))) = w34 at n0_ n1_ n2_ n3_ ⊢
           have HO_4:=n0_
           have BK174:=n1_
           have BK184:=n2_
           have HB:=n3_
           clear n0_ n1_ n2_ n3_
           replace HO_4:=Aside0.mk (Kd.R_drew HO_4.out)
           replace BK174:=Aside0.mk (blk_drew BK174.out)
           replace BK184:=Aside0.mk (blk_drew BK184.out)
           replace HB:=Aside0.mk (below_drew1 HB.out)
           obtain ⟨Ao36,co36,eo36⟩:=Kd.R_slice HO_4.out
           (first|subst eo36|(injection eo36 with f1_ f2_ f3_;have f4_:=f1_.symm;have f5_:=f3_.symm;clear f1_ f2_ f3_;subst f4_;subst f5_))
           refine start_ (n:=8) (S:=fun w' => w'.cell? ⟨gb184,0,none⟩ = some (.string ((rd_T44 l0_1 x29_1).f0))∧w'.cell? ⟨gb184,1,none⟩ = some (.string ((rd_T44 l0_1 x29_1).f1))) (ds:=[]) #[false,false,false,false,false,false,false,false] (by kernel_rfl) rfl rfl ⟨(blk_cell BK184.out 0).trans rfl,(blk_cell BK184.out 1).trans rfl⟩ (fun hHeld => ?_);refine with_tabW node_Write.tab11 node_Write.bits11 (fun HT_ HW_ => ?_)
           generalize w34.drew = w35 at HO_4 BK174 BK184 HB hHeld ⊢
           refine pure_ (i:=0) (N:=some 33) (v:=?_) (a':=?_) #[true,false,false,false,false,false,false,false] rfl rfl (any_of HT_.out (by kernel_rfl)) (fun _ _ _ h => h) (Or.inl ⟨by rfl,?_⟩) ?_ ?_
           rotate_left
           ·intro w'
            go_simp
            with_reducible rfl
           rotate_left
           ·simp only [Act.put,List.setIfInBounds_toArray,List.set_cons_zero,List.set_cons_succ,i64_w,i32_w]
            rfl
           refine pure_ (i:=1) (N:=some 34) (v:=?_) (a':=?_) #[true,true,false,false,false,false,false,false] rfl rfl (any_of HT_.out (by kernel_rfl)) (fun _ _ _ h => h) (Or.inl ⟨by rfl,?_⟩) ?_ ?_
           rotate_left
           ·intro w'
            go_simp
            with_reducible rfl
           rotate_left
           ·simp only [Act.put,List.setIfInBounds_toArray,List.set_cons_zero,List.set_cons_succ,i64_w,i32_w]
            rfl
           refine pure_ (i:=4) (N:=some 37) (v:=?_) (a':=?_) #[true,true,false,false,true,false,false,false] rfl rfl (any_of HT_.out (by kernel_rfl)) (fun _ _ _ h => h) (Or.inl ⟨by rfl,?_⟩) ?_ ?_
           rotate_left
           ·intro w'
            go_simp
            with_reducible rfl
           rotate_left
           ·simp only [Act.put,List.setIfInBounds_toArray,List.set_cons_zero,List.set_cons_succ,i64_w,i32_w]
            rfl
           refine take_ (i:=2) (N:=some 35) (v:=?_) (a':=?_) #[true,true,true,false,true,false,false,false] rfl rfl (take_ofW HT_.out HW_.out (by kernel_rfl)) (fun _ _ _ h => h) (Or.inl ⟨by rfl,?_⟩) hHeld ?_ ?_
           rotate_left
           ·rintro w' ⟨s0,s1⟩
            go_simp
            with_reducible rfl
           rotate_left
           ·simp only [Act.put,List.setIfInBounds_toArray,List.set_cons_zero,List.set_cons_succ,i64_w,i32_w]
            rfl
           refine take_ (i:=5) (N:=some 38) (v:=?_) (a':=?_) #[true,true,true,false,true,true,false,false] rfl rfl (take_ofW HT_.out HW_.out (by kernel_rfl)) (fun _ _ _ h => h) (Or.inl ⟨by rfl,?_⟩) hHeld ?_ ?_
           rotate_left
           ·rintro w' ⟨s0,s1⟩
            go_simp
            with_reducible rfl
           rotate_left
           ·simp only [Act.put,List.setIfInBounds_toArray,List.set_cons_zero,List.set_cons_succ,i64_w,i32_w]
            rfl
           refine one_ (i:=3) (N:=some 36) #[true,true,true,true,true,true,false,false] rfl rfl (one_of HT_.out (by kernel_rfl)) (by decide) (fun K hK => ?_)
           refine goes_ Tryd.func23 (by kernel_rfl) rfl #[.slice Ao36 x4_1.length co36,.string ((rd_T44 l0_1 x29_1).f0)] (by rfl) rfl rfl (by (try simp only [List.map_toArray,List.map_cons,List.map_nil]);first|done|rfl|(simp only [List.length_drop,List.length_take];rfl)|(simp (disch:=omega) only [u64_in];rfl)) ?_
           with_reducible refine (pack_Str.calls (fun k_ => some k_ = (.slice Ao36 x4_1.length co36 : Value).ownBlock) (.slice Ao36 x4_1.length co36) x4_1 ((rd_T44 l0_1 x29_1).f0) t185 w _ ?side1 ?side2 A29.out).mono ?_
           (case side1 => repeat (first|(with_reducible first|exact HB.out|apply zl1|apply zl2|apply zl3|refine below_set ?_ GE174.out|refine below_set ?_ GE184.out)|exact HB.out))
           (case side2 => exact Kd.R_tight rfl HO_4.out)
           rintro e w37 ⟨v186,rfl,ho0,hb,hkp⟩
           refine ⟨_,rfl,?_⟩
           have n0_:=Aside0.mk (blk_kept (by (with_reducible repeat (first|apply zb1|apply zb2|apply zb3));exact BK174.out) hkp (fun hs_ => (fun e_ => (Kd.R_ne HO_4.out BK174.out (by decide)) e_) hs_))
           have n1_:=Aside0.mk (blk_kept (by (with_reducible repeat (first|apply zb1|apply zb2|apply zb3));exact BK184.out) hkp (fun hs_ => (fun e_ => (Kd.R_ne HO_4.out BK184.out (by decide)) e_) hs_))
           have n2_:=Aside0.mk (Kd.R_mono (ok':=fun k_ => True) ho0 (fun k_ hk_ => trivial))
           have n3_:=Aside0.mk (hb)
           clear BK174
           clear BK184
           clear HB
           clear HO_4
           have BK174:=n0_
           have BK184:=n1_
           have HO187:=n2_
           have HB:=n3_
           clear n0_ n1_ n2_ n3_
           (try clear hb)
           (try clear hkp)
           (try clear ho0)
           obtain ⟨Ao38,co38,eo38⟩:=Kd.R_slice HO187.out
           (first|subst eo38|(injection eo38 with f1_ f2_ f3_;have f4_:=f1_.symm;have f5_:=f3_.symm;clear f1_ f2_ f3_;subst f4_;subst f5_))
           refine hK.out _ _ ⟨(blk_cell BK184.out 0).trans rfl,(blk_cell BK184.out 1).trans rfl⟩ (fun hHeld => ?_)
           clear hK K
           refine norm_ (a':=?_) ?_ ?_
           rotate_left
           ·show Act.put _ (some 36) _ = _
            simp only [Act.put,List.setIfInBounds_toArray,List.set_cons_zero,List.set_cons_succ,i64_w,i32_w]
            rfl
           refine one_ (i:=6) (N:=some 39) #[true,true,true,true,true,true,true,false] rfl rfl (one_of HT_.out (by kernel_rfl)) (by decide) (fun K hK => ?_)
           refine goes_ Tryd.func23 (by kernel_rfl) rfl #[.slice Ao38 t185.length co38,.string ((rd_T44 l0_1 x29_1).f1)] (by rfl) rfl rfl (by (try simp only [List.map_toArray,List.map_cons,List.map_nil]);first|done|rfl|(simp only [List.length_drop,List.length_take];rfl)|(simp (disch:=omega) only [u64_in];rfl)) ?_
           with_reducible refine (pack_Str.calls (fun k_ => some k_ = (.slice Ao38 t185.length co38 : Value).ownBlock) (.slice Ao38 t185.length co38) t185 ((rd_T44 l0_1 x29_1).f1) t188 w _ ?side1 ?side2 A30.out).mono ?_
           (case side1 => repeat (first|(with_reducible first|exact HB.out|apply zl1|apply zl2|apply zl3|refine below_set ?_ GE174.out|refine below_set ?_ GE184.out)|exact HB.out))
           (case side2 => exact Kd.R_tight rfl HO187.out)
           rintro e w39 ⟨v189,rfl,ho0,hb,hkp⟩
           refine ⟨_,rfl,?_⟩
           have n0_:=Aside0.mk (blk_kept (by (with_reducible repeat (first|apply zb1|apply zb2|apply zb3));exact BK174.out) hkp (fun hs_ => (fun e_ => (Kd.R_ne HO187.out BK174.out (by decide)) e_) hs_))
           have n1_:=Aside0.mk (blk_kept (by (with_reducible repeat (first|apply zb1|apply zb2|apply zb3));exact BK184.out) hkp (fun hs_ => (fun e_ => (Kd.R_ne HO187.out BK184.out (by decide)) e_) hs_))
           have n2_:=Aside0.mk (Kd.R_mono (ok':=fun k_ => True) ho0 (fun k_ hk_ => trivial))
           have n3_:=Aside0.mk (hb)
           clear BK174
           clear BK184
           clear HB
           clear HO187
           have BK174:=n0_
           have BK184:=n1_
           have HO190:=n2_
           have HB:=n3_
           clear n0_ n1_ n2_ n3_
           (try clear hb)
           (try clear hkp)
           (try clear ho0)
           refine hK.out _ _ ⟨(blk_cell BK184.out 0).trans rfl,(blk_cell BK184.out 1).trans rfl⟩ (fun hHeld => ?_)
           clear hK K
           refine norm_ (a':=?_) ?_ ?_
           rotate_left
           ·show Act.put _ (some 39) _ = _
            simp only [Act.put,List.setIfInBounds_toArray,List.set_cons_zero,List.set_cons_succ,i64_w,i32_w]
            rfl
           refine pure_ (i:=7) (N:=some 4) (v:=?_) (a':=?_) #[true,true,true,true,true,true,true,true] rfl rfl (any_of HT_.out (by kernel_rfl)) (fun _ _ _ h => h) (Or.inl ⟨by rfl,?_⟩) ?_ ?_
           rotate_left
           ·intro w'
            go_simp
            with_reducible rfl
           rotate_left
           ·simp only [Act.put,List.setIfInBounds_toArray,List.set_cons_zero,List.set_cons_succ,i64_w,i32_w]
            rfl
           refine done_ (done_of HT_.out (by kernel_rfl)) ?_
           try go_wp2
           go_roundg k1
           case measure => have:=HK1.out;omega
           case rel => exact ⟨(t188),(wrap64 (x29_1 + 1)),(by first|(with_reducible rfl)|(simp;done)|(simp [*];done)|rfl|(simp only [not_isEmpty_bne])),H',⟨by have:=HK1.out;omega⟩,⟨by (with_reducible repeat (first|apply zk1|apply zk2|apply zk3));exact HO190.out⟩,⟨by (with_reducible repeat (first|apply zb1|apply zb2|apply zb3));exact BK174.out⟩,⟨by repeat (first|(with_reducible first|exact HB.out|apply zl1|apply zl2|apply zl3|refine below_set ?_ GE174.out|refine below_set ?_ GE184.out)|exact HB.out)⟩⟩
          ·rw [if_neg c28] at H
           exact absurd H (by simp)
         ·rw [if_neg c27] at H
          exact absurd H (by simp)
        ·rw [if_neg c26] at H
         have c26b0 : decide (x29_1 < (l0_1.length : Int)) = false:=decide_eq_false c26
         clear c26
         (first|rw [c26b0]|(simp only [i64_w,i32_w];rw [c26b0])|skip)
         have H':=Aside0.mk H
         clear H
         go_wp2
         go_meet
         case rel => exact ⟨_,(x4_1),H',⟨by have:=HK1.out;first|omega|exact Nat.le_refl _⟩,⟨by (with_reducible repeat (first|apply zk1|apply zk2|apply zk3));exact HO_4.out⟩,⟨by (with_reducible repeat (first|apply zb1|apply zb2|apply zb3));exact BK174.out⟩,⟨by repeat (first|(with_reducible first|exact HB.out|apply zl1|apply zl2|apply zl3|refine below_set ?_ GE174.out)|exact HB.out)⟩⟩
     ·rw [if_neg c19] at H
      exact absurd H (by simp)
    ·replace c18:=Bool.eq_false_iff.mpr c18
     subst c18
     have H1 : ((some (([2,((l0_2.length : Int)) % 256] : List Int) : List Int)).bind fun y191 => (if ([] : List Int).length + y191.length < 140737488355328 then (if 0 < (l0_3.length : Int) then ((pack_Num.f k (([] : List Int) ++ y191) (IntKind.u64.wrap (rd l0_3 0)) 2).bind fun t198 => (node_Write.l1 k t198 l0_2 (l0_2.length : Int) 0 false l0_1 l0_2 l0_3)) else (none)) else (none))) = some (r1,r2):=by rw [if_neg (show ¬ (false = true) by decide)] at H;exact H
     clear H
     have H:=H1
     clear H1
     obtain ⟨y191,hy191⟩ : ∃ y_ : List Int,y_ = (([2,((l0_2.length : Int)) % 256] : List Int)):=⟨_,rfl⟩
     replace H : (if ([] : List Int).length + y191.length < 140737488355328 then (if 0 < (l0_3.length : Int) then ((pack_Num.f k (([] : List Int) ++ y191) (IntKind.u64.wrap (rd l0_3 0)) 2).bind fun t198 => (node_Write.l1 k t198 l0_2 (l0_2.length : Int) 0 false l0_1 l0_2 l0_3)) else (none)) else (none)) = some (r1,r2):=by first|(rw [hy191];with_reducible exact H)|(have H2_:=(Option.bind_some _ _).symm.trans H;rw [hy191];with_reducible exact H2_)|(have H2_:=(Option.bind_some _ _).symm.trans H;with_reducible exact H2_)|with_reducible exact H|(rw [hy191];exact H)|exact H
     have Ny191:=Aside0.mk hy191
     clear hy191
     by_cases c40 : ([] : List Int).length + y191.length < 140737488355328
     ·rw [if_pos c40] at H
      have LMc40:=Aside0.mk c40
      clear c40
      obtain ⟨y194,hy194⟩ : ∃ y_ : List Int,y_ = (([] : List Int) ++ y191):=⟨_,rfl⟩
      replace H : (if 0 < (l0_3.length : Int) then ((pack_Num.f k y194 (IntKind.u64.wrap (rd l0_3 0)) 2).bind fun t198 => (node_Write.l1 k t198 l0_2 (l0_2.length : Int) 0 false l0_1 l0_2 l0_3)) else (none)) = some (r1,r2):=by first|(rw [hy194];with_reducible exact H)|(have H2_:=(Option.bind_some _ _).symm.trans H;rw [hy194];with_reducible exact H2_)|(have H2_:=(Option.bind_some _ _).symm.trans H;with_reducible exact H2_)|with_reducible exact H|(rw [hy194];exact H)|exact H
      have Ny194:=Aside0.mk hy194
      clear hy194
      by_cases c41 : 0 < (l0_3.length : Int)
      ·rw [if_pos c41] at H
       have c41b0 : decide (0 < (l0_3.length : Int)) = true:=decide_eq_true c41
       have c41b1 : decide (0 < l0_3.length) = true:=decide_eq_true (by omega)
       clear c41
       replace H:=Option.bind_eq_some_iff.mp H
       obtain ⟨t198,A420,H⟩:=H
       replace H : (node_Write.l1 k t198 l0_2 (l0_2.length : Int) 0 false l0_1 l0_2 l0_3) = some (r1,r2):=H
       have A42:=Aside0.mk A420
       clear A420
       have H':=Aside0.mk H
       clear H
       try go_wp2
       replace BK174:=Aside0.mk (blk_drew BK174.out)
       replace HB:=Aside0.mk (below_drew1 HB.out)
       have p197 : 0 ≤ (0 : Int):=(by omega)
       have q197 : 0 < (l0_3.length : Int):=of_decide_eq_true (by first|(with_reducible assumption)|assumption)
       obtain ⟨ad197,e197,hx197_0⟩:=Kd.at_int HR0_3.out 0 p197 q197
       have hw197_0:=hx197_0
       (try rw [show ((0 : Int)).toNat = 0 from rfl] at hw197_0)
       (try rw [show 0 * 1 = 0 from rfl] at hw197_0)
       (try rw [Addr.add_zero'] at hw197_0)
       cases e197
       have qi197 : (0 < l0_3.length) = True:=eq_true (by omega)
       (try rw [show ((0 : Int)).toNat = 0 from rfl] at hx197_0)
       (try rw [Addr.add_zero'] at hx197_0)
       replace hx197_0:=(HB.out.cell (World.block_lt_of_cell? w _ hx197_0)).trans hx197_0
       replace p197:=eq_true p197
       replace q197:=eq_true q197
       refine start_ (n:=14) (S:=fun w' => w'.cell? ⟨gb174,0,none⟩ = some (.bool false)∧w'.cell? ⟨gb174,1,none⟩ = some (.slice A0_1 l0_1.length c0_1)∧w'.cell? ⟨gb174,2,none⟩ = some (.slice A0_2 l0_2.length c0_2)∧w'.cell? ⟨gb174,3,none⟩ = some (.slice (some ad197) l0_3.length c0_3)∧w'.cell? ad197 = some (.int .i64 (rd l0_3 0))) (ds:=[]) #[false,false,false,false,false,false,false,false,false,false,false,false,false,false] (by kernel_rfl) rfl rfl ⟨(blk_cell BK174.out 0).trans rfl,(blk_cell BK174.out 1).trans rfl,(blk_cell BK174.out 2).trans rfl,(blk_cell BK174.out 3).trans rfl,((HB.out.cell (World.block_lt_of_cell? w _ hw197_0)).trans hw197_0)⟩ (fun hHeld => ?_);refine with_tabW node_Write.tab13 node_Write.bits13 (fun HT_ HW_ => ?_)
       generalize w16.drew = w43 at BK174 HB hx197_0 hHeld ⊢
       refine pure_ (i:=0) (N:=some 41) (v:=?_) (a':=?_) #[true,false,false,false,false,false,false,false,false,false,false,false,false,false] rfl rfl (any_of HT_.out (by kernel_rfl)) (fun _ _ _ h => h) (Or.inl ⟨by rfl,?_⟩) ?_ ?_
       rotate_left
       ·intro w'
        go_simp
        with_reducible rfl
       rotate_left
       ·simp only [Act.put,List.setIfInBounds_toArray,List.set_cons_zero,List.set_cons_succ,i64_w,i32_w]
        rfl
       refine pure_ (i:=1) (N:=some 42) (v:=?_) (a':=?_) #[true,true,false,false,false,false,false,false,false,false,false,false,false,false] rfl rfl (any_of HT_.out (by kernel_rfl)) (fun _ _ _ h => h) (Or.inl ⟨by rfl,?_⟩) ?_ ?_
       rotate_left
       ·intro w'
        go_simp
        with_reducible rfl
       rotate_left
       ·simp only [Act.put,List.setIfInBounds_toArray,List.set_cons_zero,List.set_cons_succ,i64_w,i32_w]
        rfl
       refine pure_ (i:=7) (N:=some 48) (v:=?_) (a':=?_) #[true,true,false,false,false,false,false,true,false,false,false,false,false,false] rfl rfl (any_of HT_.out (by kernel_rfl)) (fun _ _ _ h => h) (Or.inl ⟨by rfl,?_⟩) ?_ ?_
       rotate_left
       ·intro w'
        go_simp
        with_reducible rfl
       rotate_left
       ·simp only [Act.put,List.setIfInBounds_toArray,List.set_cons_zero,List.set_cons_succ,i64_w,i32_w]
        rfl
       refine take_ (i:=2) (N:=some 43) (v:=?_) (a':=?_) #[true,true,true,false,false,false,false,true,false,false,false,false,false,false] rfl rfl (take_ofW HT_.out HW_.out (by kernel_rfl)) (fun _ _ _ h => h) (Or.inl ⟨by rfl,?_⟩) hHeld ?_ ?_
       rotate_left
       ·rintro w' ⟨s0,s1,s2,s3,s4⟩
        go_simp
        with_reducible rfl
       rotate_left
       ·simp only [Act.put,List.setIfInBounds_toArray,List.set_cons_zero,List.set_cons_succ,i64_w,i32_w]
        rfl
       refine pure_ (i:=3) (N:=some 44) (v:=?_) (a':=?_) #[true,true,true,true,false,false,false,true,false,false,false,false,false,false] rfl rfl (any_of HT_.out (by kernel_rfl)) (fun _ _ _ h => h) (Or.inl ⟨by rfl,?_⟩) ?_ ?_
       rotate_left
       ·intro w'
        go_simp
        with_reducible rfl
       rotate_left
       ·simp only [Act.put,List.setIfInBounds_toArray,List.set_cons_zero,List.set_cons_succ,i64_w,i32_w]
        rfl
       refine pure_ (i:=4) (N:=some 45) (v:=?_) (a':=?_) #[true,true,true,true,true,false,false,true,false,false,false,false,false,false] rfl rfl (any_of HT_.out (by kernel_rfl)) (fun _ _ _ h => h) (Or.inl ⟨by rfl,?_⟩) ?_ ?_
       rotate_left
       ·intro w'
        go_simp
        with_reducible rfl
       rotate_left
       ·simp only [Act.put,List.setIfInBounds_toArray,List.set_cons_zero,List.set_cons_succ,i64_w,i32_w]
        rfl
       refine take_ (i:=8) (N:=some 49) (v:=?_) (a':=?_) #[true,true,true,true,true,false,false,true,true,false,false,false,false,false] rfl rfl (take_ofW HT_.out HW_.out (by kernel_rfl)) (fun _ _ _ h => h) (Or.inl ⟨by rfl,?_⟩) hHeld ?_ ?_
       rotate_left
       ·rintro w' ⟨s0,s1,s2,s3,s4⟩
        go_simp
        with_reducible rfl
       rotate_left
       ·simp only [Act.put,List.setIfInBounds_toArray,List.set_cons_zero,List.set_cons_succ,i64_w,i32_w]
        rfl
       refine pure_ (i:=9) (N:=some 50) (v:=?_) (a':=?_) #[true,true,true,true,true,false,false,true,true,true,false,false,false,false] rfl rfl (any_of HT_.out (by kernel_rfl)) (fun _ _ _ h => h) (Or.inl ⟨by rfl,?_⟩) ?_ ?_
       rotate_left
       ·intro w'
        go_simp
        with_reducible rfl
       rotate_left
       ·simp only [Act.put,List.setIfInBounds_toArray,List.set_cons_zero,List.set_cons_succ,i64_w,i32_w]
        rfl
       refine take_ (i:=10) (N:=some 51) (v:=?_) (a':=?_) #[true,true,true,true,true,false,false,true,true,true,true,false,false,false] rfl rfl (take_ofW HT_.out HW_.out (by kernel_rfl)) (fun _ _ _ h => h) (Or.inl ⟨by rfl,?_⟩) hHeld ?_ ?_
       rotate_left
       ·rintro w' ⟨s0,s1,s2,s3,s4⟩
        go_simp
        with_reducible rfl
       rotate_left
       ·simp only [Act.put,List.setIfInBounds_toArray,List.set_cons_zero,List.set_cons_succ,i64_w,i32_w]
        rfl
       refine pure_ (i:=11) (N:=some 52) (v:=?_) (a':=?_) #[true,true,true,true,true,false,false,true,true,true,true,true,false,false] rfl rfl (any_of HT_.out (by kernel_rfl)) (fun _ _ _ h => h) (Or.inl ⟨by rfl,?_⟩) ?_ ?_
       rotate_left
       ·intro w'
        go_simp
        with_reducible rfl
       rotate_left
       ·simp only [Act.put,List.setIfInBounds_toArray,List.set_cons_zero,List.set_cons_succ,i64_w,i32_w]
        rfl
       refine one_ (i:=5) (N:=some 46) #[true,true,true,true,true,true,false,true,true,true,true,true,false,false] rfl rfl (one_of HT_.out (by kernel_rfl)) (by decide) (fun K hK => ?_)
       refine Kd.R_lit_step (Kd.int .u8) _ 5 ?hg (N:=46) ?hd (xs:=([2,((l0_2.length : Int)) % 256] : List Int)) (inner:=[.int .u8 2,.int .u8 (((l0_2.length : Int)) % 256)]) (ok:=fun _ => True) (okp:=fun _ => True) ?hr ?hp (fun _ hk => hk) trivial (Below.refl _ _) (Nat.le_refl _) (by simp) ?_;(case hd => rfl);(case hg => rfl);(case hr => first|(go_simp;done)|(go_simp;rfl));(case hp => exact (Reps.one (show Kd.M (Kd.int .u8) _ _ _ 2 [.int .u8 2] from rfl) (Reps.one (show Kd.M (Kd.int .u8) _ _ _ (((l0_2.length : Int)) % 256) [.int .u8 (((l0_2.length : Int)) % 256)] from rfl) (Reps.none _ _))))
       intro v192 w44 ho45 hb hg_ hnew_
       clear hg_ hnew_
       (first|rw [← Ny191.out] at ho45|(simp only [Int.reduceToNat] at ho45;rw [← Ny191.out] at ho45))
       have HO193:=Aside0.mk (Kd.R_lower ho45 (below_size (by repeat (first|(with_reducible first|exact HB.out|apply zl1|apply zl2|apply zl3|refine below_set ?_ GE174.out)|exact HB.out))))
       replace BK174:=Aside0.mk (blk_below (g:=gb174) (o:=.cells #[.bool false,.slice A0_1 l0_1.length c0_1,.slice A0_2 l0_2.length c0_2,.slice (some ad197) l0_3.length c0_3] 27 (0,0)) (by (with_reducible repeat (first|apply zb1|apply zb2|apply zb3));exact BK174.out) hb)
       replace HB:=Aside0.mk (below_step (by repeat (first|(with_reducible first|exact HB.out|apply zl1|apply zl2|apply zl3|refine below_set ?_ GE174.out)|exact HB.out)) hb)
       clear hb ho45
       obtain ⟨Ao47,co47,eo47⟩:=Kd.R_slice HO193.out
       (first|subst eo47|(injection eo47 with f1_ f2_ f3_;have f4_:=f1_.symm;have f5_:=f3_.symm;clear f1_ f2_ f3_;subst f4_;subst f5_))
       refine hK.out _ _ ⟨(blk_cell BK174.out 0).trans rfl,(blk_cell BK174.out 1).trans rfl,(blk_cell BK174.out 2).trans rfl,(blk_cell BK174.out 3).trans rfl,((HB.out.cell (World.block_lt_of_cell? w _ hw197_0)).trans hw197_0)⟩ (fun hHeld => ?_)
       clear hK K
       refine norm_ (a':=?_) ?_ ?_
       rotate_left
       ·show Act.put _ (some 46) _ = _
        simp only [Act.put,List.setIfInBounds_toArray,List.set_cons_zero,List.set_cons_succ,i64_w,i32_w]
        rfl
       refine one_ (i:=6) (N:=some 47) #[true,true,true,true,true,true,true,true,true,true,true,true,false,false] rfl rfl (one_of HT_.out (by kernel_rfl)) (by decide) (fun K hK => ?_)
       refine Kd.R_append_rows_step (Kd.int .u8) (w0:=w) w.heap.size (by rfl) (.tmp 41) (.tmp 46) 52 5 (.int .u8 0) 1 rfl Tryd.underlying52 info5 rfl (by decide) (by omega) (.slice none 0 0) ([] : List Int) y191 _ _ _ (fun k_ => some k_ ≠ (.slice Ao47 y191.length co47 : Value).ownBlock) (fun _ => False) rfl rfl ?aO ?aR (fun _ _ h => h) (fun _ h => h.elim) ?aF ?aB ?aS ?aL ?_
       (case aR => repeat (first|exact (Kd.R_reads' HO193.out).2.2|(with_reducible refine Kd.C_alloc ?_ _)|(with_reducible refine Kd.C_drewN ?_ _)|(with_reducible refine Kd.C_drew ?_)))
       (case aB => exact (by repeat (first|(with_reducible first|exact HB.out|apply zl1|apply zl2|apply zl3|refine below_set ?_ GE174.out)|exact HB.out)))
       (case aF => exact (fun k_ hk => Kd.fresh' (Kd.R_lt (by (with_reducible repeat (first|apply zk1|apply zk2|apply zk3));exact HO193.out)) k_ hk))
       (case aO => exact ((Kd.R_nil _ _ _ _ (fun k_ => some k_ ≠ (.slice Ao47 y191.length co47 : Value).ownBlock))))
       (case aS => exact (below_size (by repeat (first|(with_reducible first|exact HB.out|apply zl1|apply zl2|apply zl3|refine below_set ?_ GE174.out)|exact HB.out))))
       (case aL => have:=LMc40.out;omega)
       intro v195 w46 ho hb hg hat
       rw [← Ny194.out] at ho
       replace BK174:=Aside0.mk (blk_grown (g:=gb174) (o:=.cells #[.bool false,.slice A0_1 l0_1.length c0_1,.slice A0_2 l0_2.length c0_2,.slice (some ad197) l0_3.length c0_3] 27 (0,0)) (by (with_reducible repeat (first|apply zb1|apply zb2|apply zb3));exact BK174.out) hg (by simp [Value.ownBlock]))
       replace HO193:=Aside0.mk (Kd.R_after (Kd.R_apart_nil (by (with_reducible repeat (first|apply zk1|apply zk2|apply zk3));exact HO193.out)) hg hat)
       replace HB:=Aside0.mk (hb)
       have HO196:=Aside0.mk (ho)
       clear ho hb hg hat
       obtain ⟨Ao48,co48,eo48⟩:=Kd.R_slice HO196.out
       (first|subst eo48|(injection eo48 with f1_ f2_ f3_;have f4_:=f1_.symm;have f5_:=f3_.symm;clear f1_ f2_ f3_;subst f4_;subst f5_))
       refine hK.out _ _ ⟨(blk_cell BK174.out 0).trans rfl,(blk_cell BK174.out 1).trans rfl,(blk_cell BK174.out 2).trans rfl,(blk_cell BK174.out 3).trans rfl,((HB.out.cell (World.block_lt_of_cell? w _ hw197_0)).trans hw197_0)⟩ (fun hHeld => ?_)
       clear hK K
       refine norm_ (a':=?_) ?_ ?_
       rotate_left
       ·show Act.put _ (some 47) _ = _
        simp only [Act.put,List.setIfInBounds_toArray,List.set_cons_zero,List.set_cons_succ,i64_w,i32_w]
        rfl
       refine one_ (i:=12) (N:=some 53) #[true,true,true,true,true,true,true,true,true,true,true,true,true,false] rfl rfl (one_of HT_.out (by kernel_rfl)) (by decide) (fun K hK => ?_)
       refine goes_ Tryd.func24 (by kernel_rfl) rfl #[.slice Ao48 y194.length co48,.int .u64 (IntKind.u64.wrap (rd l0_3 0)),.int .i64 2] (by rfl) rfl rfl (by (try simp only [List.map_toArray,List.map_cons,List.map_nil]);first|done|rfl|(simp only [List.length_drop,List.length_take];rfl)|(simp (disch:=omega) only [u64_in];rfl)) ?_
       with_reducible refine (pack_Num.calls k (fun k_ => some k_ = (.slice Ao48 y194.length co48 : Value).ownBlock) (.slice Ao48 y194.length co48) y194 (IntKind.u64.wrap (rd l0_3 0)) 2 t198 w _ ?side1 ?side2 A42.out).mono ?_
       (case side1 => repeat (first|(with_reducible first|exact HB.out|apply zl1|apply zl2|apply zl3|refine below_set ?_ GE174.out)|exact HB.out))
       (case side2 => exact Kd.R_tight rfl HO196.out)
       rintro e w49 ⟨v199,rfl,ho0,hb,hkp⟩
       refine ⟨_,rfl,?_⟩
       have n0_:=Aside0.mk (blk_kept (by (with_reducible repeat (first|apply zb1|apply zb2|apply zb3));exact BK174.out) hkp (fun hs_ => (fun e_ => (Kd.R_ne HO196.out BK174.out (by decide)) e_) hs_))
       have n1_:=Aside0.mk (Kd.R_mono (ok':=fun k_ => some k_ ≠ (v199 : Value).ownBlock) (Kd.R_keptB (HO193.out) hkp (fun k_ hk_ hs_ => (hk_.2) hs_)) (fun k_ hk_ => fun e_ => Or.elim (ho0.1 k_ e_.symm) (fun hs_ => hk_.2.1 hs_) (fun hn_ => Nat.not_le.2 hk_.2.2 hn_)))
       have n2_:=Aside0.mk (Kd.R_mono (ok':=fun k_ => some k_ ≠ (.slice Ao47 y191.length co47 : Value).ownBlock) ho0 (fun k_ hk_ => Or.elim hk_ (fun hs_ => fun e_ => (((HO193.out).1 k_ e_.symm).2) hs_) (fun hn_ => (Kd.fresh' (Kd.R_lt (by (with_reducible repeat (first|apply zk1|apply zk2|apply zk3));exact HO193.out)) k_ hn_))))
       have n3_:=Aside0.mk (hb)
       clear BK174
       clear HO193
       clear HB
       clear HO196
       have BK174:=n0_
       have HO193:=n1_
       have HO200:=n2_
       have HB:=n3_
       clear n0_ n1_ n2_ n3_
       (try clear hb)
       (try clear hkp)
       (try clear ho0)
       refine hK.out _ _ ⟨(blk_cell BK174.out 0).trans rfl,(blk_cell BK174.out 1).trans rfl,(blk_cell BK174.out 2).trans rfl,(blk_cell BK174.out 3).trans rfl,((HB.out.cell (World.block_lt_of_cell? w _ hw197_0)).trans hw197_0)⟩ (fun hHeld => ?_)
       clear hK K
       refine norm_ (a':=?_) ?_ ?_
       rotate_left
       ·show Act.put _ (some 53) _ = _
        simp only [Act.put,List.setIfInBounds_toArray,List.set_cons_zero,List.set_cons_succ,i64_w,i32_w]
        rfl
       refine pure_ (i:=13) (N:=some 4) (v:=?_) (a':=?_) #[true,true,true,true,true,true,true,true,true,true,true,true,true,true] rfl rfl (any_of HT_.out (by kernel_rfl)) (fun _ _ _ h => h) (Or.inl ⟨by rfl,?_⟩) ?_ ?_
       rotate_left
       ·intro w'
        go_simp
        with_reducible rfl
       rotate_left
       ·simp only [Act.put,List.setIfInBounds_toArray,List.set_cons_zero,List.set_cons_succ,i64_w,i32_w]
        rfl
       refine done_ (done_of HT_.out (by kernel_rfl)) ?_
       have hcz50_0 : w49.cell? ⟨gb174,0,none⟩ = some (.bool false):=(blk_cell BK174.out 0).trans rfl
       have hcz50_1 : w49.cell? ⟨gb174,1,none⟩ = some (.slice A0_1 l0_1.length c0_1):=(blk_cell BK174.out 1).trans rfl
       have hcz50_2 : w49.cell? ⟨gb174,2,none⟩ = some (.slice A0_2 l0_2.length c0_2):=(blk_cell BK174.out 2).trans rfl
       have hcz50_3 : w49.cell? ⟨gb174,3,none⟩ = some (.slice (some ad197) l0_3.length c0_3):=(blk_cell BK174.out 3).trans rfl
       have hfz50_0:=blk_frozen BK174.out 0
       have hfz50_1:=blk_frozen BK174.out 1
       have hfz50_2:=blk_frozen BK174.out 2
       have hfz50_3:=blk_frozen BK174.out 3
       try go_wp2
       go_loopg [4,57] k (fun kq v4 v57 w' => ∃ (x4_1 : List Int) (x57_1 : Int),v57 = .int .i64 x57_1∧Aside0 (node_Write.l1 kq x4_1 l0_2 (l0_2.length : Int) x57_1 false l0_1 l0_2 l0_3 = some (r1,r2))∧Aside0 (kq ≤ k)∧Aside0 (Kd.R (Kd.int .u8) 5 w' w.heap.size (fun _ => True) v4 x4_1)∧Aside0 (w'.heap[gb174]? = some (.cells #[.bool false,(.slice A0_1 l0_1.length c0_1),(.slice A0_2 l0_2.length c0_2),(.slice (some ad197) l0_3.length c0_3)] 27 (0,0)))∧Aside0 (Below w.heap.size w w'))
       case atStart => exact ⟨(t198),(0),(by first|(with_reducible rfl)|(simp;done)|(simp [*];done)|rfl|(simp only [not_isEmpty_bne])),H',⟨Nat.le_refl _⟩,⟨by (with_reducible repeat (first|apply zk1|apply zk2|apply zk3));exact Kd.R_mono HO200.out (fun _ hk => trivial)⟩,⟨by (with_reducible repeat (first|apply zb1|apply zb2|apply zb3));exact BK174.out⟩,⟨by repeat (first|(with_reducible first|exact HB.out|apply zl1|apply zl2|apply zl3|refine below_set ?_ GE174.out)|exact HB.out)⟩⟩
       case round =>
        clear H'
        try clear c1
        try clear p1
        try clear q1
        try clear hx1
        try clear qi1
        try clear c2
        try clear p2
        try clear c3
        try clear c4
        try clear c5
        try clear c5b0
        try clear p6
        try clear c9
        try clear c11
        try clear c18
        try clear p18
        try clear q18
        try clear hx18
        try clear c19
        try clear p19
        try clear q19
        try clear hx19
        try clear qi19
        try clear c23
        try clear c24
        try clear c26
        try clear c26b0
        try clear c27
        try clear c27b0
        try clear c28
        try clear hcz13_0 hcz13_1 hcz13_2 hcz13_3 hcz15_0 hcz15_1 hcz15_2 hcz15_3 hcz17_0 hcz17_1 hcz17_2 hcz17_3 hcz20_0 hcz20_1 hcz20_2 hcz20_3 hcz25_0 hcz25_1 hcz25_2 hcz25_3 hcz33_0 hcz33_1 hcz50_0 hcz50_1
        try clear c28b0
        try clear c32
        try clear c40
        try clear c41
        try clear c41b0
        try clear c41b1
        try clear hfz13_0 hfz13_1 hfz13_2 hfz13_3 hfz15_0 hfz15_1 hfz15_2 hfz15_3 hfz17_0 hfz17_1 hfz17_2 hfz17_3 hfz20_0 hfz20_1 hfz20_2 hfz20_3 hfz25_0 hfz25_1 hfz25_2 hfz25_3
        try clear hcz50_2 hcz50_3 hcz7_0 hcz7_1 hcz7_2 hcz7_3 hcz9_0 hcz9_1 hcz9_2 hcz9_3
        try clear hfz33_0 hfz33_1 hfz50_0 hfz50_1 hfz50_2 hfz50_3 hfz7_0 hfz7_1 hfz7_2 hfz7_3 hfz9_0 hfz9_1 hfz9_2 hfz9_3
        try clear hx183_0
        try clear hx183_1
        try clear hx197_0
        try clear p183
        try clear p197
        try clear p2
        try clear q183
        try clear q197
        obtain ⟨x4_1,x57_1,rfl,HA,HK1,HO_4,BK174,HB⟩:=hrel
        cases gk with
        | zero => exact absurd HA.out (by simp [node_Write.l1])
        | succ k1 =>
         have H:=HA.out
         clear HA
         simp only [node_Write.l1] at H
         by_cases c51 : x57_1 < (l0_2.length : Int)
         ·rw [if_pos c51] at H
          have c51b0 : decide (x57_1 < (l0_2.length : Int)) = true:=decide_eq_true c51
          clear c51
          by_cases c52 : 0 ≤ x57_1
          ·rw [if_pos c52] at H
           have c52b0 : decide (0 ≤ x57_1) = true:=decide_eq_true c52
           clear c52
           by_cases c53 : x57_1 < (l0_2.length : Int)
           ·rw [if_pos c53] at H
            have c53b0 : decide (x57_1 < (l0_2.length : Int)) = true:=decide_eq_true c53
            clear c53
            replace H:=Option.bind_eq_some_iff.mp H
            obtain ⟨t202,A540,H⟩:=H
            replace H : (if 0 ≤ (wrap64 (x57_1 + 1)) then (if (wrap64 (x57_1 + 1)) < (l0_3.length : Int) then ((pack_Num.f k1 t202 (IntKind.u64.wrap (rd l0_3 (wrap64 (x57_1 + 1)))) 2).bind fun t206 => (node_Write.l1 k1 t206 l0_2 (l0_2.length : Int) (wrap64 (x57_1 + 1)) false l0_1 l0_2 l0_3)) else (none)) else (none)) = some (r1,r2):=H
            have A54:=Aside0.mk A540
            clear A540
            obtain ⟨ji55,hji55⟩ : ∃ j_ : Int,(wrap64 (x57_1 + 1)) = j_:=⟨_,rfl⟩
            replace H : (if 0 ≤ (ji55) then (if (ji55) < (l0_3.length : Int) then ((pack_Num.f k1 t202 (IntKind.u64.wrap (rd l0_3 (ji55))) 2).bind fun t206 => (node_Write.l1 k1 t206 l0_2 (l0_2.length : Int) ji55 false l0_1 l0_2 l0_3)) else (none)) else (none)) = some (r1,r2):=by first|(rw [hji55] at H;exact H)|(simp only [hji55] at H ⊢;exact H)
            (try rw [hji55] at A54)
            have hji55w : (IntKind.i64.wrap (x57_1 + 1)) = ji55:=(i64_w _).trans hji55
            by_cases c56 : 0 ≤ (ji55)
            ·rw [if_pos c56] at H
             have c56b0 : decide (0 ≤ (ji55)) = true:=decide_eq_true c56
             clear c56
             by_cases c57 : (ji55) < (l0_3.length : Int)
             ·rw [if_pos c57] at H
              have c57b0 : decide ((ji55) < (l0_3.length : Int)) = true:=decide_eq_true c57
              clear c57
              replace H:=Option.bind_eq_some_iff.mp H
              obtain ⟨t206,A580,H⟩:=H
              replace H : (node_Write.l1 k1 t206 l0_2 (l0_2.length : Int) ji55 false l0_1 l0_2 l0_3) = some (r1,r2):=H
              have A58:=Aside0.mk A580
              clear A580
              have H':=Aside0.mk H
              clear H
              have p201 : 0 ≤ (x57_1 : Int):=of_decide_eq_true (by first|(with_reducible assumption)|assumption)
              have q201 : x57_1 < (l0_2.length : Int):=of_decide_eq_true (by first|(with_reducible assumption)|assumption)
              obtain ⟨ad201,e201,hx201_0⟩:=Kd.at_string HR0_2.out x57_1 p201 q201
              cases e201
              replace hx201_0:=(HB.out.cell (World.block_lt_of_cell? w _ hx201_0)).trans hx201_0
              replace p201:=eq_true p201
              replace q201:=eq_true q201
              try go_wp2
              replace HO_4:=Aside0.mk (Kd.R_drew HO_4.out)
              replace BK174:=Aside0.mk (blk_drew BK174.out)
              replace HB:=Aside0.mk (below_drew1 HB.out)
              have p205 : 0 ≤ ((ji55) : Int):=of_decide_eq_true (by first|(with_reducible assumption)|assumption)
              have q205 : (ji55) < (l0_3.length : Int):=of_decide_eq_true (by first|(with_reducible assumption)|assumption)
              obtain ⟨ad205,e205,hx205_0⟩:=Kd.at_int HR0_3.out (ji55) p205 q205
              have hw205_0:=hx205_0
              obtain rfl : ad197 = ad205:=(by injection e205)
              replace hx205_0:=(HB.out.cell (World.block_lt_of_cell? w _ hx205_0)).trans hx205_0
              replace p205:=eq_true p205
              replace q205:=eq_true q205
              obtain ⟨Ao60,co60,eo60⟩:=Kd.R_slice HO_4.out
              (first|subst eo60|(injection eo60 with f1_ f2_ f3_;have f4_:=f1_.symm;have f5_:=f3_.symm;clear f1_ f2_ f3_;subst f4_;subst f5_))
              refine start_ (n:=12) (S:=fun w' => w'.cell? ⟨gb174,0,none⟩ = some (.bool false)∧w'.cell? ⟨gb174,1,none⟩ = some (.slice A0_1 l0_1.length c0_1)∧w'.cell? ⟨gb174,2,none⟩ = some (.slice (some ad201) l0_2.length c0_2)∧w'.cell? ⟨gb174,3,none⟩ = some (.slice (some ad197) l0_3.length c0_3)∧w'.cell? (ad197.add ((ji55)).toNat) = some (.int .i64 (rd l0_3 (ji55)))) (ds:=[]) #[false,false,false,false,false,false,false,false,false,false,false,false] (by kernel_rfl) rfl rfl ⟨(blk_cell BK174.out 0).trans rfl,(blk_cell BK174.out 1).trans rfl,(blk_cell BK174.out 2).trans rfl,(blk_cell BK174.out 3).trans rfl,((HB.out.cell (World.block_lt_of_cell? w _ hw205_0)).trans hw205_0)⟩ (fun hHeld => ?_);refine with_tabW node_Write.tab17 node_Write.bits17 (fun HT_ HW_ => ?_)
              generalize wr.drew = w59 at HO_4 BK174 HB hx205_0 hHeld ⊢
              refine pure_ (i:=0) (N:=some 62) (v:=?_) (a':=?_) #[true,false,false,false,false,false,false,false,false,false,false,false] rfl rfl (any_of HT_.out (by kernel_rfl)) (fun _ _ _ h => h) (Or.inl ⟨by rfl,?_⟩) ?_ ?_
              rotate_left
              ·intro w'
               go_simp
               with_reducible rfl
              rotate_left
              ·simp only [Act.put,List.setIfInBounds_toArray,List.set_cons_zero,List.set_cons_succ,i64_w,i32_w]
               rfl
              refine pure_ (i:=1) (N:=some 63) (v:=?_) (a':=?_) #[true,true,false,false,false,false,false,false,false,false,false,false] rfl rfl (any_of HT_.out (by kernel_rfl)) (fun _ _ _ h => h) (Or.inl ⟨by rfl,?_⟩) ?_ ?_
              rotate_left
              ·intro w'
               go_simp
               with_reducible rfl
              rotate_left
              ·simp only [Act.put,List.setIfInBounds_toArray,List.set_cons_zero,List.set_cons_succ,i64_w,i32_w]
               rfl
              refine pure_ (i:=3) (N:=some 65) (v:=?_) (a':=?_) #[true,true,false,true,false,false,false,false,false,false,false,false] rfl rfl (any_of HT_.out (by kernel_rfl)) (fun _ _ _ h => h) (Or.inl ⟨by rfl,?_⟩) ?_ ?_
              rotate_left
              ·intro w'
               go_simp
               with_reducible rfl
              rotate_left
              ·simp only [Act.put,List.setIfInBounds_toArray,List.set_cons_zero,List.set_cons_succ,i64_w,i32_w]
               rfl
              refine pure_ (i:=5) (N:=some 67) (v:=?_) (a':=?_) #[true,true,false,true,false,true,false,false,false,false,false,false] rfl rfl (any_of HT_.out (by kernel_rfl)) (fun _ _ _ h => h) (Or.inl ⟨by rfl,?_⟩) ?_ ?_
              rotate_left
              ·intro w'
               go_simp
               with_reducible rfl
              rotate_left
              ·simp only [Act.put,List.setIfInBounds_toArray,List.set_cons_zero,List.set_cons_succ,i64_w,i32_w]
               rfl
              refine pure_ (i:=6) (N:=some 68) (v:=?_) (a':=?_) #[true,true,false,true,false,true,true,false,false,false,false,false] rfl rfl (any_of HT_.out (by kernel_rfl)) (fun _ _ _ h => h) (Or.inl ⟨by rfl,?_⟩) ?_ ?_
              rotate_left
              ·intro w'
               go_simp
               with_reducible rfl
              rotate_left
              ·simp only [Act.put,List.setIfInBounds_toArray,List.set_cons_zero,List.set_cons_succ,i64_w,i32_w]
               rfl
              refine take_ (i:=4) (N:=some 66) (v:=?_) (a':=?_) #[true,true,false,true,true,true,true,false,false,false,false,false] rfl rfl (take_ofW HT_.out HW_.out (by kernel_rfl)) (fun _ _ _ h => h) (Or.inl ⟨by rfl,?_⟩) hHeld ?_ ?_
              rotate_left
              ·rintro w' ⟨s0,s1,s2,s3,s4⟩
               go_simp
               with_reducible rfl
              rotate_left
              ·simp only [Act.put,List.setIfInBounds_toArray,List.set_cons_zero,List.set_cons_succ,i64_w,i32_w]
               rfl
              refine pure_ (i:=7) (N:=some 69) (v:=?_) (a':=?_) #[true,true,false,true,true,true,true,true,false,false,false,false] rfl rfl (any_of HT_.out (by kernel_rfl)) (fun _ _ _ h => h) (Or.inl ⟨by rfl,?_⟩) ?_ ?_
              rotate_left
              ·intro w'
               go_simp
               with_reducible rfl
              rotate_left
              ·simp only [Act.put,List.setIfInBounds_toArray,List.set_cons_zero,List.set_cons_succ,i64_w,i32_w]
               rfl
              refine take_ (i:=8) (N:=some 70) (v:=?_) (a':=?_) #[true,true,false,true,true,true,true,true,true,false,false,false] rfl rfl (take_ofW HT_.out HW_.out (by kernel_rfl)) (fun _ _ _ h => h) (Or.inl ⟨by rfl,?_⟩) hHeld ?_ ?_
              rotate_left
              ·rintro w' ⟨s0,s1,s2,s3,s4⟩
               go_simp
               with_reducible rfl
              rotate_left
              ·simp only [Act.put,List.setIfInBounds_toArray,List.set_cons_zero,List.set_cons_succ,i64_w,i32_w]
               rfl
              refine pure_ (i:=9) (N:=some 71) (v:=?_) (a':=?_) #[true,true,false,true,true,true,true,true,true,true,false,false] rfl rfl (any_of HT_.out (by kernel_rfl)) (fun _ _ _ h => h) (Or.inl ⟨by rfl,?_⟩) ?_ ?_
              rotate_left
              ·intro w'
               go_simp
               with_reducible rfl
              rotate_left
              ·simp only [Act.put,List.setIfInBounds_toArray,List.set_cons_zero,List.set_cons_succ,i64_w,i32_w]
               rfl
              refine one_ (i:=2) (N:=some 64) #[true,true,true,true,true,true,true,true,true,true,false,false] rfl rfl (one_of HT_.out (by kernel_rfl)) (by decide) (fun K hK => ?_)
              refine goes_ Tryd.func23 (by kernel_rfl) rfl #[.slice Ao60 x4_1.length co60,.string (rdOf ByteArray.empty l0_2 x57_1)] (by rfl) rfl rfl (by (try simp only [List.map_toArray,List.map_cons,List.map_nil]);first|done|rfl|(simp only [List.length_drop,List.length_take];rfl)|(simp (disch:=omega) only [u64_in];rfl)) ?_
              with_reducible refine (pack_Str.calls (fun k_ => some k_ = (.slice Ao60 x4_1.length co60 : Value).ownBlock) (.slice Ao60 x4_1.length co60) x4_1 (rdOf ByteArray.empty l0_2 x57_1) t202 w _ ?side1 ?side2 A54.out).mono ?_
              (case side1 => repeat (first|(with_reducible first|exact HB.out|apply zl1|apply zl2|apply zl3|refine below_set ?_ GE174.out)|exact HB.out))
              (case side2 => exact Kd.R_tight rfl HO_4.out)
              rintro e w61 ⟨v203,rfl,ho0,hb,hkp⟩
              refine ⟨_,rfl,?_⟩
              have n0_:=Aside0.mk (blk_kept (by (with_reducible repeat (first|apply zb1|apply zb2|apply zb3));exact BK174.out) hkp (fun hs_ => (fun e_ => (Kd.R_ne HO_4.out BK174.out (by decide)) e_) hs_))
              have n1_:=Aside0.mk (Kd.R_mono (ok':=fun k_ => True) ho0 (fun k_ hk_ => trivial))
              have n2_:=Aside0.mk (hb)
              clear BK174
              clear HB
              clear HO_4
              have BK174:=n0_
              have HO204:=n1_
              have HB:=n2_
              clear n0_ n1_ n2_
              (try clear hb)
              (try clear hkp)
              (try clear ho0)
              obtain ⟨Ao62,co62,eo62⟩:=Kd.R_slice HO204.out
              (first|subst eo62|(injection eo62 with f1_ f2_ f3_;have f4_:=f1_.symm;have f5_:=f3_.symm;clear f1_ f2_ f3_;subst f4_;subst f5_))
              refine hK.out _ _ ⟨(blk_cell BK174.out 0).trans rfl,(blk_cell BK174.out 1).trans rfl,(blk_cell BK174.out 2).trans rfl,(blk_cell BK174.out 3).trans rfl,((HB.out.cell (World.block_lt_of_cell? w _ hw205_0)).trans hw205_0)⟩ (fun hHeld => ?_)
              clear hK K
              refine norm_ (a':=?_) ?_ ?_
              rotate_left
              ·show Act.put _ (some 64) _ = _
               simp only [Act.put,List.setIfInBounds_toArray,List.set_cons_zero,List.set_cons_succ,i64_w,i32_w]
               rfl
              refine one_ (i:=10) (N:=some 72) #[true,true,true,true,true,true,true,true,true,true,true,false] rfl rfl (one_of HT_.out (by kernel_rfl)) (by decide) (fun K hK => ?_)
              refine goes_ Tryd.func24 (by kernel_rfl) rfl #[.slice Ao62 t202.length co62,.int .u64 (IntKind.u64.wrap (rd l0_3 (ji55))),.int .i64 2] (by rfl) rfl rfl (by (try simp only [List.map_toArray,List.map_cons,List.map_nil]);first|done|(simp only [hji55];rfl)|rfl|(simp only [List.length_drop,List.length_take];rfl)|(simp (disch:=omega) only [u64_in];rfl)) ?_
              with_reducible refine (pack_Num.calls k1 (fun k_ => some k_ = (.slice Ao62 t202.length co62 : Value).ownBlock) (.slice Ao62 t202.length co62) t202 (IntKind.u64.wrap (rd l0_3 (ji55))) 2 t206 w _ ?side1 ?side2 A58.out).mono ?_
              (case side1 => repeat (first|(with_reducible first|exact HB.out|apply zl1|apply zl2|apply zl3|refine below_set ?_ GE174.out)|exact HB.out))
              (case side2 => exact Kd.R_tight rfl HO204.out)
              rintro e w63 ⟨v207,rfl,ho0,hb,hkp⟩
              refine ⟨_,rfl,?_⟩
              have n0_:=Aside0.mk (blk_kept (by (with_reducible repeat (first|apply zb1|apply zb2|apply zb3));exact BK174.out) hkp (fun hs_ => (fun e_ => (Kd.R_ne HO204.out BK174.out (by decide)) e_) hs_))
              have n1_:=Aside0.mk (Kd.R_mono (ok':=fun k_ => True) ho0 (fun k_ hk_ => trivial))
              have n2_:=Aside0.mk (hb)
              clear BK174
              clear HB
              clear HO204
              have BK174:=n0_
              have HO208:=n1_
              have HB:=n2_
              clear n0_ n1_ n2_
              (try clear hb)
              (try clear hkp)
              (try clear ho0)
              refine hK.out _ _ ⟨(blk_cell BK174.out 0).trans rfl,(blk_cell BK174.out 1).trans rfl,(blk_cell BK174.out 2).trans rfl,(blk_cell BK174.out 3).trans rfl,((HB.out.cell (World.block_lt_of_cell? w _ hw205_0)).trans hw205_0)⟩ (fun hHeld => ?_)
              clear hK K
              refine norm_ (a':=?_) ?_ ?_
              rotate_left
              ·show Act.put _ (some 72) _ = _
               simp only [Act.put,List.setIfInBounds_toArray,List.set_cons_zero,List.set_cons_succ,i64_w,i32_w]
               rfl
              refine pure_ (i:=11) (N:=some 4) (v:=?_) (a':=?_) #[true,true,true,true,true,true,true,true,true,true,true,true] rfl rfl (any_of HT_.out (by kernel_rfl)) (fun _ _ _ h => h) (Or.inl ⟨by rfl,?_⟩) ?_ ?_
              rotate_left
              ·intro w'
               go_simp
               with_reducible rfl
              rotate_left
              ·simp only [Act.put,List.setIfInBounds_toArray,List.set_cons_zero,List.set_cons_succ,i64_w,i32_w]
               rfl
              refine done_ (done_of HT_.out (by kernel_rfl)) ?_
              try go_wp2
              go_roundg k1
              case measure => have:=HK1.out;omega
              case rel => exact ⟨(t206),(ji55),(by first|rfl|(simp;done)|(simp only [← hji55] <;> (first|rfl|simp))|(simp [*];done)),H',⟨by have:=HK1.out;omega⟩,⟨by (with_reducible repeat (first|apply zk1|apply zk2|apply zk3));exact HO208.out⟩,⟨by (with_reducible repeat (first|apply zb1|apply zb2|apply zb3));exact BK174.out⟩,⟨by repeat (first|(with_reducible first|exact HB.out|apply zl1|apply zl2|apply zl3|refine below_set ?_ GE174.out)|exact HB.out)⟩⟩
             ·rw [if_neg c57] at H
              exact absurd H (by simp)
            ·rw [if_neg c56] at H
             exact absurd H (by simp)
           ·rw [if_neg c53] at H
            exact absurd H (by simp)
          ·rw [if_neg c52] at H
           exact absurd H (by simp)
         ·rw [if_neg c51] at H
          have c51b0 : decide (x57_1 < (l0_2.length : Int)) = false:=decide_eq_false c51
          clear c51
          have H':=Aside0.mk H
          clear H
          go_wp2
          go_meet
          case rel => exact ⟨_,(x4_1),H',⟨by have:=HK1.out;first|omega|exact Nat.le_refl _⟩,⟨by (with_reducible repeat (first|apply zk1|apply zk2|apply zk3));exact HO_4.out⟩,⟨by (with_reducible repeat (first|apply zb1|apply zb2|apply zb3));exact BK174.out⟩,⟨by repeat (first|(with_reducible first|exact HB.out|apply zl1|apply zl2|apply zl3|refine below_set ?_ GE174.out)|exact HB.out)⟩⟩
      ·rw [if_neg c41] at H
       exact absurd H (by simp)
     ·rw [if_neg c40] at H
      exact absurd H (by simp)
   case rest =>
    clear HC11
    try clear c1
    try clear p1
    try clear q1
    try clear hx1
    try clear qi1
    try clear c2
    try clear p2
    try clear q2
    try clear hx2
    try clear c3
    try clear c4
    try clear c5
    try clear c5b0
    try clear p6
    try clear c9
    try clear c11
    try clear c18
    try clear p18
    try clear q18
    try clear hx18
    try clear c19
    try clear p19
    try clear q19
    try clear hx19
    try clear qi19
    try clear p20
    try clear q20
    try clear hx20
    try clear c23
    try clear c24
    try clear hcz13_0 hcz13_1 hcz13_2 hcz13_3 hcz15_0 hcz15_1 hcz15_2 hcz15_3 hcz17_0
    try clear c26
    try clear c26b0
    try clear c27
    try clear c27b0
    try clear c28
    try clear c28b0
    try clear c32
    try clear c40
    try clear c41
    try clear c41b0
    try clear c41b1
    try clear c51
    try clear c51b0
    try clear c52
    try clear c52b0
    try clear c53
    try clear c53b0
    try clear c56
    try clear c56b0
    try clear c57
    try clear c57b0
    try clear hfz13_0 hfz13_1 hfz13_2 hfz13_3 hfz15_0
    try clear hcz17_1 hcz17_2 hcz17_3 hcz20_0 hcz20_1 hcz20_2 hcz20_3 hcz25_0 hcz25_1 hcz25_2 hcz25_3 hcz33_0 hcz33_1 hcz50_0 hcz50_1 hcz50_2 hcz50_3 hcz7_0 hcz7_1 hcz7_2 hcz7_3 hcz9_0 hcz9_1 hcz9_2 hcz9_3
    try clear hfz15_1 hfz15_2 hfz15_3 hfz17_0 hfz17_1 hfz17_2 hfz17_3 hfz20_0 hfz20_1 hfz20_2 hfz20_3 hfz25_0 hfz25_1 hfz25_2 hfz25_3 hfz33_0 hfz33_1 hfz50_0 hfz50_1 hfz50_2 hfz50_3 hfz7_0 hfz7_1 hfz7_2 hfz7_3 hfz9_0 hfz9_1 hfz9_2 hfz9_3
    try clear hx183_0
    try clear hx183_1
    try clear hx197_0
    try clear hx201_0
    try clear hx205_0
    try clear p1
    try clear p18
    try clear p183
    try clear p19
    try clear p197
    try clear p2
    try clear p201
    try clear p205
    try clear p6
    try clear q1
    try clear q18
    try clear q183
    try clear q19
    try clear q197
    try clear q201
    try clear q205
    obtain ⟨kq,x4_10,HA,HJ10,HO_4,BK174,HB⟩:=hcut
    cases kq with
    | zero => exact absurd HA.out (by simp [node_Write.j2])
    | succ kj10 =>
     have H:=HA.out
     clear HA
     simp only [node_Write.j2] at H
     replace H:=Option.bind_eq_some_iff.mp H
     obtain ⟨t209,A640,H⟩:=H
     replace H : (if (strOfNums x4_10).size + t209.size ≤ 9223372036854775807 then (some ((strOfNums x4_10) ++ t209,0)) else (none)) = some (r1,r2):=H
     have A64:=Aside0.mk A640
     clear A640
     by_cases c65 : (strOfNums x4_10).size + t209.size ≤ 9223372036854775807
     ·rw [if_pos c65] at H
      have c65b0:=eq_true c65
      have c65b1 : decide ((strOfNums x4_10).size + t209.size ≤ 9223372036854775807) = true:=decide_eq_true c65
      try have c65b2 : (9223372036854775807 < (strOfNums x4_10).size + t209.size) = False:=eq_false (Nat.not_lt.2 c65)
      simp only [Option.some.injEq,Prod.mk.injEq] at H
      obtain ⟨rfl,rfl⟩:=H
      try go_wp2
      replace HO_4:=Aside0.mk (Kd.R_drew HO_4.out)
      replace BK174:=Aside0.mk (blk_drew BK174.out)
      replace HB:=Aside0.mk (below_drew1 HB.out)
      obtain ⟨Ao67,co67,eo67⟩:=Kd.R_slice HO_4.out
      (first|subst eo67|(injection eo67 with f1_ f2_ f3_;have f4_:=f1_.symm;have f5_:=f3_.symm;clear f1_ f2_ f3_;subst f4_;subst f5_))
      have hcv68:=own_string (P:=Tryd.prog) Tryd.underlying52 Tryd.underlying5 Tryd.underlying9 (Kd.own_of_R HO_4.out)
      refine start_ (n:=9) (S:=fun w' => Sem.run Tryd.prog (convert 52 9 (.slice Ao67 x4_10.length co67)) w' = Result.ok (Value.string (strOfNums x4_10)) w') (ds:=[]) #[false,false,false,false,false,false,false,false,false] (by kernel_rfl) rfl rfl ((own_string (P:=Tryd.prog) Tryd.underlying52 Tryd.underlying5 Tryd.underlying9 (Kd.own_of_R HO_4.out))) (fun hHeld => ?_);refine with_tabW node_Write.tab19 node_Write.bits19 (fun HT_ HW_ => ?_)
      generalize wc.drew = w66 at HO_4 BK174 HB hHeld ⊢
      refine pure_ (i:=0) (N:=some 74) (v:=?_) (a':=?_) #[true,false,false,false,false,false,false,false,false] rfl rfl (any_of HT_.out (by kernel_rfl)) (fun _ _ _ h => h) (Or.inl ⟨by rfl,?_⟩) ?_ ?_
      rotate_left
      ·intro w'
       go_simp
       with_reducible rfl
      rotate_left
      ·simp only [Act.put,List.setIfInBounds_toArray,List.set_cons_zero,List.set_cons_succ,i64_w,i32_w]
       rfl
      refine pure_ (i:=2) (N:=some 76) (v:=?_) (a':=?_) #[true,false,true,false,false,false,false,false,false] rfl rfl (any_of HT_.out (by kernel_rfl)) (fun _ _ _ h => h) (Or.inl ⟨by rfl,?_⟩) ?_ ?_
      rotate_left
      ·intro w'
       go_simp
       with_reducible rfl
      rotate_left
      ·simp only [Act.put,List.setIfInBounds_toArray,List.set_cons_zero,List.set_cons_succ,i64_w,i32_w]
       rfl
      refine pure_ (i:=3) (N:=some 77) (v:=?_) (a':=?_) #[true,false,true,true,false,false,false,false,false] rfl rfl (any_of HT_.out (by kernel_rfl)) (fun _ _ _ h => h) (Or.inl ⟨by rfl,?_⟩) ?_ ?_
      rotate_left
      ·intro w'
       go_simp
       with_reducible rfl
      rotate_left
      ·simp only [Act.put,List.setIfInBounds_toArray,List.set_cons_zero,List.set_cons_succ,i64_w,i32_w]
       rfl
      refine pure_ (i:=4) (N:=some 78) (v:=?_) (a':=?_) #[true,false,true,true,true,false,false,false,false] rfl rfl (any_of HT_.out (by kernel_rfl)) (fun _ _ _ h => h) (Or.inl ⟨by rfl,?_⟩) ?_ ?_
      rotate_left
      ·intro w'
       go_simp
       with_reducible rfl
      rotate_left
      ·simp only [Act.put,List.setIfInBounds_toArray,List.set_cons_zero,List.set_cons_succ,i64_w,i32_w]
       rfl
      refine take_ (i:=1) (N:=some 75) (v:=?_) (a':=?_) #[true,true,true,true,true,false,false,false,false] rfl rfl (take_ofW HT_.out HW_.out (by kernel_rfl)) (fun _ _ _ h => h) (Or.inl ⟨by rfl,?_⟩) hHeld ?_ ?_
      rotate_left
      ·intro w' s0
       go_simp
       with_reducible rfl
      rotate_left
      ·simp only [Act.put,List.setIfInBounds_toArray,List.set_cons_zero,List.set_cons_succ,i64_w,i32_w]
       rfl
      refine one_ (i:=5) (N:=some 79) #[true,true,true,true,true,true,false,false,false] rfl rfl (one_of HT_.out (by kernel_rfl)) (by decide) (fun K hK => ?_)
      refine goes_ Tryd.func25 (by kernel_rfl) rfl #[.string (⟨#[0]⟩ : ByteArray),.int .i64 (wrap64 (256 - (x4_10.length : Int)))] (by rfl) rfl rfl (by (try simp only [List.map_toArray,List.map_cons,List.map_nil]);first|done|rfl|(simp only [List.length_drop,List.length_take];rfl)|(simp (disch:=omega) only [u64_in];rfl)) ?_
      with_reducible refine (strings_Repeat.calls (⟨#[0]⟩ : ByteArray) (wrap64 (256 - (x4_10.length : Int))) t209 _ A64.out).mono ?_
      rintro e w69 ⟨rfl,hb⟩
      refine ⟨_,rfl,?_⟩
      replace HO_4:=Aside0.mk (Kd.R_below (by (with_reducible repeat (first|apply zk1|apply zk2|apply zk3));exact HO_4.out) hb)
      replace BK174:=Aside0.mk (blk_below (g:=gb174) (o:=.cells #[.bool a0_0,.slice A0_1 l0_1.length c0_1,.slice A0_2 l0_2.length c0_2,.slice A0_3 l0_3.length c0_3] 27 (0,0)) (by (with_reducible repeat (first|apply zb1|apply zb2|apply zb3));exact BK174.out) hb)
      replace HB:=Aside0.mk (below_step (by repeat (first|(with_reducible first|exact HB.out|apply zl1|apply zl2|apply zl3|refine below_set ?_ GE174.out)|exact HB.out)) hb)
      (try clear hb)
      (try clear hb2)
      (try clear hk)
      (try clear hi)
      refine hK.out _ _ ((own_string (P:=Tryd.prog) Tryd.underlying52 Tryd.underlying5 Tryd.underlying9 (Kd.own_of_R HO_4.out))) (fun hHeld => ?_)
      clear hK K
      refine norm_ (a':=?_) ?_ ?_
      rotate_left
      ·show Act.put _ (some 79) _ = _
       simp only [Act.put,List.setIfInBounds_toArray,List.set_cons_zero,List.set_cons_succ,i64_w,i32_w]
       rfl
      refine pure_ (i:=6) (N:=some 80) (v:=?_) (a':=?_) #[true,true,true,true,true,true,true,false,false] rfl rfl (any_of HT_.out (by kernel_rfl)) (fun _ _ _ h => h) (Or.inl ⟨by rfl,?_⟩) ?_ ?_
      rotate_left
      ·intro w'
       go_simp
       with_reducible rfl
      rotate_left
      ·simp only [Act.put,List.setIfInBounds_toArray,List.set_cons_zero,List.set_cons_succ,i64_w,i32_w]
       rfl
      refine pure_ (i:=7) (N:=some 2) (v:=?_) (a':=?_) #[true,true,true,true,true,true,true,true,false] rfl rfl (any_of HT_.out (by kernel_rfl)) (fun _ _ _ h => h) (Or.inl ⟨by rfl,?_⟩) ?_ ?_
      rotate_left
      ·intro w'
       go_simp
       with_reducible rfl
      rotate_left
      ·simp only [Act.put,List.setIfInBounds_toArray,List.set_cons_zero,List.set_cons_succ,i64_w,i32_w]
       rfl
      refine pure_ (i:=8) (N:=some 3) (v:=?_) (a':=?_) #[true,true,true,true,true,true,true,true,true] rfl rfl (any_of HT_.out (by kernel_rfl)) (fun _ _ _ h => h) (Or.inl ⟨by rfl,?_⟩) ?_ ?_
      rotate_left
      ·intro w'
       go_simp
       with_reducible rfl
      rotate_left
      ·simp only [Act.put,List.setIfInBounds_toArray,List.set_cons_zero,List.set_cons_succ,i64_w,i32_w]
       rfl
      refine done_ (done_of HT_.out (by kernel_rfl)) ?_
      try go_wp2
      go_ret2
      exact ⟨by first|(with_reducible rfl)|(simp only [isEmpty_bne,Bool.not_not] <;> rfl)|rfl|(simp [*,errW_none,errW_some] <;> rfl),by repeat (first|(with_reducible first|exact HB.out|apply zl1|apply zl2|apply zl3|refine below_set ?_ GE174.out)|exact HB.out)⟩
     ·rw [if_neg c65] at H
      exact absurd H (by simp)
 ·replace c3:=Bool.eq_false_iff.mpr c3
  subst c3
  have H1 : (some ((⟨#[]⟩ : ByteArray),4)) = some (r1,r2):=by rw [if_neg (show ¬ (false = true) by decide)] at H;exact H
  clear H
  have H:=H1
  clear H1
  simp only [Option.some.injEq,Prod.mk.injEq] at H
  obtain ⟨rfl,rfl⟩:=H
  go_enter Tryd.func9,Tryd.ntmps9
  go_wp2_with (first|((with_reducible refine gate_dst (N:=1) rfl ?_);refine box_event ?hg (N:=1) ?hd (cs:=#[.bool a0_0,.slice A0_1 l0_1.length c0_1,.slice A0_2 l0_2.length c0_2,.slice A0_3 l0_3.length c0_3]) (t:=27) ?hr ?_;(case hd => rfl);(case hg => rfl);(case hr => first|(go_simp;done)|(go_simp;rfl));intro gb174 hg w71 hbox hb;have BK174:=Aside0.mk (hbox);have GW174:=Aside0.mk ((by rw [hg];exact (below_size (by repeat (first|(with_reducible first|exact HB.out|apply zl1|apply zl2|apply zl3)|exact HB.out))) : w.heap.size ≤ gb174));have GE174:=Aside0.mk ((by rw [hg];exact (below_size (by repeat (first|(with_reducible first|exact HB.out|apply zl1|apply zl2|apply zl3)|exact HB.out))) : w.heap.size ≤ gb174));replace HB:=Aside0.mk (below_step (by repeat (first|(with_reducible first|exact HB.out|apply zl1|apply zl2|apply zl3)|exact HB.out)) hb);clear hb hbox hg;have hcz72_0 : w71.cell? ⟨gb174,0,none⟩ = some (.bool a0_0):=(blk_cell BK174.out 0).trans rfl;have hcz72_1 : w71.cell? ⟨gb174,1,none⟩ = some (.slice A0_1 l0_1.length c0_1):=(blk_cell BK174.out 1).trans rfl;have hcz72_2 : w71.cell? ⟨gb174,2,none⟩ = some (.slice A0_2 l0_2.length c0_2):=(blk_cell BK174.out 2).trans rfl;have hcz72_3 : w71.cell? ⟨gb174,3,none⟩ = some (.slice A0_3 l0_3.length c0_3):=(blk_cell BK174.out 3).trans rfl;have hfz72_0:=blk_frozen BK174.out 0;have hfz72_1:=blk_frozen BK174.out 1;have hfz72_2:=blk_frozen BK174.out 2;have hfz72_3:=blk_frozen BK174.out 3)|((with_reducible refine gate_callee (f:=18) rfl ?_);refine goesL_ (some 11) rfl rfl Tryd.func18 (by kernel_rfl) rfl #[.agg #[.bool a0_0,.slice A0_1 l0_1.length c0_1,.slice A0_2 l0_2.length c0_2,.slice A0_3 l0_3.length c0_3]] rfl (by (try simp only [List.map_toArray,List.map_cons,List.map_nil]);first|done|rfl|(simp only [List.length_drop,List.length_take];rfl)|(simp (disch:=omega) only [u64_in];rfl)) ?_;(with_reducible refine (node_right.calls k a0_0 _ _ l0_1 _ _ l0_2 _ _ l0_3 false _ ?side1 ?side2 ?side3 ?side4 ?side5 ?side6 A2.out).mono ?_);(case side1 => repeat (first|exact (Kd.C_below HR0_1.out HB.out)|(with_reducible refine Kd.C_alloc ?_ _)|(with_reducible refine Kd.C_drewN ?_ _)|(with_reducible refine Kd.C_drew ?_)));(case side2 => exact HC0_1.out);(case side3 => repeat (first|exact (Kd.C_below HR0_2.out HB.out)|(with_reducible refine Kd.C_alloc ?_ _)|(with_reducible refine Kd.C_drewN ?_ _)|(with_reducible refine Kd.C_drew ?_)));(case side4 => exact HC0_2.out);(case side5 => repeat (first|exact (Kd.C_below HR0_3.out HB.out)|(with_reducible refine Kd.C_alloc ?_ _)|(with_reducible refine Kd.C_drewN ?_ _)|(with_reducible refine Kd.C_drew ?_)));(case side6 => exact HC0_3.out);rintro e w73 ⟨rfl,hb⟩;refine ⟨_,rfl,?_⟩;replace BK174:=Aside0.mk (blk_below (g:=gb174) (o:=.cells #[.bool a0_0,.slice A0_1 l0_1.length c0_1,.slice A0_2 l0_2.length c0_2,.slice A0_3 l0_3.length c0_3] 27 (0,0)) (by (with_reducible repeat (first|apply zb1|apply zb2|apply zb3));exact BK174.out) hb);replace HB:=Aside0.mk (below_step (by repeat (first|(with_reducible first|exact HB.out|apply zl1|apply zl2|apply zl3|refine below_set ?_ GE174.out)|exact HB.out)) hb);(try clear hb)))
  go_ret2
  exact ⟨by first|(with_reducible rfl)|(simp only [isEmpty_bne,Bool.not_not] <;> rfl)|rfl|(simp [*,errW_none,errW_some] <;> rfl),by repeat (first|(with_reducible first|exact HB.out|apply zl1|apply zl2|apply zl3|refine below_set ?_ GE174.out)|exact HB.out)⟩

end Go.Proofs.YtokjbncjapndgaaDoor.PAll
