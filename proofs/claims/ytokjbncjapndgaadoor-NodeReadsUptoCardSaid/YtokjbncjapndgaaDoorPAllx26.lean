/- Printed walks of the functions that the laws reach: each function, what it computes, and that it does. No conditions. -/
import Derived.Test.YtokjbncjapndgaaDoorPAllx0
import Derived.Test.YtokjbncjapndgaaDoorPAllx21
import Derived.Test.YtokjbncjapndgaaDoorPAllx23
import Derived.Test.YtokjbncjapndgaaDoorPAllx24
import Derived.Test.YtokjbncjapndgaaDoorPAllx25
namespace Go.Proofs.YtokjbncjapndgaaDoor.PAll
open Go.RowKit Go.Proofs.YtokjbncjapndgaaDoor.XW Go.Proofs.YtokjbncjapndgaaDoor.XLib Go.Proofs.YtokjbncjapndgaaDoorW.PrintWords Go.Proofs.YtokjbncjapndgaaDoorW.PrintLast Go.Proofs.YtokjbncjapndgaaDoorW.PrintMore
attribute [local go_sem] max2_int min2_int max_two min_two max_three min_three max_four min_four   -- for this text's walks alone
set_option linter.unusedVariables false
set_option linter.unusedSimpArgs false

/-! ### factotumref09_Write: function 22 -/
mutual
def factotumref09_Write.l0:Nat→ByteArray→Int→Bool→List (S44)→List ByteArray→List Int→Option (ByteArray × Int)
 | 0,_,_,_,_,_,_=>none
 | k + 1,x4,x5,x333000,x333001,x333002,x333003=>if x5 < (x333001.length:Int) then (if 0≤x5 then ((factotumref01_Str.f k ((rd_T44 x333001 x5).f0)).bind fun t341=>((factotumref01_Str.f k ((rd_T44 x333001 x5).f1)).bind fun t343=>(if t341.size + t343.size≤9223372036854775807 then (if x4.size + (t341 ++ t343).size≤9223372036854775807 then (factotumref09_Write.l0 k (x4 ++ (t341 ++ t343)) (wrap64 (x5 + 1)) x333000 x333001 x333002 x333003) else (none)) else (none)))) else (none)) else (if 0≤(wrap64 (256 - (x4.size:Int))) then (if (wrap64 (256 - (x4.size:Int)):Int).toNat≤281474976710656 then ((some (List.replicate (wrap64 (256 - (x4.size:Int)):Int).toNat 0:List Int)).bind fun y337=>(if x4.size + (strOfNums y337).size≤9223372036854775807 then (some (x4 ++ (strOfNums y337),0)) else (none))) else (none)) else (none))
def factotumref09_Write.l1:Nat→ByteArray→Int→Bool→List (S44)→List ByteArray→List Int→Option (ByteArray × Int)
 | 0,_,_,_,_,_,_=>none
 | k + 1,x4,x6,x333000,x333001,x333002,x333003=>if x6 < (x333002.length:Int) then (if 0≤x6 then ((factotumref01_Str.f k (rdOf ByteArray.empty x333002 x6)).bind fun t352=>(if 0≤(wrap64 (x6 + 1)) then (if (wrap64 (x6 + 1)) < (x333003.length:Int) then ((factotumref01_Num.f k (IntKind.u64.wrap (rd x333003 (wrap64 (x6 + 1)))) 2).bind fun t354=>(if t352.size + t354.size≤9223372036854775807 then (if x4.size + (t352 ++ t354).size≤9223372036854775807 then (factotumref09_Write.l1 k (x4 ++ (t352 ++ t354)) (wrap64 (x6 + 1)) x333000 x333001 x333002 x333003) else (none)) else (none))) else (none)) else (none))) else (none)) else (if 0≤(wrap64 (256 - (x4.size:Int))) then (if (wrap64 (256 - (x4.size:Int)):Int).toNat≤281474976710656 then ((some (List.replicate (wrap64 (256 - (x4.size:Int)):Int).toNat 0:List Int)).bind fun y348=>(if x4.size + (strOfNums y348).size≤9223372036854775807 then (some (x4 ++ (strOfNums y348),0)) else (none))) else (none)) else (none))
end
def factotumref09_Write.f (k:Nat) (a0_0:Bool) (l0_1:List (S44)) (l0_2:List ByteArray) (l0_3:List Int):Option (ByteArray × Int):=(factotumref09_Right.f k a0_0 l0_1 l0_2 l0_3).bind fun t333=>(if t333=true then ((factotumref09_Size.f k a0_0 l0_1 l0_2 l0_3).bind fun t334=>(if t334 > 256 then (some ((⟨#[]⟩:ByteArray),3)) else (if a0_0=true then ((factotumref01_Num.f k 1 1).bind fun t335=>((factotumref01_Num.f k (IntKind.u64.wrap ((l0_1.length:Int))) 1).bind fun t336=>(if t335.size + t336.size≤9223372036854775807 then (factotumref09_Write.l0 k (t335 ++ t336) 0 a0_0 l0_1 l0_2 l0_3) else (none)))) else ((factotumref01_Num.f k 2 1).bind fun t344=>((factotumref01_Num.f k (IntKind.u64.wrap ((l0_2.length:Int))) 1).bind fun t345=>(if t344.size + t345.size≤9223372036854775807 then (if 0 < (l0_3.length:Int) then ((factotumref01_Num.f k (IntKind.u64.wrap (rd l0_3 0)) 2).bind fun t347=>(if (t344 ++ t345).size + t347.size≤9223372036854775807 then (factotumref09_Write.l1 k ((t344 ++ t345) ++ t347) 0 a0_0 l0_1 l0_2 l0_3) else (none))) else (none)) else (none))))))) else (some ((⟨#[]⟩:ByteArray),4)))
theorem factotumref09_Write.mono_l:∀ k,(∀ y0 y1 y2 y3 y4 y5,LeO (factotumref09_Write.l0 k y0 y1 y2 y3 y4 y5) (factotumref09_Write.l0 (k + 1) y0 y1 y2 y3 y4 y5))∧(∀ y0 y1 y2 y3 y4 y5,LeO (factotumref09_Write.l1 k y0 y1 y2 y3 y4 y5) (factotumref09_Write.l1 (k + 1) y0 y1 y2 y3 y4 y5))
 | 0=>⟨fun _ _ _ _ _ _ r h=>by simp [factotumref09_Write.l0] at h,fun _ _ _ _ _ _ r h=>by simp [factotumref09_Write.l1] at h⟩
 | k + 1=>by
  obtain ⟨ih0,ih1⟩:=factotumref09_Write.mono_l k
  refine ⟨?_,?_⟩
  ·intro y0 y1 y2 y3 y4 y5
   unfold factotumref09_Write.l0
   repeat' first
   | (with_reducible exact ih0 _ _ _ _ _ _)
   | (with_reducible exact ih1 _ _ _ _ _ _)
   | (with_reducible exact factotumref01_Num.mono _ _ _)
   | (with_reducible exact factotumref01_Str.mono _ _)
   | (with_reducible exact factotumref09_Right.mono _ _ _ _ _)
   | (with_reducible exact factotumref09_Size.mono _ _ _ _ _)
   | (with_reducible exact LeO.refl _)
   | (with_reducible exact LeO.none _)
   | (with_reducible refine LeO.ite ?_ ?_)
   | (with_reducible refine LeO.bind ?_ (fun _=>?_))
   | exact ih0 _ _ _ _ _ _
   | exact ih1 _ _ _ _ _ _
   | exact factotumref01_Num.mono _ _ _
   | exact factotumref01_Str.mono _ _
   | exact factotumref09_Right.mono _ _ _ _ _
   | exact factotumref09_Size.mono _ _ _ _ _
   | exact LeO.none _
   | refine LeO.ite ?_ ?_
   | refine LeO.bind ?_ (fun _=>?_)
  ·intro y0 y1 y2 y3 y4 y5
   unfold factotumref09_Write.l1
   repeat' first
   | (with_reducible exact ih0 _ _ _ _ _ _)
   | (with_reducible exact ih1 _ _ _ _ _ _)
   | (with_reducible exact factotumref01_Num.mono _ _ _)
   | (with_reducible exact factotumref01_Str.mono _ _)
   | (with_reducible exact factotumref09_Right.mono _ _ _ _ _)
   | (with_reducible exact factotumref09_Size.mono _ _ _ _ _)
   | (with_reducible exact LeO.refl _)
   | (with_reducible exact LeO.none _)
   | (with_reducible refine LeO.ite ?_ ?_)
   | (with_reducible refine LeO.bind ?_ (fun _=>?_))
   | exact ih0 _ _ _ _ _ _
   | exact ih1 _ _ _ _ _ _
   | exact factotumref01_Num.mono _ _ _
   | exact factotumref01_Str.mono _ _
   | exact factotumref09_Right.mono _ _ _ _ _
   | exact factotumref09_Size.mono _ _ _ _ _
   | exact LeO.none _
   | refine LeO.ite ?_ ?_
   | refine LeO.bind ?_ (fun _=>?_)
theorem factotumref09_Write.mono:∀ a0 a1 a2 a3 k,LeO (factotumref09_Write.f k a0 a1 a2 a3) (factotumref09_Write.f (k + 1) a0 a1 a2 a3):=by
 intro a0 a1 a2 a3 k
 obtain ⟨ih0,ih1⟩:=factotumref09_Write.mono_l k
 unfold factotumref09_Write.f
 repeat' first
   | (with_reducible exact ih0 _ _ _ _ _ _)
   | (with_reducible exact ih1 _ _ _ _ _ _)
   | (with_reducible exact factotumref01_Num.mono _ _ _)
   | (with_reducible exact factotumref01_Str.mono _ _)
   | (with_reducible exact factotumref09_Right.mono _ _ _ _ _)
   | (with_reducible exact factotumref09_Size.mono _ _ _ _ _)
   | (with_reducible exact LeO.refl _)
   | (with_reducible exact LeO.none _)
   | (with_reducible refine LeO.ite ?_ ?_)
   | (with_reducible refine LeO.bind ?_ (fun _=>?_))
   | exact ih0 _ _ _ _ _ _
   | exact ih1 _ _ _ _ _ _
   | exact factotumref01_Num.mono _ _ _
   | exact factotumref01_Str.mono _ _
   | exact factotumref09_Right.mono _ _ _ _ _
   | exact factotumref09_Size.mono _ _ _ _ _
   | exact LeO.none _
   | refine LeO.ite ?_ ?_
   | refine LeO.bind ?_ (fun _=>?_)
def factotumref09_Write.T7:Bool × List (List Nat × List Nat):=(true,[([],[]),([],[]),([1],[1]),([2],[2]),([3],[3]),([4,0],[4]),([0,5],[0,5]),([6,5,0,1,2,3,4,5,6],[6])])
def factotumref09_Write.B7:List Nat:=[0,0,2,6,14,31,63,127]
theorem factotumref09_Write.tab7:rtab .any (opsOf Tryd.f22 7)=factotumref09_Write.T7:=by kernel_rfl
theorem factotumref09_Write.bits7:waitsOk factotumref09_Write.T7.2 factotumref09_Write.B7=true:=by kernel_rfl
def factotumref09_Write.T11:Bool × List (List Nat × List Nat):=(true,[([],[]),([],[]),([1],[1]),([],[]),([2,3],[2,3]),([4],[4]),([5],[5]),([6],[6]),([],[]),([8],[8]),([],[]),([9,10],[9,10]),([11],[11]),([12],[12]),([13,7],[13]),([7,14],[7,14]),([0,15],[0,15]),([16,14,0,1,2,3,4,5,6,7,8,9,10,11,12,13,14,15,16],[0,16])])
def factotumref09_Write.B11:List Nat:=[0,0,2,0,14,30,62,126,0,256,0,1792,3840,7936,16382,32766,65535,131071]
theorem factotumref09_Write.tab11:rtab .any (opsOf Tryd.f22 11)=factotumref09_Write.T11:=by kernel_rfl
theorem factotumref09_Write.bits11:waitsOk factotumref09_Write.T11.2 factotumref09_Write.B11=true:=by kernel_rfl
def factotumref09_Write.T12:Bool × List (List Nat × List Nat):=(true,[([],[]),([],[]),([1],[1]),([2],[2]),([3],[3]),([4,0],[4]),([0,5],[0,5]),([],[]),([7],[7]),([8],[8]),([9],[9]),([10],[10]),([11,5],[11]),([6,12],[6,12]),([13,12,0,1,2,3,4,5,6,7,8,9,10,11,12,13],[13])])
def factotumref09_Write.B12:List Nat:=[0,0,2,6,14,31,63,0,128,384,896,1920,4031,8191,16383]
theorem factotumref09_Write.tab12:rtab .any (opsOf Tryd.f22 12)=factotumref09_Write.T12:=by kernel_rfl
theorem factotumref09_Write.bits12:waitsOk factotumref09_Write.T12.2 factotumref09_Write.B12=true:=by kernel_rfl
def factotumref09_Write.T16:Bool × List (List Nat × List Nat):=(true,[([],[]),([],[]),([1],[1]),([],[]),([2,3],[2,3]),([4],[4]),([5],[5]),([],[]),([7],[7]),([],[]),([9],[9]),([8,10],[8,10]),([11],[11]),([12],[12]),([13,6],[13]),([6,14],[6,14]),([0,15],[0,15]),([16,14,0,1,2,3,4,5,6,7,8,9,10,11,12,13,14,15,16],[0,16])])
def factotumref09_Write.B16:List Nat:=[0,0,2,0,14,30,62,0,128,0,512,1920,3968,8064,16382,32766,65535,131071]
theorem factotumref09_Write.tab16:rtab .any (opsOf Tryd.f22 16)=factotumref09_Write.T16:=by kernel_rfl
theorem factotumref09_Write.bits16:waitsOk factotumref09_Write.T16.2 factotumref09_Write.B16=true:=by kernel_rfl
set_option maxHeartbeats 8000000 in
set_option maxRecDepth 100000 in
theorem factotumref09_Write.calls (k:Nat) (a0_0:Bool) (A0_1:Option Addr) (c0_1:Nat) (l0_1:List (S44)) (A0_2:Option Addr) (c0_2:Nat) (l0_2:List ByteArray) (A0_3:Option Addr) (c0_3:Nat) (l0_3:List Int) (r1:ByteArray) (r2:Int) (w:World) (hr0_1:Kd.C k44 w A0_1 l0_1.length l0_1) (hc0_1:l0_1.length≤c0_1) (hr0_2:Kd.C Kd.string w A0_2 l0_2.length l0_2) (hc0_2:l0_2.length≤c0_2) (hr0_3:Kd.C (Kd.int .i64) w A0_3 l0_3.length l0_3) (hc0_3:l0_3.length≤c0_3) (h:factotumref09_Write.f k a0_0 l0_1 l0_2 l0_3=some (r1,r2)) :
  Calls Tryd.prog 22 #[.agg #[.bool a0_0,.slice A0_1 l0_1.length c0_1,.slice A0_2 l0_2.length c0_2,.slice A0_3 l0_3.length c0_3]] w fun e w'=>e=.returned (.tuple #[.string r1,.int .i64 r2])∧Below w.heap.size w w':=by
 have hu27:=Tryd.underlying27
 have HR0_1:=Aside0.mk hr0_1
 have HC0_1:=Aside0.mk hc0_1
 clear hr0_1 hc0_1
 have HR0_2:=Aside0.mk hr0_2
 have HC0_2:=Aside0.mk hc0_2
 clear hr0_2 hc0_2
 have HR0_3:=Aside0.mk hr0_3
 have HC0_3:=Aside0.mk hc0_3
 clear hr0_3 hc0_3
 have HB:=Aside0.mk (Below.refl w.heap.size w)
 have H:((factotumref09_Right.f k a0_0 l0_1 l0_2 l0_3).bind fun t333=>(if t333=true then ((factotumref09_Size.f k a0_0 l0_1 l0_2 l0_3).bind fun t334=>(if t334 > 256 then (some ((⟨#[]⟩:ByteArray),3)) else (if a0_0=true then ((factotumref01_Num.f k 1 1).bind fun t335=>((factotumref01_Num.f k (IntKind.u64.wrap ((l0_1.length:Int))) 1).bind fun t336=>(if t335.size + t336.size≤9223372036854775807 then (factotumref09_Write.l0 k (t335 ++ t336) 0 a0_0 l0_1 l0_2 l0_3) else (none)))) else ((factotumref01_Num.f k 2 1).bind fun t344=>((factotumref01_Num.f k (IntKind.u64.wrap ((l0_2.length:Int))) 1).bind fun t345=>(if t344.size + t345.size≤9223372036854775807 then (if 0 < (l0_3.length:Int) then ((factotumref01_Num.f k (IntKind.u64.wrap (rd l0_3 0)) 2).bind fun t347=>(if (t344 ++ t345).size + t347.size≤9223372036854775807 then (factotumref09_Write.l1 k ((t344 ++ t345) ++ t347) 0 a0_0 l0_1 l0_2 l0_3) else (none))) else (none)) else (none))))))) else (some ((⟨#[]⟩:ByteArray),4))))=some (r1,r2):=h
 clear h
 replace H:=Option.bind_eq_some_iff.mp H
 obtain ⟨t333,A20,H⟩:=H
 replace H:(if t333=true then ((factotumref09_Size.f k a0_0 l0_1 l0_2 l0_3).bind fun t334=>(if t334 > 256 then (some ((⟨#[]⟩:ByteArray),3)) else (if a0_0=true then ((factotumref01_Num.f k 1 1).bind fun t335=>((factotumref01_Num.f k (IntKind.u64.wrap ((l0_1.length:Int))) 1).bind fun t336=>(if t335.size + t336.size≤9223372036854775807 then (factotumref09_Write.l0 k (t335 ++ t336) 0 a0_0 l0_1 l0_2 l0_3) else (none)))) else ((factotumref01_Num.f k 2 1).bind fun t344=>((factotumref01_Num.f k (IntKind.u64.wrap ((l0_2.length:Int))) 1).bind fun t345=>(if t344.size + t345.size≤9223372036854775807 then (if 0 < (l0_3.length:Int) then ((factotumref01_Num.f k (IntKind.u64.wrap (rd l0_3 0)) 2).bind fun t347=>(if (t344 ++ t345).size + t347.size≤9223372036854775807 then (factotumref09_Write.l1 k ((t344 ++ t345) ++ t347) 0 a0_0 l0_1 l0_2 l0_3) else (none))) else (none)) else (none))))))) else (some ((⟨#[]⟩:ByteArray),4)))=some (r1,r2):=H
 have A2:=Aside0.mk A20
 clear A20
 by_cases c3:t333=true
 ·subst c3
  have H1:((factotumref09_Size.f k a0_0 l0_1 l0_2 l0_3).bind fun t334=>(if t334 > 256 then (some ((⟨#[]⟩:ByteArray),3)) else (if a0_0=true then ((factotumref01_Num.f k 1 1).bind fun t335=>((factotumref01_Num.f k (IntKind.u64.wrap ((l0_1.length:Int))) 1).bind fun t336=>(if t335.size + t336.size≤9223372036854775807 then (factotumref09_Write.l0 k (t335 ++ t336) 0 a0_0 l0_1 l0_2 l0_3) else (none)))) else ((factotumref01_Num.f k 2 1).bind fun t344=>((factotumref01_Num.f k (IntKind.u64.wrap ((l0_2.length:Int))) 1).bind fun t345=>(if t344.size + t345.size≤9223372036854775807 then (if 0 < (l0_3.length:Int) then ((factotumref01_Num.f k (IntKind.u64.wrap (rd l0_3 0)) 2).bind fun t347=>(if (t344 ++ t345).size + t347.size≤9223372036854775807 then (factotumref09_Write.l1 k ((t344 ++ t345) ++ t347) 0 a0_0 l0_1 l0_2 l0_3) else (none))) else (none)) else (none)))))))=some (r1,r2):=by rw [if_pos rfl] at H;exact H
  clear H
  have H:=H1
  clear H1
  replace H:=Option.bind_eq_some_iff.mp H
  obtain ⟨t334,A40,H⟩:=H
  replace H:(if t334 > 256 then (some ((⟨#[]⟩:ByteArray),3)) else (if a0_0=true then ((factotumref01_Num.f k 1 1).bind fun t335=>((factotumref01_Num.f k (IntKind.u64.wrap ((l0_1.length:Int))) 1).bind fun t336=>(if t335.size + t336.size≤9223372036854775807 then (factotumref09_Write.l0 k (t335 ++ t336) 0 a0_0 l0_1 l0_2 l0_3) else (none)))) else ((factotumref01_Num.f k 2 1).bind fun t344=>((factotumref01_Num.f k (IntKind.u64.wrap ((l0_2.length:Int))) 1).bind fun t345=>(if t344.size + t345.size≤9223372036854775807 then (if 0 < (l0_3.length:Int) then ((factotumref01_Num.f k (IntKind.u64.wrap (rd l0_3 0)) 2).bind fun t347=>(if (t344 ++ t345).size + t347.size≤9223372036854775807 then (factotumref09_Write.l1 k ((t344 ++ t345) ++ t347) 0 a0_0 l0_1 l0_2 l0_3) else (none))) else (none)) else (none))))))=some (r1,r2):=H
  have A4:=Aside0.mk A40
  clear A40
  by_cases c5:t334 > 256
  ·rw [if_pos c5] at H
   have c5b0:decide (256 < t334)=true:=decide_eq_true c5
   clear c5
   simp only [Option.some.injEq,Prod.mk.injEq] at H
   obtain ⟨rfl,rfl⟩:=H
   go_enter Tryd.func22,Tryd.ntmps22
   go_wp2_with (first|((with_reducible refine gate_dst (N:=1) rfl ?_);refine box_event ?hg (N:=1) ?hd (cs:=#[.bool a0_0,.slice A0_1 l0_1.length c0_1,.slice A0_2 l0_2.length c0_2,.slice A0_3 l0_3.length c0_3]) (t:=27) ?hr ?_;(case hd=>rfl);(case hg=>rfl);(case hr=>first|(go_simp;done)|(go_simp;rfl));intro gb332 hg w6 hbox hb;have BK332:=Aside0.mk (hbox);have GW332:=Aside0.mk ((by rw [hg];exact (below_size (by repeat (first|(with_reducible first|exact HB.out|apply zl1|apply zl2|apply zl3)|exact HB.out))):w.heap.size≤gb332));have GE332:=Aside0.mk ((by rw [hg];exact (below_size (by repeat (first|(with_reducible first|exact HB.out|apply zl1|apply zl2|apply zl3)|exact HB.out))):w.heap.size≤gb332));replace HB:=Aside0.mk (below_step (by repeat (first|(with_reducible first|exact HB.out|apply zl1|apply zl2|apply zl3)|exact HB.out)) hb);clear hb hbox hg;have hcz7_0:w6.cell? ⟨gb332,0,none⟩=some (.bool a0_0):=(blk_cell BK332.out 0).trans rfl;have hcz7_1:w6.cell? ⟨gb332,1,none⟩=some (.slice A0_1 l0_1.length c0_1):=(blk_cell BK332.out 1).trans rfl;have hcz7_2:w6.cell? ⟨gb332,2,none⟩=some (.slice A0_2 l0_2.length c0_2):=(blk_cell BK332.out 2).trans rfl;have hcz7_3:w6.cell? ⟨gb332,3,none⟩=some (.slice A0_3 l0_3.length c0_3):=(blk_cell BK332.out 3).trans rfl;have hfz7_0:=blk_frozen BK332.out 0;have hfz7_1:=blk_frozen BK332.out 1;have hfz7_2:=blk_frozen BK332.out 2;have hfz7_3:=blk_frozen BK332.out 3)|((with_reducible refine gate_callee (f:=48) rfl ?_);refine goesL_ (some 8) rfl rfl Tryd.func48 (by kernel_rfl) rfl #[.agg #[.bool a0_0,.slice A0_1 l0_1.length c0_1,.slice A0_2 l0_2.length c0_2,.slice A0_3 l0_3.length c0_3]] rfl (by (try simp only [List.map_toArray,List.map_cons,List.map_nil]);first|done|rfl|(simp only [List.length_drop,List.length_take];rfl)|(simp (disch:=omega) only [u64_in];rfl)) ?_;(with_reducible refine (factotumref09_Right.calls k a0_0 _ _ l0_1 _ _ l0_2 _ _ l0_3 true _ ?side1 ?side2 ?side3 ?side4 ?side5 ?side6 A2.out).mono ?_);(case side1=>repeat (first|exact (Kd.C_below HR0_1.out HB.out)|(with_reducible refine Kd.C_alloc ?_ _)|(with_reducible refine Kd.C_drewN ?_ _)|(with_reducible refine Kd.C_drew ?_)));(case side2=>exact HC0_1.out);(case side3=>repeat (first|exact (Kd.C_below HR0_2.out HB.out)|(with_reducible refine Kd.C_alloc ?_ _)|(with_reducible refine Kd.C_drewN ?_ _)|(with_reducible refine Kd.C_drew ?_)));(case side4=>exact HC0_2.out);(case side5=>repeat (first|exact (Kd.C_below HR0_3.out HB.out)|(with_reducible refine Kd.C_alloc ?_ _)|(with_reducible refine Kd.C_drewN ?_ _)|(with_reducible refine Kd.C_drew ?_)));(case side6=>exact HC0_3.out);rintro e w8 ⟨rfl,hb⟩;refine ⟨_,rfl,?_⟩;replace BK332:=Aside0.mk (blk_below (g:=gb332) (o:=.cells #[.bool a0_0,.slice A0_1 l0_1.length c0_1,.slice A0_2 l0_2.length c0_2,.slice A0_3 l0_3.length c0_3] 27 (0,0)) (by (with_reducible repeat (first|apply zb1|apply zb2|apply zb3));exact BK332.out) hb);replace HB:=Aside0.mk (below_step (by repeat (first|(with_reducible first|exact HB.out|apply zl1|apply zl2|apply zl3|refine below_set ?_ GE332.out)|exact HB.out)) hb);(try clear hb);have hcz9_0:w8.cell? ⟨gb332,0,none⟩=some (.bool a0_0):=(blk_cell BK332.out 0).trans rfl;have hcz9_1:w8.cell? ⟨gb332,1,none⟩=some (.slice A0_1 l0_1.length c0_1):=(blk_cell BK332.out 1).trans rfl;have hcz9_2:w8.cell? ⟨gb332,2,none⟩=some (.slice A0_2 l0_2.length c0_2):=(blk_cell BK332.out 2).trans rfl;have hcz9_3:w8.cell? ⟨gb332,3,none⟩=some (.slice A0_3 l0_3.length c0_3):=(blk_cell BK332.out 3).trans rfl;have hfz9_0:=blk_frozen BK332.out 0;have hfz9_1:=blk_frozen BK332.out 1;have hfz9_2:=blk_frozen BK332.out 2;have hfz9_3:=blk_frozen BK332.out 3)|((with_reducible refine gate_callee (f:=49) rfl ?_);refine goesL_ (some 11) rfl rfl Tryd.func49 (by kernel_rfl) rfl #[.agg #[.bool a0_0,.slice A0_1 l0_1.length c0_1,.slice A0_2 l0_2.length c0_2,.slice A0_3 l0_3.length c0_3]] rfl (by (try simp only [List.map_toArray,List.map_cons,List.map_nil]);first|done|rfl|(simp only [List.length_drop,List.length_take];rfl)|(simp (disch:=omega) only [u64_in];rfl)) ?_;(with_reducible refine (factotumref09_Size.calls k a0_0 _ _ l0_1 _ _ l0_2 _ _ l0_3 t334 _ ?side1 ?side2 ?side3 ?side4 ?side5 ?side6 A4.out).mono ?_);(case side1=>repeat (first|exact (Kd.C_below HR0_1.out HB.out)|(with_reducible refine Kd.C_alloc ?_ _)|(with_reducible refine Kd.C_drewN ?_ _)|(with_reducible refine Kd.C_drew ?_)));(case side2=>exact HC0_1.out);(case side3=>repeat (first|exact (Kd.C_below HR0_2.out HB.out)|(with_reducible refine Kd.C_alloc ?_ _)|(with_reducible refine Kd.C_drewN ?_ _)|(with_reducible refine Kd.C_drew ?_)));(case side4=>exact HC0_2.out);(case side5=>repeat (first|exact (Kd.C_below HR0_3.out HB.out)|(with_reducible refine Kd.C_alloc ?_ _)|(with_reducible refine Kd.C_drewN ?_ _)|(with_reducible refine Kd.C_drew ?_)));(case side6=>exact HC0_3.out);rintro e w10 ⟨rfl,hb⟩;refine ⟨_,rfl,?_⟩;replace BK332:=Aside0.mk (blk_below (g:=gb332) (o:=.cells #[.bool a0_0,.slice A0_1 l0_1.length c0_1,.slice A0_2 l0_2.length c0_2,.slice A0_3 l0_3.length c0_3] 27 (0,0)) (by (with_reducible repeat (first|apply zb1|apply zb2|apply zb3));exact BK332.out) hb);replace HB:=Aside0.mk (below_step (by repeat (first|(with_reducible first|exact HB.out|apply zl1|apply zl2|apply zl3|refine below_set ?_ GE332.out)|exact HB.out)) hb);(try clear hb)))
   go_ret2
   exact ⟨by first|(with_reducible rfl)|(simp only [isEmpty_bne,Bool.not_not] <;> rfl)|rfl|(simp [*,errW_none,errW_some] <;> rfl),by repeat (first|(with_reducible first|exact HB.out|apply zl1|apply zl2|apply zl3|refine below_set ?_ GE332.out)|exact HB.out)⟩
  ·rw [if_neg c5] at H
   have c5b0:decide (256 < t334)=false:=decide_eq_false c5
   clear c5
   by_cases c11:a0_0=true
   ·subst c11
    have H1:((factotumref01_Num.f k 1 1).bind fun t335=>((factotumref01_Num.f k (IntKind.u64.wrap ((l0_1.length:Int))) 1).bind fun t336=>(if t335.size + t336.size≤9223372036854775807 then (factotumref09_Write.l0 k (t335 ++ t336) 0 true l0_1 l0_2 l0_3) else (none))))=some (r1,r2):=by rw [if_pos rfl] at H;exact H
    clear H
    have H:=H1
    clear H1
    replace H:=Option.bind_eq_some_iff.mp H
    obtain ⟨t335,A120,H⟩:=H
    replace H:((factotumref01_Num.f k (IntKind.u64.wrap ((l0_1.length:Int))) 1).bind fun t336=>(if t335.size + t336.size≤9223372036854775807 then (factotumref09_Write.l0 k (t335 ++ t336) 0 true l0_1 l0_2 l0_3) else (none)))=some (r1,r2):=H
    have A12:=Aside0.mk A120
    clear A120
    replace H:=Option.bind_eq_some_iff.mp H
    obtain ⟨t336,A130,H⟩:=H
    replace H:(if t335.size + t336.size≤9223372036854775807 then (factotumref09_Write.l0 k (t335 ++ t336) 0 true l0_1 l0_2 l0_3) else (none))=some (r1,r2):=H
    have A13:=Aside0.mk A130
    clear A130
    by_cases c14:t335.size + t336.size≤9223372036854775807
    ·rw [if_pos c14] at H
     have c14b0:=eq_true c14
     have c14b1:decide (t335.size + t336.size≤9223372036854775807)=true:=decide_eq_true c14
     try have c14b2:(9223372036854775807 < t335.size + t336.size)=False:=eq_false (Nat.not_lt.2 c14)
     have H':=Aside0.mk H
     clear H
     go_enter Tryd.func22,Tryd.ntmps22
     try go_wp2_with (first|((with_reducible refine gate_dst (N:=1) rfl ?_);refine box_event ?hg (N:=1) ?hd (cs:=#[.bool true,.slice A0_1 l0_1.length c0_1,.slice A0_2 l0_2.length c0_2,.slice A0_3 l0_3.length c0_3]) (t:=27) ?hr ?_;(case hd=>rfl);(case hg=>rfl);(case hr=>first|(go_simp;done)|(go_simp;rfl));intro gb332 hg w15 hbox hb;have BK332:=Aside0.mk (hbox);have GW332:=Aside0.mk ((by rw [hg];exact (below_size (by repeat (first|(with_reducible first|exact HB.out|apply zl1|apply zl2|apply zl3)|exact HB.out))):w.heap.size≤gb332));have GE332:=Aside0.mk ((by rw [hg];exact (below_size (by repeat (first|(with_reducible first|exact HB.out|apply zl1|apply zl2|apply zl3)|exact HB.out))):w.heap.size≤gb332));replace HB:=Aside0.mk (below_step (by repeat (first|(with_reducible first|exact HB.out|apply zl1|apply zl2|apply zl3)|exact HB.out)) hb);clear hb hbox hg;have hcz16_0:w15.cell? ⟨gb332,0,none⟩=some (.bool true):=(blk_cell BK332.out 0).trans rfl;have hcz16_1:w15.cell? ⟨gb332,1,none⟩=some (.slice A0_1 l0_1.length c0_1):=(blk_cell BK332.out 1).trans rfl;have hcz16_2:w15.cell? ⟨gb332,2,none⟩=some (.slice A0_2 l0_2.length c0_2):=(blk_cell BK332.out 2).trans rfl;have hcz16_3:w15.cell? ⟨gb332,3,none⟩=some (.slice A0_3 l0_3.length c0_3):=(blk_cell BK332.out 3).trans rfl;have hfz16_0:=blk_frozen BK332.out 0;have hfz16_1:=blk_frozen BK332.out 1;have hfz16_2:=blk_frozen BK332.out 2;have hfz16_3:=blk_frozen BK332.out 3)|((with_reducible refine gate_callee (f:=48) rfl ?_);refine goesL_ (some 8) rfl rfl Tryd.func48 (by kernel_rfl) rfl #[.agg #[.bool true,.slice A0_1 l0_1.length c0_1,.slice A0_2 l0_2.length c0_2,.slice A0_3 l0_3.length c0_3]] rfl (by (try simp only [List.map_toArray,List.map_cons,List.map_nil]);first|done|rfl|(simp only [List.length_drop,List.length_take];rfl)|(simp (disch:=omega) only [u64_in];rfl)) ?_;(with_reducible refine (factotumref09_Right.calls k true _ _ l0_1 _ _ l0_2 _ _ l0_3 true _ ?side1 ?side2 ?side3 ?side4 ?side5 ?side6 A2.out).mono ?_);(case side1=>repeat (first|exact (Kd.C_below HR0_1.out HB.out)|(with_reducible refine Kd.C_alloc ?_ _)|(with_reducible refine Kd.C_drewN ?_ _)|(with_reducible refine Kd.C_drew ?_)));(case side2=>exact HC0_1.out);(case side3=>repeat (first|exact (Kd.C_below HR0_2.out HB.out)|(with_reducible refine Kd.C_alloc ?_ _)|(with_reducible refine Kd.C_drewN ?_ _)|(with_reducible refine Kd.C_drew ?_)));(case side4=>exact HC0_2.out);(case side5=>repeat (first|exact (Kd.C_below HR0_3.out HB.out)|(with_reducible refine Kd.C_alloc ?_ _)|(with_reducible refine Kd.C_drewN ?_ _)|(with_reducible refine Kd.C_drew ?_)));(case side6=>exact HC0_3.out);rintro e w17 ⟨rfl,hb⟩;refine ⟨_,rfl,?_⟩;replace BK332:=Aside0.mk (blk_below (g:=gb332) (o:=.cells #[.bool true,.slice A0_1 l0_1.length c0_1,.slice A0_2 l0_2.length c0_2,.slice A0_3 l0_3.length c0_3] 27 (0,0)) (by (with_reducible repeat (first|apply zb1|apply zb2|apply zb3));exact BK332.out) hb);replace HB:=Aside0.mk (below_step (by repeat (first|(with_reducible first|exact HB.out|apply zl1|apply zl2|apply zl3|refine below_set ?_ GE332.out)|exact HB.out)) hb);(try clear hb);have hcz18_0:w17.cell? ⟨gb332,0,none⟩=some (.bool true):=(blk_cell BK332.out 0).trans rfl;have hcz18_1:w17.cell? ⟨gb332,1,none⟩=some (.slice A0_1 l0_1.length c0_1):=(blk_cell BK332.out 1).trans rfl;have hcz18_2:w17.cell? ⟨gb332,2,none⟩=some (.slice A0_2 l0_2.length c0_2):=(blk_cell BK332.out 2).trans rfl;have hcz18_3:w17.cell? ⟨gb332,3,none⟩=some (.slice A0_3 l0_3.length c0_3):=(blk_cell BK332.out 3).trans rfl;have hfz18_0:=blk_frozen BK332.out 0;have hfz18_1:=blk_frozen BK332.out 1;have hfz18_2:=blk_frozen BK332.out 2;have hfz18_3:=blk_frozen BK332.out 3)|((with_reducible refine gate_callee (f:=49) rfl ?_);refine goesL_ (some 11) rfl rfl Tryd.func49 (by kernel_rfl) rfl #[.agg #[.bool true,.slice A0_1 l0_1.length c0_1,.slice A0_2 l0_2.length c0_2,.slice A0_3 l0_3.length c0_3]] rfl (by (try simp only [List.map_toArray,List.map_cons,List.map_nil]);first|done|rfl|(simp only [List.length_drop,List.length_take];rfl)|(simp (disch:=omega) only [u64_in];rfl)) ?_;(with_reducible refine (factotumref09_Size.calls k true _ _ l0_1 _ _ l0_2 _ _ l0_3 t334 _ ?side1 ?side2 ?side3 ?side4 ?side5 ?side6 A4.out).mono ?_);(case side1=>repeat (first|exact (Kd.C_below HR0_1.out HB.out)|(with_reducible refine Kd.C_alloc ?_ _)|(with_reducible refine Kd.C_drewN ?_ _)|(with_reducible refine Kd.C_drew ?_)));(case side2=>exact HC0_1.out);(case side3=>repeat (first|exact (Kd.C_below HR0_2.out HB.out)|(with_reducible refine Kd.C_alloc ?_ _)|(with_reducible refine Kd.C_drewN ?_ _)|(with_reducible refine Kd.C_drew ?_)));(case side4=>exact HC0_2.out);(case side5=>repeat (first|exact (Kd.C_below HR0_3.out HB.out)|(with_reducible refine Kd.C_alloc ?_ _)|(with_reducible refine Kd.C_drewN ?_ _)|(with_reducible refine Kd.C_drew ?_)));(case side6=>exact HC0_3.out);rintro e w19 ⟨rfl,hb⟩;refine ⟨_,rfl,?_⟩;replace BK332:=Aside0.mk (blk_below (g:=gb332) (o:=.cells #[.bool true,.slice A0_1 l0_1.length c0_1,.slice A0_2 l0_2.length c0_2,.slice A0_3 l0_3.length c0_3] 27 (0,0)) (by (with_reducible repeat (first|apply zb1|apply zb2|apply zb3));exact BK332.out) hb);replace HB:=Aside0.mk (below_step (by repeat (first|(with_reducible first|exact HB.out|apply zl1|apply zl2|apply zl3|refine below_set ?_ GE332.out)|exact HB.out)) hb);(try clear hb);have hcz20_0:w19.cell? ⟨gb332,0,none⟩=some (.bool true):=(blk_cell BK332.out 0).trans rfl;have hcz20_1:w19.cell? ⟨gb332,1,none⟩=some (.slice A0_1 l0_1.length c0_1):=(blk_cell BK332.out 1).trans rfl;have hcz20_2:w19.cell? ⟨gb332,2,none⟩=some (.slice A0_2 l0_2.length c0_2):=(blk_cell BK332.out 2).trans rfl;have hcz20_3:w19.cell? ⟨gb332,3,none⟩=some (.slice A0_3 l0_3.length c0_3):=(blk_cell BK332.out 3).trans rfl;have hfz20_0:=blk_frozen BK332.out 0;have hfz20_1:=blk_frozen BK332.out 1;have hfz20_2:=blk_frozen BK332.out 2;have hfz20_3:=blk_frozen BK332.out 3))
     replace BK332:=Aside0.mk (blk_drew BK332.out)
     replace HB:=Aside0.mk (below_drew1 HB.out)
     refine start_ (n:=8) (S:=fun w'=>w'.cell? ⟨gb332,0,none⟩=some (.bool true)∧w'.cell? ⟨gb332,1,none⟩=some (.slice A0_1 l0_1.length c0_1)∧w'.cell? ⟨gb332,2,none⟩=some (.slice A0_2 l0_2.length c0_2)∧w'.cell? ⟨gb332,3,none⟩=some (.slice A0_3 l0_3.length c0_3)) (ds:=[]) #[false,false,false,false,false,false,false,false] (by kernel_rfl) rfl rfl ⟨(blk_cell BK332.out 0).trans rfl,(blk_cell BK332.out 1).trans rfl,(blk_cell BK332.out 2).trans rfl,(blk_cell BK332.out 3).trans rfl⟩ (fun hHeld=>?_);refine with_tabW factotumref09_Write.tab7 factotumref09_Write.bits7 (fun HT_ HW_=>?_)
     generalize w19.drew=w21 at BK332 HB hHeld ⊢
     refine pure_ (i:=1) (N:=some 16) (v:=?_) (a':=?_) #[false,true,false,false,false,false,false,false] rfl rfl (any_of HT_.out (by kernel_rfl)) (fun _ _ _ h=>h) (Or.inl ⟨by rfl,?_⟩) ?_ ?_
     rotate_left
     ·intro w'
      go_simp
      with_reducible rfl
     rotate_left
     ·simp only [Act.put,List.setIfInBounds_toArray,List.set_cons_zero,List.set_cons_succ,i64_w,i32_w]
      rfl
     refine take_ (i:=2) (N:=some 17) (v:=?_) (a':=?_) #[false,true,true,false,false,false,false,false] rfl rfl (take_ofW HT_.out HW_.out (by kernel_rfl)) (fun _ _ _ h=>h) (Or.inl ⟨by rfl,?_⟩) hHeld ?_ ?_
     rotate_left
     ·rintro w' ⟨s0,s1,s2,s3⟩
      go_simp
      with_reducible rfl
     rotate_left
     ·simp only [Act.put,List.setIfInBounds_toArray,List.set_cons_zero,List.set_cons_succ,i64_w,i32_w]
      rfl
     refine pure_ (i:=3) (N:=some 18) (v:=?_) (a':=?_) #[false,true,true,true,false,false,false,false] rfl rfl (any_of HT_.out (by kernel_rfl)) (fun _ _ _ h=>h) (Or.inl ⟨by rfl,?_⟩) ?_ ?_
     rotate_left
     ·intro w'
      go_simp
      with_reducible rfl
     rotate_left
     ·simp only [Act.put,List.setIfInBounds_toArray,List.set_cons_zero,List.set_cons_succ,i64_w,i32_w]
      rfl
     refine pure_ (i:=4) (N:=some 19) (v:=?_) (a':=?_) #[false,true,true,true,true,false,false,false] rfl rfl (any_of HT_.out (by kernel_rfl)) (fun _ _ _ h=>h) (Or.inl ⟨by rfl,?_⟩) ?_ ?_
     rotate_left
     ·intro w'
      go_simp
      with_reducible rfl
     rotate_left
     ·simp only [Act.put,List.setIfInBounds_toArray,List.set_cons_zero,List.set_cons_succ,i64_w,i32_w]
      rfl
     refine one_ (i:=0) (N:=some 15) #[true,true,true,true,true,false,false,false] rfl rfl (one_of HT_.out (by kernel_rfl)) (by decide) (fun K hK=>?_)
     refine goes_ Tryd.func50 (by kernel_rfl) rfl #[.int .u64 1,.int .i64 1] (by rfl) rfl rfl (by (try simp only [List.map_toArray,List.map_cons,List.map_nil]);first|done|rfl|(simp only [List.length_drop,List.length_take];rfl)|(simp (disch:=omega) only [u64_in];rfl)) ?_
     with_reducible refine (factotumref01_Num.calls k 1 1 t335 _ A12.out).mono ?_
     rintro e w22 ⟨rfl,hb⟩
     refine ⟨_,rfl,?_⟩
     replace BK332:=Aside0.mk (blk_below (g:=gb332) (o:=.cells #[.bool true,.slice A0_1 l0_1.length c0_1,.slice A0_2 l0_2.length c0_2,.slice A0_3 l0_3.length c0_3] 27 (0,0)) (by (with_reducible repeat (first|apply zb1|apply zb2|apply zb3));exact BK332.out) hb)
     replace HB:=Aside0.mk (below_step (by repeat (first|(with_reducible first|exact HB.out|apply zl1|apply zl2|apply zl3|refine below_set ?_ GE332.out)|exact HB.out)) hb)
     (try clear hb)
     (try clear hb2)
     (try clear hk)
     (try clear hi)
     refine hK.out _ _ ⟨(blk_cell BK332.out 0).trans rfl,(blk_cell BK332.out 1).trans rfl,(blk_cell BK332.out 2).trans rfl,(blk_cell BK332.out 3).trans rfl⟩ (fun hHeld=>?_)
     clear hK K
     refine norm_ (a':=?_) ?_ ?_
     rotate_left
     ·show Act.put _ (some 15) _=_
      simp only [Act.put,List.setIfInBounds_toArray,List.set_cons_zero,List.set_cons_succ,i64_w,i32_w]
      rfl
     refine one_ (i:=5) (N:=some 20) #[true,true,true,true,true,true,false,false] rfl rfl (one_of HT_.out (by kernel_rfl)) (by decide) (fun K hK=>?_)
     refine goes_ Tryd.func50 (by kernel_rfl) rfl #[.int .u64 (IntKind.u64.wrap ((l0_1.length:Int))),.int .i64 1] (by rfl) rfl rfl (by (try simp only [List.map_toArray,List.map_cons,List.map_nil]);first|done|rfl|(simp only [List.length_drop,List.length_take];rfl)|(simp (disch:=omega) only [u64_in];rfl)) ?_
     with_reducible refine (factotumref01_Num.calls k (IntKind.u64.wrap ((l0_1.length:Int))) 1 t336 _ A13.out).mono ?_
     rintro e w23 ⟨rfl,hb⟩
     refine ⟨_,rfl,?_⟩
     replace BK332:=Aside0.mk (blk_below (g:=gb332) (o:=.cells #[.bool true,.slice A0_1 l0_1.length c0_1,.slice A0_2 l0_2.length c0_2,.slice A0_3 l0_3.length c0_3] 27 (0,0)) (by (with_reducible repeat (first|apply zb1|apply zb2|apply zb3));exact BK332.out) hb)
     replace HB:=Aside0.mk (below_step (by repeat (first|(with_reducible first|exact HB.out|apply zl1|apply zl2|apply zl3|refine below_set ?_ GE332.out)|exact HB.out)) hb)
     (try clear hb)
     (try clear hb2)
     (try clear hk)
     (try clear hi)
     refine hK.out _ _ ⟨(blk_cell BK332.out 0).trans rfl,(blk_cell BK332.out 1).trans rfl,(blk_cell BK332.out 2).trans rfl,(blk_cell BK332.out 3).trans rfl⟩ (fun hHeld=>?_)
     clear hK K
     refine norm_ (a':=?_) ?_ ?_
     rotate_left
     ·show Act.put _ (some 20) _=_
      simp only [Act.put,List.setIfInBounds_toArray,List.set_cons_zero,List.set_cons_succ,i64_w,i32_w]
      rfl
     refine pure_ (i:=6) (N:=some 21) (v:=?_) (a':=?_) #[true,true,true,true,true,true,true,false] rfl rfl (any_of HT_.out (by kernel_rfl)) (fun _ _ _ h=>h) (Or.inl ⟨by rfl,?_⟩) ?_ ?_
     rotate_left
     ·intro w'
      go_simp
      with_reducible rfl
     rotate_left
     ·simp only [Act.put,List.setIfInBounds_toArray,List.set_cons_zero,List.set_cons_succ,i64_w,i32_w]
      rfl
     refine pure_ (i:=7) (N:=some 4) (v:=?_) (a':=?_) #[true,true,true,true,true,true,true,true] rfl rfl (any_of HT_.out (by kernel_rfl)) (fun _ _ _ h=>h) (Or.inl ⟨by rfl,?_⟩) ?_ ?_
     rotate_left
     ·intro w'
      go_simp
      with_reducible rfl
     rotate_left
     ·simp only [Act.put,List.setIfInBounds_toArray,List.set_cons_zero,List.set_cons_succ,i64_w,i32_w]
      rfl
     refine done_ (done_of HT_.out (by kernel_rfl)) ?_
     try go_wp2
     go_loopg [4,5] k (fun kq v4 v5 w'=>∃ (x4_1:ByteArray) (x5_1:Int),v4=.string x4_1∧v5=.int .i64 x5_1∧Aside0 (factotumref09_Write.l0 kq x4_1 x5_1 true l0_1 l0_2 l0_3=some (r1,r2))∧Aside0 (kq≤k)∧Aside0 (w'.heap[gb332]?=some (.cells #[.bool true,(.slice A0_1 l0_1.length c0_1),(.slice A0_2 l0_2.length c0_2),(.slice A0_3 l0_3.length c0_3)] 27 (0,0)))∧Aside0 (Below w.heap.size w w'))
     case atStart=>exact ⟨(t335 ++ t336),(0),(by first|(with_reducible rfl)|(simp;done)|(simp [*];done)|rfl|(simp only [not_isEmpty_bne])),(by first|(with_reducible rfl)|(simp;done)|(simp [*];done)|rfl|(simp only [not_isEmpty_bne])),H',⟨Nat.le_refl _⟩,⟨by (with_reducible repeat (first|apply zb1|apply zb2|apply zb3));exact BK332.out⟩,⟨by repeat (first|(with_reducible first|exact HB.out|apply zl1|apply zl2|apply zl3|refine below_set ?_ GE332.out)|exact HB.out)⟩⟩
     case round =>
      clear H'
      try clear hcz16_0 hcz16_1 hcz16_2 hcz16_3 hcz18_0 hcz18_1 hcz18_2 hcz18_3 hcz20_0 hcz20_1 hcz20_2 hcz20_3 hcz7_0 hcz7_1 hcz7_2 hcz7_3 hcz9_0
      try clear c1
      try clear c2
      try clear p2
      try clear c3
      try clear c4
      try clear c5
      try clear c5b0
      try clear c11
      try clear c14
      try clear c14b0
      try clear c14b1
      try clear c14b2
      try clear c22
      try clear hfz16_0 hfz16_1 hfz16_2 hfz16_3 hfz18_0 hfz18_1 hfz18_2 hfz18_3 hfz20_0 hfz20_1 hfz20_2 hfz20_3 hfz7_0 hfz7_1 hfz7_2 hfz7_3 hfz9_0 hfz9_1 hfz9_2 hfz9_3
      try clear hcz9_1 hcz9_2 hcz9_3
      obtain ⟨x4_1,x5_1,rfl,rfl,HA,HK1,BK332,HB⟩:=hrel
      cases gk with
      | zero=>exact absurd HA.out (by simp [factotumref09_Write.l0])
      | succ k1 =>
       have H:=HA.out
       clear HA
       simp only [factotumref09_Write.l0] at H
       by_cases c24:x5_1 < (l0_1.length:Int)
       ·rw [if_pos c24] at H
        have c24b0:decide (x5_1 < (l0_1.length:Int))=true:=decide_eq_true c24
        clear c24
        by_cases c25:0≤x5_1
        ·rw [if_pos c25] at H
         have c25b0:decide (0≤x5_1)=true:=decide_eq_true c25
         clear c25
         replace H:=Option.bind_eq_some_iff.mp H
         obtain ⟨t341,A260,H⟩:=H
         replace H:((factotumref01_Str.f k1 ((rd_T44 l0_1 x5_1).f1)).bind fun t343=>(if t341.size + t343.size≤9223372036854775807 then (if x4_1.size + (t341 ++ t343).size≤9223372036854775807 then (factotumref09_Write.l0 k1 (x4_1 ++ (t341 ++ t343)) (wrap64 (x5_1 + 1)) true l0_1 l0_2 l0_3) else (none)) else (none)))=some (r1,r2):=H
         have A26:=Aside0.mk A260
         clear A260
         replace H:=Option.bind_eq_some_iff.mp H
         obtain ⟨t343,A270,H⟩:=H
         replace H:(if t341.size + t343.size≤9223372036854775807 then (if x4_1.size + (t341 ++ t343).size≤9223372036854775807 then (factotumref09_Write.l0 k1 (x4_1 ++ (t341 ++ t343)) (wrap64 (x5_1 + 1)) true l0_1 l0_2 l0_3) else (none)) else (none))=some (r1,r2):=H
         have A27:=Aside0.mk A270
         clear A270
         by_cases c28:t341.size + t343.size≤9223372036854775807
         ·rw [if_pos c28] at H
          have c28b0:=eq_true c28
          have c28b1:decide (t341.size + t343.size≤9223372036854775807)=true:=decide_eq_true c28
          try have c28b2:(9223372036854775807 < t341.size + t343.size)=False:=eq_false (Nat.not_lt.2 c28)
          by_cases c29:x4_1.size + (t341 ++ t343).size≤9223372036854775807
          ·rw [if_pos c29] at H
           have c29b0:=eq_true c29
           have c29b1:decide (x4_1.size + (t341 ++ t343).size≤9223372036854775807)=true:=decide_eq_true c29
           (try (have c29x:=c29;simp at c29x))
           try have c29b2:(9223372036854775807 < x4_1.size + (t341 ++ t343).size)=False:=eq_false (Nat.not_lt.2 c29)
           (try have c29b3:=c29b2)
           (try simp only [ByteArray.size_append,ByteArray.size_extract] at c29b3)
           (try rw [Nat.min_eq_left (by omega)] at c29b3)
           have H':=Aside0.mk H
           clear H
           have hcz30_0:wr.cell? ⟨gb332,0,none⟩=some (.bool true):=(blk_cell BK332.out 0).trans rfl
           have hcz30_1:wr.cell? ⟨gb332,1,none⟩=some (.slice A0_1 l0_1.length c0_1):=(blk_cell BK332.out 1).trans rfl
           have hcz30_2:wr.cell? ⟨gb332,2,none⟩=some (.slice A0_2 l0_2.length c0_2):=(blk_cell BK332.out 2).trans rfl
           have hcz30_3:wr.cell? ⟨gb332,3,none⟩=some (.slice A0_3 l0_3.length c0_3):=(blk_cell BK332.out 3).trans rfl
           have hfz30_0:=blk_frozen BK332.out 0
           have hfz30_1:=blk_frozen BK332.out 1
           have hfz30_2:=blk_frozen BK332.out 2
           have hfz30_3:=blk_frozen BK332.out 3
           try go_wp2
           replace BK332:=Aside0.mk (blk_drew BK332.out)
           replace HB:=Aside0.mk (below_drew1 HB.out)
           have p340:0≤(x5_1:Int):=of_decide_eq_true (by first|(with_reducible assumption)|assumption)
           have q340:x5_1 < (l0_1.length:Int):=of_decide_eq_true (by first|(with_reducible assumption)|assumption)
           obtain ⟨ad340,e340,hx340_0,hx340_1⟩:=at_T44 HR0_1.out x5_1 p340 q340
           have hw340_1:=hx340_1
           have hw340_0:=hx340_0
           cases e340
           replace hx340_0:=(HB.out.cell (World.block_lt_of_cell? w _ hx340_0)).trans hx340_0
           replace hx340_1:=(HB.out.cell (World.block_lt_of_cell? w _ hx340_1)).trans hx340_1
           replace p340:=eq_true p340
           replace q340:=eq_true q340
           have p342:0≤(x5_1:Int):=of_decide_eq_true (by first|(with_reducible assumption)|assumption)
           have q342:x5_1 < (l0_1.length:Int):=of_decide_eq_true (by first|(with_reducible assumption)|assumption)
           obtain ⟨ad342,e342,hx342_0,hx342_1⟩:=at_T44 HR0_1.out x5_1 p342 q342
           have hw342_1:=hx342_1
           have hw342_0:=hx342_0
           obtain rfl:ad340=ad342:=(by injection e342)
           replace hx342_0:=(HB.out.cell (World.block_lt_of_cell? w _ hx342_0)).trans hx342_0
           replace hx342_1:=(HB.out.cell (World.block_lt_of_cell? w _ hx342_1)).trans hx342_1
           replace p342:=eq_true p342
           replace q342:=eq_true q342
           refine start_ (n:=18) (S:=fun w'=>w'.cell? ⟨gb332,0,none⟩=some (.bool true)∧w'.cell? ⟨gb332,1,none⟩=some (.slice (some ad340) l0_1.length c0_1)∧w'.cell? ⟨gb332,2,none⟩=some (.slice A0_2 l0_2.length c0_2)∧w'.cell? ⟨gb332,3,none⟩=some (.slice A0_3 l0_3.length c0_3)∧w'.cell? (ad340.add ((x5_1).toNat * 2))=some (.string ((rd_T44 l0_1 x5_1).f0))∧w'.cell? ⟨(ad340.add ((x5_1).toNat * 2)).block,(ad340.add ((x5_1).toNat * 2)).off + 1,none⟩=some (.string ((rd_T44 l0_1 x5_1).f1))∧w'.cell? (ad340.add ((x5_1).toNat * 2))=some (.string ((rd_T44 l0_1 x5_1).f0))∧w'.cell? ⟨(ad340.add ((x5_1).toNat * 2)).block,(ad340.add ((x5_1).toNat * 2)).off + 1,none⟩=some (.string ((rd_T44 l0_1 x5_1).f1))) (ds:=[]) #[false,false,false,false,false,false,false,false,false,false,false,false,false,false,false,false,false,false] (by kernel_rfl) rfl rfl ⟨(blk_cell BK332.out 0).trans rfl,(blk_cell BK332.out 1).trans rfl,(blk_cell BK332.out 2).trans rfl,(blk_cell BK332.out 3).trans rfl,((HB.out.cell (World.block_lt_of_cell? w _ hw340_0)).trans hw340_0),((HB.out.cell (World.block_lt_of_cell? w _ hw340_1)).trans hw340_1),((HB.out.cell (World.block_lt_of_cell? w _ hw342_0)).trans hw342_0),((HB.out.cell (World.block_lt_of_cell? w _ hw342_1)).trans hw342_1)⟩ (fun hHeld=>?_);refine with_tabW factotumref09_Write.tab11 factotumref09_Write.bits11 (fun HT_ HW_=>?_)
           generalize wr.drew=w31 at BK332 HB hx340_0 hx340_1 hx342_0 hx342_1 hHeld ⊢
           refine pure_ (i:=0) (N:=some 29) (v:=?_) (a':=?_) #[true,false,false,false,false,false,false,false,false,false,false,false,false,false,false,false,false,false] rfl rfl (any_of HT_.out (by kernel_rfl)) (fun _ _ _ h=>h) (Or.inl ⟨by rfl,?_⟩) ?_ ?_
           rotate_left
           ·intro w'
            go_simp
            with_reducible rfl
           rotate_left
           ·simp only [Act.put,List.setIfInBounds_toArray,List.set_cons_zero,List.set_cons_succ,i64_w,i32_w]
            rfl
           refine pure_ (i:=1) (N:=some 30) (v:=?_) (a':=?_) #[true,true,false,false,false,false,false,false,false,false,false,false,false,false,false,false,false,false] rfl rfl (any_of HT_.out (by kernel_rfl)) (fun _ _ _ h=>h) (Or.inl ⟨by rfl,?_⟩) ?_ ?_
           rotate_left
           ·intro w'
            go_simp
            with_reducible rfl
           rotate_left
           ·simp only [Act.put,List.setIfInBounds_toArray,List.set_cons_zero,List.set_cons_succ,i64_w,i32_w]
            rfl
           refine pure_ (i:=3) (N:=some 32) (v:=?_) (a':=?_) #[true,true,false,true,false,false,false,false,false,false,false,false,false,false,false,false,false,false] rfl rfl (any_of HT_.out (by kernel_rfl)) (fun _ _ _ h=>h) (Or.inl ⟨by rfl,?_⟩) ?_ ?_
           rotate_left
           ·intro w'
            go_simp
            with_reducible rfl
           rotate_left
           ·simp only [Act.put,List.setIfInBounds_toArray,List.set_cons_zero,List.set_cons_succ,i64_w,i32_w]
            rfl
           refine pure_ (i:=8) (N:=some 37) (v:=?_) (a':=?_) #[true,true,false,true,false,false,false,false,true,false,false,false,false,false,false,false,false,false] rfl rfl (any_of HT_.out (by kernel_rfl)) (fun _ _ _ h=>h) (Or.inl ⟨by rfl,?_⟩) ?_ ?_
           rotate_left
           ·intro w'
            go_simp
            with_reducible rfl
           rotate_left
           ·simp only [Act.put,List.setIfInBounds_toArray,List.set_cons_zero,List.set_cons_succ,i64_w,i32_w]
            rfl
           refine pure_ (i:=10) (N:=some 39) (v:=?_) (a':=?_) #[true,true,false,true,false,false,false,false,true,false,true,false,false,false,false,false,false,false] rfl rfl (any_of HT_.out (by kernel_rfl)) (fun _ _ _ h=>h) (Or.inl ⟨by rfl,?_⟩) ?_ ?_
           rotate_left
           ·intro w'
            go_simp
            with_reducible rfl
           rotate_left
           ·simp only [Act.put,List.setIfInBounds_toArray,List.set_cons_zero,List.set_cons_succ,i64_w,i32_w]
            rfl
           refine take_ (i:=2) (N:=some 31) (v:=?_) (a':=?_) #[true,true,true,true,false,false,false,false,true,false,true,false,false,false,false,false,false,false] rfl rfl (take_ofW HT_.out HW_.out (by kernel_rfl)) (fun _ _ _ h=>h) (Or.inl ⟨by rfl,?_⟩) hHeld ?_ ?_
           rotate_left
           ·rintro w' ⟨s0,s1,s2,s3,s4,s5,s6,s7⟩
            go_simp
            with_reducible rfl
           rotate_left
           ·simp only [Act.put,List.setIfInBounds_toArray,List.set_cons_zero,List.set_cons_succ,i64_w,i32_w]
            rfl
           refine pure_ (i:=4) (N:=some 33) (v:=?_) (a':=?_) #[true,true,true,true,true,false,false,false,true,false,true,false,false,false,false,false,false,false] rfl rfl (any_of HT_.out (by kernel_rfl)) (fun _ _ _ h=>h) (Or.inl ⟨by rfl,?_⟩) ?_ ?_
           rotate_left
           ·intro w'
            go_simp
            with_reducible rfl
           rotate_left
           ·simp only [Act.put,List.setIfInBounds_toArray,List.set_cons_zero,List.set_cons_succ,i64_w,i32_w]
            rfl
           refine pure_ (i:=5) (N:=some 34) (v:=?_) (a':=?_) #[true,true,true,true,true,true,false,false,true,false,true,false,false,false,false,false,false,false] rfl rfl (any_of HT_.out (by kernel_rfl)) (fun _ _ _ h=>h) (Or.inl ⟨by rfl,?_⟩) ?_ ?_
           rotate_left
           ·intro w'
            go_simp
            with_reducible rfl
           rotate_left
           ·simp only [Act.put,List.setIfInBounds_toArray,List.set_cons_zero,List.set_cons_succ,i64_w,i32_w]
            rfl
           refine take_ (i:=6) (N:=some 35) (v:=?_) (a':=?_) #[true,true,true,true,true,true,true,false,true,false,true,false,false,false,false,false,false,false] rfl rfl (take_ofW HT_.out HW_.out (by kernel_rfl)) (fun _ _ _ h=>h) (Or.inl ⟨by rfl,?_⟩) hHeld ?_ ?_
           rotate_left
           ·rintro w' ⟨s0,s1,s2,s3,s4,s5,s6,s7⟩
            go_simp
            with_reducible rfl
           rotate_left
           ·simp only [Act.put,List.setIfInBounds_toArray,List.set_cons_zero,List.set_cons_succ,i64_w,i32_w]
            rfl
           refine take_ (i:=9) (N:=some 38) (v:=?_) (a':=?_) #[true,true,true,true,true,true,true,false,true,true,true,false,false,false,false,false,false,false] rfl rfl (take_ofW HT_.out HW_.out (by kernel_rfl)) (fun _ _ _ h=>h) (Or.inl ⟨by rfl,?_⟩) hHeld ?_ ?_
           rotate_left
           ·rintro w' ⟨s0,s1,s2,s3,s4,s5,s6,s7⟩
            go_simp
            with_reducible rfl
           rotate_left
           ·simp only [Act.put,List.setIfInBounds_toArray,List.set_cons_zero,List.set_cons_succ,i64_w,i32_w]
            rfl
           refine pure_ (i:=11) (N:=some 40) (v:=?_) (a':=?_) #[true,true,true,true,true,true,true,false,true,true,true,true,false,false,false,false,false,false] rfl rfl (any_of HT_.out (by kernel_rfl)) (fun _ _ _ h=>h) (Or.inl ⟨by rfl,?_⟩) ?_ ?_
           rotate_left
           ·intro w'
            go_simp
            with_reducible rfl
           rotate_left
           ·simp only [Act.put,List.setIfInBounds_toArray,List.set_cons_zero,List.set_cons_succ,i64_w,i32_w]
            rfl
           refine pure_ (i:=12) (N:=some 41) (v:=?_) (a':=?_) #[true,true,true,true,true,true,true,false,true,true,true,true,true,false,false,false,false,false] rfl rfl (any_of HT_.out (by kernel_rfl)) (fun _ _ _ h=>h) (Or.inl ⟨by rfl,?_⟩) ?_ ?_
           rotate_left
           ·intro w'
            go_simp
            with_reducible rfl
           rotate_left
           ·simp only [Act.put,List.setIfInBounds_toArray,List.set_cons_zero,List.set_cons_succ,i64_w,i32_w]
            rfl
           refine take_ (i:=13) (N:=some 42) (v:=?_) (a':=?_) #[true,true,true,true,true,true,true,false,true,true,true,true,true,true,false,false,false,false] rfl rfl (take_ofW HT_.out HW_.out (by kernel_rfl)) (fun _ _ _ h=>h) (Or.inl ⟨by rfl,?_⟩) hHeld ?_ ?_
           rotate_left
           ·rintro w' ⟨s0,s1,s2,s3,s4,s5,s6,s7⟩
            go_simp
            with_reducible rfl
           rotate_left
           ·simp only [Act.put,List.setIfInBounds_toArray,List.set_cons_zero,List.set_cons_succ,i64_w,i32_w]
            rfl
           refine one_ (i:=7) (N:=some 36) #[true,true,true,true,true,true,true,true,true,true,true,true,true,true,false,false,false,false] rfl rfl (one_of HT_.out (by kernel_rfl)) (by decide) (fun K hK=>?_)
           refine goes_ Tryd.func51 (by kernel_rfl) rfl #[.string ((rd_T44 l0_1 x5_1).f0)] (by rfl) rfl rfl (by (try simp only [List.map_toArray,List.map_cons,List.map_nil]);first|done|rfl|(simp only [List.length_drop,List.length_take];rfl)|(simp (disch:=omega) only [u64_in];rfl)) ?_
           with_reducible refine (factotumref01_Str.calls k1 ((rd_T44 l0_1 x5_1).f0) t341 _ A26.out).mono ?_
           rintro e w32 ⟨rfl,hb⟩
           refine ⟨_,rfl,?_⟩
           replace BK332:=Aside0.mk (blk_below (g:=gb332) (o:=.cells #[.bool true,.slice (some ad340) l0_1.length c0_1,.slice A0_2 l0_2.length c0_2,.slice A0_3 l0_3.length c0_3] 27 (0,0)) (by (with_reducible repeat (first|apply zb1|apply zb2|apply zb3));exact BK332.out) hb)
           replace HB:=Aside0.mk (below_step (by repeat (first|(with_reducible first|exact HB.out|apply zl1|apply zl2|apply zl3|refine below_set ?_ GE332.out)|exact HB.out)) hb)
           (try clear hb)
           (try clear hb2)
           (try clear hk)
           (try clear hi)
           refine hK.out _ _ ⟨(blk_cell BK332.out 0).trans rfl,(blk_cell BK332.out 1).trans rfl,(blk_cell BK332.out 2).trans rfl,(blk_cell BK332.out 3).trans rfl,((HB.out.cell (World.block_lt_of_cell? w _ hw340_0)).trans hw340_0),((HB.out.cell (World.block_lt_of_cell? w _ hw340_1)).trans hw340_1),((HB.out.cell (World.block_lt_of_cell? w _ hw342_0)).trans hw342_0),((HB.out.cell (World.block_lt_of_cell? w _ hw342_1)).trans hw342_1)⟩ (fun hHeld=>?_)
           clear hK K
           refine norm_ (a':=?_) ?_ ?_
           rotate_left
           ·show Act.put _ (some 36) _=_
            simp only [Act.put,List.setIfInBounds_toArray,List.set_cons_zero,List.set_cons_succ,i64_w,i32_w]
            rfl
           refine one_ (i:=14) (N:=some 43) #[true,true,true,true,true,true,true,true,true,true,true,true,true,true,true,false,false,false] rfl rfl (one_of HT_.out (by kernel_rfl)) (by decide) (fun K hK=>?_)
           refine goes_ Tryd.func51 (by kernel_rfl) rfl #[.string ((rd_T44 l0_1 x5_1).f1)] (by rfl) rfl rfl (by (try simp only [List.map_toArray,List.map_cons,List.map_nil]);first|done|rfl|(simp only [List.length_drop,List.length_take];rfl)|(simp (disch:=omega) only [u64_in];rfl)) ?_
           with_reducible refine (factotumref01_Str.calls k1 ((rd_T44 l0_1 x5_1).f1) t343 _ A27.out).mono ?_
           rintro e w33 ⟨rfl,hb⟩
           refine ⟨_,rfl,?_⟩
           replace BK332:=Aside0.mk (blk_below (g:=gb332) (o:=.cells #[.bool true,.slice (some ad340) l0_1.length c0_1,.slice A0_2 l0_2.length c0_2,.slice A0_3 l0_3.length c0_3] 27 (0,0)) (by (with_reducible repeat (first|apply zb1|apply zb2|apply zb3));exact BK332.out) hb)
           replace HB:=Aside0.mk (below_step (by repeat (first|(with_reducible first|exact HB.out|apply zl1|apply zl2|apply zl3|refine below_set ?_ GE332.out)|exact HB.out)) hb)
           (try clear hb)
           (try clear hb2)
           (try clear hk)
           (try clear hi)
           refine hK.out _ _ ⟨(blk_cell BK332.out 0).trans rfl,(blk_cell BK332.out 1).trans rfl,(blk_cell BK332.out 2).trans rfl,(blk_cell BK332.out 3).trans rfl,((HB.out.cell (World.block_lt_of_cell? w _ hw340_0)).trans hw340_0),((HB.out.cell (World.block_lt_of_cell? w _ hw340_1)).trans hw340_1),((HB.out.cell (World.block_lt_of_cell? w _ hw342_0)).trans hw342_0),((HB.out.cell (World.block_lt_of_cell? w _ hw342_1)).trans hw342_1)⟩ (fun hHeld=>?_)
           clear hK K
           refine norm_ (a':=?_) ?_ ?_
           rotate_left
           ·show Act.put _ (some 43) _=_
            simp only [Act.put,List.setIfInBounds_toArray,List.set_cons_zero,List.set_cons_succ,i64_w,i32_w]
            rfl
           refine pure_ (i:=15) (N:=some 44) (v:=?_) (a':=?_) #[true,true,true,true,true,true,true,true,true,true,true,true,true,true,true,true,false,false] rfl rfl (any_of HT_.out (by kernel_rfl)) (fun _ _ _ h=>h) (Or.inl ⟨by rfl,?_⟩) ?_ ?_
           rotate_left
           ·intro w'
            go_simp
            with_reducible rfl
           rotate_left
           ·simp only [Act.put,List.setIfInBounds_toArray,List.set_cons_zero,List.set_cons_succ,i64_w,i32_w]
            rfl
           refine pure_ (i:=16) (N:=some 45) (v:=?_) (a':=?_) #[true,true,true,true,true,true,true,true,true,true,true,true,true,true,true,true,true,false] rfl rfl (any_of HT_.out (by kernel_rfl)) (fun _ _ _ h=>h) (Or.inl ⟨by rfl,?_⟩) ?_ ?_
           rotate_left
           ·intro w'
            go_simp
            with_reducible rfl
           rotate_left
           ·simp only [Act.put,List.setIfInBounds_toArray,List.set_cons_zero,List.set_cons_succ,i64_w,i32_w]
            rfl
           refine pure_ (i:=17) (N:=some 4) (v:=?_) (a':=?_) #[true,true,true,true,true,true,true,true,true,true,true,true,true,true,true,true,true,true] rfl rfl (any_of HT_.out (by kernel_rfl)) (fun _ _ _ h=>h) (Or.inl ⟨by rfl,?_⟩) ?_ ?_
           rotate_left
           ·intro w'
            go_simp
            with_reducible rfl
           rotate_left
           ·simp only [Act.put,List.setIfInBounds_toArray,List.set_cons_zero,List.set_cons_succ,i64_w,i32_w]
            rfl
           refine done_ (done_of HT_.out (by kernel_rfl)) ?_
           try go_wp2
           go_roundg k1
           case measure=>have:=HK1.out;omega
           case rel=>exact ⟨(x4_1 ++ (t341 ++ t343)),(wrap64 (x5_1 + 1)),(by first|(with_reducible rfl)|(simp;done)|(simp [*];done)|rfl|(simp only [not_isEmpty_bne])),(by first|(with_reducible rfl)|(simp;done)|(simp [*];done)|rfl|(simp only [not_isEmpty_bne])),H',⟨by have:=HK1.out;omega⟩,⟨by (with_reducible repeat (first|apply zb1|apply zb2|apply zb3));exact BK332.out⟩,⟨by repeat (first|(with_reducible first|exact HB.out|apply zl1|apply zl2|apply zl3|refine below_set ?_ GE332.out)|exact HB.out)⟩⟩
          ·rw [if_neg c29] at H
           exact absurd H (by simp)
         ·rw [if_neg c28] at H
          exact absurd H (by simp)
        ·rw [if_neg c25] at H
         exact absurd H (by simp)
       ·rw [if_neg c24] at H
        have c24b0:decide (x5_1 < (l0_1.length:Int))=false:=decide_eq_false c24
        clear c24
        obtain ⟨ji34,hji34⟩:∃ j_:Int,(wrap64 (256 - (x4_1.size:Int)))=j_:=⟨_,rfl⟩
        replace H:(if 0≤(ji34) then (if (ji34:Int).toNat≤281474976710656 then ((some (List.replicate (ji34:Int).toNat 0:List Int)).bind fun y337=>(if x4_1.size + (strOfNums y337).size≤9223372036854775807 then (some (x4_1 ++ (strOfNums y337),0)) else (none))) else (none)) else (none))=some (r1,r2):=by first|(rw [hji34] at H;exact H)|(simp only [hji34] at H ⊢;exact H)
        have hji34w:(IntKind.i64.wrap (256 - (x4_1.size:Int)))=ji34:=(i64_w _).trans hji34
        by_cases c35:0≤(ji34)
        ·rw [if_pos c35] at H
         have c35b0:=eq_true c35
         have c35b1:decide (0≤(ji34))=true:=decide_eq_true c35
         clear c35
         by_cases c36:(ji34:Int).toNat≤281474976710656
         ·rw [if_pos c36] at H
          have c36b0:=eq_true c36
          have c36b1:decide ((ji34:Int).toNat≤281474976710656)=true:=decide_eq_true c36
          clear c36
          obtain ⟨y337,hy337⟩:∃ y_:List Int,y_=(List.replicate (ji34:Int).toNat 0):=⟨_,rfl⟩
          replace H:(if x4_1.size + (strOfNums y337).size≤9223372036854775807 then (some (x4_1 ++ (strOfNums y337),0)) else (none))=some (r1,r2):=by first|(rw [hy337];with_reducible exact H)|(have H2_:=(Option.bind_some _ _).symm.trans H;rw [hy337];with_reducible exact H2_)|(have H2_:=(Option.bind_some _ _).symm.trans H;with_reducible exact H2_)|with_reducible exact H|(rw [hy337];exact H)|exact H
          have Ny337:=Aside0.mk hy337
          clear hy337
          by_cases c37:x4_1.size + (strOfNums y337).size≤9223372036854775807
          ·rw [if_pos c37] at H
           have c37b0:=eq_true c37
           have c37b1:decide (x4_1.size + (strOfNums y337).size≤9223372036854775807)=true:=decide_eq_true c37
           try have c37b2:(9223372036854775807 < x4_1.size + (strOfNums y337).size)=False:=eq_false (Nat.not_lt.2 c37)
           simp only [Option.some.injEq,Prod.mk.injEq] at H
           obtain ⟨rfl,rfl⟩:=H
           have hcz38_0:wr.cell? ⟨gb332,0,none⟩=some (.bool true):=(blk_cell BK332.out 0).trans rfl
           have hcz38_1:wr.cell? ⟨gb332,1,none⟩=some (.slice A0_1 l0_1.length c0_1):=(blk_cell BK332.out 1).trans rfl
           have hcz38_2:wr.cell? ⟨gb332,2,none⟩=some (.slice A0_2 l0_2.length c0_2):=(blk_cell BK332.out 2).trans rfl
           have hcz38_3:wr.cell? ⟨gb332,3,none⟩=some (.slice A0_3 l0_3.length c0_3):=(blk_cell BK332.out 3).trans rfl
           have hfz38_0:=blk_frozen BK332.out 0
           have hfz38_1:=blk_frozen BK332.out 1
           have hfz38_2:=blk_frozen BK332.out 2
           have hfz38_3:=blk_frozen BK332.out 3
           go_wp2_with (first|((with_reducible refine gate_dst (N:=88) rfl ?_);refine Kd.R_make (Kd.int .u8) _ 5 rfl (N:=88) rfl 52 _ _ rfl ji34 rfl rfl Tryd.underlying52 (.int .u8 0) 1 info5 rfl (by decide) (by omega) 0 (ok:=fun _=>True) (okp:=fun _=>True) rfl (fun _ hk=>hk) trivial (of_decide_eq_true (by first|(with_reducible assumption)|assumption)) (Nat.le_trans (Nat.mul_le_mul_right _ (of_decide_eq_true (by first|(with_reducible assumption)|assumption):ji34.toNat≤281474976710656)) (by omega)) (Below.refl _ _) (Nat.le_refl _) ?_;intro v338 w39 ho40 hb hg_ hnew_;clear hg_ hnew_;(first|rw [← Ny337.out] at ho40|(simp only [Int.reduceToNat] at ho40;rw [← Ny337.out] at ho40));have HO339:=Aside0.mk (Kd.R_lower ho40 (below_size (by repeat (first|(with_reducible first|exact HB.out|apply zl1|apply zl2|apply zl3|refine below_set ?_ GE332.out)|exact HB.out))));replace BK332:=Aside0.mk (blk_below (g:=gb332) (o:=.cells #[.bool true,.slice A0_1 l0_1.length c0_1,.slice A0_2 l0_2.length c0_2,.slice A0_3 l0_3.length c0_3] 27 (0,0)) (by (with_reducible repeat (first|apply zb1|apply zb2|apply zb3));exact BK332.out) hb);replace HB:=Aside0.mk (below_step (by repeat (first|(with_reducible first|exact HB.out|apply zl1|apply zl2|apply zl3|refine below_set ?_ GE332.out)|exact HB.out)) hb);clear hb ho40;have hcv41:=own_string (P:=Tryd.prog) Tryd.underlying52 Tryd.underlying5 Tryd.underlying9 (Kd.own_of_R HO339.out)))
           go_ret2
           exact ⟨by first|(with_reducible rfl)|(simp only [isEmpty_bne,Bool.not_not] <;> with_reducible rfl)|(simp [errW_none,errW_some] <;> with_reducible rfl)|(simp only [isEmpty_bne,Bool.not_not] <;> rfl)|rfl|(simp [errW_none,errW_some] <;> rfl)|(simp only [← hji34];first|rfl|(simp [errW_none,errW_some] <;> rfl))|(simp [*,errW_none,errW_some] <;> rfl),by repeat (first|(with_reducible first|exact HB.out|apply zl1|apply zl2|apply zl3|refine below_set ?_ GE332.out)|exact HB.out)⟩
          ·rw [if_neg c37] at H
           exact absurd H (by simp)
         ·rw [if_neg c36] at H
          exact absurd H (by simp)
        ·rw [if_neg c35] at H
         exact absurd H (by simp)
    ·rw [if_neg c14] at H
     exact absurd H (by simp)
   ·replace c11:=Bool.eq_false_iff.mpr c11
    subst c11
    have H1:((factotumref01_Num.f k 2 1).bind fun t344=>((factotumref01_Num.f k (IntKind.u64.wrap ((l0_2.length:Int))) 1).bind fun t345=>(if t344.size + t345.size≤9223372036854775807 then (if 0 < (l0_3.length:Int) then ((factotumref01_Num.f k (IntKind.u64.wrap (rd l0_3 0)) 2).bind fun t347=>(if (t344 ++ t345).size + t347.size≤9223372036854775807 then (factotumref09_Write.l1 k ((t344 ++ t345) ++ t347) 0 false l0_1 l0_2 l0_3) else (none))) else (none)) else (none))))=some (r1,r2):=by rw [if_neg (show ¬ (false=true) by decide)] at H;exact H
    clear H
    have H:=H1
    clear H1
    replace H:=Option.bind_eq_some_iff.mp H
    obtain ⟨t344,A420,H⟩:=H
    replace H:((factotumref01_Num.f k (IntKind.u64.wrap ((l0_2.length:Int))) 1).bind fun t345=>(if t344.size + t345.size≤9223372036854775807 then (if 0 < (l0_3.length:Int) then ((factotumref01_Num.f k (IntKind.u64.wrap (rd l0_3 0)) 2).bind fun t347=>(if (t344 ++ t345).size + t347.size≤9223372036854775807 then (factotumref09_Write.l1 k ((t344 ++ t345) ++ t347) 0 false l0_1 l0_2 l0_3) else (none))) else (none)) else (none)))=some (r1,r2):=H
    have A42:=Aside0.mk A420
    clear A420
    replace H:=Option.bind_eq_some_iff.mp H
    obtain ⟨t345,A430,H⟩:=H
    replace H:(if t344.size + t345.size≤9223372036854775807 then (if 0 < (l0_3.length:Int) then ((factotumref01_Num.f k (IntKind.u64.wrap (rd l0_3 0)) 2).bind fun t347=>(if (t344 ++ t345).size + t347.size≤9223372036854775807 then (factotumref09_Write.l1 k ((t344 ++ t345) ++ t347) 0 false l0_1 l0_2 l0_3) else (none))) else (none)) else (none))=some (r1,r2):=H
    have A43:=Aside0.mk A430
    clear A430
    by_cases c44:t344.size + t345.size≤9223372036854775807
    ·rw [if_pos c44] at H
     have c44b0:=eq_true c44
     have c44b1:decide (t344.size + t345.size≤9223372036854775807)=true:=decide_eq_true c44
     try have c44b2:(9223372036854775807 < t344.size + t345.size)=False:=eq_false (Nat.not_lt.2 c44)
     by_cases c45:0 < (l0_3.length:Int)
     ·rw [if_pos c45] at H
      have c45b0:decide (0 < (l0_3.length:Int))=true:=decide_eq_true c45
      have c45b1:decide (0 < l0_3.length)=true:=decide_eq_true (by omega)
      clear c45
      replace H:=Option.bind_eq_some_iff.mp H
      obtain ⟨t347,A460,H⟩:=H
      replace H:(if (t344 ++ t345).size + t347.size≤9223372036854775807 then (factotumref09_Write.l1 k ((t344 ++ t345) ++ t347) 0 false l0_1 l0_2 l0_3) else (none))=some (r1,r2):=H
      have A46:=Aside0.mk A460
      clear A460
      by_cases c47:(t344 ++ t345).size + t347.size≤9223372036854775807
      ·rw [if_pos c47] at H
       have c47b0:=eq_true c47
       have c47b1:decide ((t344 ++ t345).size + t347.size≤9223372036854775807)=true:=decide_eq_true c47
       (try (have c47x:=c47;simp at c47x))
       try have c47b2:(9223372036854775807 < (t344 ++ t345).size + t347.size)=False:=eq_false (Nat.not_lt.2 c47)
       (try have c47b3:=c47b2)
       (try simp only [ByteArray.size_append,ByteArray.size_extract] at c47b3)
       (try rw [Nat.min_eq_left (by omega)] at c47b3)
       have H':=Aside0.mk H
       clear H
       go_enter Tryd.func22,Tryd.ntmps22
       try go_wp2_with (first|((with_reducible refine gate_dst (N:=1) rfl ?_);refine box_event ?hg (N:=1) ?hd (cs:=#[.bool false,.slice A0_1 l0_1.length c0_1,.slice A0_2 l0_2.length c0_2,.slice A0_3 l0_3.length c0_3]) (t:=27) ?hr ?_;(case hd=>rfl);(case hg=>rfl);(case hr=>first|(go_simp;done)|(go_simp;rfl));intro gb332 hg w48 hbox hb;have BK332:=Aside0.mk (hbox);have GW332:=Aside0.mk ((by rw [hg];exact (below_size (by repeat (first|(with_reducible first|exact HB.out|apply zl1|apply zl2|apply zl3)|exact HB.out))):w.heap.size≤gb332));have GE332:=Aside0.mk ((by rw [hg];exact (below_size (by repeat (first|(with_reducible first|exact HB.out|apply zl1|apply zl2|apply zl3)|exact HB.out))):w.heap.size≤gb332));replace HB:=Aside0.mk (below_step (by repeat (first|(with_reducible first|exact HB.out|apply zl1|apply zl2|apply zl3)|exact HB.out)) hb);clear hb hbox hg;have hcz49_0:w48.cell? ⟨gb332,0,none⟩=some (.bool false):=(blk_cell BK332.out 0).trans rfl;have hcz49_1:w48.cell? ⟨gb332,1,none⟩=some (.slice A0_1 l0_1.length c0_1):=(blk_cell BK332.out 1).trans rfl;have hcz49_2:w48.cell? ⟨gb332,2,none⟩=some (.slice A0_2 l0_2.length c0_2):=(blk_cell BK332.out 2).trans rfl;have hcz49_3:w48.cell? ⟨gb332,3,none⟩=some (.slice A0_3 l0_3.length c0_3):=(blk_cell BK332.out 3).trans rfl;have hfz49_0:=blk_frozen BK332.out 0;have hfz49_1:=blk_frozen BK332.out 1;have hfz49_2:=blk_frozen BK332.out 2;have hfz49_3:=blk_frozen BK332.out 3)|((with_reducible refine gate_callee (f:=48) rfl ?_);refine goesL_ (some 8) rfl rfl Tryd.func48 (by kernel_rfl) rfl #[.agg #[.bool false,.slice A0_1 l0_1.length c0_1,.slice A0_2 l0_2.length c0_2,.slice A0_3 l0_3.length c0_3]] rfl (by (try simp only [List.map_toArray,List.map_cons,List.map_nil]);first|done|rfl|(simp only [List.length_drop,List.length_take];rfl)|(simp (disch:=omega) only [u64_in];rfl)) ?_;(with_reducible refine (factotumref09_Right.calls k false _ _ l0_1 _ _ l0_2 _ _ l0_3 true _ ?side1 ?side2 ?side3 ?side4 ?side5 ?side6 A2.out).mono ?_);(case side1=>repeat (first|exact (Kd.C_below HR0_1.out HB.out)|(with_reducible refine Kd.C_alloc ?_ _)|(with_reducible refine Kd.C_drewN ?_ _)|(with_reducible refine Kd.C_drew ?_)));(case side2=>exact HC0_1.out);(case side3=>repeat (first|exact (Kd.C_below HR0_2.out HB.out)|(with_reducible refine Kd.C_alloc ?_ _)|(with_reducible refine Kd.C_drewN ?_ _)|(with_reducible refine Kd.C_drew ?_)));(case side4=>exact HC0_2.out);(case side5=>repeat (first|exact (Kd.C_below HR0_3.out HB.out)|(with_reducible refine Kd.C_alloc ?_ _)|(with_reducible refine Kd.C_drewN ?_ _)|(with_reducible refine Kd.C_drew ?_)));(case side6=>exact HC0_3.out);rintro e w50 ⟨rfl,hb⟩;refine ⟨_,rfl,?_⟩;replace BK332:=Aside0.mk (blk_below (g:=gb332) (o:=.cells #[.bool false,.slice A0_1 l0_1.length c0_1,.slice A0_2 l0_2.length c0_2,.slice A0_3 l0_3.length c0_3] 27 (0,0)) (by (with_reducible repeat (first|apply zb1|apply zb2|apply zb3));exact BK332.out) hb);replace HB:=Aside0.mk (below_step (by repeat (first|(with_reducible first|exact HB.out|apply zl1|apply zl2|apply zl3|refine below_set ?_ GE332.out)|exact HB.out)) hb);(try clear hb);have hcz51_0:w50.cell? ⟨gb332,0,none⟩=some (.bool false):=(blk_cell BK332.out 0).trans rfl;have hcz51_1:w50.cell? ⟨gb332,1,none⟩=some (.slice A0_1 l0_1.length c0_1):=(blk_cell BK332.out 1).trans rfl;have hcz51_2:w50.cell? ⟨gb332,2,none⟩=some (.slice A0_2 l0_2.length c0_2):=(blk_cell BK332.out 2).trans rfl;have hcz51_3:w50.cell? ⟨gb332,3,none⟩=some (.slice A0_3 l0_3.length c0_3):=(blk_cell BK332.out 3).trans rfl;have hfz51_0:=blk_frozen BK332.out 0;have hfz51_1:=blk_frozen BK332.out 1;have hfz51_2:=blk_frozen BK332.out 2;have hfz51_3:=blk_frozen BK332.out 3)|((with_reducible refine gate_callee (f:=49) rfl ?_);refine goesL_ (some 11) rfl rfl Tryd.func49 (by kernel_rfl) rfl #[.agg #[.bool false,.slice A0_1 l0_1.length c0_1,.slice A0_2 l0_2.length c0_2,.slice A0_3 l0_3.length c0_3]] rfl (by (try simp only [List.map_toArray,List.map_cons,List.map_nil]);first|done|rfl|(simp only [List.length_drop,List.length_take];rfl)|(simp (disch:=omega) only [u64_in];rfl)) ?_;(with_reducible refine (factotumref09_Size.calls k false _ _ l0_1 _ _ l0_2 _ _ l0_3 t334 _ ?side1 ?side2 ?side3 ?side4 ?side5 ?side6 A4.out).mono ?_);(case side1=>repeat (first|exact (Kd.C_below HR0_1.out HB.out)|(with_reducible refine Kd.C_alloc ?_ _)|(with_reducible refine Kd.C_drewN ?_ _)|(with_reducible refine Kd.C_drew ?_)));(case side2=>exact HC0_1.out);(case side3=>repeat (first|exact (Kd.C_below HR0_2.out HB.out)|(with_reducible refine Kd.C_alloc ?_ _)|(with_reducible refine Kd.C_drewN ?_ _)|(with_reducible refine Kd.C_drew ?_)));(case side4=>exact HC0_2.out);(case side5=>repeat (first|exact (Kd.C_below HR0_3.out HB.out)|(with_reducible refine Kd.C_alloc ?_ _)|(with_reducible refine Kd.C_drewN ?_ _)|(with_reducible refine Kd.C_drew ?_)));(case side6=>exact HC0_3.out);rintro e w52 ⟨rfl,hb⟩;refine ⟨_,rfl,?_⟩;replace BK332:=Aside0.mk (blk_below (g:=gb332) (o:=.cells #[.bool false,.slice A0_1 l0_1.length c0_1,.slice A0_2 l0_2.length c0_2,.slice A0_3 l0_3.length c0_3] 27 (0,0)) (by (with_reducible repeat (first|apply zb1|apply zb2|apply zb3));exact BK332.out) hb);replace HB:=Aside0.mk (below_step (by repeat (first|(with_reducible first|exact HB.out|apply zl1|apply zl2|apply zl3|refine below_set ?_ GE332.out)|exact HB.out)) hb);(try clear hb);have hcz53_0:w52.cell? ⟨gb332,0,none⟩=some (.bool false):=(blk_cell BK332.out 0).trans rfl;have hcz53_1:w52.cell? ⟨gb332,1,none⟩=some (.slice A0_1 l0_1.length c0_1):=(blk_cell BK332.out 1).trans rfl;have hcz53_2:w52.cell? ⟨gb332,2,none⟩=some (.slice A0_2 l0_2.length c0_2):=(blk_cell BK332.out 2).trans rfl;have hcz53_3:w52.cell? ⟨gb332,3,none⟩=some (.slice A0_3 l0_3.length c0_3):=(blk_cell BK332.out 3).trans rfl;have hfz53_0:=blk_frozen BK332.out 0;have hfz53_1:=blk_frozen BK332.out 1;have hfz53_2:=blk_frozen BK332.out 2;have hfz53_3:=blk_frozen BK332.out 3))
       replace BK332:=Aside0.mk (blk_drew BK332.out)
       replace HB:=Aside0.mk (below_drew1 HB.out)
       have p346:0≤(0:Int):=(by omega)
       have q346:0 < (l0_3.length:Int):=of_decide_eq_true (by first|(with_reducible assumption)|assumption)
       obtain ⟨ad346,e346,hx346_0⟩:=Kd.at_int HR0_3.out 0 p346 q346
       have hw346_0:=hx346_0
       (try rw [show ((0:Int)).toNat=0 from rfl] at hw346_0)
       (try rw [show 0 * 1=0 from rfl] at hw346_0)
       (try rw [Addr.add_zero'] at hw346_0)
       cases e346
       have qi346:(0 < l0_3.length)=True:=eq_true (by omega)
       (try rw [show ((0:Int)).toNat=0 from rfl] at hx346_0)
       (try rw [Addr.add_zero'] at hx346_0)
       replace hx346_0:=(HB.out.cell (World.block_lt_of_cell? w _ hx346_0)).trans hx346_0
       replace p346:=eq_true p346
       replace q346:=eq_true q346
       refine start_ (n:=15) (S:=fun w'=>w'.cell? ⟨gb332,0,none⟩=some (.bool false)∧w'.cell? ⟨gb332,1,none⟩=some (.slice A0_1 l0_1.length c0_1)∧w'.cell? ⟨gb332,2,none⟩=some (.slice A0_2 l0_2.length c0_2)∧w'.cell? ⟨gb332,3,none⟩=some (.slice (some ad346) l0_3.length c0_3)∧w'.cell? ad346=some (.int .i64 (rd l0_3 0))) (ds:=[]) #[false,false,false,false,false,false,false,false,false,false,false,false,false,false,false] (by kernel_rfl) rfl rfl ⟨(blk_cell BK332.out 0).trans rfl,(blk_cell BK332.out 1).trans rfl,(blk_cell BK332.out 2).trans rfl,(blk_cell BK332.out 3).trans rfl,((HB.out.cell (World.block_lt_of_cell? w _ hw346_0)).trans hw346_0)⟩ (fun hHeld=>?_);refine with_tabW factotumref09_Write.tab12 factotumref09_Write.bits12 (fun HT_ HW_=>?_)
       generalize w52.drew=w54 at BK332 HB hx346_0 hHeld ⊢
       refine pure_ (i:=1) (N:=some 47) (v:=?_) (a':=?_) #[false,true,false,false,false,false,false,false,false,false,false,false,false,false,false] rfl rfl (any_of HT_.out (by kernel_rfl)) (fun _ _ _ h=>h) (Or.inl ⟨by rfl,?_⟩) ?_ ?_
       rotate_left
       ·intro w'
        go_simp
        with_reducible rfl
       rotate_left
       ·simp only [Act.put,List.setIfInBounds_toArray,List.set_cons_zero,List.set_cons_succ,i64_w,i32_w]
        rfl
       refine pure_ (i:=7) (N:=some 53) (v:=?_) (a':=?_) #[false,true,false,false,false,false,false,true,false,false,false,false,false,false,false] rfl rfl (any_of HT_.out (by kernel_rfl)) (fun _ _ _ h=>h) (Or.inl ⟨by rfl,?_⟩) ?_ ?_
       rotate_left
       ·intro w'
        go_simp
        with_reducible rfl
       rotate_left
       ·simp only [Act.put,List.setIfInBounds_toArray,List.set_cons_zero,List.set_cons_succ,i64_w,i32_w]
        rfl
       refine take_ (i:=2) (N:=some 48) (v:=?_) (a':=?_) #[false,true,true,false,false,false,false,true,false,false,false,false,false,false,false] rfl rfl (take_ofW HT_.out HW_.out (by kernel_rfl)) (fun _ _ _ h=>h) (Or.inl ⟨by rfl,?_⟩) hHeld ?_ ?_
       rotate_left
       ·rintro w' ⟨s0,s1,s2,s3,s4⟩
        go_simp
        with_reducible rfl
       rotate_left
       ·simp only [Act.put,List.setIfInBounds_toArray,List.set_cons_zero,List.set_cons_succ,i64_w,i32_w]
        rfl
       refine pure_ (i:=3) (N:=some 49) (v:=?_) (a':=?_) #[false,true,true,true,false,false,false,true,false,false,false,false,false,false,false] rfl rfl (any_of HT_.out (by kernel_rfl)) (fun _ _ _ h=>h) (Or.inl ⟨by rfl,?_⟩) ?_ ?_
       rotate_left
       ·intro w'
        go_simp
        with_reducible rfl
       rotate_left
       ·simp only [Act.put,List.setIfInBounds_toArray,List.set_cons_zero,List.set_cons_succ,i64_w,i32_w]
        rfl
       refine pure_ (i:=4) (N:=some 50) (v:=?_) (a':=?_) #[false,true,true,true,true,false,false,true,false,false,false,false,false,false,false] rfl rfl (any_of HT_.out (by kernel_rfl)) (fun _ _ _ h=>h) (Or.inl ⟨by rfl,?_⟩) ?_ ?_
       rotate_left
       ·intro w'
        go_simp
        with_reducible rfl
       rotate_left
       ·simp only [Act.put,List.setIfInBounds_toArray,List.set_cons_zero,List.set_cons_succ,i64_w,i32_w]
        rfl
       refine take_ (i:=8) (N:=some 54) (v:=?_) (a':=?_) #[false,true,true,true,true,false,false,true,true,false,false,false,false,false,false] rfl rfl (take_ofW HT_.out HW_.out (by kernel_rfl)) (fun _ _ _ h=>h) (Or.inl ⟨by rfl,?_⟩) hHeld ?_ ?_
       rotate_left
       ·rintro w' ⟨s0,s1,s2,s3,s4⟩
        go_simp
        with_reducible rfl
       rotate_left
       ·simp only [Act.put,List.setIfInBounds_toArray,List.set_cons_zero,List.set_cons_succ,i64_w,i32_w]
        rfl
       refine pure_ (i:=9) (N:=some 55) (v:=?_) (a':=?_) #[false,true,true,true,true,false,false,true,true,true,false,false,false,false,false] rfl rfl (any_of HT_.out (by kernel_rfl)) (fun _ _ _ h=>h) (Or.inl ⟨by rfl,?_⟩) ?_ ?_
       rotate_left
       ·intro w'
        go_simp
        with_reducible rfl
       rotate_left
       ·simp only [Act.put,List.setIfInBounds_toArray,List.set_cons_zero,List.set_cons_succ,i64_w,i32_w]
        rfl
       refine take_ (i:=10) (N:=some 56) (v:=?_) (a':=?_) #[false,true,true,true,true,false,false,true,true,true,true,false,false,false,false] rfl rfl (take_ofW HT_.out HW_.out (by kernel_rfl)) (fun _ _ _ h=>h) (Or.inl ⟨by rfl,?_⟩) hHeld ?_ ?_
       rotate_left
       ·rintro w' ⟨s0,s1,s2,s3,s4⟩
        go_simp
        with_reducible rfl
       rotate_left
       ·simp only [Act.put,List.setIfInBounds_toArray,List.set_cons_zero,List.set_cons_succ,i64_w,i32_w]
        rfl
       refine pure_ (i:=11) (N:=some 57) (v:=?_) (a':=?_) #[false,true,true,true,true,false,false,true,true,true,true,true,false,false,false] rfl rfl (any_of HT_.out (by kernel_rfl)) (fun _ _ _ h=>h) (Or.inl ⟨by rfl,?_⟩) ?_ ?_
       rotate_left
       ·intro w'
        go_simp
        with_reducible rfl
       rotate_left
       ·simp only [Act.put,List.setIfInBounds_toArray,List.set_cons_zero,List.set_cons_succ,i64_w,i32_w]
        rfl
       refine one_ (i:=0) (N:=some 46) #[true,true,true,true,true,false,false,true,true,true,true,true,false,false,false] rfl rfl (one_of HT_.out (by kernel_rfl)) (by decide) (fun K hK=>?_)
       refine goes_ Tryd.func50 (by kernel_rfl) rfl #[.int .u64 2,.int .i64 1] (by rfl) rfl rfl (by (try simp only [List.map_toArray,List.map_cons,List.map_nil]);first|done|rfl|(simp only [List.length_drop,List.length_take];rfl)|(simp (disch:=omega) only [u64_in];rfl)) ?_
       with_reducible refine (factotumref01_Num.calls k 2 1 t344 _ A42.out).mono ?_
       rintro e w55 ⟨rfl,hb⟩
       refine ⟨_,rfl,?_⟩
       replace BK332:=Aside0.mk (blk_below (g:=gb332) (o:=.cells #[.bool false,.slice A0_1 l0_1.length c0_1,.slice A0_2 l0_2.length c0_2,.slice (some ad346) l0_3.length c0_3] 27 (0,0)) (by (with_reducible repeat (first|apply zb1|apply zb2|apply zb3));exact BK332.out) hb)
       replace HB:=Aside0.mk (below_step (by repeat (first|(with_reducible first|exact HB.out|apply zl1|apply zl2|apply zl3|refine below_set ?_ GE332.out)|exact HB.out)) hb)
       (try clear hb)
       (try clear hb2)
       (try clear hk)
       (try clear hi)
       refine hK.out _ _ ⟨(blk_cell BK332.out 0).trans rfl,(blk_cell BK332.out 1).trans rfl,(blk_cell BK332.out 2).trans rfl,(blk_cell BK332.out 3).trans rfl,((HB.out.cell (World.block_lt_of_cell? w _ hw346_0)).trans hw346_0)⟩ (fun hHeld=>?_)
       clear hK K
       refine norm_ (a':=?_) ?_ ?_
       rotate_left
       ·show Act.put _ (some 46) _=_
        simp only [Act.put,List.setIfInBounds_toArray,List.set_cons_zero,List.set_cons_succ,i64_w,i32_w]
        rfl
       refine one_ (i:=5) (N:=some 51) #[true,true,true,true,true,true,false,true,true,true,true,true,false,false,false] rfl rfl (one_of HT_.out (by kernel_rfl)) (by decide) (fun K hK=>?_)
       refine goes_ Tryd.func50 (by kernel_rfl) rfl #[.int .u64 (IntKind.u64.wrap ((l0_2.length:Int))),.int .i64 1] (by rfl) rfl rfl (by (try simp only [List.map_toArray,List.map_cons,List.map_nil]);first|done|rfl|(simp only [List.length_drop,List.length_take];rfl)|(simp (disch:=omega) only [u64_in];rfl)) ?_
       with_reducible refine (factotumref01_Num.calls k (IntKind.u64.wrap ((l0_2.length:Int))) 1 t345 _ A43.out).mono ?_
       rintro e w56 ⟨rfl,hb⟩
       refine ⟨_,rfl,?_⟩
       replace BK332:=Aside0.mk (blk_below (g:=gb332) (o:=.cells #[.bool false,.slice A0_1 l0_1.length c0_1,.slice A0_2 l0_2.length c0_2,.slice (some ad346) l0_3.length c0_3] 27 (0,0)) (by (with_reducible repeat (first|apply zb1|apply zb2|apply zb3));exact BK332.out) hb)
       replace HB:=Aside0.mk (below_step (by repeat (first|(with_reducible first|exact HB.out|apply zl1|apply zl2|apply zl3|refine below_set ?_ GE332.out)|exact HB.out)) hb)
       (try clear hb)
       (try clear hb2)
       (try clear hk)
       (try clear hi)
       refine hK.out _ _ ⟨(blk_cell BK332.out 0).trans rfl,(blk_cell BK332.out 1).trans rfl,(blk_cell BK332.out 2).trans rfl,(blk_cell BK332.out 3).trans rfl,((HB.out.cell (World.block_lt_of_cell? w _ hw346_0)).trans hw346_0)⟩ (fun hHeld=>?_)
       clear hK K
       refine norm_ (a':=?_) ?_ ?_
       rotate_left
       ·show Act.put _ (some 51) _=_
        simp only [Act.put,List.setIfInBounds_toArray,List.set_cons_zero,List.set_cons_succ,i64_w,i32_w]
        rfl
       refine pure_ (i:=6) (N:=some 52) (v:=?_) (a':=?_) #[true,true,true,true,true,true,true,true,true,true,true,true,false,false,false] rfl rfl (any_of HT_.out (by kernel_rfl)) (fun _ _ _ h=>h) (Or.inl ⟨by rfl,?_⟩) ?_ ?_
       rotate_left
       ·intro w'
        go_simp
        with_reducible rfl
       rotate_left
       ·simp only [Act.put,List.setIfInBounds_toArray,List.set_cons_zero,List.set_cons_succ,i64_w,i32_w]
        rfl
       refine one_ (i:=12) (N:=some 58) #[true,true,true,true,true,true,true,true,true,true,true,true,true,false,false] rfl rfl (one_of HT_.out (by kernel_rfl)) (by decide) (fun K hK=>?_)
       refine goes_ Tryd.func50 (by kernel_rfl) rfl #[.int .u64 (IntKind.u64.wrap (rd l0_3 0)),.int .i64 2] (by rfl) rfl rfl (by (try simp only [List.map_toArray,List.map_cons,List.map_nil]);first|done|rfl|(simp only [List.length_drop,List.length_take];rfl)|(simp (disch:=omega) only [u64_in];rfl)) ?_
       with_reducible refine (factotumref01_Num.calls k (IntKind.u64.wrap (rd l0_3 0)) 2 t347 _ A46.out).mono ?_
       rintro e w57 ⟨rfl,hb⟩
       refine ⟨_,rfl,?_⟩
       replace BK332:=Aside0.mk (blk_below (g:=gb332) (o:=.cells #[.bool false,.slice A0_1 l0_1.length c0_1,.slice A0_2 l0_2.length c0_2,.slice (some ad346) l0_3.length c0_3] 27 (0,0)) (by (with_reducible repeat (first|apply zb1|apply zb2|apply zb3));exact BK332.out) hb)
       replace HB:=Aside0.mk (below_step (by repeat (first|(with_reducible first|exact HB.out|apply zl1|apply zl2|apply zl3|refine below_set ?_ GE332.out)|exact HB.out)) hb)
       (try clear hb)
       (try clear hb2)
       (try clear hk)
       (try clear hi)
       refine hK.out _ _ ⟨(blk_cell BK332.out 0).trans rfl,(blk_cell BK332.out 1).trans rfl,(blk_cell BK332.out 2).trans rfl,(blk_cell BK332.out 3).trans rfl,((HB.out.cell (World.block_lt_of_cell? w _ hw346_0)).trans hw346_0)⟩ (fun hHeld=>?_)
       clear hK K
       refine norm_ (a':=?_) ?_ ?_
       rotate_left
       ·show Act.put _ (some 58) _=_
        simp only [Act.put,List.setIfInBounds_toArray,List.set_cons_zero,List.set_cons_succ,i64_w,i32_w]
        rfl
       refine pure_ (i:=13) (N:=some 59) (v:=?_) (a':=?_) #[true,true,true,true,true,true,true,true,true,true,true,true,true,true,false] rfl rfl (any_of HT_.out (by kernel_rfl)) (fun _ _ _ h=>h) (Or.inl ⟨by rfl,?_⟩) ?_ ?_
       rotate_left
       ·intro w'
        go_simp
        with_reducible rfl
       rotate_left
       ·simp only [Act.put,List.setIfInBounds_toArray,List.set_cons_zero,List.set_cons_succ,i64_w,i32_w]
        rfl
       refine pure_ (i:=14) (N:=some 4) (v:=?_) (a':=?_) #[true,true,true,true,true,true,true,true,true,true,true,true,true,true,true] rfl rfl (any_of HT_.out (by kernel_rfl)) (fun _ _ _ h=>h) (Or.inl ⟨by rfl,?_⟩) ?_ ?_
       rotate_left
       ·intro w'
        go_simp
        with_reducible rfl
       rotate_left
       ·simp only [Act.put,List.setIfInBounds_toArray,List.set_cons_zero,List.set_cons_succ,i64_w,i32_w]
        rfl
       refine done_ (done_of HT_.out (by kernel_rfl)) ?_
       try go_wp2
       go_loopg [4,6] k (fun kq v4 v6 w'=>∃ (x4_1:ByteArray) (x6_1:Int),v4=.string x4_1∧v6=.int .i64 x6_1∧Aside0 (factotumref09_Write.l1 kq x4_1 x6_1 false l0_1 l0_2 l0_3=some (r1,r2))∧Aside0 (kq≤k)∧Aside0 (w'.heap[gb332]?=some (.cells #[.bool false,(.slice A0_1 l0_1.length c0_1),(.slice A0_2 l0_2.length c0_2),(.slice (some ad346) l0_3.length c0_3)] 27 (0,0)))∧Aside0 (Below w.heap.size w w'))
       case atStart=>exact ⟨((t344 ++ t345) ++ t347),(0),(by first|(with_reducible rfl)|(simp;done)|(simp [*];done)|rfl|(simp only [not_isEmpty_bne])),(by first|(with_reducible rfl)|(simp;done)|(simp [*];done)|rfl|(simp only [not_isEmpty_bne])),H',⟨Nat.le_refl _⟩,⟨by (with_reducible repeat (first|apply zb1|apply zb2|apply zb3));exact BK332.out⟩,⟨by repeat (first|(with_reducible first|exact HB.out|apply zl1|apply zl2|apply zl3|refine below_set ?_ GE332.out)|exact HB.out)⟩⟩
       case round =>
        clear H'
        try clear c1
        try clear c2
        try clear p2
        try clear c3
        try clear p3
        try clear q3
        try clear hx3
        try clear qi3
        try clear c4
        try clear hcv4
        try clear c5
        try clear c5b0
        try clear p6
        try clear c11
        try clear c14
        try clear c14b0
        try clear c14b1
        try clear c14b2
        try clear c22
        try clear c24
        try clear c24b0
        try clear c25
        try clear c25b0
        try clear c28
        try clear c28b0
        try clear c28b1
        try clear c28b2
        try clear c29
        try clear c29b0
        try clear c29b1
        try clear c29b2
        try clear p34
        try clear q34
        try clear hx34
        try clear qi34
        try clear c35
        try clear c35b0
        try clear c35b1
        try clear c36
        try clear c36b0
        try clear c36b1
        try clear c37
        try clear c37b0
        try clear c37b1
        try clear c37b2
        try clear hcv41
        try clear c44
        try clear c44b0
        try clear c44b1
        try clear c44b2
        try clear c45
        try clear c45b0
        try clear c45b1
        try clear c47
        try clear c47b0
        try clear c47b1
        try clear c47b2
        try clear c48
        try clear c49
        try clear c50
        try clear hcz16_0 hcz16_1 hcz16_2 hcz16_3 hcz18_0 hcz18_1 hcz18_2 hcz18_3 hcz20_0 hcz20_1 hcz20_2 hcz20_3 hcz30_0 hcz30_1 hcz30_2 hcz30_3 hcz38_0 hcz38_1 hcz38_2 hcz38_3 hcz49_0 hcz49_1 hcz49_2 hcz49_3 hcz51_0 hcz51_1 hcz51_2 hcz51_3 hcz53_0
        try clear c51
        try clear hfz16_0 hfz16_1 hfz16_2 hfz16_3 hfz18_0 hfz18_1 hfz18_2 hfz18_3 hfz20_0 hfz20_1 hfz20_2 hfz20_3 hfz30_0 hfz30_1 hfz30_2 hfz30_3 hfz38_0 hfz38_1 hfz38_2
        try clear hcz53_1 hcz53_2 hcz53_3 hcz7_0 hcz7_1 hcz7_2 hcz7_3 hcz9_0 hcz9_1 hcz9_2 hcz9_3
        try clear hfz38_3 hfz49_0 hfz49_1 hfz49_2 hfz49_3 hfz51_0 hfz51_1 hfz51_2 hfz51_3 hfz53_0 hfz53_1 hfz53_2 hfz53_3 hfz7_0 hfz7_1 hfz7_2 hfz7_3 hfz9_0 hfz9_1 hfz9_2 hfz9_3
        try clear hx340_0
        try clear hx340_1
        try clear hx342_0
        try clear hx342_1
        try clear hx346_0
        try clear p2
        try clear p340
        try clear p342
        try clear p346
        try clear q340
        try clear q342
        try clear q346
        obtain ⟨x4_1,x6_1,rfl,rfl,HA,HK1,BK332,HB⟩:=hrel
        cases gk with
        | zero=>exact absurd HA.out (by simp [factotumref09_Write.l1])
        | succ k1 =>
         have H:=HA.out
         clear HA
         simp only [factotumref09_Write.l1] at H
         by_cases c58:x6_1 < (l0_2.length:Int)
         ·rw [if_pos c58] at H
          have c58b0:decide (x6_1 < (l0_2.length:Int))=true:=decide_eq_true c58
          clear c58
          by_cases c59:0≤x6_1
          ·rw [if_pos c59] at H
           have c59b0:decide (0≤x6_1)=true:=decide_eq_true c59
           clear c59
           replace H:=Option.bind_eq_some_iff.mp H
           obtain ⟨t352,A600,H⟩:=H
           replace H:(if 0≤(wrap64 (x6_1 + 1)) then (if (wrap64 (x6_1 + 1)) < (l0_3.length:Int) then ((factotumref01_Num.f k1 (IntKind.u64.wrap (rd l0_3 (wrap64 (x6_1 + 1)))) 2).bind fun t354=>(if t352.size + t354.size≤9223372036854775807 then (if x4_1.size + (t352 ++ t354).size≤9223372036854775807 then (factotumref09_Write.l1 k1 (x4_1 ++ (t352 ++ t354)) (wrap64 (x6_1 + 1)) false l0_1 l0_2 l0_3) else (none)) else (none))) else (none)) else (none))=some (r1,r2):=H
           have A60:=Aside0.mk A600
           clear A600
           obtain ⟨ji61,hji61⟩:∃ j_:Int,(wrap64 (x6_1 + 1))=j_:=⟨_,rfl⟩
           replace H:(if 0≤(ji61) then (if (ji61) < (l0_3.length:Int) then ((factotumref01_Num.f k1 (IntKind.u64.wrap (rd l0_3 (ji61))) 2).bind fun t354=>(if t352.size + t354.size≤9223372036854775807 then (if x4_1.size + (t352 ++ t354).size≤9223372036854775807 then (factotumref09_Write.l1 k1 (x4_1 ++ (t352 ++ t354)) ji61 false l0_1 l0_2 l0_3) else (none)) else (none))) else (none)) else (none))=some (r1,r2):=by first|(rw [hji61] at H;exact H)|(simp only [hji61] at H ⊢;exact H)
           (try rw [hji61] at A60)
           have hji61w:(IntKind.i64.wrap (x6_1 + 1))=ji61:=(i64_w _).trans hji61
           by_cases c62:0≤(ji61)
           ·rw [if_pos c62] at H
            have c62b0:decide (0≤(ji61))=true:=decide_eq_true c62
            clear c62
            by_cases c63:(ji61) < (l0_3.length:Int)
            ·rw [if_pos c63] at H
             have c63b0:decide ((ji61) < (l0_3.length:Int))=true:=decide_eq_true c63
             clear c63
             replace H:=Option.bind_eq_some_iff.mp H
             obtain ⟨t354,A640,H⟩:=H
             replace H:(if t352.size + t354.size≤9223372036854775807 then (if x4_1.size + (t352 ++ t354).size≤9223372036854775807 then (factotumref09_Write.l1 k1 (x4_1 ++ (t352 ++ t354)) ji61 false l0_1 l0_2 l0_3) else (none)) else (none))=some (r1,r2):=H
             have A64:=Aside0.mk A640
             clear A640
             by_cases c65:t352.size + t354.size≤9223372036854775807
             ·rw [if_pos c65] at H
              have c65b0:=eq_true c65
              have c65b1:decide (t352.size + t354.size≤9223372036854775807)=true:=decide_eq_true c65
              try have c65b2:(9223372036854775807 < t352.size + t354.size)=False:=eq_false (Nat.not_lt.2 c65)
              by_cases c66:x4_1.size + (t352 ++ t354).size≤9223372036854775807
              ·rw [if_pos c66] at H
               have c66b0:=eq_true c66
               have c66b1:decide (x4_1.size + (t352 ++ t354).size≤9223372036854775807)=true:=decide_eq_true c66
               (try (have c66x:=c66;simp at c66x))
               try have c66b2:(9223372036854775807 < x4_1.size + (t352 ++ t354).size)=False:=eq_false (Nat.not_lt.2 c66)
               (try have c66b3:=c66b2)
               (try simp only [ByteArray.size_append,ByteArray.size_extract] at c66b3)
               (try rw [Nat.min_eq_left (by omega)] at c66b3)
               have H':=Aside0.mk H
               clear H
               have hcz67_0:wr.cell? ⟨gb332,0,none⟩=some (.bool false):=(blk_cell BK332.out 0).trans rfl
               have hcz67_1:wr.cell? ⟨gb332,1,none⟩=some (.slice A0_1 l0_1.length c0_1):=(blk_cell BK332.out 1).trans rfl
               have hcz67_2:wr.cell? ⟨gb332,2,none⟩=some (.slice A0_2 l0_2.length c0_2):=(blk_cell BK332.out 2).trans rfl
               have hcz67_3:wr.cell? ⟨gb332,3,none⟩=some (.slice (some ad346) l0_3.length c0_3):=(blk_cell BK332.out 3).trans rfl
               have hfz67_0:=blk_frozen BK332.out 0
               have hfz67_1:=blk_frozen BK332.out 1
               have hfz67_2:=blk_frozen BK332.out 2
               have hfz67_3:=blk_frozen BK332.out 3
               try go_wp2
               replace BK332:=Aside0.mk (blk_drew BK332.out)
               replace HB:=Aside0.mk (below_drew1 HB.out)
               have p351:0≤(x6_1:Int):=of_decide_eq_true (by first|(with_reducible assumption)|assumption)
               have q351:x6_1 < (l0_2.length:Int):=of_decide_eq_true (by first|(with_reducible assumption)|assumption)
               obtain ⟨ad351,e351,hx351_0⟩:=Kd.at_string HR0_2.out x6_1 p351 q351
               have hw351_0:=hx351_0
               cases e351
               replace hx351_0:=(HB.out.cell (World.block_lt_of_cell? w _ hx351_0)).trans hx351_0
               replace p351:=eq_true p351
               replace q351:=eq_true q351
               have p353:0≤((ji61):Int):=of_decide_eq_true (by first|(with_reducible assumption)|assumption)
               have q353:(ji61) < (l0_3.length:Int):=of_decide_eq_true (by first|(with_reducible assumption)|assumption)
               obtain ⟨ad353,e353,hx353_0⟩:=Kd.at_int HR0_3.out (ji61) p353 q353
               have hw353_0:=hx353_0
               obtain rfl:ad346=ad353:=(by injection e353)
               replace hx353_0:=(HB.out.cell (World.block_lt_of_cell? w _ hx353_0)).trans hx353_0
               replace p353:=eq_true p353
               replace q353:=eq_true q353
               refine start_ (n:=18) (S:=fun w'=>w'.cell? ⟨gb332,0,none⟩=some (.bool false)∧w'.cell? ⟨gb332,1,none⟩=some (.slice A0_1 l0_1.length c0_1)∧w'.cell? ⟨gb332,2,none⟩=some (.slice (some ad351) l0_2.length c0_2)∧w'.cell? ⟨gb332,3,none⟩=some (.slice (some ad346) l0_3.length c0_3)∧w'.cell? (ad351.add (x6_1).toNat)=some (.string (rdOf ByteArray.empty l0_2 x6_1))∧w'.cell? (ad346.add ((ji61)).toNat)=some (.int .i64 (rd l0_3 (ji61)))) (ds:=[]) #[false,false,false,false,false,false,false,false,false,false,false,false,false,false,false,false,false,false] (by kernel_rfl) rfl rfl ⟨(blk_cell BK332.out 0).trans rfl,(blk_cell BK332.out 1).trans rfl,(blk_cell BK332.out 2).trans rfl,(blk_cell BK332.out 3).trans rfl,((HB.out.cell (World.block_lt_of_cell? w _ hw351_0)).trans hw351_0),((HB.out.cell (World.block_lt_of_cell? w _ hw353_0)).trans hw353_0)⟩ (fun hHeld=>?_);refine with_tabW factotumref09_Write.tab16 factotumref09_Write.bits16 (fun HT_ HW_=>?_)
               generalize wr.drew=w68 at BK332 HB hx351_0 hx353_0 hHeld ⊢
               refine pure_ (i:=0) (N:=some 67) (v:=?_) (a':=?_) #[true,false,false,false,false,false,false,false,false,false,false,false,false,false,false,false,false,false] rfl rfl (any_of HT_.out (by kernel_rfl)) (fun _ _ _ h=>h) (Or.inl ⟨by rfl,?_⟩) ?_ ?_
               rotate_left
               ·intro w'
                go_simp
                with_reducible rfl
               rotate_left
               ·simp only [Act.put,List.setIfInBounds_toArray,List.set_cons_zero,List.set_cons_succ,i64_w,i32_w]
                rfl
               refine pure_ (i:=1) (N:=some 68) (v:=?_) (a':=?_) #[true,true,false,false,false,false,false,false,false,false,false,false,false,false,false,false,false,false] rfl rfl (any_of HT_.out (by kernel_rfl)) (fun _ _ _ h=>h) (Or.inl ⟨by rfl,?_⟩) ?_ ?_
               rotate_left
               ·intro w'
                go_simp
                with_reducible rfl
               rotate_left
               ·simp only [Act.put,List.setIfInBounds_toArray,List.set_cons_zero,List.set_cons_succ,i64_w,i32_w]
                rfl
               refine pure_ (i:=3) (N:=some 70) (v:=?_) (a':=?_) #[true,true,false,true,false,false,false,false,false,false,false,false,false,false,false,false,false,false] rfl rfl (any_of HT_.out (by kernel_rfl)) (fun _ _ _ h=>h) (Or.inl ⟨by rfl,?_⟩) ?_ ?_
               rotate_left
               ·intro w'
                go_simp
                with_reducible rfl
               rotate_left
               ·simp only [Act.put,List.setIfInBounds_toArray,List.set_cons_zero,List.set_cons_succ,i64_w,i32_w]
                rfl
               refine pure_ (i:=7) (N:=some 74) (v:=?_) (a':=?_) #[true,true,false,true,false,false,false,true,false,false,false,false,false,false,false,false,false,false] rfl rfl (any_of HT_.out (by kernel_rfl)) (fun _ _ _ h=>h) (Or.inl ⟨by rfl,?_⟩) ?_ ?_
               rotate_left
               ·intro w'
                go_simp
                with_reducible rfl
               rotate_left
               ·simp only [Act.put,List.setIfInBounds_toArray,List.set_cons_zero,List.set_cons_succ,i64_w,i32_w]
                rfl
               refine pure_ (i:=9) (N:=some 76) (v:=?_) (a':=?_) #[true,true,false,true,false,false,false,true,false,true,false,false,false,false,false,false,false,false] rfl rfl (any_of HT_.out (by kernel_rfl)) (fun _ _ _ h=>h) (Or.inl ⟨by rfl,?_⟩) ?_ ?_
               rotate_left
               ·intro w'
                go_simp
                with_reducible rfl
               rotate_left
               ·simp only [Act.put,List.setIfInBounds_toArray,List.set_cons_zero,List.set_cons_succ,i64_w,i32_w]
                rfl
               refine pure_ (i:=10) (N:=some 77) (v:=?_) (a':=?_) #[true,true,false,true,false,false,false,true,false,true,true,false,false,false,false,false,false,false] rfl rfl (any_of HT_.out (by kernel_rfl)) (fun _ _ _ h=>h) (Or.inl ⟨by rfl,?_⟩) ?_ ?_
               rotate_left
               ·intro w'
                go_simp
                with_reducible rfl
               rotate_left
               ·simp only [Act.put,List.setIfInBounds_toArray,List.set_cons_zero,List.set_cons_succ,i64_w,i32_w]
                rfl
               refine take_ (i:=2) (N:=some 69) (v:=?_) (a':=?_) #[true,true,true,true,false,false,false,true,false,true,true,false,false,false,false,false,false,false] rfl rfl (take_ofW HT_.out HW_.out (by kernel_rfl)) (fun _ _ _ h=>h) (Or.inl ⟨by rfl,?_⟩) hHeld ?_ ?_
               rotate_left
               ·rintro w' ⟨s0,s1,s2,s3,s4,s5⟩
                go_simp
                with_reducible rfl
               rotate_left
               ·simp only [Act.put,List.setIfInBounds_toArray,List.set_cons_zero,List.set_cons_succ,i64_w,i32_w]
                rfl
               refine pure_ (i:=4) (N:=some 71) (v:=?_) (a':=?_) #[true,true,true,true,true,false,false,true,false,true,true,false,false,false,false,false,false,false] rfl rfl (any_of HT_.out (by kernel_rfl)) (fun _ _ _ h=>h) (Or.inl ⟨by rfl,?_⟩) ?_ ?_
               rotate_left
               ·intro w'
                go_simp
                with_reducible rfl
               rotate_left
               ·simp only [Act.put,List.setIfInBounds_toArray,List.set_cons_zero,List.set_cons_succ,i64_w,i32_w]
                rfl
               refine take_ (i:=5) (N:=some 72) (v:=?_) (a':=?_) #[true,true,true,true,true,true,false,true,false,true,true,false,false,false,false,false,false,false] rfl rfl (take_ofW HT_.out HW_.out (by kernel_rfl)) (fun _ _ _ h=>h) (Or.inl ⟨by rfl,?_⟩) hHeld ?_ ?_
               rotate_left
               ·rintro w' ⟨s0,s1,s2,s3,s4,s5⟩
                go_simp
                with_reducible rfl
               rotate_left
               ·simp only [Act.put,List.setIfInBounds_toArray,List.set_cons_zero,List.set_cons_succ,i64_w,i32_w]
                rfl
               refine take_ (i:=8) (N:=some 75) (v:=?_) (a':=?_) #[true,true,true,true,true,true,false,true,true,true,true,false,false,false,false,false,false,false] rfl rfl (take_ofW HT_.out HW_.out (by kernel_rfl)) (fun _ _ _ h=>h) (Or.inl ⟨by rfl,?_⟩) hHeld ?_ ?_
               rotate_left
               ·rintro w' ⟨s0,s1,s2,s3,s4,s5⟩
                go_simp
                with_reducible rfl
               rotate_left
               ·simp only [Act.put,List.setIfInBounds_toArray,List.set_cons_zero,List.set_cons_succ,i64_w,i32_w]
                rfl
               refine pure_ (i:=11) (N:=some 78) (v:=?_) (a':=?_) #[true,true,true,true,true,true,false,true,true,true,true,true,false,false,false,false,false,false] rfl rfl (any_of HT_.out (by kernel_rfl)) (fun _ _ _ h=>h) (Or.inl ⟨by rfl,?_⟩) ?_ ?_
               rotate_left
               ·intro w'
                go_simp
                with_reducible rfl
               rotate_left
               ·simp only [Act.put,List.setIfInBounds_toArray,List.set_cons_zero,List.set_cons_succ,i64_w,i32_w]
                rfl
               refine take_ (i:=12) (N:=some 79) (v:=?_) (a':=?_) #[true,true,true,true,true,true,false,true,true,true,true,true,true,false,false,false,false,false] rfl rfl (take_ofW HT_.out HW_.out (by kernel_rfl)) (fun _ _ _ h=>h) (Or.inl ⟨by rfl,?_⟩) hHeld ?_ ?_
               rotate_left
               ·rintro w' ⟨s0,s1,s2,s3,s4,s5⟩
                go_simp
                with_reducible rfl
               rotate_left
               ·simp only [Act.put,List.setIfInBounds_toArray,List.set_cons_zero,List.set_cons_succ,i64_w,i32_w]
                rfl
               refine pure_ (i:=13) (N:=some 80) (v:=?_) (a':=?_) #[true,true,true,true,true,true,false,true,true,true,true,true,true,true,false,false,false,false] rfl rfl (any_of HT_.out (by kernel_rfl)) (fun _ _ _ h=>h) (Or.inl ⟨by rfl,?_⟩) ?_ ?_
               rotate_left
               ·intro w'
                go_simp
                with_reducible rfl
               rotate_left
               ·simp only [Act.put,List.setIfInBounds_toArray,List.set_cons_zero,List.set_cons_succ,i64_w,i32_w]
                rfl
               refine one_ (i:=6) (N:=some 73) #[true,true,true,true,true,true,true,true,true,true,true,true,true,true,false,false,false,false] rfl rfl (one_of HT_.out (by kernel_rfl)) (by decide) (fun K hK=>?_)
               refine goes_ Tryd.func51 (by kernel_rfl) rfl #[.string (rdOf ByteArray.empty l0_2 x6_1)] (by rfl) rfl rfl (by (try simp only [List.map_toArray,List.map_cons,List.map_nil]);first|done|rfl|(simp only [List.length_drop,List.length_take];rfl)|(simp (disch:=omega) only [u64_in];rfl)) ?_
               with_reducible refine (factotumref01_Str.calls k1 (rdOf ByteArray.empty l0_2 x6_1) t352 _ A60.out).mono ?_
               rintro e w69 ⟨rfl,hb⟩
               refine ⟨_,rfl,?_⟩
               replace BK332:=Aside0.mk (blk_below (g:=gb332) (o:=.cells #[.bool false,.slice A0_1 l0_1.length c0_1,.slice (some ad351) l0_2.length c0_2,.slice (some ad346) l0_3.length c0_3] 27 (0,0)) (by (with_reducible repeat (first|apply zb1|apply zb2|apply zb3));exact BK332.out) hb)
               replace HB:=Aside0.mk (below_step (by repeat (first|(with_reducible first|exact HB.out|apply zl1|apply zl2|apply zl3|refine below_set ?_ GE332.out)|exact HB.out)) hb)
               (try clear hb)
               (try clear hb2)
               (try clear hk)
               (try clear hi)
               refine hK.out _ _ ⟨(blk_cell BK332.out 0).trans rfl,(blk_cell BK332.out 1).trans rfl,(blk_cell BK332.out 2).trans rfl,(blk_cell BK332.out 3).trans rfl,((HB.out.cell (World.block_lt_of_cell? w _ hw351_0)).trans hw351_0),((HB.out.cell (World.block_lt_of_cell? w _ hw353_0)).trans hw353_0)⟩ (fun hHeld=>?_)
               clear hK K
               refine norm_ (a':=?_) ?_ ?_
               rotate_left
               ·show Act.put _ (some 73) _=_
                simp only [Act.put,List.setIfInBounds_toArray,List.set_cons_zero,List.set_cons_succ,i64_w,i32_w]
                rfl
               refine one_ (i:=14) (N:=some 81) #[true,true,true,true,true,true,true,true,true,true,true,true,true,true,true,false,false,false] rfl rfl (one_of HT_.out (by kernel_rfl)) (by decide) (fun K hK=>?_)
               refine goes_ Tryd.func50 (by kernel_rfl) rfl #[.int .u64 (IntKind.u64.wrap (rd l0_3 (ji61))),.int .i64 2] (by rfl) rfl rfl (by (try simp only [List.map_toArray,List.map_cons,List.map_nil]);first|done|(simp only [hji61];rfl)|rfl|(simp only [List.length_drop,List.length_take];rfl)|(simp (disch:=omega) only [u64_in];rfl)) ?_
               with_reducible refine (factotumref01_Num.calls k1 (IntKind.u64.wrap (rd l0_3 (ji61))) 2 t354 _ A64.out).mono ?_
               rintro e w70 ⟨rfl,hb⟩
               refine ⟨_,rfl,?_⟩
               replace BK332:=Aside0.mk (blk_below (g:=gb332) (o:=.cells #[.bool false,.slice A0_1 l0_1.length c0_1,.slice (some ad351) l0_2.length c0_2,.slice (some ad346) l0_3.length c0_3] 27 (0,0)) (by (with_reducible repeat (first|apply zb1|apply zb2|apply zb3));exact BK332.out) hb)
               replace HB:=Aside0.mk (below_step (by repeat (first|(with_reducible first|exact HB.out|apply zl1|apply zl2|apply zl3|refine below_set ?_ GE332.out)|exact HB.out)) hb)
               (try clear hb)
               (try clear hb2)
               (try clear hk)
               (try clear hi)
               refine hK.out _ _ ⟨(blk_cell BK332.out 0).trans rfl,(blk_cell BK332.out 1).trans rfl,(blk_cell BK332.out 2).trans rfl,(blk_cell BK332.out 3).trans rfl,((HB.out.cell (World.block_lt_of_cell? w _ hw351_0)).trans hw351_0),((HB.out.cell (World.block_lt_of_cell? w _ hw353_0)).trans hw353_0)⟩ (fun hHeld=>?_)
               clear hK K
               refine norm_ (a':=?_) ?_ ?_
               rotate_left
               ·show Act.put _ (some 81) _=_
                simp only [Act.put,List.setIfInBounds_toArray,List.set_cons_zero,List.set_cons_succ,i64_w,i32_w]
                rfl
               refine pure_ (i:=15) (N:=some 82) (v:=?_) (a':=?_) #[true,true,true,true,true,true,true,true,true,true,true,true,true,true,true,true,false,false] rfl rfl (any_of HT_.out (by kernel_rfl)) (fun _ _ _ h=>h) (Or.inl ⟨by rfl,?_⟩) ?_ ?_
               rotate_left
               ·intro w'
                go_simp
                with_reducible rfl
               rotate_left
               ·simp only [Act.put,List.setIfInBounds_toArray,List.set_cons_zero,List.set_cons_succ,i64_w,i32_w]
                rfl
               refine pure_ (i:=16) (N:=some 83) (v:=?_) (a':=?_) #[true,true,true,true,true,true,true,true,true,true,true,true,true,true,true,true,true,false] rfl rfl (any_of HT_.out (by kernel_rfl)) (fun _ _ _ h=>h) (Or.inl ⟨by rfl,?_⟩) ?_ ?_
               rotate_left
               ·intro w'
                go_simp
                with_reducible rfl
               rotate_left
               ·simp only [Act.put,List.setIfInBounds_toArray,List.set_cons_zero,List.set_cons_succ,i64_w,i32_w]
                rfl
               refine pure_ (i:=17) (N:=some 4) (v:=?_) (a':=?_) #[true,true,true,true,true,true,true,true,true,true,true,true,true,true,true,true,true,true] rfl rfl (any_of HT_.out (by kernel_rfl)) (fun _ _ _ h=>h) (Or.inl ⟨by rfl,?_⟩) ?_ ?_
               rotate_left
               ·intro w'
                go_simp
                with_reducible rfl
               rotate_left
               ·simp only [Act.put,List.setIfInBounds_toArray,List.set_cons_zero,List.set_cons_succ,i64_w,i32_w]
                rfl
               refine done_ (done_of HT_.out (by kernel_rfl)) ?_
               try go_wp2
               go_roundg k1
               case measure=>have:=HK1.out;omega
               case rel=>exact ⟨(x4_1 ++ (t352 ++ t354)),(ji61),(by first|(with_reducible rfl)|(simp;done)|(simp [*];done)|rfl|(simp only [not_isEmpty_bne])),(by first|rfl|(simp;done)|(simp only [← hji61] <;> (first|rfl|simp))|(simp [*];done)),H',⟨by have:=HK1.out;omega⟩,⟨by (with_reducible repeat (first|apply zb1|apply zb2|apply zb3));exact BK332.out⟩,⟨by repeat (first|(with_reducible first|exact HB.out|apply zl1|apply zl2|apply zl3|refine below_set ?_ GE332.out)|exact HB.out)⟩⟩
              ·rw [if_neg c66] at H
               exact absurd H (by simp)
             ·rw [if_neg c65] at H
              exact absurd H (by simp)
            ·rw [if_neg c63] at H
             exact absurd H (by simp)
           ·rw [if_neg c62] at H
            exact absurd H (by simp)
          ·rw [if_neg c59] at H
           exact absurd H (by simp)
         ·rw [if_neg c58] at H
          have c58b0:decide (x6_1 < (l0_2.length:Int))=false:=decide_eq_false c58
          clear c58
          obtain ⟨ji71,hji71⟩:∃ j_:Int,(wrap64 (256 - (x4_1.size:Int)))=j_:=⟨_,rfl⟩
          replace H:(if 0≤(ji71) then (if (ji71:Int).toNat≤281474976710656 then ((some (List.replicate (ji71:Int).toNat 0:List Int)).bind fun y348=>(if x4_1.size + (strOfNums y348).size≤9223372036854775807 then (some (x4_1 ++ (strOfNums y348),0)) else (none))) else (none)) else (none))=some (r1,r2):=by first|(rw [hji71] at H;exact H)|(simp only [hji71] at H ⊢;exact H)
          have hji71w:(IntKind.i64.wrap (256 - (x4_1.size:Int)))=ji71:=(i64_w _).trans hji71
          by_cases c72:0≤(ji71)
          ·rw [if_pos c72] at H
           have c72b0:=eq_true c72
           have c72b1:decide (0≤(ji71))=true:=decide_eq_true c72
           clear c72
           by_cases c73:(ji71:Int).toNat≤281474976710656
           ·rw [if_pos c73] at H
            have c73b0:=eq_true c73
            have c73b1:decide ((ji71:Int).toNat≤281474976710656)=true:=decide_eq_true c73
            clear c73
            obtain ⟨y348,hy348⟩:∃ y_:List Int,y_=(List.replicate (ji71:Int).toNat 0):=⟨_,rfl⟩
            replace H:(if x4_1.size + (strOfNums y348).size≤9223372036854775807 then (some (x4_1 ++ (strOfNums y348),0)) else (none))=some (r1,r2):=by first|(rw [hy348];with_reducible exact H)|(have H2_:=(Option.bind_some _ _).symm.trans H;rw [hy348];with_reducible exact H2_)|(have H2_:=(Option.bind_some _ _).symm.trans H;with_reducible exact H2_)|with_reducible exact H|(rw [hy348];exact H)|exact H
            have Ny348:=Aside0.mk hy348
            clear hy348
            by_cases c74:x4_1.size + (strOfNums y348).size≤9223372036854775807
            ·rw [if_pos c74] at H
             have c74b0:=eq_true c74
             have c74b1:decide (x4_1.size + (strOfNums y348).size≤9223372036854775807)=true:=decide_eq_true c74
             try have c74b2:(9223372036854775807 < x4_1.size + (strOfNums y348).size)=False:=eq_false (Nat.not_lt.2 c74)
             simp only [Option.some.injEq,Prod.mk.injEq] at H
             obtain ⟨rfl,rfl⟩:=H
             have hcz75_0:wr.cell? ⟨gb332,0,none⟩=some (.bool false):=(blk_cell BK332.out 0).trans rfl
             have hcz75_1:wr.cell? ⟨gb332,1,none⟩=some (.slice A0_1 l0_1.length c0_1):=(blk_cell BK332.out 1).trans rfl
             have hcz75_2:wr.cell? ⟨gb332,2,none⟩=some (.slice A0_2 l0_2.length c0_2):=(blk_cell BK332.out 2).trans rfl
             have hcz75_3:wr.cell? ⟨gb332,3,none⟩=some (.slice (some ad346) l0_3.length c0_3):=(blk_cell BK332.out 3).trans rfl
             have hfz75_0:=blk_frozen BK332.out 0
             have hfz75_1:=blk_frozen BK332.out 1
             have hfz75_2:=blk_frozen BK332.out 2
             have hfz75_3:=blk_frozen BK332.out 3
             go_wp2_with (first|((with_reducible refine gate_dst (N:=88) rfl ?_);refine Kd.R_make (Kd.int .u8) _ 5 rfl (N:=88) rfl 52 _ _ rfl ji71 rfl rfl Tryd.underlying52 (.int .u8 0) 1 info5 rfl (by decide) (by omega) 0 (ok:=fun _=>True) (okp:=fun _=>True) rfl (fun _ hk=>hk) trivial (of_decide_eq_true (by first|(with_reducible assumption)|assumption)) (Nat.le_trans (Nat.mul_le_mul_right _ (of_decide_eq_true (by first|(with_reducible assumption)|assumption):ji71.toNat≤281474976710656)) (by omega)) (Below.refl _ _) (Nat.le_refl _) ?_;intro v349 w76 ho77 hb hg_ hnew_;clear hg_ hnew_;(first|rw [← Ny348.out] at ho77|(simp only [Int.reduceToNat] at ho77;rw [← Ny348.out] at ho77));have HO350:=Aside0.mk (Kd.R_lower ho77 (below_size (by repeat (first|(with_reducible first|exact HB.out|apply zl1|apply zl2|apply zl3|refine below_set ?_ GE332.out)|exact HB.out))));replace BK332:=Aside0.mk (blk_below (g:=gb332) (o:=.cells #[.bool false,.slice A0_1 l0_1.length c0_1,.slice A0_2 l0_2.length c0_2,.slice (some ad346) l0_3.length c0_3] 27 (0,0)) (by (with_reducible repeat (first|apply zb1|apply zb2|apply zb3));exact BK332.out) hb);replace HB:=Aside0.mk (below_step (by repeat (first|(with_reducible first|exact HB.out|apply zl1|apply zl2|apply zl3|refine below_set ?_ GE332.out)|exact HB.out)) hb);clear hb ho77;have hcv78:=own_string (P:=Tryd.prog) Tryd.underlying52 Tryd.underlying5 Tryd.underlying9 (Kd.own_of_R HO350.out)))
             go_ret2
             exact ⟨by first|(with_reducible rfl)|(simp only [isEmpty_bne,Bool.not_not] <;> with_reducible rfl)|(simp [errW_none,errW_some] <;> with_reducible rfl)|(simp only [isEmpty_bne,Bool.not_not] <;> rfl)|rfl|(simp [errW_none,errW_some] <;> rfl)|(simp only [← hji71];first|rfl|(simp [errW_none,errW_some] <;> rfl))|(simp [*,errW_none,errW_some] <;> rfl),by repeat (first|(with_reducible first|exact HB.out|apply zl1|apply zl2|apply zl3|refine below_set ?_ GE332.out)|exact HB.out)⟩
            ·rw [if_neg c74] at H
             exact absurd H (by simp)
           ·rw [if_neg c73] at H
            exact absurd H (by simp)
          ·rw [if_neg c72] at H
           exact absurd H (by simp)
      ·rw [if_neg c47] at H
       exact absurd H (by simp)
     ·rw [if_neg c45] at H
      exact absurd H (by simp)
    ·rw [if_neg c44] at H
     exact absurd H (by simp)
 ·replace c3:=Bool.eq_false_iff.mpr c3
  subst c3
  have H1:(some ((⟨#[]⟩:ByteArray),4))=some (r1,r2):=by rw [if_neg (show ¬ (false=true) by decide)] at H;exact H
  clear H
  have H:=H1
  clear H1
  simp only [Option.some.injEq,Prod.mk.injEq] at H
  obtain ⟨rfl,rfl⟩:=H
  go_enter Tryd.func22,Tryd.ntmps22
  go_wp2_with (first|((with_reducible refine gate_dst (N:=1) rfl ?_);refine box_event ?hg (N:=1) ?hd (cs:=#[.bool a0_0,.slice A0_1 l0_1.length c0_1,.slice A0_2 l0_2.length c0_2,.slice A0_3 l0_3.length c0_3]) (t:=27) ?hr ?_;(case hd=>rfl);(case hg=>rfl);(case hr=>first|(go_simp;done)|(go_simp;rfl));intro gb332 hg w79 hbox hb;have BK332:=Aside0.mk (hbox);have GW332:=Aside0.mk ((by rw [hg];exact (below_size (by repeat (first|(with_reducible first|exact HB.out|apply zl1|apply zl2|apply zl3)|exact HB.out))):w.heap.size≤gb332));have GE332:=Aside0.mk ((by rw [hg];exact (below_size (by repeat (first|(with_reducible first|exact HB.out|apply zl1|apply zl2|apply zl3)|exact HB.out))):w.heap.size≤gb332));replace HB:=Aside0.mk (below_step (by repeat (first|(with_reducible first|exact HB.out|apply zl1|apply zl2|apply zl3)|exact HB.out)) hb);clear hb hbox hg;have hcz80_0:w79.cell? ⟨gb332,0,none⟩=some (.bool a0_0):=(blk_cell BK332.out 0).trans rfl;have hcz80_1:w79.cell? ⟨gb332,1,none⟩=some (.slice A0_1 l0_1.length c0_1):=(blk_cell BK332.out 1).trans rfl;have hcz80_2:w79.cell? ⟨gb332,2,none⟩=some (.slice A0_2 l0_2.length c0_2):=(blk_cell BK332.out 2).trans rfl;have hcz80_3:w79.cell? ⟨gb332,3,none⟩=some (.slice A0_3 l0_3.length c0_3):=(blk_cell BK332.out 3).trans rfl;have hfz80_0:=blk_frozen BK332.out 0;have hfz80_1:=blk_frozen BK332.out 1;have hfz80_2:=blk_frozen BK332.out 2;have hfz80_3:=blk_frozen BK332.out 3)|((with_reducible refine gate_callee (f:=48) rfl ?_);refine goesL_ (some 8) rfl rfl Tryd.func48 (by kernel_rfl) rfl #[.agg #[.bool a0_0,.slice A0_1 l0_1.length c0_1,.slice A0_2 l0_2.length c0_2,.slice A0_3 l0_3.length c0_3]] rfl (by (try simp only [List.map_toArray,List.map_cons,List.map_nil]);first|done|rfl|(simp only [List.length_drop,List.length_take];rfl)|(simp (disch:=omega) only [u64_in];rfl)) ?_;(with_reducible refine (factotumref09_Right.calls k a0_0 _ _ l0_1 _ _ l0_2 _ _ l0_3 false _ ?side1 ?side2 ?side3 ?side4 ?side5 ?side6 A2.out).mono ?_);(case side1=>repeat (first|exact (Kd.C_below HR0_1.out HB.out)|(with_reducible refine Kd.C_alloc ?_ _)|(with_reducible refine Kd.C_drewN ?_ _)|(with_reducible refine Kd.C_drew ?_)));(case side2=>exact HC0_1.out);(case side3=>repeat (first|exact (Kd.C_below HR0_2.out HB.out)|(with_reducible refine Kd.C_alloc ?_ _)|(with_reducible refine Kd.C_drewN ?_ _)|(with_reducible refine Kd.C_drew ?_)));(case side4=>exact HC0_2.out);(case side5=>repeat (first|exact (Kd.C_below HR0_3.out HB.out)|(with_reducible refine Kd.C_alloc ?_ _)|(with_reducible refine Kd.C_drewN ?_ _)|(with_reducible refine Kd.C_drew ?_)));(case side6=>exact HC0_3.out);rintro e w81 ⟨rfl,hb⟩;refine ⟨_,rfl,?_⟩;replace BK332:=Aside0.mk (blk_below (g:=gb332) (o:=.cells #[.bool a0_0,.slice A0_1 l0_1.length c0_1,.slice A0_2 l0_2.length c0_2,.slice A0_3 l0_3.length c0_3] 27 (0,0)) (by (with_reducible repeat (first|apply zb1|apply zb2|apply zb3));exact BK332.out) hb);replace HB:=Aside0.mk (below_step (by repeat (first|(with_reducible first|exact HB.out|apply zl1|apply zl2|apply zl3|refine below_set ?_ GE332.out)|exact HB.out)) hb);(try clear hb)))
  go_ret2
  exact ⟨by first|(with_reducible rfl)|(simp only [isEmpty_bne,Bool.not_not] <;> rfl)|rfl|(simp [*,errW_none,errW_some] <;> rfl),by repeat (first|(with_reducible first|exact HB.out|apply zl1|apply zl2|apply zl3|refine below_set ?_ GE332.out)|exact HB.out)⟩

end Go.Proofs.YtokjbncjapndgaaDoor.PAll
