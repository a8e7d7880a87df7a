/- Printed walks of the functions that the laws reach: each function, what it computes, and that it does. No conditions. -/
import Derived.Test.YtokjbncjapndgaaPAllx0
import Derived.Test.YtokjbncjapndgaaPAllx17
import Derived.Test.YtokjbncjapndgaaPAllx18
namespace Go.Proofs.Ytokjbncjapndgaa.PAll
open Go.RowKit Go.Proofs.Ytokjbncjapndgaa.XW Go.Proofs.Ytokjbncjapndgaa.XLib Go.Proofs.YtokjbncjapndgaaW.PrintWords Go.Proofs.YtokjbncjapndgaaW.PrintLast Go.Proofs.YtokjbncjapndgaaW.PrintMore
attribute [local go_sem] max2_int min2_int max_two min_two max_three min_three max_four min_four   -- for this text's walks alone
set_option linter.unusedVariables false
set_option linter.unusedSimpArgs false

/-! ### factotumref09_Split: function 17 -/
mutual
def factotumref09_Split.j0:Nat→Bool→Bool→List (S43)→List ByteArray→List Int→Option (Bool × (List (S43)) × List ByteArray × List Int × Bool × (List (S43)) × List ByteArray × List Int × ByteArray)
 | 0,_,_,_,_,_=>none
 | k + 1,x18,x333000,x333001,x333002,x333003=>if x18=true then ((factotumref09_Size.f k x333000 x333001 x333002 x333003).bind fun t335=>(if 0 < (x333001.length:Int) then ((factotumref09_pair.f ((rd_T43 x333001 0).f0) ((rd_T43 x333001 0).f1)).bind fun t337=>(factotumref09_Split.l0 k (wrap64 (t335 - 2)) 1 t337 x333000 x333001 x333002 x333003)) else (none))) else (if x333000=true then (factotumref09_Split.j2 k false x333000 x333001 x333002 x333003) else (if (x333002.length:Int) ≥ 3 then (factotumref09_Split.j2 k ((x333003.length:Int) == (wrap64 ((x333002.length:Int) + 1))) x333000 x333001 x333002 x333003) else (factotumref09_Split.j2 k false x333000 x333001 x333002 x333003)))
def factotumref09_Split.l0:Nat→Int→Int→Int→Bool→List (S43)→List ByteArray→List Int→Option (Bool × (List (S43)) × List ByteArray × List Int × Bool × (List (S43)) × List ByteArray × List Int × ByteArray)
 | 0,_,_,_,_,_,_,_=>none
 | k + 1,x5,x6,x7,x333000,x333001,x333002,x333003=>if x6 < (wrap64 ((x333001.length:Int) - 1)) then (if (wrap64 (2 * x7)) < x5 then (if 0≤x6 then (if x6 < (x333001.length:Int) then ((factotumref09_pair.f ((rd_T43 x333001 x6).f0) ((rd_T43 x333001 x6).f1)).bind fun t339=>(factotumref09_Split.l0 k x5 (wrap64 (x6 + 1)) (wrap64 (x7 + t339)) x333000 x333001 x333002 x333003)) else (none)) else (none)) else (if 0≤x6 then (if x6≤(x333001.length:Int) then (if x6 < (x333001.length:Int) then (some (true,(x333001.take (x6:Int).toNat),([]:List ByteArray),([]:List Int),true,(x333001.drop (x6:Int).toNat),([]:List ByteArray),([]:List Int),(rd_T43 x333001 x6).f0)) else (none)) else (none)) else (none))) else (if 0≤x6 then (if x6≤(x333001.length:Int) then (if x6 < (x333001.length:Int) then (some (true,(x333001.take (x6:Int).toNat),([]:List ByteArray),([]:List Int),true,(x333001.drop (x6:Int).toNat),([]:List ByteArray),([]:List Int),(rd_T43 x333001 x6).f0)) else (none)) else (none)) else (none))
def factotumref09_Split.j2:Nat→Bool→Bool→List (S43)→List ByteArray→List Int→Option (Bool × (List (S43)) × List ByteArray × List Int × Bool × (List (S43)) × List ByteArray × List Int × ByteArray)
 | 0,_,_,_,_,_=>none
 | k + 1,x83,x333000,x333001,x333002,x333003=>if x83=true then ((factotumref09_Size.f k x333000 x333001 x333002 x333003).bind fun t362=>(if 0 < (x333002.length:Int) then (factotumref09_Split.l1 k (wrap64 (t362 - 4)) 1 (wrap64 (3 + ((rdOf ByteArray.empty x333002 0).size:Int))) x333000 x333001 x333002 x333003) else (none))) else (some (x333000,x333001,x333002,x333003,false,([]:List (S43)),([]:List ByteArray),([]:List Int),(⟨#[]⟩:ByteArray)))
def factotumref09_Split.l1:Nat→Int→Int→Int→Bool→List (S43)→List ByteArray→List Int→Option (Bool × (List (S43)) × List ByteArray × List Int × Bool × (List (S43)) × List ByteArray × List Int × ByteArray)
 | 0,_,_,_,_,_,_,_=>none
 | k + 1,x8,x9,x10,x333000,x333001,x333002,x333003=>if x9 < (wrap64 ((x333002.length:Int) - 2)) then (if (wrap64 (2 * x10)) < x8 then (if 0≤x9 then (if x9 < (x333002.length:Int) then (factotumref09_Split.l1 k x8 (wrap64 (x9 + 1)) (wrap64 (x10 + (wrap64 (3 + ((rdOf ByteArray.empty x333002 x9).size:Int))))) x333000 x333001 x333002 x333003) else (none)) else (none)) else (if 0≤x9 then (if x9≤(x333002.length:Int) then (if 0≤(wrap64 (x9 + 1)) then (if (wrap64 (x9 + 1))≤(x333003.length:Int) then (if (wrap64 (x9 + 1))≤(x333002.length:Int) then (if x9 < (x333002.length:Int) then (some (false,([]:List (S43)),(x333002.take (x9:Int).toNat),(x333003.take ((wrap64 (x9 + 1)):Int).toNat),false,([]:List (S43)),(x333002.drop ((wrap64 (x9 + 1)):Int).toNat),(x333003.drop ((wrap64 (x9 + 1)):Int).toNat),rdOf ByteArray.empty x333002 x9)) else (none)) else (none)) else (none)) else (none)) else (none)) else (none))) else (if 0≤x9 then (if x9≤(x333002.length:Int) then (if 0≤(wrap64 (x9 + 1)) then (if (wrap64 (x9 + 1))≤(x333003.length:Int) then (if (wrap64 (x9 + 1))≤(x333002.length:Int) then (if x9 < (x333002.length:Int) then (some (false,([]:List (S43)),(x333002.take (x9:Int).toNat),(x333003.take ((wrap64 (x9 + 1)):Int).toNat),false,([]:List (S43)),(x333002.drop ((wrap64 (x9 + 1)):Int).toNat),(x333003.drop ((wrap64 (x9 + 1)):Int).toNat),rdOf ByteArray.empty x333002 x9)) else (none)) else (none)) else (none)) else (none)) else (none)) else (none))
end
def factotumref09_Split.f (k:Nat) (a0_0:Bool) (l0_1:List (S43)) (l0_2:List ByteArray) (l0_3:List Int):Option (Bool × (List (S43)) × List ByteArray × List Int × Bool × (List (S43)) × List ByteArray × List Int × ByteArray):=if a0_0=true then (factotumref09_Split.j0 k (decide ((l0_1.length:Int) ≥ 2)) a0_0 l0_1 l0_2 l0_3) else (factotumref09_Split.j0 k false a0_0 l0_1 l0_2 l0_3)
theorem factotumref09_Split.mono_l:∀ k,(∀ y0 y1 y2 y3 y4,LeO (factotumref09_Split.j0 k y0 y1 y2 y3 y4) (factotumref09_Split.j0 (k + 1) y0 y1 y2 y3 y4))∧(∀ y0 y1 y2 y3 y4 y5 y6,LeO (factotumref09_Split.l0 k y0 y1 y2 y3 y4 y5 y6) (factotumref09_Split.l0 (k + 1) y0 y1 y2 y3 y4 y5 y6))∧(∀ y0 y1 y2 y3 y4,LeO (factotumref09_Split.j2 k y0 y1 y2 y3 y4) (factotumref09_Split.j2 (k + 1) y0 y1 y2 y3 y4))∧(∀ y0 y1 y2 y3 y4 y5 y6,LeO (factotumref09_Split.l1 k y0 y1 y2 y3 y4 y5 y6) (factotumref09_Split.l1 (k + 1) y0 y1 y2 y3 y4 y5 y6))
 | 0=>⟨fun _ _ _ _ _ r h=>by simp [factotumref09_Split.j0] at h,fun _ _ _ _ _ _ _ r h=>by simp [factotumref09_Split.l0] at h,fun _ _ _ _ _ r h=>by simp [factotumref09_Split.j2] at h,fun _ _ _ _ _ _ _ r h=>by simp [factotumref09_Split.l1] at h⟩
 | k + 1=>by
  obtain ⟨ih0,ih1,ih2,ih3⟩:=factotumref09_Split.mono_l k
  refine ⟨?_,?_,?_,?_⟩
  ·intro y0 y1 y2 y3 y4
   unfold factotumref09_Split.j0
   repeat' first
   | (with_reducible exact ih0 _ _ _ _ _)
   | (with_reducible exact ih1 _ _ _ _ _ _ _)
   | (with_reducible exact ih2 _ _ _ _ _)
   | (with_reducible exact ih3 _ _ _ _ _ _ _)
   | (with_reducible exact factotumref09_Size.mono _ _ _ _ _)
   | (with_reducible exact LeO.refl _)
   | (with_reducible exact LeO.none _)
   | (with_reducible refine LeO.ite ?_ ?_)
   | (with_reducible refine LeO.bind ?_ (fun _=>?_))
   | exact ih0 _ _ _ _ _
   | exact ih1 _ _ _ _ _ _ _
   | exact ih2 _ _ _ _ _
   | exact ih3 _ _ _ _ _ _ _
   | exact factotumref09_Size.mono _ _ _ _ _
   | exact LeO.none _
   | refine LeO.ite ?_ ?_
   | refine LeO.bind ?_ (fun _=>?_)
  ·intro y0 y1 y2 y3 y4 y5 y6
   unfold factotumref09_Split.l0
   repeat' first
   | (with_reducible exact ih0 _ _ _ _ _)
   | (with_reducible exact ih1 _ _ _ _ _ _ _)
   | (with_reducible exact ih2 _ _ _ _ _)
   | (with_reducible exact ih3 _ _ _ _ _ _ _)
   | (with_reducible exact factotumref09_Size.mono _ _ _ _ _)
   | (with_reducible exact LeO.refl _)
   | (with_reducible exact LeO.none _)
   | (with_reducible refine LeO.ite ?_ ?_)
   | (with_reducible refine LeO.bind ?_ (fun _=>?_))
   | exact ih0 _ _ _ _ _
   | exact ih1 _ _ _ _ _ _ _
   | exact ih2 _ _ _ _ _
   | exact ih3 _ _ _ _ _ _ _
   | exact factotumref09_Size.mono _ _ _ _ _
   | exact LeO.none _
   | refine LeO.ite ?_ ?_
   | refine LeO.bind ?_ (fun _=>?_)
  ·intro y0 y1 y2 y3 y4
   unfold factotumref09_Split.j2
   repeat' first
   | (with_reducible exact ih0 _ _ _ _ _)
   | (with_reducible exact ih1 _ _ _ _ _ _ _)
   | (with_reducible exact ih2 _ _ _ _ _)
   | (with_reducible exact ih3 _ _ _ _ _ _ _)
   | (with_reducible exact factotumref09_Size.mono _ _ _ _ _)
   | (with_reducible exact LeO.refl _)
   | (with_reducible exact LeO.none _)
   | (with_reducible refine LeO.ite ?_ ?_)
   | (with_reducible refine LeO.bind ?_ (fun _=>?_))
   | exact ih0 _ _ _ _ _
   | exact ih1 _ _ _ _ _ _ _
   | exact ih2 _ _ _ _ _
   | exact ih3 _ _ _ _ _ _ _
   | exact factotumref09_Size.mono _ _ _ _ _
   | exact LeO.none _
   | refine LeO.ite ?_ ?_
   | refine LeO.bind ?_ (fun _=>?_)
  ·intro y0 y1 y2 y3 y4 y5 y6
   unfold factotumref09_Split.l1
   repeat' first
   | (with_reducible exact ih0 _ _ _ _ _)
   | (with_reducible exact ih1 _ _ _ _ _ _ _)
   | (with_reducible exact ih2 _ _ _ _ _)
   | (with_reducible exact ih3 _ _ _ _ _ _ _)
   | (with_reducible exact factotumref09_Size.mono _ _ _ _ _)
   | (with_reducible exact LeO.refl _)
   | (with_reducible exact LeO.none _)
   | (with_reducible refine LeO.ite ?_ ?_)
   | (with_reducible refine LeO.bind ?_ (fun _=>?_))
   | exact ih0 _ _ _ _ _
   | exact ih1 _ _ _ _ _ _ _
   | exact ih2 _ _ _ _ _
   | exact ih3 _ _ _ _ _ _ _
   | exact factotumref09_Size.mono _ _ _ _ _
   | exact LeO.none _
   | refine LeO.ite ?_ ?_
   | refine LeO.bind ?_ (fun _=>?_)
theorem factotumref09_Split.mono:∀ a0 a1 a2 a3 k,LeO (factotumref09_Split.f k a0 a1 a2 a3) (factotumref09_Split.f (k + 1) a0 a1 a2 a3):=by
 intro a0 a1 a2 a3 k
 obtain ⟨ih0,ih1,ih2,ih3⟩:=factotumref09_Split.mono_l k
 unfold factotumref09_Split.f
 repeat' first
   | (with_reducible exact ih0 _ _ _ _ _)
   | (with_reducible exact ih1 _ _ _ _ _ _ _)
   | (with_reducible exact ih2 _ _ _ _ _)
   | (with_reducible exact ih3 _ _ _ _ _ _ _)
   | (with_reducible exact factotumref09_Size.mono _ _ _ _ _)
   | (with_reducible exact LeO.refl _)
   | (with_reducible exact LeO.none _)
   | (with_reducible refine LeO.ite ?_ ?_)
   | (with_reducible refine LeO.bind ?_ (fun _=>?_))
   | exact ih0 _ _ _ _ _
   | exact ih1 _ _ _ _ _ _ _
   | exact ih2 _ _ _ _ _
   | exact ih3 _ _ _ _ _ _ _
   | exact factotumref09_Size.mono _ _ _ _ _
   | exact LeO.none _
   | refine LeO.ite ?_ ?_
   | refine LeO.bind ?_ (fun _=>?_)
def factotumref09_Split.T8:Bool × List (List Nat × List Nat):=(true,[([],[]),([0],[0]),([],[]),([1,2],[1,2]),([3],[3]),([],[]),([5],[5]),([],[]),([6,7],[6,7]),([8],[8]),([],[]),([10],[10]),([],[]),([11,12],[11,12]),([13],[13]),([14],[14]),([4,0,1,2,3,4],[4]),([9,16,0,1,2,3,4,5,6,7,8,9,16],[9]),([15,17,0,1,2,3,4,5,6,7,8,9,10,11,12,13,14,15,16,17],[15])])
def factotumref09_Split.B8:List Nat:=[0,1,0,7,15,0,32,0,224,480,0,1024,0,7168,15360,31744,31,66559,262143]
theorem factotumref09_Split.tab8:rtab .any (opsOf Try.f17 8)=factotumref09_Split.T8:=by kernel_rfl
theorem factotumref09_Split.bits8:waitsOk factotumref09_Split.T8.2 factotumref09_Split.B8=true:=by kernel_rfl
def factotumref09_Split.T16:Bool × List (List Nat × List Nat):=(true,[([],[]),([0],[0]),([],[]),([1,2],[1,2]),([],[]),([4],[4]),([],[]),([6],[6]),([5,7],[5,7]),([3,8],[3,8]),([],[]),([10],[10]),([],[]),([12],[12]),([11,13],[11,13]),([],[]),([15],[15]),([],[]),([17],[17]),([16,18],[16,18]),([14,19],[14,19]),([],[]),([21],[21]),([],[]),([22,23],[22,23]),([24],[24]),([9,0,1,2,3,4,5,6,7,8,9],[9]),([20,26,0,1,2,3,4,5,6,7,8,9,10,11,12,13,14,15,16,17,18,19,20,26],[20]),([25,27,0,1,2,3,4,5,6,7,8,9,10,11,12,13,14,15,16,17,18,19,20,21,22,23,24,25,26,27],[25])])
def factotumref09_Split.B16:List Nat:=[0,1,0,7,0,16,0,64,240,511,0,1024,0,4096,15360,0,32768,0,131072,491520,1047552,0,2097152,0,14680064,31457280,1023,69206015,268435455]
theorem factotumref09_Split.tab16:rtab .any (opsOf Try.f17 16)=factotumref09_Split.T16:=by kernel_rfl
theorem factotumref09_Split.bits16:waitsOk factotumref09_Split.T16.2 factotumref09_Split.B16=true:=by kernel_rfl
set_option maxHeartbeats 8000000 in
set_option maxRecDepth 100000 in
theorem factotumref09_Split.calls (k:Nat) (a0_0:Bool) (P0_1_:Nat→Prop) (A0_1:Option Addr) (c0_1:Nat) (l0_1:List (S43)) (P0_2_:Nat→Prop) (A0_2:Option Addr) (c0_2:Nat) (l0_2:List ByteArray) (P0_3_:Nat→Prop) (A0_3:Option Addr) (c0_3:Nat) (l0_3:List Int) (r1:Bool) (r2:List (S43)) (r3:List ByteArray) (r4:List Int) (r5:Bool) (r6:List (S43)) (r7:List ByteArray) (r8:List Int) (r9:ByteArray) (w:World) (hs0_1:Kd.V k43 43 w w.heap.size (fun k_=>P0_1_ k_) (.slice A0_1 l0_1.length c0_1) l0_1) (hs0_2:Kd.V Kd.string 9 w w.heap.size (fun k_=>P0_2_ k_) (.slice A0_2 l0_2.length c0_2) l0_2) (hs0_3:Kd.V (Kd.int .i64) 3 w w.heap.size (fun k_=>P0_3_ k_) (.slice A0_3 l0_3.length c0_3) l0_3) (h:factotumref09_Split.f k a0_0 l0_1 l0_2 l0_3=some (r1,r2,r3,r4,r5,r6,r7,r8,r9)) :
  Calls Try.prog 17 #[.agg #[.bool a0_0,.slice A0_1 l0_1.length c0_1,.slice A0_2 l0_2.length c0_2,.slice A0_3 l0_3.length c0_3]] w fun e w'=>∃ v1_ v2_ v3_ v5_ v6_ v7_:Value,e=.returned (.tuple #[.agg #[.bool r1,v1_,v2_,v3_],.agg #[.bool r5,v5_,v6_,v7_],.string r9])∧Kd.V k43 43 w' w.heap.size (fun k_=>((P0_1_ k_ ∨ P0_2_ k_ ∨ P0_3_ k_) ∨ w.heap.size≤k_)) v1_ r2∧Kd.V Kd.string 9 w' w.heap.size (fun k_=>((P0_1_ k_ ∨ P0_2_ k_ ∨ P0_3_ k_) ∨ w.heap.size≤k_)) v2_ r3∧Kd.V (Kd.int .i64) 3 w' w.heap.size (fun k_=>((P0_1_ k_ ∨ P0_2_ k_ ∨ P0_3_ k_) ∨ w.heap.size≤k_)) v3_ r4∧Kd.V k43 43 w' w.heap.size (fun k_=>((P0_1_ k_ ∨ P0_2_ k_ ∨ P0_3_ k_) ∨ w.heap.size≤k_)) v5_ r6∧Kd.V Kd.string 9 w' w.heap.size (fun k_=>((P0_1_ k_ ∨ P0_2_ k_ ∨ P0_3_ k_) ∨ w.heap.size≤k_)) v6_ r7∧Kd.V (Kd.int .i64) 3 w' w.heap.size (fun k_=>((P0_1_ k_ ∨ P0_2_ k_ ∨ P0_3_ k_) ∨ w.heap.size≤k_)) v7_ r8∧Below w.heap.size w w':=by
 have hu26:=Try.underlying26
 have hu43:=Try.underlying43
 have HO0_1:=Aside0.mk (show Kd.V k43 43 w w.heap.size (fun k_=>((P0_1_ k_ ∨ P0_2_ k_ ∨ P0_3_ k_) ∨ w.heap.size≤k_)) (.slice A0_1 l0_1.length c0_1) l0_1 from Kd.V_mono hs0_1 (fun k_ hk=>.inl (.inl hk)))
 have HO0_2:=Aside0.mk (show Kd.V Kd.string 9 w w.heap.size (fun k_=>((P0_1_ k_ ∨ P0_2_ k_ ∨ P0_3_ k_) ∨ w.heap.size≤k_)) (.slice A0_2 l0_2.length c0_2) l0_2 from Kd.V_mono hs0_2 (fun k_ hk=>.inl (.inr (.inl hk))))
 have HO0_3:=Aside0.mk (show Kd.V (Kd.int .i64) 3 w w.heap.size (fun k_=>((P0_1_ k_ ∨ P0_2_ k_ ∨ P0_3_ k_) ∨ w.heap.size≤k_)) (.slice A0_3 l0_3.length c0_3) l0_3 from Kd.V_mono hs0_3 (fun k_ hk=>.inl (.inr (.inr hk))))
 have HB:=Aside0.mk (Below.refl w.heap.size w)
 have H:(if a0_0=true then (factotumref09_Split.j0 k (decide ((l0_1.length:Int) ≥ 2)) a0_0 l0_1 l0_2 l0_3) else (factotumref09_Split.j0 k false a0_0 l0_1 l0_2 l0_3))=some (r1,r2,r3,r4,r5,r6,r7,r8,r9):=h
 clear h
 have HC2:=Aside0.mk H
 clear H
 go_enter Try.func17,Try.ntmps17
 go_upto_region 1 with (first|((with_reducible refine gate_dst (N:=1) rfl ?_);(try (refine gate_guard (by rfl) ?_;dsimp only));refine box_event ?hg (N:=1) ?hd (cs:=#[.bool a0_0,.slice A0_1 l0_1.length c0_1,.slice A0_2 l0_2.length c0_2,.slice A0_3 l0_3.length c0_3]) (t:=26) ?hr ?_;(case hd=>rfl);(case hg=>rfl);(case hr=>first|(go_simp;done)|(go_simp;rfl));intro gb332 hg w3 hbox hb;replace HO0_1:=Aside0.mk (Kd.V_below (Kd.V_elderB (by (with_reducible repeat (first|apply Kd.V_alloc|apply Kd.V_drewN|apply Kd.V_drew));exact HO0_1.out) gb332 (Nat.le_of_eq hg.symm)) hb);replace HO0_2:=Aside0.mk (Kd.V_below (Kd.V_elderB (by (with_reducible repeat (first|apply Kd.V_alloc|apply Kd.V_drewN|apply Kd.V_drew));exact HO0_2.out) gb332 (Nat.le_of_eq hg.symm)) hb);replace HO0_3:=Aside0.mk (Kd.V_below (Kd.V_elderB (by (with_reducible repeat (first|apply Kd.V_alloc|apply Kd.V_drewN|apply Kd.V_drew));exact HO0_3.out) gb332 (Nat.le_of_eq hg.symm)) hb);have BK332:=Aside0.mk (hbox);have GW332:=Aside0.mk ((by rw [hg];exact (below_size (by repeat (first|(with_reducible first|exact HB.out|apply zl1|apply zl2|apply zl3)|exact HB.out))):w.heap.size≤gb332));have GE332:=Aside0.mk ((by rw [hg];exact (below_size (by repeat (first|(with_reducible first|exact HB.out|apply zl1|apply zl2|apply zl3)|exact HB.out))):w.heap.size≤gb332));replace HB:=Aside0.mk (below_step (by repeat (first|(with_reducible first|exact HB.out|apply zl1|apply zl2|apply zl3)|exact HB.out)) hb);clear hb hbox hg)|((with_reducible refine gate_dst (N:=2) rfl ?_);(try (refine gate_guard (by rfl) ?_;dsimp only));refine box_event ?hg (N:=2) ?hd (cs:=#[.bool false,.slice none 0 0,.slice none 0 0,.slice none 0 0]) (t:=26) ?hr ?_;(case hd=>rfl);(case hg=>rfl);(case hr=>first|(go_simp;done)|(go_simp;rfl));intro gb333 hg w4 hbox hb;replace HO0_1:=Aside0.mk (Kd.V_below (Kd.V_elderB (by (with_reducible repeat (first|apply Kd.V_alloc|apply Kd.V_drewN|apply Kd.V_drew));exact HO0_1.out) gb333 (Nat.le_of_eq hg.symm)) hb);replace HO0_2:=Aside0.mk (Kd.V_below (Kd.V_elderB (by (with_reducible repeat (first|apply Kd.V_alloc|apply Kd.V_drewN|apply Kd.V_drew));exact HO0_2.out) gb333 (Nat.le_of_eq hg.symm)) hb);replace HO0_3:=Aside0.mk (Kd.V_below (Kd.V_elderB (by (with_reducible repeat (first|apply Kd.V_alloc|apply Kd.V_drewN|apply Kd.V_drew));exact HO0_3.out) gb333 (Nat.le_of_eq hg.symm)) hb);have BK333:=Aside0.mk (hbox);have GW333:=Aside0.mk ((by rw [hg];exact (below_size (by repeat (first|(with_reducible first|exact HB.out|apply zl1|apply zl2|apply zl3|refine below_set ?_ GE332.out)|exact HB.out))):w.heap.size≤gb333));have GE333:=Aside0.mk ((by rw [hg];exact (below_size (by repeat (first|(with_reducible first|exact HB.out|apply zl1|apply zl2|apply zl3|refine below_set ?_ GE332.out)|exact HB.out))):w.heap.size≤gb333));replace HB:=Aside0.mk (below_step (by repeat (first|(with_reducible first|exact HB.out|apply zl1|apply zl2|apply zl3|refine below_set ?_ GE332.out)|exact HB.out)) hb);have NB332_333:=Aside0.mk ((by rw [hg];exact Nat.ne_of_lt (blk_lt (g:=gb332) (o:=.cells #[.bool a0_0,.slice A0_1 l0_1.length c0_1,.slice A0_2 l0_2.length c0_2,.slice A0_3 l0_3.length c0_3] 26 (0,0)) (by (with_reducible repeat (first|apply zb1|apply zb2|apply zb3));exact BK332.out)):gb332 ≠ gb333));have NB333_332:=Aside0.mk ((by rw [hg];exact Nat.ne_of_gt (blk_lt (g:=gb332) (o:=.cells #[.bool a0_0,.slice A0_1 l0_1.length c0_1,.slice A0_2 l0_2.length c0_2,.slice A0_3 l0_3.length c0_3] 26 (0,0)) (by (with_reducible repeat (first|apply zb1|apply zb2|apply zb3));exact BK332.out)):gb333 ≠ gb332));replace BK332:=Aside0.mk (blk_below (g:=gb332) (o:=.cells #[.bool a0_0,.slice A0_1 l0_1.length c0_1,.slice A0_2 l0_2.length c0_2,.slice A0_3 l0_3.length c0_3] 26 (0,0)) (by (with_reducible repeat (first|apply zb1|apply zb2|apply zb3));exact BK332.out) hb);clear hb hbox hg)|((with_reducible refine gate_dst (N:=3) rfl ?_);(try (refine gate_guard (by rfl) ?_;dsimp only));refine box_event ?hg (N:=3) ?hd (cs:=#[.bool false,.slice none 0 0,.slice none 0 0,.slice none 0 0]) (t:=26) ?hr ?_;(case hd=>rfl);(case hg=>rfl);(case hr=>first|(go_simp;done)|(go_simp;rfl));intro gb334 hg w5 hbox hb;replace HO0_1:=Aside0.mk (Kd.V_below (Kd.V_elderB (by (with_reducible repeat (first|apply Kd.V_alloc|apply Kd.V_drewN|apply Kd.V_drew));exact HO0_1.out) gb334 (Nat.le_of_eq hg.symm)) hb);replace HO0_2:=Aside0.mk (Kd.V_below (Kd.V_elderB (by (with_reducible repeat (first|apply Kd.V_alloc|apply Kd.V_drewN|apply Kd.V_drew));exact HO0_2.out) gb334 (Nat.le_of_eq hg.symm)) hb);replace HO0_3:=Aside0.mk (Kd.V_below (Kd.V_elderB (by (with_reducible repeat (first|apply Kd.V_alloc|apply Kd.V_drewN|apply Kd.V_drew));exact HO0_3.out) gb334 (Nat.le_of_eq hg.symm)) hb);have BK334:=Aside0.mk (hbox);have GW334:=Aside0.mk ((by rw [hg];exact (below_size (by repeat (first|(with_reducible first|exact HB.out|apply zl1|apply zl2|apply zl3|refine below_set ?_ GE332.out|refine below_set ?_ GE333.out)|exact HB.out))):w.heap.size≤gb334));have GE334:=Aside0.mk ((by rw [hg];exact (below_size (by repeat (first|(with_reducible first|exact HB.out|apply zl1|apply zl2|apply zl3|refine below_set ?_ GE332.out|refine below_set ?_ GE333.out)|exact HB.out))):w.heap.size≤gb334));replace HB:=Aside0.mk (below_step (by repeat (first|(with_reducible first|exact HB.out|apply zl1|apply zl2|apply zl3|refine below_set ?_ GE332.out|refine below_set ?_ GE333.out)|exact HB.out)) hb);have NB332_334:=Aside0.mk ((by rw [hg];exact Nat.ne_of_lt (blk_lt (g:=gb332) (o:=.cells #[.bool a0_0,.slice A0_1 l0_1.length c0_1,.slice A0_2 l0_2.length c0_2,.slice A0_3 l0_3.length c0_3] 26 (0,0)) (by (with_reducible repeat (first|apply zb1|apply zb2|apply zb3));exact BK332.out)):gb332 ≠ gb334));have NB334_332:=Aside0.mk ((by rw [hg];exact Nat.ne_of_gt (blk_lt (g:=gb332) (o:=.cells #[.bool a0_0,.slice A0_1 l0_1.length c0_1,.slice A0_2 l0_2.length c0_2,.slice A0_3 l0_3.length c0_3] 26 (0,0)) (by (with_reducible repeat (first|apply zb1|apply zb2|apply zb3));exact BK332.out)):gb334 ≠ gb332));replace BK332:=Aside0.mk (blk_below (g:=gb332) (o:=.cells #[.bool a0_0,.slice A0_1 l0_1.length c0_1,.slice A0_2 l0_2.length c0_2,.slice A0_3 l0_3.length c0_3] 26 (0,0)) (by (with_reducible repeat (first|apply zb1|apply zb2|apply zb3));exact BK332.out) hb);have NB333_334:=Aside0.mk ((by rw [hg];exact Nat.ne_of_lt (blk_lt (g:=gb333) (o:=.cells #[.bool false,.slice none 0 0,.slice none 0 0,.slice none 0 0] 26 (0,0)) (by (with_reducible repeat (first|apply zb1|apply zb2|apply zb3));exact BK333.out)):gb333 ≠ gb334));have NB334_333:=Aside0.mk ((by rw [hg];exact Nat.ne_of_gt (blk_lt (g:=gb333) (o:=.cells #[.bool false,.slice none 0 0,.slice none 0 0,.slice none 0 0] 26 (0,0)) (by (with_reducible repeat (first|apply zb1|apply zb2|apply zb3));exact BK333.out)):gb334 ≠ gb333));replace BK333:=Aside0.mk (blk_below (g:=gb333) (o:=.cells #[.bool false,.slice none 0 0,.slice none 0 0,.slice none 0 0] 26 (0,0)) (by (with_reducible repeat (first|apply zb1|apply zb2|apply zb3));exact BK333.out) hb);clear hb hbox hg))
 (try simp only [Act.put,List.setIfInBounds_toArray,List.set_cons_zero,List.set_cons_succ])
 go_cut [18] (fun v18 wc=>∃ (kq:Nat) (x18_1:Bool),v18=.bool x18_1∧Aside0 (factotumref09_Split.j0 kq x18_1 a0_0 l0_1 l0_2 l0_3=some (r1,r2,r3,r4,r5,r6,r7,r8,r9))∧Aside0 (kq≤k)∧Aside0 (Kd.V k43 43 wc w.heap.size (fun k_=>((P0_1_ k_ ∨ P0_2_ k_ ∨ P0_3_ k_) ∨ w.heap.size≤k_)∧k_ ≠ gb332∧k_ ≠ gb333∧k_ ≠ gb334) (.slice A0_1 l0_1.length c0_1) l0_1)∧Aside0 (Kd.V Kd.string 9 wc w.heap.size (fun k_=>((P0_1_ k_ ∨ P0_2_ k_ ∨ P0_3_ k_) ∨ w.heap.size≤k_)∧k_ ≠ gb332∧k_ ≠ gb333∧k_ ≠ gb334) (.slice A0_2 l0_2.length c0_2) l0_2)∧Aside0 (Kd.V (Kd.int .i64) 3 wc w.heap.size (fun k_=>((P0_1_ k_ ∨ P0_2_ k_ ∨ P0_3_ k_) ∨ w.heap.size≤k_)∧k_ ≠ gb332∧k_ ≠ gb333∧k_ ≠ gb334) (.slice A0_3 l0_3.length c0_3) l0_3)∧Aside0 (wc.heap[gb332]?=some (.cells #[.bool a0_0,(.slice A0_1 l0_1.length c0_1),(.slice A0_2 l0_2.length c0_2),(.slice A0_3 l0_3.length c0_3)] 26 (0,0)))∧Aside0 (wc.heap[gb333]?=some (.cells #[.bool false,(.slice none 0 0),(.slice none 0 0),(.slice none 0 0)] 26 (0,0)))∧Aside0 (wc.heap[gb334]?=some (.cells #[.bool false,(.slice none 0 0),(.slice none 0 0),(.slice none 0 0)] 26 (0,0)))∧Aside0 (Below w.heap.size w wc))
 case first =>
  have H:=HC2.out
  clear HC2
  by_cases c6:a0_0=true
  ·subst c6
   have H1:(factotumref09_Split.j0 k (decide ((l0_1.length:Int) ≥ 2)) true l0_1 l0_2 l0_3)=some (r1,r2,r3,r4,r5,r6,r7,r8,r9):=by rw [if_pos rfl] at H;exact H
   clear H
   have H:=H1
   clear H1
   have H':=Aside0.mk H
   clear H
   have hnb7:=NB332_333.out
   have hnc7:=NB333_332.out
   have hnb8:=NB332_334.out
   have hnc8:=NB334_332.out
   obtain ⟨hcz9_0,hcz9_1,hcz9_2,hcz9_3⟩:=zc4 BK332.out
   obtain ⟨hfz9_0,hfz9_1,hfz9_2,hfz9_3⟩:=zf4 BK332.out
   go_wp2
   go_meet
   case rel=>exact ⟨_,(decide ((l0_1.length:Int) ≥ 2)),(by first|(with_reducible rfl)|(simp;done)|(simp [*];done)|rfl|(simp only [not_isEmpty_bne])),H',⟨by first|omega|exact Nat.le_refl _⟩,⟨by (with_reducible repeat (first|apply Kd.V_alloc|apply Kd.V_drewN|apply Kd.V_drew));exact Kd.V_mono HO0_1.out (fun _ hk=>⟨hk.1.1.1,⟨hk.1.1.2,⟨hk.1.2,hk.2⟩⟩⟩)⟩,⟨by (with_reducible repeat (first|apply Kd.V_alloc|apply Kd.V_drewN|apply Kd.V_drew));exact Kd.V_mono HO0_2.out (fun _ hk=>⟨hk.1.1.1,⟨hk.1.1.2,⟨hk.1.2,hk.2⟩⟩⟩)⟩,⟨by (with_reducible repeat (first|apply Kd.V_alloc|apply Kd.V_drewN|apply Kd.V_drew));exact Kd.V_mono HO0_3.out (fun _ hk=>⟨hk.1.1.1,⟨hk.1.1.2,⟨hk.1.2,hk.2⟩⟩⟩)⟩,⟨by (with_reducible repeat (first|apply zb1|apply zb2|apply zb3));exact BK332.out⟩,⟨by (with_reducible repeat (first|apply zb1|apply zb2|apply zb3));exact BK333.out⟩,⟨by (with_reducible repeat (first|apply zb1|apply zb2|apply zb3));exact BK334.out⟩,⟨by repeat (first|(with_reducible first|exact HB.out|apply zl1|apply zl2|apply zl3|refine below_set ?_ GE332.out|refine below_set ?_ GE333.out|refine below_set ?_ GE334.out)|exact HB.out)⟩⟩
  ·replace c6:=Bool.eq_false_iff.mpr c6
   subst c6
   have H1:(factotumref09_Split.j0 k false false l0_1 l0_2 l0_3)=some (r1,r2,r3,r4,r5,r6,r7,r8,r9):=by rw [if_neg (show ¬ (false=true) by decide)] at H;exact H
   clear H
   have H:=H1
   clear H1
   have H':=Aside0.mk H
   clear H
   have hnb10:=NB332_333.out
   have hnc10:=NB333_332.out
   have hnb11:=NB332_334.out
   have hnc11:=NB334_332.out
   obtain ⟨hcz12_0,hcz12_1,hcz12_2,hcz12_3⟩:=zc4 BK332.out
   obtain ⟨hfz12_0,hfz12_1,hfz12_2,hfz12_3⟩:=zf4 BK332.out
   go_wp2
   go_meet
   case rel=>exact ⟨_,(false),(by first|(with_reducible rfl)|(simp;done)|(simp [*];done)|rfl|(simp only [not_isEmpty_bne])),H',⟨by first|omega|exact Nat.le_refl _⟩,⟨by (with_reducible repeat (first|apply Kd.V_alloc|apply Kd.V_drewN|apply Kd.V_drew));exact Kd.V_mono HO0_1.out (fun _ hk=>⟨hk.1.1.1,⟨hk.1.1.2,⟨hk.1.2,hk.2⟩⟩⟩)⟩,⟨by (with_reducible repeat (first|apply Kd.V_alloc|apply Kd.V_drewN|apply Kd.V_drew));exact Kd.V_mono HO0_2.out (fun _ hk=>⟨hk.1.1.1,⟨hk.1.1.2,⟨hk.1.2,hk.2⟩⟩⟩)⟩,⟨by (with_reducible repeat (first|apply Kd.V_alloc|apply Kd.V_drewN|apply Kd.V_drew));exact Kd.V_mono HO0_3.out (fun _ hk=>⟨hk.1.1.1,⟨hk.1.1.2,⟨hk.1.2,hk.2⟩⟩⟩)⟩,⟨by (with_reducible repeat (first|apply zb1|apply zb2|apply zb3));exact BK332.out⟩,⟨by (with_reducible repeat (first|apply zb1|apply zb2|apply zb3));exact BK333.out⟩,⟨by (with_reducible repeat (first|apply zb1|apply zb2|apply zb3));exact BK334.out⟩,⟨by repeat (first|(with_reducible first|exact HB.out|apply zl1|apply zl2|apply zl3|refine below_set ?_ GE332.out|refine below_set ?_ GE333.out|refine below_set ?_ GE334.out)|exact HB.out)⟩⟩
 case rest =>
  clear HC2
  try clear hfz12_0 hfz12_1 hfz12_2 hfz12_3 hfz9_0 hfz9_1 hfz9_2 hfz9_3
  try clear hcz12_0 hcz12_1 hcz12_2 hcz12_3 hcz9_0 hcz9_1 hcz9_2 hcz9_3
  try clear c1
  try clear p2
  try clear c6
  try clear c7
  try clear c8
  try clear c10
  try clear c11
  obtain ⟨kq,x18_1,rfl,HA,HJ1,HO_333001,HO_333002,HO_333003,BK332,BK333,BK334,HB⟩:=hcut
  cases kq with
  | zero=>exact absurd HA.out (by simp [factotumref09_Split.j0])
  | succ kj1 =>
   have H:=HA.out
   clear HA
   simp only [factotumref09_Split.j0] at H
   by_cases c13:x18_1=true
   ·subst c13
    have H1:((factotumref09_Size.f kj1 a0_0 l0_1 l0_2 l0_3).bind fun t335=>(if 0 < (l0_1.length:Int) then ((factotumref09_pair.f ((rd_T43 l0_1 0).f0) ((rd_T43 l0_1 0).f1)).bind fun t337=>(factotumref09_Split.l0 kj1 (wrap64 (t335 - 2)) 1 t337 a0_0 l0_1 l0_2 l0_3)) else (none)))=some (r1,r2,r3,r4,r5,r6,r7,r8,r9):=by rw [if_pos rfl] at H;exact H
    clear H
    have H:=H1
    clear H1
    replace H:=Option.bind_eq_some_iff.mp H
    obtain ⟨t335,A140,H⟩:=H
    replace H:(if 0 < (l0_1.length:Int) then ((factotumref09_pair.f ((rd_T43 l0_1 0).f0) ((rd_T43 l0_1 0).f1)).bind fun t337=>(factotumref09_Split.l0 kj1 (wrap64 (t335 - 2)) 1 t337 a0_0 l0_1 l0_2 l0_3)) else (none))=some (r1,r2,r3,r4,r5,r6,r7,r8,r9):=H
    have A14:=Aside0.mk A140
    clear A140
    by_cases c15:0 < (l0_1.length:Int)
    ·rw [if_pos c15] at H
     have c15b0:decide (0 < (l0_1.length:Int))=true:=decide_eq_true c15
     have c15b1:decide (0 < l0_1.length)=true:=decide_eq_true (by omega)
     clear c15
     replace H:=Option.bind_eq_some_iff.mp H
     obtain ⟨t337,A160,H⟩:=H
     replace H:(factotumref09_Split.l0 kj1 (wrap64 (t335 - 2)) 1 t337 a0_0 l0_1 l0_2 l0_3)=some (r1,r2,r3,r4,r5,r6,r7,r8,r9):=H
     have A16:=Aside0.mk A160
     clear A160
     have H':=Aside0.mk H
     clear H
     have hnb17:=NB332_333.out
     have hnc17:=NB333_332.out
     have hnb18:=NB332_334.out
     have hnc18:=NB334_332.out
     obtain ⟨hcz19_0,hcz19_1,hcz19_2,hcz19_3⟩:=zc4 BK332.out
     obtain ⟨hfz19_0,hfz19_1,hfz19_2,hfz19_3⟩:=zf4 BK332.out
     go_wp2_with (first|((with_reducible refine gate_callee (f:=11) rfl ?_);refine goesL_ (some 20) rfl rfl Try.func11 (by kernel_rfl) rfl #[.agg #[.bool a0_0,.slice A0_1 l0_1.length c0_1,.slice A0_2 l0_2.length c0_2,.slice A0_3 l0_3.length c0_3]] rfl (by (try simp only [List.map_toArray,List.map_cons,List.map_nil]);first|done|rfl|(simp only [List.length_drop,List.length_take];rfl)|(simp (disch:=omega) only [u64_in];rfl)) ?_;(with_reducible refine (factotumref09_Size.calls kj1 a0_0 _ _ l0_1 _ _ l0_2 _ _ l0_3 t335 _ ?side1 ?side2 ?side3 ?side4 ?side5 ?side6 A14.out).mono ?_);(case side1=>repeat (first|exact (Kd.V_reads' HO_333001.out).2.2|(with_reducible refine Kd.C_alloc ?_ _)|(with_reducible refine Kd.C_drewN ?_ _)|(with_reducible refine Kd.C_drew ?_)));(case side2=>exact (Kd.V_reads' HO_333001.out).2.1);(case side3=>repeat (first|exact (Kd.V_reads' HO_333002.out).2.2|(with_reducible refine Kd.C_alloc ?_ _)|(with_reducible refine Kd.C_drewN ?_ _)|(with_reducible refine Kd.C_drew ?_)));(case side4=>exact (Kd.V_reads' HO_333002.out).2.1);(case side5=>repeat (first|exact (Kd.V_reads' HO_333003.out).2.2|(with_reducible refine Kd.C_alloc ?_ _)|(with_reducible refine Kd.C_drewN ?_ _)|(with_reducible refine Kd.C_drew ?_)));(case side6=>exact (Kd.V_reads' HO_333003.out).2.1);rintro e w20 ⟨rfl,hb⟩;refine ⟨_,rfl,?_⟩;replace HO_333001:=Aside0.mk (Kd.V_below (by (with_reducible repeat (first|apply Kd.V_alloc|apply Kd.V_drewN|apply Kd.V_drew));exact HO_333001.out) hb);replace HO_333002:=Aside0.mk (Kd.V_below (by (with_reducible repeat (first|apply Kd.V_alloc|apply Kd.V_drewN|apply Kd.V_drew));exact HO_333002.out) hb);replace HO_333003:=Aside0.mk (Kd.V_below (by (with_reducible repeat (first|apply Kd.V_alloc|apply Kd.V_drewN|apply Kd.V_drew));exact HO_333003.out) hb);replace BK332:=Aside0.mk (blk_below (g:=gb332) (o:=.cells #[.bool a0_0,.slice A0_1 l0_1.length c0_1,.slice A0_2 l0_2.length c0_2,.slice A0_3 l0_3.length c0_3] 26 (0,0)) (by (with_reducible repeat (first|apply zb1|apply zb2|apply zb3));exact BK332.out) hb);replace BK333:=Aside0.mk (blk_below (g:=gb333) (o:=.cells #[.bool false,.slice none 0 0,.slice none 0 0,.slice none 0 0] 26 (0,0)) (by (with_reducible repeat (first|apply zb1|apply zb2|apply zb3));exact BK333.out) hb);replace BK334:=Aside0.mk (blk_below (g:=gb334) (o:=.cells #[.bool false,.slice none 0 0,.slice none 0 0,.slice none 0 0] 26 (0,0)) (by (with_reducible repeat (first|apply zb1|apply zb2|apply zb3));exact BK334.out) hb);replace HB:=Aside0.mk (below_step (by repeat (first|(with_reducible first|exact HB.out|apply zl1|apply zl2|apply zl3|refine below_set ?_ GE332.out|refine below_set ?_ GE333.out|refine below_set ?_ GE334.out)|exact HB.out)) hb);(try clear hb);obtain ⟨hcz21_0,hcz21_1,hcz21_2,hcz21_3⟩:=zc4 BK332.out;obtain ⟨hfz21_0,hfz21_1,hfz21_2,hfz21_3⟩:=zf4 BK332.out;have p336:0≤(0:Int):=(by omega);have q336:0 < (l0_1.length:Int):=of_decide_eq_true (by first|(with_reducible assumption)|assumption);obtain ⟨ad336,e336,hx336_0,hx336_1⟩:=at_T43 (Kd.V_reads' HO_333001.out).2.2 0 p336 q336;cases e336;have qi336:(0 < l0_1.length)=True:=eq_true (by omega);(try rw [show ((0:Int)).toNat=0 from rfl] at hx336_0);(try rw [show 0 * 2=0 from rfl] at hx336_0);(try rw [Addr.add_zero'] at hx336_0);(try rw [show ((0:Int)).toNat=0 from rfl] at hx336_1);(try rw [show 0 * 2=0 from rfl] at hx336_1);(try rw [Addr.add_zero'] at hx336_1);replace p336:=eq_true p336;replace q336:=eq_true q336)|((with_reducible refine gate_callee (f:=30) rfl ?_);refine goesL_ (some 26) rfl rfl Try.func30 (by kernel_rfl) rfl #[.agg #[.string ((rd_T43 l0_1 0).f0),.string ((rd_T43 l0_1 0).f1)]] rfl (by (try simp only [List.map_toArray,List.map_cons,List.map_nil]);first|done|rfl|(simp only [List.length_drop,List.length_take];rfl)|(simp (disch:=omega) only [u64_in];rfl)) ?_;(with_reducible refine (factotumref09_pair.calls ((rd_T43 l0_1 0).f0) ((rd_T43 l0_1 0).f1) t337 _ A16.out).mono ?_);rintro e w22 ⟨rfl,hb⟩;refine ⟨_,rfl,?_⟩;replace HO_333001:=Aside0.mk (Kd.V_below (by (with_reducible repeat (first|apply Kd.V_alloc|apply Kd.V_drewN|apply Kd.V_drew));exact HO_333001.out) hb);replace HO_333002:=Aside0.mk (Kd.V_below (by (with_reducible repeat (first|apply Kd.V_alloc|apply Kd.V_drewN|apply Kd.V_drew));exact HO_333002.out) hb);replace HO_333003:=Aside0.mk (Kd.V_below (by (with_reducible repeat (first|apply Kd.V_alloc|apply Kd.V_drewN|apply Kd.V_drew));exact HO_333003.out) hb);replace BK332:=Aside0.mk (blk_below (g:=gb332) (o:=.cells #[.bool a0_0,.slice (some ad336) l0_1.length c0_1,.slice A0_2 l0_2.length c0_2,.slice A0_3 l0_3.length c0_3] 26 (0,0)) (by (with_reducible repeat (first|apply zb1|apply zb2|apply zb3));exact BK332.out) hb);replace BK333:=Aside0.mk (blk_below (g:=gb333) (o:=.cells #[.bool false,.slice none 0 0,.slice none 0 0,.slice none 0 0] 26 (0,0)) (by (with_reducible repeat (first|apply zb1|apply zb2|apply zb3));exact BK333.out) hb);replace BK334:=Aside0.mk (blk_below (g:=gb334) (o:=.cells #[.bool false,.slice none 0 0,.slice none 0 0,.slice none 0 0] 26 (0,0)) (by (with_reducible repeat (first|apply zb1|apply zb2|apply zb3));exact BK334.out) hb);replace HB:=Aside0.mk (below_step (by repeat (first|(with_reducible first|exact HB.out|apply zl1|apply zl2|apply zl3|refine below_set ?_ GE332.out|refine below_set ?_ GE333.out|refine below_set ?_ GE334.out)|exact HB.out)) hb);(try clear hb)))
     go_loopg [6,7] kj1 (fun kq v6 v7 w'=>∃ (x6_2:Int) (x7_2:Int),v6=.int .i64 x6_2∧v7=.int .i64 x7_2∧Aside0 (factotumref09_Split.l0 kq (wrap64 (t335 - 2)) x6_2 x7_2 a0_0 l0_1 l0_2 l0_3=some (r1,r2,r3,r4,r5,r6,r7,r8,r9))∧Aside0 (kq≤kj1)∧Aside0 (Kd.V k43 43 w' w.heap.size (fun k_=>((P0_1_ k_ ∨ P0_2_ k_ ∨ P0_3_ k_) ∨ w.heap.size≤k_)∧k_ ≠ gb332∧k_ ≠ gb333∧k_ ≠ gb334) (.slice (some ad336) l0_1.length c0_1) l0_1)∧Aside0 (Kd.V Kd.string 9 w' w.heap.size (fun k_=>((P0_1_ k_ ∨ P0_2_ k_ ∨ P0_3_ k_) ∨ w.heap.size≤k_)∧k_ ≠ gb332∧k_ ≠ gb333∧k_ ≠ gb334) (.slice A0_2 l0_2.length c0_2) l0_2)∧Aside0 (Kd.V (Kd.int .i64) 3 w' w.heap.size (fun k_=>((P0_1_ k_ ∨ P0_2_ k_ ∨ P0_3_ k_) ∨ w.heap.size≤k_)∧k_ ≠ gb332∧k_ ≠ gb333∧k_ ≠ gb334) (.slice A0_3 l0_3.length c0_3) l0_3)∧Aside0 (w'.heap[gb332]?=some (.cells #[.bool a0_0,(.slice (some ad336) l0_1.length c0_1),(.slice A0_2 l0_2.length c0_2),(.slice A0_3 l0_3.length c0_3)] 26 (0,0)))∧Aside0 (w'.heap[gb333]?=some (.cells #[.bool false,(.slice none 0 0),(.slice none 0 0),(.slice none 0 0)] 26 (0,0)))∧Aside0 (w'.heap[gb334]?=some (.cells #[.bool false,(.slice none 0 0),(.slice none 0 0),(.slice none 0 0)] 26 (0,0)))∧Aside0 (Below w.heap.size w w'))
     case atStart=>exact ⟨(1),(t337),(by first|(with_reducible rfl)|(simp;done)|(simp [*];done)|rfl|(simp only [not_isEmpty_bne])),(by first|(with_reducible rfl)|(simp;done)|(simp [*];done)|rfl|(simp only [not_isEmpty_bne])),H',⟨Nat.le_refl _⟩,⟨by (with_reducible repeat (first|apply Kd.V_alloc|apply Kd.V_drewN|apply Kd.V_drew));exact HO_333001.out⟩,⟨by (with_reducible repeat (first|apply Kd.V_alloc|apply Kd.V_drewN|apply Kd.V_drew));exact HO_333002.out⟩,⟨by (with_reducible repeat (first|apply Kd.V_alloc|apply Kd.V_drewN|apply Kd.V_drew));exact HO_333003.out⟩,⟨by (with_reducible repeat (first|apply zb1|apply zb2|apply zb3));exact BK332.out⟩,⟨by (with_reducible repeat (first|apply zb1|apply zb2|apply zb3));exact BK333.out⟩,⟨by (with_reducible repeat (first|apply zb1|apply zb2|apply zb3));exact BK334.out⟩,⟨by repeat (first|(with_reducible first|exact HB.out|apply zl1|apply zl2|apply zl3|refine below_set ?_ GE332.out|refine below_set ?_ GE333.out|refine below_set ?_ GE334.out)|exact HB.out)⟩⟩
     case round =>
      clear H'
      try clear hcz12_0 hcz12_1 hcz12_2 hcz12_3 hcz19_0 hcz19_1 hcz19_2 hcz19_3 hcz21_0 hcz21_1 hcz21_2
      try clear c1
      try clear p2
      try clear c3
      try clear p3
      try clear q3
      try clear hx3
      try clear qi3
      try clear c6
      try clear p6
      try clear c7
      try clear c8
      try clear c10
      try clear c11
      try clear c13
      try clear c15
      try clear c15b0
      try clear c15b1
      try clear c17
      try clear c18
      try clear hfz12_0 hfz12_1 hfz12_2 hfz12_3 hfz19_0 hfz19_1 hfz19_2 hfz19_3 hfz21_0 hfz21_1 hfz21_2 hfz21_3 hfz9_0 hfz9_1 hfz9_2 hfz9_3
      try clear hcz21_3 hcz9_0 hcz9_1 hcz9_2 hcz9_3
      try clear hx336_0
      try clear hx336_1
      try clear p2
      try clear p336
      try clear q336
      obtain ⟨x6_2,x7_2,rfl,rfl,HA,HK2,HO_333001,HO_333002,HO_333003,BK332,BK333,BK334,HB⟩:=hrel
      cases gk with
      | zero=>exact absurd HA.out (by simp [factotumref09_Split.l0])
      | succ k2 =>
       have H:=HA.out
       clear HA
       simp only [factotumref09_Split.l0] at H
       by_cases c23:x6_2 < (wrap64 ((l0_1.length:Int) - 1))
       ·rw [if_pos c23] at H
        have c23b0:decide (x6_2 < (wrap64 ((l0_1.length:Int) - 1)))=true:=decide_eq_true c23
        clear c23
        by_cases c24:(wrap64 (2 * x7_2)) < (wrap64 (t335 - 2))
        ·rw [if_pos c24] at H
         have c24b0:decide ((wrap64 (2 * x7_2)) < (wrap64 (t335 - 2)))=true:=decide_eq_true c24
         clear c24
         by_cases c25:0≤x6_2
         ·rw [if_pos c25] at H
          have c25b0:decide (0≤x6_2)=true:=decide_eq_true c25
          clear c25
          by_cases c26:x6_2 < (l0_1.length:Int)
          ·rw [if_pos c26] at H
           have c26b0:decide (x6_2 < (l0_1.length:Int))=true:=decide_eq_true c26
           clear c26
           replace H:=Option.bind_eq_some_iff.mp H
           obtain ⟨t339,A270,H⟩:=H
           replace H:(factotumref09_Split.l0 k2 (wrap64 (t335 - 2)) (wrap64 (x6_2 + 1)) (wrap64 (x7_2 + t339)) a0_0 l0_1 l0_2 l0_3)=some (r1,r2,r3,r4,r5,r6,r7,r8,r9):=H
           have A27:=Aside0.mk A270
           clear A270
           have H':=Aside0.mk H
           clear H
           have hnb28:=NB332_333.out
           have hnc28:=NB333_332.out
           have hnb29:=NB332_334.out
           have hnc29:=NB334_332.out
           obtain ⟨hcz30_0,hcz30_1,hcz30_2,hcz30_3⟩:=zc4 BK332.out
           obtain ⟨hfz30_0,hfz30_1,hfz30_2,hfz30_3⟩:=zf4 BK332.out
           have p338:0≤(x6_2:Int):=of_decide_eq_true (by first|(with_reducible assumption)|assumption)
           have q338:x6_2 < (l0_1.length:Int):=of_decide_eq_true (by first|(with_reducible assumption)|assumption)
           obtain ⟨ad338,e338,hx338_0,hx338_1⟩:=at_T43 (Kd.V_reads' HO_333001.out).2.2 x6_2 p338 q338
           obtain rfl:ad336=ad338:=(by injection e338)
           replace p338:=eq_true p338
           replace q338:=eq_true q338
           go_wp2_with (first|((with_reducible refine gate_callee (f:=30) rfl ?_);refine goesL_ (some 45) rfl rfl Try.func30 (by kernel_rfl) rfl #[.agg #[.string ((rd_T43 l0_1 x6_2).f0),.string ((rd_T43 l0_1 x6_2).f1)]] rfl (by (try simp only [List.map_toArray,List.map_cons,List.map_nil]);first|done|rfl|(simp only [List.length_drop,List.length_take];rfl)|(simp (disch:=omega) only [u64_in];rfl)) ?_;(with_reducible refine (factotumref09_pair.calls ((rd_T43 l0_1 x6_2).f0) ((rd_T43 l0_1 x6_2).f1) t339 _ A27.out).mono ?_);rintro e w31 ⟨rfl,hb⟩;refine ⟨_,rfl,?_⟩;replace HO_333001:=Aside0.mk (Kd.V_below (by (with_reducible repeat (first|apply Kd.V_alloc|apply Kd.V_drewN|apply Kd.V_drew));exact HO_333001.out) hb);replace HO_333002:=Aside0.mk (Kd.V_below (by (with_reducible repeat (first|apply Kd.V_alloc|apply Kd.V_drewN|apply Kd.V_drew));exact HO_333002.out) hb);replace HO_333003:=Aside0.mk (Kd.V_below (by (with_reducible repeat (first|apply Kd.V_alloc|apply Kd.V_drewN|apply Kd.V_drew));exact HO_333003.out) hb);replace BK332:=Aside0.mk (blk_below (g:=gb332) (o:=.cells #[.bool a0_0,.slice (some ad336) l0_1.length c0_1,.slice A0_2 l0_2.length c0_2,.slice A0_3 l0_3.length c0_3] 26 (0,0)) (by (with_reducible repeat (first|apply zb1|apply zb2|apply zb3));exact BK332.out) hb);replace BK333:=Aside0.mk (blk_below (g:=gb333) (o:=.cells #[.bool false,.slice none 0 0,.slice none 0 0,.slice none 0 0] 26 (0,0)) (by (with_reducible repeat (first|apply zb1|apply zb2|apply zb3));exact BK333.out) hb);replace BK334:=Aside0.mk (blk_below (g:=gb334) (o:=.cells #[.bool false,.slice none 0 0,.slice none 0 0,.slice none 0 0] 26 (0,0)) (by (with_reducible repeat (first|apply zb1|apply zb2|apply zb3));exact BK334.out) hb);replace HB:=Aside0.mk (below_step (by repeat (first|(with_reducible first|exact HB.out|apply zl1|apply zl2|apply zl3|refine below_set ?_ GE332.out|refine below_set ?_ GE333.out|refine below_set ?_ GE334.out)|exact HB.out)) hb);(try clear hb)))
           go_roundg k2
           case measure=>have:=HJ1.out;have:=HK2.out;omega
           case rel=>exact ⟨(wrap64 (x6_2 + 1)),(wrap64 (x7_2 + t339)),(by first|(with_reducible rfl)|(simp;done)|(simp [*];done)|rfl|(simp only [not_isEmpty_bne])),(by first|(with_reducible rfl)|(simp;done)|(simp [*];done)|rfl|(simp only [not_isEmpty_bne])),H',⟨by have:=HJ1.out;have:=HK2.out;omega⟩,⟨by (with_reducible repeat (first|apply Kd.V_alloc|apply Kd.V_drewN|apply Kd.V_drew));exact HO_333001.out⟩,⟨by (with_reducible repeat (first|apply Kd.V_alloc|apply Kd.V_drewN|apply Kd.V_drew));exact HO_333002.out⟩,⟨by (with_reducible repeat (first|apply Kd.V_alloc|apply Kd.V_drewN|apply Kd.V_drew));exact HO_333003.out⟩,⟨by (with_reducible repeat (first|apply zb1|apply zb2|apply zb3));exact BK332.out⟩,⟨by (with_reducible repeat (first|apply zb1|apply zb2|apply zb3));exact BK333.out⟩,⟨by (with_reducible repeat (first|apply zb1|apply zb2|apply zb3));exact BK334.out⟩,⟨by repeat (first|(with_reducible first|exact HB.out|apply zl1|apply zl2|apply zl3|refine below_set ?_ GE332.out|refine below_set ?_ GE333.out|refine below_set ?_ GE334.out)|exact HB.out)⟩⟩
          ·rw [if_neg c26] at H
           exact absurd H (by simp)
         ·rw [if_neg c25] at H
          exact absurd H (by simp)
        ·rw [if_neg c24] at H
         have c24b0:decide ((wrap64 (2 * x7_2)) < (wrap64 (t335 - 2)))=false:=decide_eq_false c24
         clear c24
         by_cases c32:0≤x6_2
         ·rw [if_pos c32] at H
          have c32b0:=eq_true c32
          have c32b1:decide (0≤x6_2)=true:=decide_eq_true c32
          clear c32
          by_cases c33:x6_2≤(l0_1.length:Int)
          ·rw [if_pos c33] at H
           have c33b0:=eq_true c33
           have c33b1:decide (x6_2≤(l0_1.length:Int))=true:=decide_eq_true c33
           clear c33
           obtain ⟨y340,hy340⟩:∃ y_:List (S43),y_=(l0_1.take (x6_2:Int).toNat):=⟨_,rfl⟩
           replace H:(if x6_2 < (l0_1.length:Int) then (some (true,y340,([]:List ByteArray),([]:List Int),true,(l0_1.drop (x6_2:Int).toNat),([]:List ByteArray),([]:List Int),(rd_T43 l0_1 x6_2).f0)) else (none))=some (r1,r2,r3,r4,r5,r6,r7,r8,r9):=by first|(rw [hy340];with_reducible exact H)|(have H2_:=(Option.bind_some _ _).symm.trans H;rw [hy340];with_reducible exact H2_)|(have H2_:=(Option.bind_some _ _).symm.trans H;with_reducible exact H2_)|with_reducible exact H|(rw [hy340];exact H)|exact H
           have Ny340:=Aside0.mk hy340
           clear hy340
           have c34b0:=eq_true (of_decide_eq_true (by first|(with_reducible assumption)|assumption):0≤x6_2)
           have c35b0:=eq_true (of_decide_eq_true (by first|(with_reducible assumption)|assumption):x6_2≤(l0_1.length:Int))
           obtain ⟨y345,hy345⟩:∃ y_:List (S43),y_=(l0_1.drop (x6_2:Int).toNat):=⟨_,rfl⟩
           replace H:(if x6_2 < (l0_1.length:Int) then (some (true,y340,([]:List ByteArray),([]:List Int),true,y345,([]:List ByteArray),([]:List Int),(rd_T43 l0_1 x6_2).f0)) else (none))=some (r1,r2,r3,r4,r5,r6,r7,r8,r9):=by first|(rw [hy345];with_reducible exact H)|(have H2_:=(Option.bind_some _ _).symm.trans H;rw [hy345];with_reducible exact H2_)|(have H2_:=(Option.bind_some _ _).symm.trans H;with_reducible exact H2_)|with_reducible exact H|(rw [hy345];exact H)|exact H
           have Ny345:=Aside0.mk hy345
           clear hy345
           by_cases c36:x6_2 < (l0_1.length:Int)
           ·rw [if_pos c36] at H
            have c36b0:decide (x6_2 < (l0_1.length:Int))=true:=decide_eq_true c36
            clear c36
            simp only [Option.some.injEq,Prod.mk.injEq] at H
            obtain ⟨rfl,rfl,rfl,rfl,rfl,rfl,rfl,rfl,rfl⟩:=H
            have hnb37:=NB332_333.out
            have hnc37:=NB333_332.out
            have hnb38:=NB332_334.out
            have hnc38:=NB334_332.out
            obtain ⟨hcz39_0,hcz39_1,hcz39_2,hcz39_3⟩:=zc4 BK332.out
            obtain ⟨hfz39_0,hfz39_1,hfz39_2,hfz39_3⟩:=zf4 BK332.out
            try go_wp2
            replace HO_333001:=Aside0.mk (Kd.V_drew HO_333001.out)
            replace HO_333002:=Aside0.mk (Kd.V_drew HO_333002.out)
            replace HO_333003:=Aside0.mk (Kd.V_drew HO_333003.out)
            replace BK332:=Aside0.mk (blk_drew BK332.out)
            replace BK333:=Aside0.mk (blk_drew BK333.out)
            replace BK334:=Aside0.mk (blk_drew BK334.out)
            replace HB:=Aside0.mk (below_drew1 HB.out)
            have q41:(x6_2:Int)≤((l0_1.length:Int):Int):=of_decide_eq_true (by first|(with_reducible assumption)|assumption)
            obtain ⟨i041,hi041,_,hsz41,_⟩:=info_parts info43
            have hroom41:l0_1.length≤c0_1:=(Kd.V_reads' HO_333001.out).2.1
            have hC41:Kd.F k43 _ _ (some ad336) l0_1.length l0_1:=(Kd.V_at (base:=w.heap.size) HO_333001.out).2.2
            have hcut41:=cut_to (P:=Try.prog) 22 43 .i64 Try.underlying22 hi041 (some ad336) l0_1.length c0_1 x6_2 (of_decide_eq_true (by first|(with_reducible assumption)|assumption)) q41 hroom41
            have hr41:=Kd.F_take (m:=(x6_2:Int).toNat) hC41 (by omega)
            have hy41:y340.length=(x6_2:Int).toNat:=(by rw [Ny340.out,List.length_take];omega)
            rw [← Ny340.out] at hr41
            rw [← hy41] at hcut41
            have HO344:=Aside0.mk (show Kd.V k43 43 _ w.heap.size _ (.slice (some ad336) y340.length c0_1) y340 from Kd.V_mk (by omega) hr41)
            have HC344:=Aside0.mk (show y340.length≤c0_1 from by omega)
            clear hr41 hC41 hroom41 hi041 hsz41
            have KY41:=Aside0.mk hy41
            clear hy41
            replace q41:=eq_true q41
            have q42:(x6_2:Int)≤((l0_1.length:Int):Int):=of_decide_eq_true (by first|(with_reducible assumption)|assumption)
            obtain ⟨i042,hi042,_,hsz42,_⟩:=info_parts info43
            have hroom42:l0_1.length≤c0_1:=(Kd.V_reads' HO_333001.out).2.1
            have hC42:Kd.F k43 _ _ (some ad336) l0_1.length l0_1:=(Kd.V_at (base:=w.heap.size) HO_333001.out).2.2
            have q042:(0:Int)≤(x6_2:Int):=of_decide_eq_true (by first|(with_reducible assumption)|assumption)
            have hcut42:=cut_from (P:=Try.prog) 22 43 .i64 Try.underlying22 hi042 2 hsz42 (some ad336) l0_1.length c0_1 x6_2 q042 q42
            have hr42:=Kd.F_cut (m:=(x6_2:Int).toNat) (c:=c0_1) hC42 (by omega) hroom42
            obtain ⟨A42,hA42⟩:∃ A1,A1=(if c0_1=(x6_2:Int).toNat then (some ad336) else ((some ad336):Option Addr).map (·.add ((x6_2:Int).toNat * 2))):=⟨_,rfl⟩
            obtain ⟨c42,hc42⟩:∃ c_,c_=c0_1 - (x6_2:Int).toNat:=⟨_,rfl⟩
            have hy42:y345.length=l0_1.length - (x6_2:Int).toNat:=(by rw [Ny345.out,List.length_drop] <;> omega)
            rw [show (l0_1).drop (x6_2:Int).toNat=y345 from Ny345.out.symm] at hr42
            replace hr42:Kd.F k43 _ _ A42 y345.length y345:=(by rw [hA42];exact hr42)
            rw [← hy42,← hA42,← hc42] at hcut42
            have HO349:=Aside0.mk (show Kd.V k43 43 _ w.heap.size _ (.slice A42 y345.length c42) y345 from Kd.V_mk (by rw [hy42,hc42];exact Nat.sub_le_sub_right hroom42 _) hr42)
            have HC349:=Aside0.mk (show y345.length≤c42 from by rw [hy42,hc42];exact Nat.sub_le_sub_right hroom42 _)
            clear hr42 hC42 hroom42 hi042 hsz42 hc42
            have KY42:=Aside0.mk hy42
            have KA42:=Aside0.mk hA42
            clear hy42 hA42
            replace q42:=eq_true q42
            have p350:0≤(x6_2:Int):=of_decide_eq_true (by first|(with_reducible assumption)|assumption)
            have q350:x6_2 < (l0_1.length:Int):=of_decide_eq_true (by first|(with_reducible assumption)|assumption)
            obtain ⟨ad350,e350,hx350_0,hx350_1⟩:=at_T43 (Kd.V_reads' HO_333001.out).2.2 x6_2 p350 q350
            obtain rfl:ad336=ad350:=(by injection e350)
            replace p350:=eq_true p350
            replace q350:=eq_true q350
            refine start_ (n:=19) (S:=fun w'=>w'.cell? ⟨gb332,0,none⟩=some (.bool a0_0)∧w'.cell? ⟨gb332,1,none⟩=some (.slice (some ad336) l0_1.length c0_1)∧w'.cell? ⟨gb332,2,none⟩=some (.slice A0_2 l0_2.length c0_2)∧w'.cell? ⟨gb332,3,none⟩=some (.slice A0_3 l0_3.length c0_3)∧w'.cell? (ad336.add ((x6_2).toNat * 2))=some (.string ((rd_T43 l0_1 x6_2).f0))∧w'.cell? ⟨(ad336.add ((x6_2).toNat * 2)).block,(ad336.add ((x6_2).toNat * 2)).off + 1,none⟩=some (.string ((rd_T43 l0_1 x6_2).f1))) (ds:=[]) #[false,false,false,false,false,false,false,false,false,false,false,false,false,false,false,false,false,false,false] (by kernel_rfl) rfl rfl ⟨(blk_cell BK332.out 0).trans rfl,(blk_cell BK332.out 1).trans rfl,(blk_cell BK332.out 2).trans rfl,(blk_cell BK332.out 3).trans rfl,hx350_0,hx350_1⟩ (fun hHeld=>?_);refine with_tabW factotumref09_Split.tab8 factotumref09_Split.bits8 (fun HT_ HW_=>?_)
            generalize wr.drew=w40 at HO_333001 HO_333002 HO_333003 BK332 BK333 BK334 HB HO344 HO349 hx350_0 hx350_1 hHeld ⊢
            refine pure_ (i:=0) (N:=some 49) (v:=?_) (a':=?_) #[true,false,false,false,false,false,false,false,false,false,false,false,false,false,false,false,false,false,false] rfl rfl (any_of HT_.out (by kernel_rfl)) (fun _ _ _ h=>h) (Or.inl ⟨by rfl,?_⟩) ?_ ?_
            rotate_left
            ·intro w'
             go_simp
             with_reducible rfl
            rotate_left
            ·simp only [Act.put,List.setIfInBounds_toArray,List.set_cons_zero,List.set_cons_succ,i64_w,i32_w]
             rfl
            refine pure_ (i:=2) (N:=some 51) (v:=?_) (a':=?_) #[true,false,true,false,false,false,false,false,false,false,false,false,false,false,false,false,false,false,false] rfl rfl (any_of HT_.out (by kernel_rfl)) (fun _ _ _ h=>h) (Or.inl ⟨by rfl,?_⟩) ?_ ?_
            rotate_left
            ·intro w'
             go_simp
             with_reducible rfl
            rotate_left
            ·simp only [Act.put,List.setIfInBounds_toArray,List.set_cons_zero,List.set_cons_succ,i64_w,i32_w]
             rfl
            refine pure_ (i:=5) (N:=some 54) (v:=?_) (a':=?_) #[true,false,true,false,false,true,false,false,false,false,false,false,false,false,false,false,false,false,false] rfl rfl (any_of HT_.out (by kernel_rfl)) (fun _ _ _ h=>h) (Or.inl ⟨by rfl,?_⟩) ?_ ?_
            rotate_left
            ·intro w'
             go_simp
             with_reducible rfl
            rotate_left
            ·simp only [Act.put,List.setIfInBounds_toArray,List.set_cons_zero,List.set_cons_succ,i64_w,i32_w]
             rfl
            refine pure_ (i:=7) (N:=some 56) (v:=?_) (a':=?_) #[true,false,true,false,false,true,false,true,false,false,false,false,false,false,false,false,false,false,false] rfl rfl (any_of HT_.out (by kernel_rfl)) (fun _ _ _ h=>h) (Or.inl ⟨by rfl,?_⟩) ?_ ?_
            rotate_left
            ·intro w'
             go_simp
             with_reducible rfl
            rotate_left
            ·simp only [Act.put,List.setIfInBounds_toArray,List.set_cons_zero,List.set_cons_succ,i64_w,i32_w]
             rfl
            refine pure_ (i:=10) (N:=some 59) (v:=?_) (a':=?_) #[true,false,true,false,false,true,false,true,false,false,true,false,false,false,false,false,false,false,false] rfl rfl (any_of HT_.out (by kernel_rfl)) (fun _ _ _ h=>h) (Or.inl ⟨by rfl,?_⟩) ?_ ?_
            rotate_left
            ·intro w'
             go_simp
             with_reducible rfl
            rotate_left
            ·simp only [Act.put,List.setIfInBounds_toArray,List.set_cons_zero,List.set_cons_succ,i64_w,i32_w]
             rfl
            refine pure_ (i:=12) (N:=some 61) (v:=?_) (a':=?_) #[true,false,true,false,false,true,false,true,false,false,true,false,true,false,false,false,false,false,false] rfl rfl (any_of HT_.out (by kernel_rfl)) (fun _ _ _ h=>h) (Or.inl ⟨by rfl,?_⟩) ?_ ?_
            rotate_left
            ·intro w'
             go_simp
             with_reducible rfl
            rotate_left
            ·simp only [Act.put,List.setIfInBounds_toArray,List.set_cons_zero,List.set_cons_succ,i64_w,i32_w]
             rfl
            refine take_ (i:=1) (N:=some 50) (v:=?_) (a':=?_) #[true,true,true,false,false,true,false,true,false,false,true,false,true,false,false,false,false,false,false] rfl rfl (take_ofW HT_.out HW_.out (by kernel_rfl)) (fun _ _ _ h=>h) (Or.inl ⟨by rfl,?_⟩) hHeld ?_ ?_
            rotate_left
            ·rintro w' ⟨s0,s1,s2,s3,s4,s5⟩
             go_simp
             with_reducible rfl
            rotate_left
            ·simp only [Act.put,List.setIfInBounds_toArray,List.set_cons_zero,List.set_cons_succ,i64_w,i32_w]
             rfl
            refine pure_ (i:=3) (N:=some 52) (v:=?_) (a':=?_) #[true,true,true,true,false,true,false,true,false,false,true,false,true,false,false,false,false,false,false] rfl rfl (any_of HT_.out (by kernel_rfl)) (fun _ _ _ h=>h) (Or.inl ⟨by rfl,?_⟩) ?_ ?_
            rotate_left
            ·intro w'
             go_simp
             with_reducible rfl
            rotate_left
            ·simp only [Act.put,List.setIfInBounds_toArray,List.set_cons_zero,List.set_cons_succ,i64_w,i32_w]
             rfl
            refine pure_ (i:=4) (N:=some 53) (v:=?_) (a':=?_) #[true,true,true,true,true,true,false,true,false,false,true,false,true,false,false,false,false,false,false] rfl rfl (any_of HT_.out (by kernel_rfl)) (fun _ _ _ h=>h) (Or.inl ⟨by rfl,?_⟩) ?_ ?_
            rotate_left
            ·intro w'
             go_simp
             with_reducible rfl
            rotate_left
            ·simp only [Act.put,List.setIfInBounds_toArray,List.set_cons_zero,List.set_cons_succ,i64_w,i32_w]
             rfl
            refine take_ (i:=6) (N:=some 55) (v:=?_) (a':=?_) #[true,true,true,true,true,true,true,true,false,false,true,false,true,false,false,false,false,false,false] rfl rfl (take_ofW HT_.out HW_.out (by kernel_rfl)) (fun _ _ _ h=>h) (Or.inl ⟨by rfl,?_⟩) hHeld ?_ ?_
            rotate_left
            ·rintro w' ⟨s0,s1,s2,s3,s4,s5⟩
             go_simp
             with_reducible rfl
            rotate_left
            ·simp only [Act.put,List.setIfInBounds_toArray,List.set_cons_zero,List.set_cons_succ,i64_w,i32_w]
             rfl
            refine pure_ (i:=8) (N:=some 57) (v:=?_) (a':=?_) #[true,true,true,true,true,true,true,true,true,false,true,false,true,false,false,false,false,false,false] rfl rfl (any_of HT_.out (by kernel_rfl)) (fun _ _ _ h=>h) (Or.inl ⟨by rfl,?_⟩) ?_ ?_
            rotate_left
            ·intro w'
             go_simp
             with_reducible rfl
            rotate_left
            ·simp only [Act.put,List.setIfInBounds_toArray,List.set_cons_zero,List.set_cons_succ,i64_w,i32_w]
             rfl
            refine pure_ (i:=9) (N:=some 58) (v:=?_) (a':=?_) #[true,true,true,true,true,true,true,true,true,true,true,false,true,false,false,false,false,false,false] rfl rfl (any_of HT_.out (by kernel_rfl)) (fun _ _ _ h=>h) (Or.inl ⟨by rfl,?_⟩) ?_ ?_
            rotate_left
            ·intro w'
             go_simp
             with_reducible rfl
            rotate_left
            ·simp only [Act.put,List.setIfInBounds_toArray,List.set_cons_zero,List.set_cons_succ,i64_w,i32_w]
             rfl
            refine take_ (i:=11) (N:=some 60) (v:=?_) (a':=?_) #[true,true,true,true,true,true,true,true,true,true,true,true,true,false,false,false,false,false,false] rfl rfl (take_ofW HT_.out HW_.out (by kernel_rfl)) (fun _ _ _ h=>h) (Or.inl ⟨by rfl,?_⟩) hHeld ?_ ?_
            rotate_left
            ·rintro w' ⟨s0,s1,s2,s3,s4,s5⟩
             go_simp
             with_reducible rfl
            rotate_left
            ·simp only [Act.put,List.setIfInBounds_toArray,List.set_cons_zero,List.set_cons_succ,i64_w,i32_w]
             rfl
            refine pure_ (i:=13) (N:=some 62) (v:=?_) (a':=?_) #[true,true,true,true,true,true,true,true,true,true,true,true,true,true,false,false,false,false,false] rfl rfl (any_of HT_.out (by kernel_rfl)) (fun _ _ _ h=>h) (Or.inl ⟨by rfl,?_⟩) ?_ ?_
            rotate_left
            ·intro w'
             go_simp
             with_reducible rfl
            rotate_left
            ·simp only [Act.put,List.setIfInBounds_toArray,List.set_cons_zero,List.set_cons_succ,i64_w,i32_w]
             rfl
            refine pure_ (i:=14) (N:=some 63) (v:=?_) (a':=?_) #[true,true,true,true,true,true,true,true,true,true,true,true,true,true,true,false,false,false,false] rfl rfl (any_of HT_.out (by kernel_rfl)) (fun _ _ _ h=>h) (Or.inl ⟨by rfl,?_⟩) ?_ ?_
            rotate_left
            ·intro w'
             go_simp
             with_reducible rfl
            rotate_left
            ·simp only [Act.put,List.setIfInBounds_toArray,List.set_cons_zero,List.set_cons_succ,i64_w,i32_w]
             rfl
            refine take_ (i:=15) (N:=some 64) (v:=?_) (a':=?_) #[true,true,true,true,true,true,true,true,true,true,true,true,true,true,true,true,false,false,false] rfl rfl (take_ofW HT_.out HW_.out (by kernel_rfl)) (fun _ _ _ h=>h) (Or.inl ⟨by rfl,?_⟩) hHeld ?_ ?_
            rotate_left
            ·rintro w' ⟨s0,s1,s2,s3,s4,s5⟩
             go_simp
             with_reducible rfl
            rotate_left
            ·simp only [Act.put,List.setIfInBounds_toArray,List.set_cons_zero,List.set_cons_succ,i64_w,i32_w]
             rfl
            refine one_ (i:=16) (N:=none) #[true,true,true,true,true,true,true,true,true,true,true,true,true,true,true,true,true,false,false] rfl rfl (one_of HT_.out (by kernel_rfl)) (by decide) (fun K hK=>?_)
            have hs43:w40.cell? ⟨gb333,0,none⟩=some (.bool false):=(blk_cell BK333.out 0).trans rfl
            have hfs43:=blk_frozen BK333.out 0
            have hns43_0:=NB332_333.out
            have hns43_2:=NB334_333.out
            have hms43_0:=NB333_332.out
            have hms43_2:=NB333_334.out
            have hs44:w40.cell? ⟨gb333,1,none⟩=some (.slice none 0 0):=(blk_cell BK333.out 1).trans rfl
            have hfs44:=blk_frozen BK333.out 1
            have hns44_0:=NB332_333.out
            have hns44_2:=NB334_333.out
            have hms44_0:=NB333_332.out
            have hms44_2:=NB333_334.out
            have hs45:w40.cell? ⟨gb333,2,none⟩=some (.slice none 0 0):=(blk_cell BK333.out 2).trans rfl
            have hfs45:=blk_frozen BK333.out 2
            have hns45_0:=NB332_333.out
            have hns45_2:=NB334_333.out
            have hms45_0:=NB333_332.out
            have hms45_2:=NB333_334.out
            have hs46:w40.cell? ⟨gb333,3,none⟩=some (.slice none 0 0):=(blk_cell BK333.out 3).trans rfl
            have hfs46:=blk_frozen BK333.out 3
            have hns46_0:=NB332_333.out
            have hns46_2:=NB334_333.out
            have hms46_0:=NB333_332.out
            have hms46_2:=NB333_334.out
            refine skip_ (w1:=?_) (by rfl) rfl ?_ ?_
            rotate_left
            ·go_simp
             rfl
            refine hK.out _ _ ⟨((far4 (g:=gb333) NB332_333.out).trans (hHeld.1)),((far4 (g:=gb333) NB332_333.out).trans (hHeld.2.1)),((far4 (g:=gb333) NB332_333.out).trans (hHeld.2.2.1)),((far4 (g:=gb333) NB332_333.out).trans (hHeld.2.2.2.1)),((far4 (g:=gb333) (by first|exact Kd.own_blk (Kd.V_awayG (fun _ h_=>by obtain ⟨_,e_,hx_,_⟩:=at_T43 (Kd.V_reads' h_).2.2 x6_2 (of_eq_true p350) (of_eq_true q350);cases e_;exact hx_) HO_333001.out (fun _ hk=>hk.2.2.1))|(rw [add_block];exact Kd.own_blk (Kd.V_awayG (fun _ h_=>by obtain ⟨_,e_,hx_,_⟩:=at_T43 (Kd.V_reads' h_).2.2 x6_2 (of_eq_true p350) (of_eq_true q350);cases e_;exact hx_) HO_333001.out (fun _ hk=>hk.2.2.1)))|(show (Addr.add _ _).block ≠ _;rw [add_block];exact Kd.own_blk (Kd.V_awayG (fun _ h_=>by obtain ⟨_,e_,hx_,_⟩:=at_T43 (Kd.V_reads' h_).2.2 x6_2 (of_eq_true p350) (of_eq_true q350);cases e_;exact hx_) HO_333001.out (fun _ hk=>hk.2.2.1)))|(dsimp only;exact Kd.own_blk (Kd.V_awayG (fun _ h_=>by obtain ⟨_,e_,hx_,_⟩:=at_T43 (Kd.V_reads' h_).2.2 x6_2 (of_eq_true p350) (of_eq_true q350);cases e_;exact hx_) HO_333001.out (fun _ hk=>hk.2.2.1))))).trans (hHeld.2.2.2.2.1)),((far4 (g:=gb333) (by first|exact Kd.own_blk (Kd.V_awayG (fun _ h_=>by obtain ⟨_,e_,hx_,_⟩:=at_T43 (Kd.V_reads' h_).2.2 x6_2 (of_eq_true p350) (of_eq_true q350);cases e_;exact hx_) HO_333001.out (fun _ hk=>hk.2.2.1))|(rw [add_block];exact Kd.own_blk (Kd.V_awayG (fun _ h_=>by obtain ⟨_,e_,hx_,_⟩:=at_T43 (Kd.V_reads' h_).2.2 x6_2 (of_eq_true p350) (of_eq_true q350);cases e_;exact hx_) HO_333001.out (fun _ hk=>hk.2.2.1)))|(show (Addr.add _ _).block ≠ _;rw [add_block];exact Kd.own_blk (Kd.V_awayG (fun _ h_=>by obtain ⟨_,e_,hx_,_⟩:=at_T43 (Kd.V_reads' h_).2.2 x6_2 (of_eq_true p350) (of_eq_true q350);cases e_;exact hx_) HO_333001.out (fun _ hk=>hk.2.2.1)))|(dsimp only;exact Kd.own_blk (Kd.V_awayG (fun _ h_=>by obtain ⟨_,e_,hx_,_⟩:=at_T43 (Kd.V_reads' h_).2.2 x6_2 (of_eq_true p350) (of_eq_true q350);cases e_;exact hx_) HO_333001.out (fun _ hk=>hk.2.2.1))))).trans (hHeld.2.2.2.2.2))⟩ (fun hHeld=>?_)
            clear hK K
            refine one_ (i:=17) (N:=none) #[true,true,true,true,true,true,true,true,true,true,true,true,true,true,true,true,true,true,false] rfl rfl (one_of HT_.out (by kernel_rfl)) (by decide) (fun K hK=>?_)
            have hs47:w40.cell? ⟨gb334,0,none⟩=some (.bool false):=(blk_cell BK334.out 0).trans rfl
            have hfs47:=blk_frozen BK334.out 0
            have hns47_0:=NB332_334.out
            have hns47_1:=NB333_334.out
            have hms47_0:=NB334_332.out
            have hms47_1:=NB334_333.out
            have hs48:w40.cell? ⟨gb334,1,none⟩=some (.slice none 0 0):=(blk_cell BK334.out 1).trans rfl
            have hfs48:=blk_frozen BK334.out 1
            have hns48_0:=NB332_334.out
            have hns48_1:=NB333_334.out
            have hms48_0:=NB334_332.out
            have hms48_1:=NB334_333.out
            have hs49:w40.cell? ⟨gb334,2,none⟩=some (.slice none 0 0):=(blk_cell BK334.out 2).trans rfl
            have hfs49:=blk_frozen BK334.out 2
            have hns49_0:=NB332_334.out
            have hns49_1:=NB333_334.out
            have hms49_0:=NB334_332.out
            have hms49_1:=NB334_333.out
            have hs50:w40.cell? ⟨gb334,3,none⟩=some (.slice none 0 0):=(blk_cell BK334.out 3).trans rfl
            have hfs50:=blk_frozen BK334.out 3
            have hns50_0:=NB332_334.out
            have hns50_1:=NB333_334.out
            have hms50_0:=NB334_332.out
            have hms50_1:=NB334_333.out
            refine skip_ (w1:=?_) (by rfl) rfl ?_ ?_
            rotate_left
            ·go_simp
             rfl
            refine hK.out _ _ ⟨((far4 (g:=gb334) NB332_334.out).trans (hHeld.1)),((far4 (g:=gb334) NB332_334.out).trans (hHeld.2.1)),((far4 (g:=gb334) NB332_334.out).trans (hHeld.2.2.1)),((far4 (g:=gb334) NB332_334.out).trans (hHeld.2.2.2.1)),((far4 (g:=gb334) (by first|exact Kd.own_blk (Kd.V_awayG (fun _ h_=>by obtain ⟨_,e_,hx_,_⟩:=at_T43 (Kd.V_reads' h_).2.2 x6_2 (of_eq_true p350) (of_eq_true q350);cases e_;exact hx_) HO_333001.out (fun _ hk=>hk.2.2.2))|(rw [add_block];exact Kd.own_blk (Kd.V_awayG (fun _ h_=>by obtain ⟨_,e_,hx_,_⟩:=at_T43 (Kd.V_reads' h_).2.2 x6_2 (of_eq_true p350) (of_eq_true q350);cases e_;exact hx_) HO_333001.out (fun _ hk=>hk.2.2.2)))|(show (Addr.add _ _).block ≠ _;rw [add_block];exact Kd.own_blk (Kd.V_awayG (fun _ h_=>by obtain ⟨_,e_,hx_,_⟩:=at_T43 (Kd.V_reads' h_).2.2 x6_2 (of_eq_true p350) (of_eq_true q350);cases e_;exact hx_) HO_333001.out (fun _ hk=>hk.2.2.2)))|(dsimp only;exact Kd.own_blk (Kd.V_awayG (fun _ h_=>by obtain ⟨_,e_,hx_,_⟩:=at_T43 (Kd.V_reads' h_).2.2 x6_2 (of_eq_true p350) (of_eq_true q350);cases e_;exact hx_) HO_333001.out (fun _ hk=>hk.2.2.2))))).trans (hHeld.2.2.2.2.1)),((far4 (g:=gb334) (by first|exact Kd.own_blk (Kd.V_awayG (fun _ h_=>by obtain ⟨_,e_,hx_,_⟩:=at_T43 (Kd.V_reads' h_).2.2 x6_2 (of_eq_true p350) (of_eq_true q350);cases e_;exact hx_) HO_333001.out (fun _ hk=>hk.2.2.2))|(rw [add_block];exact Kd.own_blk (Kd.V_awayG (fun _ h_=>by obtain ⟨_,e_,hx_,_⟩:=at_T43 (Kd.V_reads' h_).2.2 x6_2 (of_eq_true p350) (of_eq_true q350);cases e_;exact hx_) HO_333001.out (fun _ hk=>hk.2.2.2)))|(show (Addr.add _ _).block ≠ _;rw [add_block];exact Kd.own_blk (Kd.V_awayG (fun _ h_=>by obtain ⟨_,e_,hx_,_⟩:=at_T43 (Kd.V_reads' h_).2.2 x6_2 (of_eq_true p350) (of_eq_true q350);cases e_;exact hx_) HO_333001.out (fun _ hk=>hk.2.2.2)))|(dsimp only;exact Kd.own_blk (Kd.V_awayG (fun _ h_=>by obtain ⟨_,e_,hx_,_⟩:=at_T43 (Kd.V_reads' h_).2.2 x6_2 (of_eq_true p350) (of_eq_true q350);cases e_;exact hx_) HO_333001.out (fun _ hk=>hk.2.2.2))))).trans (hHeld.2.2.2.2.2))⟩ (fun hHeld=>?_)
            clear hK K
            refine pure_ (i:=18) (N:=some 4) (v:=?_) (a':=?_) #[true,true,true,true,true,true,true,true,true,true,true,true,true,true,true,true,true,true,true] rfl rfl (any_of HT_.out (by kernel_rfl)) (fun _ _ _ h=>h) (Or.inl ⟨by rfl,?_⟩) ?_ ?_
            rotate_left
            ·intro w'
             go_simp
             with_reducible rfl
            rotate_left
            ·simp only [Act.put,List.setIfInBounds_toArray,List.set_cons_zero,List.set_cons_succ,i64_w,i32_w]
             rfl
            refine done_ (done_of HT_.out (by kernel_rfl)) ?_
            try go_wp2
            refine bodyPost_ret (results_list (rs:=[.cell 2 26,.cell 3 26,.tmp 4]) rfl (by simp) (.cell gb333 26 #[.bool true,.slice (some ad336) y340.length c0_1,.slice none 0 0,.slice none 0 0] (0,0) _ rfl (by apply zpe;(repeat (first|(with_reducible first|apply zb1|apply zb2|apply zb3|apply zpi|exact BK333.out)|refine blk_far ?_ NB333_334.out _));rfl) Try.underlying26 rfl (by kernel_rfl) (.cell gb334 26 #[.bool true,.slice A42 y345.length c42,.slice none 0 0,.slice none 0 0] (0,0) _ rfl (by apply zpe;(repeat (first|(with_reducible first|apply zb1|apply zb2|apply zb3|apply zpi|exact BK334.out)|refine blk_far ?_ NB334_333.out _));rfl) Try.underlying26 rfl (by kernel_rfl) (.tmp .nil)))) rfl ?_
            exact ⟨_,_,_,_,_,_,by first|(with_reducible rfl)|(simp only [isEmpty_bne,Bool.not_not] <;> rfl)|rfl|(simp [*,errW_none,errW_some] <;> rfl),by (with_reducible repeat (first|apply Kd.V_alloc|apply Kd.V_drewN|apply Kd.V_drew));exact Kd.V_mono (Kd.V_far (p:=⟨gb334,3,none⟩) (Kd.V_far (p:=⟨gb334,2,none⟩) (Kd.V_far (p:=⟨gb334,1,none⟩) (Kd.V_far (p:=⟨gb334,0,none⟩) (Kd.V_far (p:=⟨gb333,3,none⟩) (Kd.V_far (p:=⟨gb333,2,none⟩) (Kd.V_far (p:=⟨gb333,1,none⟩) (Kd.V_far (p:=⟨gb333,0,none⟩) (Kd.V_mono (Kd.V_mono HO344.out (fun k_ hk=>(⟨hk,hk.2.2.1⟩:_∧k_ ≠ gb333))) (fun k_ hk=>(⟨hk,hk.1.2.2.2⟩:_∧k_ ≠ gb334))) (fun _ hk=>hk.1.2) (.bool true)) (fun _ hk=>hk.1.2) (.slice (some ad336) y340.length c0_1)) (fun _ hk=>hk.1.2) (.slice none 0 0)) (fun _ hk=>hk.1.2) (.slice none 0 0)) (fun _ hk=>hk.2) (.bool true)) (fun _ hk=>hk.2) (.slice A42 y345.length c42)) (fun _ hk=>hk.2) (.slice none 0 0)) (fun _ hk=>hk.2) (.slice none 0 0)) (fun _ hk=>hk.1.1.1),Kd.V_nil _ _ _ _ _,Kd.V_nil _ _ _ _ _,by (with_reducible repeat (first|apply Kd.V_alloc|apply Kd.V_drewN|apply Kd.V_drew));exact Kd.V_mono (Kd.V_far (p:=⟨gb334,3,none⟩) (Kd.V_far (p:=⟨gb334,2,none⟩) (Kd.V_far (p:=⟨gb334,1,none⟩) (Kd.V_far (p:=⟨gb334,0,none⟩) (Kd.V_far (p:=⟨gb333,3,none⟩) (Kd.V_far (p:=⟨gb333,2,none⟩) (Kd.V_far (p:=⟨gb333,1,none⟩) (Kd.V_far (p:=⟨gb333,0,none⟩) (Kd.V_mono (Kd.V_mono HO349.out (fun k_ hk=>(⟨hk,hk.2.2.1⟩:_∧k_ ≠ gb333))) (fun k_ hk=>(⟨hk,hk.1.2.2.2⟩:_∧k_ ≠ gb334))) (fun _ hk=>hk.1.2) (.bool true)) (fun _ hk=>hk.1.2) (.slice (some ad336) y340.length c0_1)) (fun _ hk=>hk.1.2) (.slice none 0 0)) (fun _ hk=>hk.1.2) (.slice none 0 0)) (fun _ hk=>hk.2) (.bool true)) (fun _ hk=>hk.2) (.slice A42 y345.length c42)) (fun _ hk=>hk.2) (.slice none 0 0)) (fun _ hk=>hk.2) (.slice none 0 0)) (fun _ hk=>hk.1.1.1),Kd.V_nil _ _ _ _ _,Kd.V_nil _ _ _ _ _,by repeat (first|(with_reducible first|exact HB.out|apply zl1|apply zl2|apply zl3|refine below_set ?_ GE332.out|refine below_set ?_ GE333.out|refine below_set ?_ GE334.out)|exact HB.out)⟩
           ·rw [if_neg c36] at H
            exact absurd H (by simp)
          ·rw [if_neg c33] at H
           exact absurd H (by simp)
         ·rw [if_neg c32] at H
          exact absurd H (by simp)
       ·rw [if_neg c23] at H
        have c23b0:decide (x6_2 < (wrap64 ((l0_1.length:Int) - 1)))=false:=decide_eq_false c23
        clear c23
        by_cases c51:0≤x6_2
        ·rw [if_pos c51] at H
         have c51b0:=eq_true c51
         have c51b1:decide (0≤x6_2)=true:=decide_eq_true c51
         clear c51
         by_cases c52:x6_2≤(l0_1.length:Int)
         ·rw [if_pos c52] at H
          have c52b0:=eq_true c52
          have c52b1:decide (x6_2≤(l0_1.length:Int))=true:=decide_eq_true c52
          clear c52
          obtain ⟨y351,hy351⟩:∃ y_:List (S43),y_=(l0_1.take (x6_2:Int).toNat):=⟨_,rfl⟩
          replace H:(if x6_2 < (l0_1.length:Int) then (some (true,y351,([]:List ByteArray),([]:List Int),true,(l0_1.drop (x6_2:Int).toNat),([]:List ByteArray),([]:List Int),(rd_T43 l0_1 x6_2).f0)) else (none))=some (r1,r2,r3,r4,r5,r6,r7,r8,r9):=by first|(rw [hy351];with_reducible exact H)|(have H2_:=(Option.bind_some _ _).symm.trans H;rw [hy351];with_reducible exact H2_)|(have H2_:=(Option.bind_some _ _).symm.trans H;with_reducible exact H2_)|with_reducible exact H|(rw [hy351];exact H)|exact H
          have Ny351:=Aside0.mk hy351
          clear hy351
          have c53b0:=eq_true (of_decide_eq_true (by first|(with_reducible assumption)|assumption):0≤x6_2)
          have c54b0:=eq_true (of_decide_eq_true (by first|(with_reducible assumption)|assumption):x6_2≤(l0_1.length:Int))
          obtain ⟨y356,hy356⟩:∃ y_:List (S43),y_=(l0_1.drop (x6_2:Int).toNat):=⟨_,rfl⟩
          replace H:(if x6_2 < (l0_1.length:Int) then (some (true,y351,([]:List ByteArray),([]:List Int),true,y356,([]:List ByteArray),([]:List Int),(rd_T43 l0_1 x6_2).f0)) else (none))=some (r1,r2,r3,r4,r5,r6,r7,r8,r9):=by first|(rw [hy356];with_reducible exact H)|(have H2_:=(Option.bind_some _ _).symm.trans H;rw [hy356];with_reducible exact H2_)|(have H2_:=(Option.bind_some _ _).symm.trans H;with_reducible exact H2_)|with_reducible exact H|(rw [hy356];exact H)|exact H
          have Ny356:=Aside0.mk hy356
          clear hy356
          by_cases c55:x6_2 < (l0_1.length:Int)
          ·rw [if_pos c55] at H
           have c55b0:decide (x6_2 < (l0_1.length:Int))=true:=decide_eq_true c55
           clear c55
           simp only [Option.some.injEq,Prod.mk.injEq] at H
           obtain ⟨rfl,rfl,rfl,rfl,rfl,rfl,rfl,rfl,rfl⟩:=H
           have hnb56:=NB332_333.out
           have hnc56:=NB333_332.out
           have hnb57:=NB332_334.out
           have hnc57:=NB334_332.out
           obtain ⟨hcz58_0,hcz58_1,hcz58_2,hcz58_3⟩:=zc4 BK332.out
           obtain ⟨hfz58_0,hfz58_1,hfz58_2,hfz58_3⟩:=zf4 BK332.out
           try go_wp2
           replace HO_333001:=Aside0.mk (Kd.V_drew HO_333001.out)
           replace HO_333002:=Aside0.mk (Kd.V_drew HO_333002.out)
           replace HO_333003:=Aside0.mk (Kd.V_drew HO_333003.out)
           replace BK332:=Aside0.mk (blk_drew BK332.out)
           replace BK333:=Aside0.mk (blk_drew BK333.out)
           replace BK334:=Aside0.mk (blk_drew BK334.out)
           replace HB:=Aside0.mk (below_drew1 HB.out)
           have q60:(x6_2:Int)≤((l0_1.length:Int):Int):=of_decide_eq_true (by first|(with_reducible assumption)|assumption)
           obtain ⟨i060,hi060,_,hsz60,_⟩:=info_parts info43
           have hroom60:l0_1.length≤c0_1:=(Kd.V_reads' HO_333001.out).2.1
           have hC60:Kd.F k43 _ _ (some ad336) l0_1.length l0_1:=(Kd.V_at (base:=w.heap.size) HO_333001.out).2.2
           have hcut60:=cut_to (P:=Try.prog) 22 43 .i64 Try.underlying22 hi060 (some ad336) l0_1.length c0_1 x6_2 (of_decide_eq_true (by first|(with_reducible assumption)|assumption)) q60 hroom60
           have hr60:=Kd.F_take (m:=(x6_2:Int).toNat) hC60 (by omega)
           have hy60:y351.length=(x6_2:Int).toNat:=(by rw [Ny351.out,List.length_take];omega)
           rw [← Ny351.out] at hr60
           rw [← hy60] at hcut60
           have HO355:=Aside0.mk (show Kd.V k43 43 _ w.heap.size _ (.slice (some ad336) y351.length c0_1) y351 from Kd.V_mk (by omega) hr60)
           have HC355:=Aside0.mk (show y351.length≤c0_1 from by omega)
           clear hr60 hC60 hroom60 hi060 hsz60
           have KY60:=Aside0.mk hy60
           clear hy60
           replace q60:=eq_true q60
           have q61:(x6_2:Int)≤((l0_1.length:Int):Int):=of_decide_eq_true (by first|(with_reducible assumption)|assumption)
           obtain ⟨i061,hi061,_,hsz61,_⟩:=info_parts info43
           have hroom61:l0_1.length≤c0_1:=(Kd.V_reads' HO_333001.out).2.1
           have hC61:Kd.F k43 _ _ (some ad336) l0_1.length l0_1:=(Kd.V_at (base:=w.heap.size) HO_333001.out).2.2
           have q061:(0:Int)≤(x6_2:Int):=of_decide_eq_true (by first|(with_reducible assumption)|assumption)
           have hcut61:=cut_from (P:=Try.prog) 22 43 .i64 Try.underlying22 hi061 2 hsz61 (some ad336) l0_1.length c0_1 x6_2 q061 q61
           have hr61:=Kd.F_cut (m:=(x6_2:Int).toNat) (c:=c0_1) hC61 (by omega) hroom61
           obtain ⟨A61,hA61⟩:∃ A1,A1=(if c0_1=(x6_2:Int).toNat then (some ad336) else ((some ad336):Option Addr).map (·.add ((x6_2:Int).toNat * 2))):=⟨_,rfl⟩
           obtain ⟨c61,hc61⟩:∃ c_,c_=c0_1 - (x6_2:Int).toNat:=⟨_,rfl⟩
           have hy61:y356.length=l0_1.length - (x6_2:Int).toNat:=(by rw [Ny356.out,List.length_drop] <;> omega)
           rw [show (l0_1).drop (x6_2:Int).toNat=y356 from Ny356.out.symm] at hr61
           replace hr61:Kd.F k43 _ _ A61 y356.length y356:=(by rw [hA61];exact hr61)
           rw [← hy61,← hA61,← hc61] at hcut61
           have HO360:=Aside0.mk (show Kd.V k43 43 _ w.heap.size _ (.slice A61 y356.length c61) y356 from Kd.V_mk (by rw [hy61,hc61];exact Nat.sub_le_sub_right hroom61 _) hr61)
           have HC360:=Aside0.mk (show y356.length≤c61 from by rw [hy61,hc61];exact Nat.sub_le_sub_right hroom61 _)
           clear hr61 hC61 hroom61 hi061 hsz61 hc61
           have KY61:=Aside0.mk hy61
           have KA61:=Aside0.mk hA61
           clear hy61 hA61
           replace q61:=eq_true q61
           have p361:0≤(x6_2:Int):=of_decide_eq_true (by first|(with_reducible assumption)|assumption)
           have q361:x6_2 < (l0_1.length:Int):=of_decide_eq_true (by first|(with_reducible assumption)|assumption)
           obtain ⟨ad361,e361,hx361_0,hx361_1⟩:=at_T43 (Kd.V_reads' HO_333001.out).2.2 x6_2 p361 q361
           obtain rfl:ad336=ad361:=(by injection e361)
           replace p361:=eq_true p361
           replace q361:=eq_true q361
           refine start_ (n:=19) (S:=fun w'=>w'.cell? ⟨gb332,0,none⟩=some (.bool a0_0)∧w'.cell? ⟨gb332,1,none⟩=some (.slice (some ad336) l0_1.length c0_1)∧w'.cell? ⟨gb332,2,none⟩=some (.slice A0_2 l0_2.length c0_2)∧w'.cell? ⟨gb332,3,none⟩=some (.slice A0_3 l0_3.length c0_3)∧w'.cell? (ad336.add ((x6_2).toNat * 2))=some (.string ((rd_T43 l0_1 x6_2).f0))∧w'.cell? ⟨(ad336.add ((x6_2).toNat * 2)).block,(ad336.add ((x6_2).toNat * 2)).off + 1,none⟩=some (.string ((rd_T43 l0_1 x6_2).f1))) (ds:=[]) #[false,false,false,false,false,false,false,false,false,false,false,false,false,false,false,false,false,false,false] (by kernel_rfl) rfl rfl ⟨(blk_cell BK332.out 0).trans rfl,(blk_cell BK332.out 1).trans rfl,(blk_cell BK332.out 2).trans rfl,(blk_cell BK332.out 3).trans rfl,hx361_0,hx361_1⟩ (fun hHeld=>?_);refine with_tabW factotumref09_Split.tab8 factotumref09_Split.bits8 (fun HT_ HW_=>?_)
           generalize wr.drew=w59 at HO_333001 HO_333002 HO_333003 BK332 BK333 BK334 HB HO355 HO360 hx361_0 hx361_1 hHeld ⊢
           refine pure_ (i:=0) (N:=some 49) (v:=?_) (a':=?_) #[true,false,false,false,false,false,false,false,false,false,false,false,false,false,false,false,false,false,false] rfl rfl (any_of HT_.out (by kernel_rfl)) (fun _ _ _ h=>h) (Or.inl ⟨by rfl,?_⟩) ?_ ?_
           rotate_left
           ·intro w'
            go_simp
            with_reducible rfl
           rotate_left
           ·simp only [Act.put,List.setIfInBounds_toArray,List.set_cons_zero,List.set_cons_succ,i64_w,i32_w]
            rfl
           refine pure_ (i:=2) (N:=some 51) (v:=?_) (a':=?_) #[true,false,true,false,false,false,false,false,false,false,false,false,false,false,false,false,false,false,false] rfl rfl (any_of HT_.out (by kernel_rfl)) (fun _ _ _ h=>h) (Or.inl ⟨by rfl,?_⟩) ?_ ?_
           rotate_left
           ·intro w'
            go_simp
            with_reducible rfl
           rotate_left
           ·simp only [Act.put,List.setIfInBounds_toArray,List.set_cons_zero,List.set_cons_succ,i64_w,i32_w]
            rfl
           refine pure_ (i:=5) (N:=some 54) (v:=?_) (a':=?_) #[true,false,true,false,false,true,false,false,false,false,false,false,false,false,false,false,false,false,false] rfl rfl (any_of HT_.out (by kernel_rfl)) (fun _ _ _ h=>h) (Or.inl ⟨by rfl,?_⟩) ?_ ?_
           rotate_left
           ·intro w'
            go_simp
            with_reducible rfl
           rotate_left
           ·simp only [Act.put,List.setIfInBounds_toArray,List.set_cons_zero,List.set_cons_succ,i64_w,i32_w]
            rfl
           refine pure_ (i:=7) (N:=some 56) (v:=?_) (a':=?_) #[true,false,true,false,false,true,false,true,false,false,false,false,false,false,false,false,false,false,false] rfl rfl (any_of HT_.out (by kernel_rfl)) (fun _ _ _ h=>h) (Or.inl ⟨by rfl,?_⟩) ?_ ?_
           rotate_left
           ·intro w'
            go_simp
            with_reducible rfl
           rotate_left
           ·simp only [Act.put,List.setIfInBounds_toArray,List.set_cons_zero,List.set_cons_succ,i64_w,i32_w]
            rfl
           refine pure_ (i:=10) (N:=some 59) (v:=?_) (a':=?_) #[true,false,true,false,false,true,false,true,false,false,true,false,false,false,false,false,false,false,false] rfl rfl (any_of HT_.out (by kernel_rfl)) (fun _ _ _ h=>h) (Or.inl ⟨by rfl,?_⟩) ?_ ?_
           rotate_left
           ·intro w'
            go_simp
            with_reducible rfl
           rotate_left
           ·simp only [Act.put,List.setIfInBounds_toArray,List.set_cons_zero,List.set_cons_succ,i64_w,i32_w]
            rfl
           refine pure_ (i:=12) (N:=some 61) (v:=?_) (a':=?_) #[true,false,true,false,false,true,false,true,false,false,true,false,true,false,false,false,false,false,false] rfl rfl (any_of HT_.out (by kernel_rfl)) (fun _ _ _ h=>h) (Or.inl ⟨by rfl,?_⟩) ?_ ?_
           rotate_left
           ·intro w'
            go_simp
            with_reducible rfl
           rotate_left
           ·simp only [Act.put,List.setIfInBounds_toArray,List.set_cons_zero,List.set_cons_succ,i64_w,i32_w]
            rfl
           refine take_ (i:=1) (N:=some 50) (v:=?_) (a':=?_) #[true,true,true,false,false,true,false,true,false,false,true,false,true,false,false,false,false,false,false] rfl rfl (take_ofW HT_.out HW_.out (by kernel_rfl)) (fun _ _ _ h=>h) (Or.inl ⟨by rfl,?_⟩) hHeld ?_ ?_
           rotate_left
           ·rintro w' ⟨s0,s1,s2,s3,s4,s5⟩
            go_simp
            with_reducible rfl
           rotate_left
           ·simp only [Act.put,List.setIfInBounds_toArray,List.set_cons_zero,List.set_cons_succ,i64_w,i32_w]
            rfl
           refine pure_ (i:=3) (N:=some 52) (v:=?_) (a':=?_) #[true,true,true,true,false,true,false,true,false,false,true,false,true,false,false,false,false,false,false] rfl rfl (any_of HT_.out (by kernel_rfl)) (fun _ _ _ h=>h) (Or.inl ⟨by rfl,?_⟩) ?_ ?_
           rotate_left
           ·intro w'
            go_simp
            with_reducible rfl
           rotate_left
           ·simp only [Act.put,List.setIfInBounds_toArray,List.set_cons_zero,List.set_cons_succ,i64_w,i32_w]
            rfl
           refine pure_ (i:=4) (N:=some 53) (v:=?_) (a':=?_) #[true,true,true,true,true,true,false,true,false,false,true,false,true,false,false,false,false,false,false] rfl rfl (any_of HT_.out (by kernel_rfl)) (fun _ _ _ h=>h) (Or.inl ⟨by rfl,?_⟩) ?_ ?_
           rotate_left
           ·intro w'
            go_simp
            with_reducible rfl
           rotate_left
           ·simp only [Act.put,List.setIfInBounds_toArray,List.set_cons_zero,List.set_cons_succ,i64_w,i32_w]
            rfl
           refine take_ (i:=6) (N:=some 55) (v:=?_) (a':=?_) #[true,true,true,true,true,true,true,true,false,false,true,false,true,false,false,false,false,false,false] rfl rfl (take_ofW HT_.out HW_.out (by kernel_rfl)) (fun _ _ _ h=>h) (Or.inl ⟨by rfl,?_⟩) hHeld ?_ ?_
           rotate_left
           ·rintro w' ⟨s0,s1,s2,s3,s4,s5⟩
            go_simp
            with_reducible rfl
           rotate_left
           ·simp only [Act.put,List.setIfInBounds_toArray,List.set_cons_zero,List.set_cons_succ,i64_w,i32_w]
            rfl
           refine pure_ (i:=8) (N:=some 57) (v:=?_) (a':=?_) #[true,true,true,true,true,true,true,true,true,false,true,false,true,false,false,false,false,false,false] rfl rfl (any_of HT_.out (by kernel_rfl)) (fun _ _ _ h=>h) (Or.inl ⟨by rfl,?_⟩) ?_ ?_
           rotate_left
           ·intro w'
            go_simp
            with_reducible rfl
           rotate_left
           ·simp only [Act.put,List.setIfInBounds_toArray,List.set_cons_zero,List.set_cons_succ,i64_w,i32_w]
            rfl
           refine pure_ (i:=9) (N:=some 58) (v:=?_) (a':=?_) #[true,true,true,true,true,true,true,true,true,true,true,false,true,false,false,false,false,false,false] rfl rfl (any_of HT_.out (by kernel_rfl)) (fun _ _ _ h=>h) (Or.inl ⟨by rfl,?_⟩) ?_ ?_
           rotate_left
           ·intro w'
            go_simp
            with_reducible rfl
           rotate_left
           ·simp only [Act.put,List.setIfInBounds_toArray,List.set_cons_zero,List.set_cons_succ,i64_w,i32_w]
            rfl
           refine take_ (i:=11) (N:=some 60) (v:=?_) (a':=?_) #[true,true,true,true,true,true,true,true,true,true,true,true,true,false,false,false,false,false,false] rfl rfl (take_ofW HT_.out HW_.out (by kernel_rfl)) (fun _ _ _ h=>h) (Or.inl ⟨by rfl,?_⟩) hHeld ?_ ?_
           rotate_left
           ·rintro w' ⟨s0,s1,s2,s3,s4,s5⟩
            go_simp
            with_reducible rfl
           rotate_left
           ·simp only [Act.put,List.setIfInBounds_toArray,List.set_cons_zero,List.set_cons_succ,i64_w,i32_w]
            rfl
           refine pure_ (i:=13) (N:=some 62) (v:=?_) (a':=?_) #[true,true,true,true,true,true,true,true,true,true,true,true,true,true,false,false,false,false,false] rfl rfl (any_of HT_.out (by kernel_rfl)) (fun _ _ _ h=>h) (Or.inl ⟨by rfl,?_⟩) ?_ ?_
           rotate_left
           ·intro w'
            go_simp
            with_reducible rfl
           rotate_left
           ·simp only [Act.put,List.setIfInBounds_toArray,List.set_cons_zero,List.set_cons_succ,i64_w,i32_w]
            rfl
           refine pure_ (i:=14) (N:=some 63) (v:=?_) (a':=?_) #[true,true,true,true,true,true,true,true,true,true,true,true,true,true,true,false,false,false,false] rfl rfl (any_of HT_.out (by kernel_rfl)) (fun _ _ _ h=>h) (Or.inl ⟨by rfl,?_⟩) ?_ ?_
           rotate_left
           ·intro w'
            go_simp
            with_reducible rfl
           rotate_left
           ·simp only [Act.put,List.setIfInBounds_toArray,List.set_cons_zero,List.set_cons_succ,i64_w,i32_w]
            rfl
           refine take_ (i:=15) (N:=some 64) (v:=?_) (a':=?_) #[true,true,true,true,true,true,true,true,true,true,true,true,true,true,true,true,false,false,false] rfl rfl (take_ofW HT_.out HW_.out (by kernel_rfl)) (fun _ _ _ h=>h) (Or.inl ⟨by rfl,?_⟩) hHeld ?_ ?_
           rotate_left
           ·rintro w' ⟨s0,s1,s2,s3,s4,s5⟩
            go_simp
            with_reducible rfl
           rotate_left
           ·simp only [Act.put,List.setIfInBounds_toArray,List.set_cons_zero,List.set_cons_succ,i64_w,i32_w]
            rfl
           refine one_ (i:=16) (N:=none) #[true,true,true,true,true,true,true,true,true,true,true,true,true,true,true,true,true,false,false] rfl rfl (one_of HT_.out (by kernel_rfl)) (by decide) (fun K hK=>?_)
           have hs62:w59.cell? ⟨gb333,0,none⟩=some (.bool false):=(blk_cell BK333.out 0).trans rfl
           have hfs62:=blk_frozen BK333.out 0
           have hns62_0:=NB332_333.out
           have hns62_2:=NB334_333.out
           have hms62_0:=NB333_332.out
           have hms62_2:=NB333_334.out
           have hs63:w59.cell? ⟨gb333,1,none⟩=some (.slice none 0 0):=(blk_cell BK333.out 1).trans rfl
           have hfs63:=blk_frozen BK333.out 1
           have hns63_0:=NB332_333.out
           have hns63_2:=NB334_333.out
           have hms63_0:=NB333_332.out
           have hms63_2:=NB333_334.out
           have hs64:w59.cell? ⟨gb333,2,none⟩=some (.slice none 0 0):=(blk_cell BK333.out 2).trans rfl
           have hfs64:=blk_frozen BK333.out 2
           have hns64_0:=NB332_333.out
           have hns64_2:=NB334_333.out
           have hms64_0:=NB333_332.out
           have hms64_2:=NB333_334.out
           have hs65:w59.cell? ⟨gb333,3,none⟩=some (.slice none 0 0):=(blk_cell BK333.out 3).trans rfl
           have hfs65:=blk_frozen BK333.out 3
           have hns65_0:=NB332_333.out
           have hns65_2:=NB334_333.out
           have hms65_0:=NB333_332.out
           have hms65_2:=NB333_334.out
           refine skip_ (w1:=?_) (by rfl) rfl ?_ ?_
           rotate_left
           ·go_simp
            rfl
           refine hK.out _ _ ⟨((far4 (g:=gb333) NB332_333.out).trans (hHeld.1)),((far4 (g:=gb333) NB332_333.out).trans (hHeld.2.1)),((far4 (g:=gb333) NB332_333.out).trans (hHeld.2.2.1)),((far4 (g:=gb333) NB332_333.out).trans (hHeld.2.2.2.1)),((far4 (g:=gb333) (by first|exact Kd.own_blk (Kd.V_awayG (fun _ h_=>by obtain ⟨_,e_,hx_,_⟩:=at_T43 (Kd.V_reads' h_).2.2 x6_2 (of_eq_true p361) (of_eq_true q361);cases e_;exact hx_) HO_333001.out (fun _ hk=>hk.2.2.1))|(rw [add_block];exact Kd.own_blk (Kd.V_awayG (fun _ h_=>by obtain ⟨_,e_,hx_,_⟩:=at_T43 (Kd.V_reads' h_).2.2 x6_2 (of_eq_true p361) (of_eq_true q361);cases e_;exact hx_) HO_333001.out (fun _ hk=>hk.2.2.1)))|(show (Addr.add _ _).block ≠ _;rw [add_block];exact Kd.own_blk (Kd.V_awayG (fun _ h_=>by obtain ⟨_,e_,hx_,_⟩:=at_T43 (Kd.V_reads' h_).2.2 x6_2 (of_eq_true p361) (of_eq_true q361);cases e_;exact hx_) HO_333001.out (fun _ hk=>hk.2.2.1)))|(dsimp only;exact Kd.own_blk (Kd.V_awayG (fun _ h_=>by obtain ⟨_,e_,hx_,_⟩:=at_T43 (Kd.V_reads' h_).2.2 x6_2 (of_eq_true p361) (of_eq_true q361);cases e_;exact hx_) HO_333001.out (fun _ hk=>hk.2.2.1))))).trans (hHeld.2.2.2.2.1)),((far4 (g:=gb333) (by first|exact Kd.own_blk (Kd.V_awayG (fun _ h_=>by obtain ⟨_,e_,hx_,_⟩:=at_T43 (Kd.V_reads' h_).2.2 x6_2 (of_eq_true p361) (of_eq_true q361);cases e_;exact hx_) HO_333001.out (fun _ hk=>hk.2.2.1))|(rw [add_block];exact Kd.own_blk (Kd.V_awayG (fun _ h_=>by obtain ⟨_,e_,hx_,_⟩:=at_T43 (Kd.V_reads' h_).2.2 x6_2 (of_eq_true p361) (of_eq_true q361);cases e_;exact hx_) HO_333001.out (fun _ hk=>hk.2.2.1)))|(show (Addr.add _ _).block ≠ _;rw [add_block];exact Kd.own_blk (Kd.V_awayG (fun _ h_=>by obtain ⟨_,e_,hx_,_⟩:=at_T43 (Kd.V_reads' h_).2.2 x6_2 (of_eq_true p361) (of_eq_true q361);cases e_;exact hx_) HO_333001.out (fun _ hk=>hk.2.2.1)))|(dsimp only;exact Kd.own_blk (Kd.V_awayG (fun _ h_=>by obtain ⟨_,e_,hx_,_⟩:=at_T43 (Kd.V_reads' h_).2.2 x6_2 (of_eq_true p361) (of_eq_true q361);cases e_;exact hx_) HO_333001.out (fun _ hk=>hk.2.2.1))))).trans (hHeld.2.2.2.2.2))⟩ (fun hHeld=>?_)
           clear hK K
           refine one_ (i:=17) (N:=none) #[true,true,true,true,true,true,true,true,true,true,true,true,true,true,true,true,true,true,false] rfl rfl (one_of HT_.out (by kernel_rfl)) (by decide) (fun K hK=>?_)
           have hs66:w59.cell? ⟨gb334,0,none⟩=some (.bool false):=(blk_cell BK334.out 0).trans rfl
           have hfs66:=blk_frozen BK334.out 0
           have hns66_0:=NB332_334.out
           have hns66_1:=NB333_334.out
           have hms66_0:=NB334_332.out
           have hms66_1:=NB334_333.out
           have hs67:w59.cell? ⟨gb334,1,none⟩=some (.slice none 0 0):=(blk_cell BK334.out 1).trans rfl
           have hfs67:=blk_frozen BK334.out 1
           have hns67_0:=NB332_334.out
           have hns67_1:=NB333_334.out
           have hms67_0:=NB334_332.out
           have hms67_1:=NB334_333.out
           have hs68:w59.cell? ⟨gb334,2,none⟩=some (.slice none 0 0):=(blk_cell BK334.out 2).trans rfl
           have hfs68:=blk_frozen BK334.out 2
           have hns68_0:=NB332_334.out
           have hns68_1:=NB333_334.out
           have hms68_0:=NB334_332.out
           have hms68_1:=NB334_333.out
           have hs69:w59.cell? ⟨gb334,3,none⟩=some (.slice none 0 0):=(blk_cell BK334.out 3).trans rfl
           have hfs69:=blk_frozen BK334.out 3
           have hns69_0:=NB332_334.out
           have hns69_1:=NB333_334.out
           have hms69_0:=NB334_332.out
           have hms69_1:=NB334_333.out
           refine skip_ (w1:=?_) (by rfl) rfl ?_ ?_
           rotate_left
           ·go_simp
            rfl
           refine hK.out _ _ ⟨((far4 (g:=gb334) NB332_334.out).trans (hHeld.1)),((far4 (g:=gb334) NB332_334.out).trans (hHeld.2.1)),((far4 (g:=gb334) NB332_334.out).trans (hHeld.2.2.1)),((far4 (g:=gb334) NB332_334.out).trans (hHeld.2.2.2.1)),((far4 (g:=gb334) (by first|exact Kd.own_blk (Kd.V_awayG (fun _ h_=>by obtain ⟨_,e_,hx_,_⟩:=at_T43 (Kd.V_reads' h_).2.2 x6_2 (of_eq_true p361) (of_eq_true q361);cases e_;exact hx_) HO_333001.out (fun _ hk=>hk.2.2.2))|(rw [add_block];exact Kd.own_blk (Kd.V_awayG (fun _ h_=>by obtain ⟨_,e_,hx_,_⟩:=at_T43 (Kd.V_reads' h_).2.2 x6_2 (of_eq_true p361) (of_eq_true q361);cases e_;exact hx_) HO_333001.out (fun _ hk=>hk.2.2.2)))|(show (Addr.add _ _).block ≠ _;rw [add_block];exact Kd.own_blk (Kd.V_awayG (fun _ h_=>by obtain ⟨_,e_,hx_,_⟩:=at_T43 (Kd.V_reads' h_).2.2 x6_2 (of_eq_true p361) (of_eq_true q361);cases e_;exact hx_) HO_333001.out (fun _ hk=>hk.2.2.2)))|(dsimp only;exact Kd.own_blk (Kd.V_awayG (fun _ h_=>by obtain ⟨_,e_,hx_,_⟩:=at_T43 (Kd.V_reads' h_).2.2 x6_2 (of_eq_true p361) (of_eq_true q361);cases e_;exact hx_) HO_333001.out (fun _ hk=>hk.2.2.2))))).trans (hHeld.2.2.2.2.1)),((far4 (g:=gb334) (by first|exact Kd.own_blk (Kd.V_awayG (fun _ h_=>by obtain ⟨_,e_,hx_,_⟩:=at_T43 (Kd.V_reads' h_).2.2 x6_2 (of_eq_true p361) (of_eq_true q361);cases e_;exact hx_) HO_333001.out (fun _ hk=>hk.2.2.2))|(rw [add_block];exact Kd.own_blk (Kd.V_awayG (fun _ h_=>by obtain ⟨_,e_,hx_,_⟩:=at_T43 (Kd.V_reads' h_).2.2 x6_2 (of_eq_true p361) (of_eq_true q361);cases e_;exact hx_) HO_333001.out (fun _ hk=>hk.2.2.2)))|(show (Addr.add _ _).block ≠ _;rw [add_block];exact Kd.own_blk (Kd.V_awayG (fun _ h_=>by obtain ⟨_,e_,hx_,_⟩:=at_T43 (Kd.V_reads' h_).2.2 x6_2 (of_eq_true p361) (of_eq_true q361);cases e_;exact hx_) HO_333001.out (fun _ hk=>hk.2.2.2)))|(dsimp only;exact Kd.own_blk (Kd.V_awayG (fun _ h_=>by obtain ⟨_,e_,hx_,_⟩:=at_T43 (Kd.V_reads' h_).2.2 x6_2 (of_eq_true p361) (of_eq_true q361);cases e_;exact hx_) HO_333001.out (fun _ hk=>hk.2.2.2))))).trans (hHeld.2.2.2.2.2))⟩ (fun hHeld=>?_)
           clear hK K
           refine pure_ (i:=18) (N:=some 4) (v:=?_) (a':=?_) #[true,true,true,true,true,true,true,true,true,true,true,true,true,true,true,true,true,true,true] rfl rfl (any_of HT_.out (by kernel_rfl)) (fun _ _ _ h=>h) (Or.inl ⟨by rfl,?_⟩) ?_ ?_
           rotate_left
           ·intro w'
            go_simp
            with_reducible rfl
           rotate_left
           ·simp only [Act.put,List.setIfInBounds_toArray,List.set_cons_zero,List.set_cons_succ,i64_w,i32_w]
            rfl
           refine done_ (done_of HT_.out (by kernel_rfl)) ?_
           try go_wp2
           refine bodyPost_ret (results_list (rs:=[.cell 2 26,.cell 3 26,.tmp 4]) rfl (by simp) (.cell gb333 26 #[.bool true,.slice (some ad336) y351.length c0_1,.slice none 0 0,.slice none 0 0] (0,0) _ rfl (by apply zpe;(repeat (first|(with_reducible first|apply zb1|apply zb2|apply zb3|apply zpi|exact BK333.out)|refine blk_far ?_ NB333_334.out _));rfl) Try.underlying26 rfl (by kernel_rfl) (.cell gb334 26 #[.bool true,.slice A61 y356.length c61,.slice none 0 0,.slice none 0 0] (0,0) _ rfl (by apply zpe;(repeat (first|(with_reducible first|apply zb1|apply zb2|apply zb3|apply zpi|exact BK334.out)|refine blk_far ?_ NB334_333.out _));rfl) Try.underlying26 rfl (by kernel_rfl) (.tmp .nil)))) rfl ?_
           exact ⟨_,_,_,_,_,_,by first|(with_reducible rfl)|(simp only [isEmpty_bne,Bool.not_not] <;> rfl)|rfl|(simp [*,errW_none,errW_some] <;> rfl),by (with_reducible repeat (first|apply Kd.V_alloc|apply Kd.V_drewN|apply Kd.V_drew));exact Kd.V_mono (Kd.V_far (p:=⟨gb334,3,none⟩) (Kd.V_far (p:=⟨gb334,2,none⟩) (Kd.V_far (p:=⟨gb334,1,none⟩) (Kd.V_far (p:=⟨gb334,0,none⟩) (Kd.V_far (p:=⟨gb333,3,none⟩) (Kd.V_far (p:=⟨gb333,2,none⟩) (Kd.V_far (p:=⟨gb333,1,none⟩) (Kd.V_far (p:=⟨gb333,0,none⟩) (Kd.V_mono (Kd.V_mono HO355.out (fun k_ hk=>(⟨hk,hk.2.2.1⟩:_∧k_ ≠ gb333))) (fun k_ hk=>(⟨hk,hk.1.2.2.2⟩:_∧k_ ≠ gb334))) (fun _ hk=>hk.1.2) (.bool true)) (fun _ hk=>hk.1.2) (.slice (some ad336) y351.length c0_1)) (fun _ hk=>hk.1.2) (.slice none 0 0)) (fun _ hk=>hk.1.2) (.slice none 0 0)) (fun _ hk=>hk.2) (.bool true)) (fun _ hk=>hk.2) (.slice A61 y356.length c61)) (fun _ hk=>hk.2) (.slice none 0 0)) (fun _ hk=>hk.2) (.slice none 0 0)) (fun _ hk=>hk.1.1.1),Kd.V_nil _ _ _ _ _,Kd.V_nil _ _ _ _ _,by (with_reducible repeat (first|apply Kd.V_alloc|apply Kd.V_drewN|apply Kd.V_drew));exact Kd.V_mono (Kd.V_far (p:=⟨gb334,3,none⟩) (Kd.V_far (p:=⟨gb334,2,none⟩) (Kd.V_far (p:=⟨gb334,1,none⟩) (Kd.V_far (p:=⟨gb334,0,none⟩) (Kd.V_far (p:=⟨gb333,3,none⟩) (Kd.V_far (p:=⟨gb333,2,none⟩) (Kd.V_far (p:=⟨gb333,1,none⟩) (Kd.V_far (p:=⟨gb333,0,none⟩) (Kd.V_mono (Kd.V_mono HO360.out (fun k_ hk=>(⟨hk,hk.2.2.1⟩:_∧k_ ≠ gb333))) (fun k_ hk=>(⟨hk,hk.1.2.2.2⟩:_∧k_ ≠ gb334))) (fun _ hk=>hk.1.2) (.bool true)) (fun _ hk=>hk.1.2) (.slice (some ad336) y351.length c0_1)) (fun _ hk=>hk.1.2) (.slice none 0 0)) (fun _ hk=>hk.1.2) (.slice none 0 0)) (fun _ hk=>hk.2) (.bool true)) (fun _ hk=>hk.2) (.slice A61 y356.length c61)) (fun _ hk=>hk.2) (.slice none 0 0)) (fun _ hk=>hk.2) (.slice none 0 0)) (fun _ hk=>hk.1.1.1),Kd.V_nil _ _ _ _ _,Kd.V_nil _ _ _ _ _,by repeat (first|(with_reducible first|exact HB.out|apply zl1|apply zl2|apply zl3|refine below_set ?_ GE332.out|refine below_set ?_ GE333.out|refine below_set ?_ GE334.out)|exact HB.out)⟩
          ·rw [if_neg c55] at H
           exact absurd H (by simp)
         ·rw [if_neg c52] at H
          exact absurd H (by simp)
        ·rw [if_neg c51] at H
         exact absurd H (by simp)
    ·rw [if_neg c15] at H
     exact absurd H (by simp)
   ·replace c13:=Bool.eq_false_iff.mpr c13
    subst c13
    have H1:(if a0_0=true then (factotumref09_Split.j2 kj1 false a0_0 l0_1 l0_2 l0_3) else (if (l0_2.length:Int) ≥ 3 then (factotumref09_Split.j2 kj1 ((l0_3.length:Int) == (wrap64 ((l0_2.length:Int) + 1))) a0_0 l0_1 l0_2 l0_3) else (factotumref09_Split.j2 kj1 false a0_0 l0_1 l0_2 l0_3)))=some (r1,r2,r3,r4,r5,r6,r7,r8,r9):=by rw [if_neg (show ¬ (false=true) by decide)] at H;exact H
    clear H
    have H:=H1
    clear H1
    have HC70:=Aside0.mk H
    clear H
    go_upto_region 9 with (fail)
    go_cut [83] (fun v83 wc=>∃ (kq:Nat) (x83_69:Bool),v83=.bool x83_69∧Aside0 (factotumref09_Split.j2 kq x83_69 a0_0 l0_1 l0_2 l0_3=some (r1,r2,r3,r4,r5,r6,r7,r8,r9))∧Aside0 (kq≤kj1)∧Aside0 (Kd.V k43 43 wc w.heap.size (fun k_=>((P0_1_ k_ ∨ P0_2_ k_ ∨ P0_3_ k_) ∨ w.heap.size≤k_)∧k_ ≠ gb332∧k_ ≠ gb333∧k_ ≠ gb334) (.slice A0_1 l0_1.length c0_1) l0_1)∧Aside0 (Kd.V Kd.string 9 wc w.heap.size (fun k_=>((P0_1_ k_ ∨ P0_2_ k_ ∨ P0_3_ k_) ∨ w.heap.size≤k_)∧k_ ≠ gb332∧k_ ≠ gb333∧k_ ≠ gb334) (.slice A0_2 l0_2.length c0_2) l0_2)∧Aside0 (Kd.V (Kd.int .i64) 3 wc w.heap.size (fun k_=>((P0_1_ k_ ∨ P0_2_ k_ ∨ P0_3_ k_) ∨ w.heap.size≤k_)∧k_ ≠ gb332∧k_ ≠ gb333∧k_ ≠ gb334) (.slice A0_3 l0_3.length c0_3) l0_3)∧Aside0 (wc.heap[gb332]?=some (.cells #[.bool a0_0,(.slice A0_1 l0_1.length c0_1),(.slice A0_2 l0_2.length c0_2),(.slice A0_3 l0_3.length c0_3)] 26 (0,0)))∧Aside0 (wc.heap[gb333]?=some (.cells #[.bool false,(.slice none 0 0),(.slice none 0 0),(.slice none 0 0)] 26 (0,0)))∧Aside0 (wc.heap[gb334]?=some (.cells #[.bool false,(.slice none 0 0),(.slice none 0 0),(.slice none 0 0)] 26 (0,0)))∧Aside0 (Below w.heap.size w wc))
    case first =>
     have H:=HC70.out
     clear HC70
     by_cases c71:a0_0=true
     ·subst c71
      have H1:(factotumref09_Split.j2 kj1 false true l0_1 l0_2 l0_3)=some (r1,r2,r3,r4,r5,r6,r7,r8,r9):=by rw [if_pos rfl] at H;exact H
      clear H
      have H:=H1
      clear H1
      have H':=Aside0.mk H
      clear H
      have hnb72:=NB332_333.out
      have hnc72:=NB333_332.out
      have hnb73:=NB332_334.out
      have hnc73:=NB334_332.out
      obtain ⟨hcz74_0,hcz74_1,hcz74_2,hcz74_3⟩:=zc4 BK332.out
      obtain ⟨hfz74_0,hfz74_1,hfz74_2,hfz74_3⟩:=zf4 BK332.out
      go_wp2
      go_meet
      case rel=>exact ⟨_,(false),(by first|(with_reducible rfl)|(simp;done)|(simp [*];done)|rfl|(simp only [not_isEmpty_bne])),H',⟨by have:=HJ1.out;first|omega|exact Nat.le_refl _⟩,⟨by (with_reducible repeat (first|apply Kd.V_alloc|apply Kd.V_drewN|apply Kd.V_drew));exact HO_333001.out⟩,⟨by (with_reducible repeat (first|apply Kd.V_alloc|apply Kd.V_drewN|apply Kd.V_drew));exact HO_333002.out⟩,⟨by (with_reducible repeat (first|apply Kd.V_alloc|apply Kd.V_drewN|apply Kd.V_drew));exact HO_333003.out⟩,⟨by (with_reducible repeat (first|apply zb1|apply zb2|apply zb3));exact BK332.out⟩,⟨by (with_reducible repeat (first|apply zb1|apply zb2|apply zb3));exact BK333.out⟩,⟨by (with_reducible repeat (first|apply zb1|apply zb2|apply zb3));exact BK334.out⟩,⟨by repeat (first|(with_reducible first|exact HB.out|apply zl1|apply zl2|apply zl3|refine below_set ?_ GE332.out|refine below_set ?_ GE333.out|refine below_set ?_ GE334.out)|exact HB.out)⟩⟩
     ·replace c71:=Bool.eq_false_iff.mpr c71
      subst c71
      have H1:(if (l0_2.length:Int) ≥ 3 then (factotumref09_Split.j2 kj1 ((l0_3.length:Int) == (wrap64 ((l0_2.length:Int) + 1))) false l0_1 l0_2 l0_3) else (factotumref09_Split.j2 kj1 false false l0_1 l0_2 l0_3))=some (r1,r2,r3,r4,r5,r6,r7,r8,r9):=by rw [if_neg (show ¬ (false=true) by decide)] at H;exact H
      clear H
      have H:=H1
      clear H1
      by_cases c75:(l0_2.length:Int) ≥ 3
      ·rw [if_pos c75] at H
       have c75b0:decide (3≤(l0_2.length:Int))=true:=decide_eq_true c75
       have c75b1:decide (3≤l0_2.length)=true:=decide_eq_true (by omega)
       clear c75
       (first|rw [c75b0]|(simp only [i64_w,i32_w];rw [c75b0])|skip)
       have H':=Aside0.mk H
       clear H
       have hnb76:=NB332_333.out
       have hnc76:=NB333_332.out
       have hnb77:=NB332_334.out
       have hnc77:=NB334_332.out
       obtain ⟨hcz78_0,hcz78_1,hcz78_2,hcz78_3⟩:=zc4 BK332.out
       obtain ⟨hfz78_0,hfz78_1,hfz78_2,hfz78_3⟩:=zf4 BK332.out
       go_wp2
       go_meet
       case rel=>exact ⟨_,(((l0_3.length:Int) == (wrap64 ((l0_2.length:Int) + 1)))),(by first|(with_reducible rfl)|(simp;done)|(simp [*];done)|rfl|(simp only [not_isEmpty_bne])),H',⟨by have:=HJ1.out;first|omega|exact Nat.le_refl _⟩,⟨by (with_reducible repeat (first|apply Kd.V_alloc|apply Kd.V_drewN|apply Kd.V_drew));exact HO_333001.out⟩,⟨by (with_reducible repeat (first|apply Kd.V_alloc|apply Kd.V_drewN|apply Kd.V_drew));exact HO_333002.out⟩,⟨by (with_reducible repeat (first|apply Kd.V_alloc|apply Kd.V_drewN|apply Kd.V_drew));exact HO_333003.out⟩,⟨by (with_reducible repeat (first|apply zb1|apply zb2|apply zb3));exact BK332.out⟩,⟨by (with_reducible repeat (first|apply zb1|apply zb2|apply zb3));exact BK333.out⟩,⟨by (with_reducible repeat (first|apply zb1|apply zb2|apply zb3));exact BK334.out⟩,⟨by repeat (first|(with_reducible first|exact HB.out|apply zl1|apply zl2|apply zl3|refine below_set ?_ GE332.out|refine below_set ?_ GE333.out|refine below_set ?_ GE334.out)|exact HB.out)⟩⟩
      ·rw [if_neg c75] at H
       have c75b0:decide (3≤(l0_2.length:Int))=false:=decide_eq_false c75
       have c75b1:decide (3≤l0_2.length)=false:=decide_eq_false (by omega)
       clear c75
       (first|rw [c75b0]|(simp only [i64_w,i32_w];rw [c75b0])|skip)
       have H':=Aside0.mk H
       clear H
       have hnb79:=NB332_333.out
       have hnc79:=NB333_332.out
       have hnb80:=NB332_334.out
       have hnc80:=NB334_332.out
       obtain ⟨hcz81_0,hcz81_1,hcz81_2,hcz81_3⟩:=zc4 BK332.out
       obtain ⟨hfz81_0,hfz81_1,hfz81_2,hfz81_3⟩:=zf4 BK332.out
       go_wp2
       go_meet
       case rel=>exact ⟨_,(false),(by first|(with_reducible rfl)|(simp;done)|(simp [*];done)|rfl|(simp only [not_isEmpty_bne])),H',⟨by have:=HJ1.out;first|omega|exact Nat.le_refl _⟩,⟨by (with_reducible repeat (first|apply Kd.V_alloc|apply Kd.V_drewN|apply Kd.V_drew));exact HO_333001.out⟩,⟨by (with_reducible repeat (first|apply Kd.V_alloc|apply Kd.V_drewN|apply Kd.V_drew));exact HO_333002.out⟩,⟨by (with_reducible repeat (first|apply Kd.V_alloc|apply Kd.V_drewN|apply Kd.V_drew));exact HO_333003.out⟩,⟨by (with_reducible repeat (first|apply zb1|apply zb2|apply zb3));exact BK332.out⟩,⟨by (with_reducible repeat (first|apply zb1|apply zb2|apply zb3));exact BK333.out⟩,⟨by (with_reducible repeat (first|apply zb1|apply zb2|apply zb3));exact BK334.out⟩,⟨by repeat (first|(with_reducible first|exact HB.out|apply zl1|apply zl2|apply zl3|refine below_set ?_ GE332.out|refine below_set ?_ GE333.out|refine below_set ?_ GE334.out)|exact HB.out)⟩⟩
    case rest =>
     clear HC70
     try clear c1
     try clear c2
     try clear p2
     try clear c3
     try clear p3
     try clear q3
     try clear hx3
     try clear c4
     try clear c5
     try clear c6
     try clear p6
     try clear q6
     try clear c7
     try clear c8
     try clear c13
     try clear c15
     try clear c23
     try clear c23b0
     try clear c32
     try clear c33
     try clear c36
     try clear p36
     try clear q36
     try clear hx36
     try clear c42
     try clear c51
     try clear c51b0
     try clear c51b1
     try clear c52
     try clear c52b0
     try clear hcz58_0 hcz58_1 hcz58_2 hcz58_3 hcz74_0 hcz74_1 hcz74_2
     try clear c52b1
     try clear c53
     try clear c53b0
     try clear c54
     try clear c54b0
     try clear c55
     try clear c55b0
     try clear c56
     try clear c57
     try clear q60
     try clear c61
     try clear q61
     try clear p64
     try clear c71
     try clear c72
     try clear c73
     try clear c75
     try clear c75b0
     try clear c75b1
     try clear c76
     try clear c77
     try clear c79
     try clear c80
     try clear hfz58_0 hfz58_1 hfz58_2 hfz58_3 hfz74_0 hfz74_1 hfz74_2 hfz74_3 hfz78_0 hfz78_1 hfz78_2 hfz78_3 hfz81_0 hfz81_1 hfz81_2 hfz81_3
     try clear hcz74_3 hcz78_0 hcz78_1 hcz78_2 hcz78_3 hcz81_0 hcz81_1 hcz81_2 hcz81_3
     try clear hx361_0
     try clear hx361_1
     try clear p361
     try clear q061
     try clear q361
     try clear q60
     try clear q61
     obtain ⟨kq,x83_69,rfl,HA,HJ69,HO_333001,HO_333002,HO_333003,BK332,BK333,BK334,HB⟩:=hcut
     cases kq with
     | zero=>exact absurd HA.out (by simp [factotumref09_Split.j2])
     | succ kj69 =>
      have H:=HA.out
      clear HA
      simp only [factotumref09_Split.j2] at H
      by_cases c82:x83_69=true
      ·subst c82
       have H1:((factotumref09_Size.f kj69 a0_0 l0_1 l0_2 l0_3).bind fun t362=>(if 0 < (l0_2.length:Int) then (factotumref09_Split.l1 kj69 (wrap64 (t362 - 4)) 1 (wrap64 (3 + ((rdOf ByteArray.empty l0_2 0).size:Int))) a0_0 l0_1 l0_2 l0_3) else (none)))=some (r1,r2,r3,r4,r5,r6,r7,r8,r9):=by rw [if_pos rfl] at H;exact H
       clear H
       have H:=H1
       clear H1
       replace H:=Option.bind_eq_some_iff.mp H
       obtain ⟨t362,A830,H⟩:=H
       replace H:(if 0 < (l0_2.length:Int) then (factotumref09_Split.l1 kj69 (wrap64 (t362 - 4)) 1 (wrap64 (3 + ((rdOf ByteArray.empty l0_2 0).size:Int))) a0_0 l0_1 l0_2 l0_3) else (none))=some (r1,r2,r3,r4,r5,r6,r7,r8,r9):=H
       have A83:=Aside0.mk A830
       clear A830
       by_cases c84:0 < (l0_2.length:Int)
       ·rw [if_pos c84] at H
        have c84b0:decide (0 < (l0_2.length:Int))=true:=decide_eq_true c84
        have c84b1:decide (0 < l0_2.length)=true:=decide_eq_true (by omega)
        clear c84
        have H':=Aside0.mk H
        clear H
        have hnb85:=NB332_333.out
        have hnc85:=NB333_332.out
        have hnb86:=NB332_334.out
        have hnc86:=NB334_332.out
        obtain ⟨hcz87_0,hcz87_1,hcz87_2,hcz87_3⟩:=zc4 BK332.out
        obtain ⟨hfz87_0,hfz87_1,hfz87_2,hfz87_3⟩:=zf4 BK332.out
        go_wp2_with (first|((with_reducible refine gate_callee (f:=11) rfl ?_);refine goesL_ (some 85) rfl rfl Try.func11 (by kernel_rfl) rfl #[.agg #[.bool a0_0,.slice A0_1 l0_1.length c0_1,.slice A0_2 l0_2.length c0_2,.slice A0_3 l0_3.length c0_3]] rfl (by (try simp only [List.map_toArray,List.map_cons,List.map_nil]);first|done|rfl|(simp only [List.length_drop,List.length_take];rfl)|(simp (disch:=omega) only [u64_in];rfl)) ?_;(with_reducible refine (factotumref09_Size.calls kj69 a0_0 _ _ l0_1 _ _ l0_2 _ _ l0_3 t362 _ ?side1 ?side2 ?side3 ?side4 ?side5 ?side6 A83.out).mono ?_);(case side1=>repeat (first|exact (Kd.V_reads' HO_333001.out).2.2|(with_reducible refine Kd.C_alloc ?_ _)|(with_reducible refine Kd.C_drewN ?_ _)|(with_reducible refine Kd.C_drew ?_)));(case side2=>exact (Kd.V_reads' HO_333001.out).2.1);(case side3=>repeat (first|exact (Kd.V_reads' HO_333002.out).2.2|(with_reducible refine Kd.C_alloc ?_ _)|(with_reducible refine Kd.C_drewN ?_ _)|(with_reducible refine Kd.C_drew ?_)));(case side4=>exact (Kd.V_reads' HO_333002.out).2.1);(case side5=>repeat (first|exact (Kd.V_reads' HO_333003.out).2.2|(with_reducible refine Kd.C_alloc ?_ _)|(with_reducible refine Kd.C_drewN ?_ _)|(with_reducible refine Kd.C_drew ?_)));(case side6=>exact (Kd.V_reads' HO_333003.out).2.1);rintro e w88 ⟨rfl,hb⟩;refine ⟨_,rfl,?_⟩;replace HO_333001:=Aside0.mk (Kd.V_below (by (with_reducible repeat (first|apply Kd.V_alloc|apply Kd.V_drewN|apply Kd.V_drew));exact HO_333001.out) hb);replace HO_333002:=Aside0.mk (Kd.V_below (by (with_reducible repeat (first|apply Kd.V_alloc|apply Kd.V_drewN|apply Kd.V_drew));exact HO_333002.out) hb);replace HO_333003:=Aside0.mk (Kd.V_below (by (with_reducible repeat (first|apply Kd.V_alloc|apply Kd.V_drewN|apply Kd.V_drew));exact HO_333003.out) hb);replace BK332:=Aside0.mk (blk_below (g:=gb332) (o:=.cells #[.bool a0_0,.slice A0_1 l0_1.length c0_1,.slice A0_2 l0_2.length c0_2,.slice A0_3 l0_3.length c0_3] 26 (0,0)) (by (with_reducible repeat (first|apply zb1|apply zb2|apply zb3));exact BK332.out) hb);replace BK333:=Aside0.mk (blk_below (g:=gb333) (o:=.cells #[.bool false,.slice none 0 0,.slice none 0 0,.slice none 0 0] 26 (0,0)) (by (with_reducible repeat (first|apply zb1|apply zb2|apply zb3));exact BK333.out) hb);replace BK334:=Aside0.mk (blk_below (g:=gb334) (o:=.cells #[.bool false,.slice none 0 0,.slice none 0 0,.slice none 0 0] 26 (0,0)) (by (with_reducible repeat (first|apply zb1|apply zb2|apply zb3));exact BK334.out) hb);replace HB:=Aside0.mk (below_step (by repeat (first|(with_reducible first|exact HB.out|apply zl1|apply zl2|apply zl3|refine below_set ?_ GE332.out|refine below_set ?_ GE333.out|refine below_set ?_ GE334.out)|exact HB.out)) hb);(try clear hb);obtain ⟨hcz89_0,hcz89_1,hcz89_2,hcz89_3⟩:=zc4 BK332.out;obtain ⟨hfz89_0,hfz89_1,hfz89_2,hfz89_3⟩:=zf4 BK332.out;have p363:0≤(0:Int):=(by omega);have q363:0 < (l0_2.length:Int):=of_decide_eq_true (by first|(with_reducible assumption)|assumption);obtain ⟨ad363,e363,hx363_0⟩:=Kd.at_string (Kd.V_reads' HO_333002.out).2.2 0 p363 q363;cases e363;have qi363:(0 < l0_2.length)=True:=eq_true (by omega);(try rw [show ((0:Int)).toNat=0 from rfl] at hx363_0);(try rw [Addr.add_zero'] at hx363_0);replace p363:=eq_true p363;replace q363:=eq_true q363))
        go_loopg [9,10] kj69 (fun kq v9 v10 w'=>∃ (x9_3:Int) (x10_3:Int),v9=.int .i64 x9_3∧v10=.int .i64 x10_3∧Aside0 (factotumref09_Split.l1 kq (wrap64 (t362 - 4)) x9_3 x10_3 a0_0 l0_1 l0_2 l0_3=some (r1,r2,r3,r4,r5,r6,r7,r8,r9))∧Aside0 (kq≤kj69)∧Aside0 (Kd.V k43 43 w' w.heap.size (fun k_=>((P0_1_ k_ ∨ P0_2_ k_ ∨ P0_3_ k_) ∨ w.heap.size≤k_)∧k_ ≠ gb332∧k_ ≠ gb333∧k_ ≠ gb334) (.slice A0_1 l0_1.length c0_1) l0_1)∧Aside0 (Kd.V Kd.string 9 w' w.heap.size (fun k_=>((P0_1_ k_ ∨ P0_2_ k_ ∨ P0_3_ k_) ∨ w.heap.size≤k_)∧k_ ≠ gb332∧k_ ≠ gb333∧k_ ≠ gb334) (.slice (some ad363) l0_2.length c0_2) l0_2)∧Aside0 (Kd.V (Kd.int .i64) 3 w' w.heap.size (fun k_=>((P0_1_ k_ ∨ P0_2_ k_ ∨ P0_3_ k_) ∨ w.heap.size≤k_)∧k_ ≠ gb332∧k_ ≠ gb333∧k_ ≠ gb334) (.slice A0_3 l0_3.length c0_3) l0_3)∧Aside0 (w'.heap[gb332]?=some (.cells #[.bool a0_0,(.slice A0_1 l0_1.length c0_1),(.slice (some ad363) l0_2.length c0_2),(.slice A0_3 l0_3.length c0_3)] 26 (0,0)))∧Aside0 (w'.heap[gb333]?=some (.cells #[.bool false,(.slice none 0 0),(.slice none 0 0),(.slice none 0 0)] 26 (0,0)))∧Aside0 (w'.heap[gb334]?=some (.cells #[.bool false,(.slice none 0 0),(.slice none 0 0),(.slice none 0 0)] 26 (0,0)))∧Aside0 (Below w.heap.size w w'))
        case atStart=>exact ⟨(1),(wrap64 (3 + ((rdOf ByteArray.empty l0_2 0).size:Int))),(by first|(with_reducible rfl)|(simp;done)|(simp [*];done)|rfl|(simp only [not_isEmpty_bne])),(by first|(with_reducible rfl)|(simp;done)|(simp [*];done)|rfl|(simp only [not_isEmpty_bne])),H',⟨Nat.le_refl _⟩,⟨by (with_reducible repeat (first|apply Kd.V_alloc|apply Kd.V_drewN|apply Kd.V_drew));exact HO_333001.out⟩,⟨by (with_reducible repeat (first|apply Kd.V_alloc|apply Kd.V_drewN|apply Kd.V_drew));exact HO_333002.out⟩,⟨by (with_reducible repeat (first|apply Kd.V_alloc|apply Kd.V_drewN|apply Kd.V_drew));exact HO_333003.out⟩,⟨by (with_reducible repeat (first|apply zb1|apply zb2|apply zb3));exact BK332.out⟩,⟨by (with_reducible repeat (first|apply zb1|apply zb2|apply zb3));exact BK333.out⟩,⟨by (with_reducible repeat (first|apply zb1|apply zb2|apply zb3));exact BK334.out⟩,⟨by repeat (first|(with_reducible first|exact HB.out|apply zl1|apply zl2|apply zl3|refine below_set ?_ GE332.out|refine below_set ?_ GE333.out|refine below_set ?_ GE334.out)|exact HB.out)⟩⟩
        case round =>
         clear H'
         try clear c1
         try clear c2
         try clear p2
         try clear c3
         try clear p3
         try clear q3
         try clear hx3
         try clear qi3
         try clear c4
         try clear c5
         try clear c6
         try clear p6
         try clear q6
         try clear c7
         try clear c8
         try clear c11
         try clear c13
         try clear c15
         try clear c23
         try clear c23b0
         try clear c32
         try clear c33
         try clear c36
         try clear p36
         try clear q36
         try clear hx36
         try clear qi36
         try clear c42
         try clear c51
         try clear c51b0
         try clear c51b1
         try clear c52
         try clear c52b0
         try clear c52b1
         try clear c53
         try clear c53b0
         try clear c54
         try clear c54b0
         try clear c55
         try clear c55b0
         try clear c56
         try clear c57
         try clear q60
         try clear c61
         try clear q61
         try clear p64
         try clear c71
         try clear c72
         try clear c73
         try clear c75
         try clear c75b0
         try clear c75b1
         try clear c76
         try clear c77
         try clear c79
         try clear c80
         try clear c82
         try clear c84
         try clear c84b0
         try clear c84b1
         try clear hfz58_0 hfz58_1 hfz58_2 hfz58_3
         try clear hcz58_0 hcz58_1 hcz58_2 hcz58_3 hcz74_0 hcz74_1 hcz74_2 hcz74_3 hcz78_0 hcz78_1 hcz78_2 hcz78_3 hcz81_0 hcz81_1 hcz81_2 hcz81_3 hcz87_0 hcz87_1 hcz87_2 hcz87_3 hcz89_0 hcz89_1 hcz89_2 hcz89_3
         try clear c85
         try clear c86
         try clear hfz74_0 hfz74_1 hfz74_2 hfz74_3 hfz78_0 hfz78_1 hfz78_2 hfz78_3 hfz81_0 hfz81_1 hfz81_2 hfz81_3 hfz87_0 hfz87_1 hfz87_2 hfz87_3 hfz89_0 hfz89_1 hfz89_2 hfz89_3
         try clear hx361_0
         try clear hx361_1
         try clear hx363_0
         try clear p2
         try clear p3
         try clear p36
         try clear p361
         try clear p363
         try clear p6
         try clear p64
         try clear q061
         try clear q3
         try clear q36
         try clear q361
         try clear q363
         try clear q6
         try clear q60
         try clear q61
         obtain ⟨x9_3,x10_3,rfl,rfl,HA,HK3,HO_333001,HO_333002,HO_333003,BK332,BK333,BK334,HB⟩:=hrel
         cases gk with
         | zero=>exact absurd HA.out (by simp [factotumref09_Split.l1])
         | succ k3 =>
          have H:=HA.out
          clear HA
          simp only [factotumref09_Split.l1] at H
          by_cases c90:x9_3 < (wrap64 ((l0_2.length:Int) - 2))
          ·rw [if_pos c90] at H
           have c90b0:decide (x9_3 < (wrap64 ((l0_2.length:Int) - 2)))=true:=decide_eq_true c90
           clear c90
           by_cases c91:(wrap64 (2 * x10_3)) < (wrap64 (t362 - 4))
           ·rw [if_pos c91] at H
            have c91b0:decide ((wrap64 (2 * x10_3)) < (wrap64 (t362 - 4)))=true:=decide_eq_true c91
            clear c91
            by_cases c92:0≤x9_3
            ·rw [if_pos c92] at H
             have c92b0:decide (0≤x9_3)=true:=decide_eq_true c92
             clear c92
             by_cases c93:x9_3 < (l0_2.length:Int)
             ·rw [if_pos c93] at H
              have c93b0:decide (x9_3 < (l0_2.length:Int))=true:=decide_eq_true c93
              clear c93
              have H':=Aside0.mk H
              clear H
              have hnb94:=NB332_333.out
              have hnc94:=NB333_332.out
              have hnb95:=NB332_334.out
              have hnc95:=NB334_332.out
              obtain ⟨hcz96_0,hcz96_1,hcz96_2,hcz96_3⟩:=zc4 BK332.out
              obtain ⟨hfz96_0,hfz96_1,hfz96_2,hfz96_3⟩:=zf4 BK332.out
              have p364:0≤(x9_3:Int):=of_decide_eq_true (by first|(with_reducible assumption)|assumption)
              have q364:x9_3 < (l0_2.length:Int):=of_decide_eq_true (by first|(with_reducible assumption)|assumption)
              obtain ⟨ad364,e364,hx364_0⟩:=Kd.at_string (Kd.V_reads' HO_333002.out).2.2 x9_3 p364 q364
              obtain rfl:ad363=ad364:=(by injection e364)
              replace p364:=eq_true p364
              replace q364:=eq_true q364
              go_wp2
              go_roundg k3
              case measure=>have:=HJ1.out;have:=HJ69.out;have:=HK3.out;omega
              case rel=>exact ⟨(wrap64 (x9_3 + 1)),(wrap64 (x10_3 + (wrap64 (3 + ((rdOf ByteArray.empty l0_2 x9_3).size:Int))))),(by first|(with_reducible rfl)|(simp;done)|(simp [*];done)|rfl|(simp only [not_isEmpty_bne])),(by first|(with_reducible rfl)|(simp;done)|(simp [*];done)|rfl|(simp only [not_isEmpty_bne])),H',⟨by have:=HJ1.out;have:=HJ69.out;have:=HK3.out;omega⟩,⟨by (with_reducible repeat (first|apply Kd.V_alloc|apply Kd.V_drewN|apply Kd.V_drew));exact HO_333001.out⟩,⟨by (with_reducible repeat (first|apply Kd.V_alloc|apply Kd.V_drewN|apply Kd.V_drew));exact HO_333002.out⟩,⟨by (with_reducible repeat (first|apply Kd.V_alloc|apply Kd.V_drewN|apply Kd.V_drew));exact HO_333003.out⟩,⟨by (with_reducible repeat (first|apply zb1|apply zb2|apply zb3));exact BK332.out⟩,⟨by (with_reducible repeat (first|apply zb1|apply zb2|apply zb3));exact BK333.out⟩,⟨by (with_reducible repeat (first|apply zb1|apply zb2|apply zb3));exact BK334.out⟩,⟨by repeat (first|(with_reducible first|exact HB.out|apply zl1|apply zl2|apply zl3|refine below_set ?_ GE332.out|refine below_set ?_ GE333.out|refine below_set ?_ GE334.out)|exact HB.out)⟩⟩
             ·rw [if_neg c93] at H
              exact absurd H (by simp)
            ·rw [if_neg c92] at H
             exact absurd H (by simp)
           ·rw [if_neg c91] at H
            have c91b0:decide ((wrap64 (2 * x10_3)) < (wrap64 (t362 - 4)))=false:=decide_eq_false c91
            clear c91
            by_cases c97:0≤x9_3
            ·rw [if_pos c97] at H
             have c97b0:=eq_true c97
             have c97b1:decide (0≤x9_3)=true:=decide_eq_true c97
             clear c97
             by_cases c98:x9_3≤(l0_2.length:Int)
             ·rw [if_pos c98] at H
              have c98b0:=eq_true c98
              have c98b1:decide (x9_3≤(l0_2.length:Int))=true:=decide_eq_true c98
              clear c98
              obtain ⟨y365,hy365⟩:∃ y_:List ByteArray,y_=(l0_2.take (x9_3:Int).toNat):=⟨_,rfl⟩
              replace H:(if 0≤(wrap64 (x9_3 + 1)) then (if (wrap64 (x9_3 + 1))≤(l0_3.length:Int) then (if (wrap64 (x9_3 + 1))≤(l0_2.length:Int) then (if x9_3 < (l0_2.length:Int) then (some (false,([]:List (S43)),y365,(l0_3.take ((wrap64 (x9_3 + 1)):Int).toNat),false,([]:List (S43)),(l0_2.drop ((wrap64 (x9_3 + 1)):Int).toNat),(l0_3.drop ((wrap64 (x9_3 + 1)):Int).toNat),rdOf ByteArray.empty l0_2 x9_3)) else (none)) else (none)) else (none)) else (none))=some (r1,r2,r3,r4,r5,r6,r7,r8,r9):=by first|(rw [hy365];with_reducible exact H)|(have H2_:=(Option.bind_some _ _).symm.trans H;rw [hy365];with_reducible exact H2_)|(have H2_:=(Option.bind_some _ _).symm.trans H;with_reducible exact H2_)|with_reducible exact H|(rw [hy365];exact H)|exact H
              have Ny365:=Aside0.mk hy365
              clear hy365
              obtain ⟨ji99,hji99⟩:∃ j_:Int,(wrap64 (x9_3 + 1))=j_:=⟨_,rfl⟩
              replace H:(if 0≤(ji99) then (if (ji99)≤(l0_3.length:Int) then (if (ji99)≤(l0_2.length:Int) then (if x9_3 < (l0_2.length:Int) then (some (false,([]:List (S43)),y365,(l0_3.take ((ji99):Int).toNat),false,([]:List (S43)),(l0_2.drop ((ji99):Int).toNat),(l0_3.drop ((ji99):Int).toNat),rdOf ByteArray.empty l0_2 x9_3)) else (none)) else (none)) else (none)) else (none))=some (r1,r2,r3,r4,r5,r6,r7,r8,r9):=by first|(rw [hji99] at H;exact H)|(simp only [hji99] at H ⊢;exact H)
              have hji99w:(IntKind.i64.wrap (x9_3 + 1))=ji99:=(i64_w _).trans hji99
              by_cases c100:0≤(ji99)
              ·rw [if_pos c100] at H
               have c100b0:=eq_true c100
               have c100b1:decide (0≤(ji99))=true:=decide_eq_true c100
               clear c100
               by_cases c101:(ji99)≤(l0_3.length:Int)
               ·rw [if_pos c101] at H
                have c101b0:=eq_true c101
                have c101b1:decide ((ji99)≤(l0_3.length:Int))=true:=decide_eq_true c101
                clear c101
                obtain ⟨y370,hy370⟩:∃ y_:List Int,y_=(l0_3.take ((ji99):Int).toNat):=⟨_,rfl⟩
                replace H:(if (ji99)≤(l0_2.length:Int) then (if x9_3 < (l0_2.length:Int) then (some (false,([]:List (S43)),y365,y370,false,([]:List (S43)),(l0_2.drop ((ji99):Int).toNat),(l0_3.drop ((ji99):Int).toNat),rdOf ByteArray.empty l0_2 x9_3)) else (none)) else (none))=some (r1,r2,r3,r4,r5,r6,r7,r8,r9):=by first|(rw [hy370];with_reducible exact H)|(have H2_:=(Option.bind_some _ _).symm.trans H;rw [hy370];with_reducible exact H2_)|(have H2_:=(Option.bind_some _ _).symm.trans H;with_reducible exact H2_)|with_reducible exact H|(rw [hy370];exact H)|exact H
                have Ny370:=Aside0.mk hy370
                clear hy370
                have c102b0:=eq_true (of_decide_eq_true (by first|(with_reducible assumption)|assumption):0≤(ji99))
                by_cases c103:(ji99)≤(l0_2.length:Int)
                ·rw [if_pos c103] at H
                 have c103b0:=eq_true c103
                 have c103b1:decide ((ji99)≤(l0_2.length:Int))=true:=decide_eq_true c103
                 clear c103
                 obtain ⟨y375,hy375⟩:∃ y_:List ByteArray,y_=(l0_2.drop ((ji99):Int).toNat):=⟨_,rfl⟩
                 replace H:(if x9_3 < (l0_2.length:Int) then (some (false,([]:List (S43)),y365,y370,false,([]:List (S43)),y375,(l0_3.drop ((ji99):Int).toNat),rdOf ByteArray.empty l0_2 x9_3)) else (none))=some (r1,r2,r3,r4,r5,r6,r7,r8,r9):=by first|(rw [hy375];with_reducible exact H)|(have H2_:=(Option.bind_some _ _).symm.trans H;rw [hy375];with_reducible exact H2_)|(have H2_:=(Option.bind_some _ _).symm.trans H;with_reducible exact H2_)|with_reducible exact H|(rw [hy375];exact H)|exact H
                 have Ny375:=Aside0.mk hy375
                 clear hy375
                 have c104b0:=eq_true (of_decide_eq_true (by first|(with_reducible assumption)|assumption):0≤(ji99))
                 have c105b0:=eq_true (of_decide_eq_true (by first|(with_reducible assumption)|assumption):(ji99)≤(l0_3.length:Int))
                 obtain ⟨y380,hy380⟩:∃ y_:List Int,y_=(l0_3.drop ((ji99):Int).toNat):=⟨_,rfl⟩
                 replace H:(if x9_3 < (l0_2.length:Int) then (some (false,([]:List (S43)),y365,y370,false,([]:List (S43)),y375,y380,rdOf ByteArray.empty l0_2 x9_3)) else (none))=some (r1,r2,r3,r4,r5,r6,r7,r8,r9):=by first|(rw [hy380];with_reducible exact H)|(have H2_:=(Option.bind_some _ _).symm.trans H;rw [hy380];with_reducible exact H2_)|(have H2_:=(Option.bind_some _ _).symm.trans H;with_reducible exact H2_)|with_reducible exact H|(rw [hy380];exact H)|exact H
                 have Ny380:=Aside0.mk hy380
                 clear hy380
                 by_cases c106:x9_3 < (l0_2.length:Int)
                 ·rw [if_pos c106] at H
                  have c106b0:decide (x9_3 < (l0_2.length:Int))=true:=decide_eq_true c106
                  clear c106
                  simp only [Option.some.injEq,Prod.mk.injEq] at H
                  obtain ⟨rfl,rfl,rfl,rfl,rfl,rfl,rfl,rfl,rfl⟩:=H
                  have hnb107:=NB332_333.out
                  have hnc107:=NB333_332.out
                  have hnb108:=NB332_334.out
                  have hnc108:=NB334_332.out
                  obtain ⟨hcz109_0,hcz109_1,hcz109_2,hcz109_3⟩:=zc4 BK332.out
                  obtain ⟨hfz109_0,hfz109_1,hfz109_2,hfz109_3⟩:=zf4 BK332.out
                  try go_wp2
                  replace HO_333001:=Aside0.mk (Kd.V_drew HO_333001.out)
                  replace HO_333002:=Aside0.mk (Kd.V_drew HO_333002.out)
                  replace HO_333003:=Aside0.mk (Kd.V_drew HO_333003.out)
                  replace BK332:=Aside0.mk (blk_drew BK332.out)
                  replace BK333:=Aside0.mk (blk_drew BK333.out)
                  replace BK334:=Aside0.mk (blk_drew BK334.out)
                  replace HB:=Aside0.mk (below_drew1 HB.out)
                  have q111:(x9_3:Int)≤((l0_2.length:Int):Int):=of_decide_eq_true (by first|(with_reducible assumption)|assumption)
                  obtain ⟨i0111,hi0111,_,hsz111,_⟩:=info_parts info9
                  have hroom111:l0_2.length≤c0_2:=(Kd.V_reads' HO_333002.out).2.1
                  have hC111:Kd.F Kd.string _ _ (some ad363) l0_2.length l0_2:=(Kd.V_at (base:=w.heap.size) HO_333002.out).2.2
                  have hcut111:=cut_to (P:=Try.prog) 23 9 .i64 Try.underlying23 hi0111 (some ad363) l0_2.length c0_2 x9_3 (of_decide_eq_true (by first|(with_reducible assumption)|assumption)) q111 hroom111
                  have hr111:=Kd.F_take (m:=(x9_3:Int).toNat) hC111 (by omega)
                  have hy111:y365.length=(x9_3:Int).toNat:=(by rw [Ny365.out,List.length_take];omega)
                  rw [← Ny365.out] at hr111
                  rw [← hy111] at hcut111
                  have HO369:=Aside0.mk (show Kd.V Kd.string 9 _ w.heap.size _ (.slice (some ad363) y365.length c0_2) y365 from Kd.V_mk (by omega) hr111)
                  have HC369:=Aside0.mk (show y365.length≤c0_2 from by omega)
                  clear hr111 hC111 hroom111 hi0111 hsz111
                  have KY111:=Aside0.mk hy111
                  clear hy111
                  replace q111:=eq_true q111
                  have q112:((ji99):Int)≤((l0_3.length:Int):Int):=of_decide_eq_true (by first|(with_reducible assumption)|assumption)
                  obtain ⟨i0112,hi0112,_,hsz112,_⟩:=info_parts info3
                  have hroom112:l0_3.length≤c0_3:=(Kd.V_reads' HO_333003.out).2.1
                  have hC112:Kd.F (Kd.int .i64) _ _ A0_3 l0_3.length l0_3:=(Kd.V_at (base:=w.heap.size) HO_333003.out).2.2
                  have hcut112:=cut_to (P:=Try.prog) 24 3 .i64 Try.underlying24 hi0112 A0_3 l0_3.length c0_3 (ji99) (of_decide_eq_true (by first|(with_reducible assumption)|assumption)) q112 hroom112
                  have hr112:=Kd.F_take (m:=((ji99):Int).toNat) hC112 (by omega)
                  have hy112:y370.length=((ji99):Int).toNat:=(by rw [Ny370.out,List.length_take];omega)
                  rw [← Ny370.out] at hr112
                  rw [← hy112] at hcut112
                  have HO374:=Aside0.mk (show Kd.V (Kd.int .i64) 3 _ w.heap.size _ (.slice A0_3 y370.length c0_3) y370 from Kd.V_mk (by omega) hr112)
                  have HC374:=Aside0.mk (show y370.length≤c0_3 from by omega)
                  clear hr112 hC112 hroom112 hi0112 hsz112
                  have KY112:=Aside0.mk hy112
                  clear hy112
                  replace q112:=eq_true q112
                  have q113:((ji99):Int)≤((l0_2.length:Int):Int):=of_decide_eq_true (by first|(with_reducible assumption)|assumption)
                  obtain ⟨i0113,hi0113,_,hsz113,_⟩:=info_parts info9
                  have hroom113:l0_2.length≤c0_2:=(Kd.V_reads' HO_333002.out).2.1
                  have hC113:Kd.F Kd.string _ _ (some ad363) l0_2.length l0_2:=(Kd.V_at (base:=w.heap.size) HO_333002.out).2.2
                  have q0113:(0:Int)≤((ji99):Int):=of_decide_eq_true (by first|(with_reducible assumption)|assumption)
                  have hcut113:=cut_from (P:=Try.prog) 23 9 .i64 Try.underlying23 hi0113 1 hsz113 (some ad363) l0_2.length c0_2 (ji99) q0113 q113
                  have hr113:=Kd.F_cut (m:=((ji99):Int).toNat) (c:=c0_2) hC113 (by omega) hroom113
                  obtain ⟨A113,hA113⟩:∃ A1,A1=(if c0_2=((ji99):Int).toNat then (some ad363) else ((some ad363):Option Addr).map (·.add (((ji99):Int).toNat * 1))):=⟨_,rfl⟩
                  obtain ⟨c113,hc113⟩:∃ c_,c_=c0_2 - ((ji99):Int).toNat:=⟨_,rfl⟩
                  have hy113:y375.length=l0_2.length - ((ji99):Int).toNat:=(by rw [Ny375.out,List.length_drop] <;> omega)
                  rw [show (l0_2).drop ((ji99):Int).toNat=y375 from Ny375.out.symm] at hr113
                  replace hr113:Kd.F Kd.string _ _ A113 y375.length y375:=(by rw [hA113];exact hr113)
                  rw [← hy113,← hA113,← hc113] at hcut113
                  have HO379:=Aside0.mk (show Kd.V Kd.string 9 _ w.heap.size _ (.slice A113 y375.length c113) y375 from Kd.V_mk (by rw [hy113,hc113];exact Nat.sub_le_sub_right hroom113 _) hr113)
                  have HC379:=Aside0.mk (show y375.length≤c113 from by rw [hy113,hc113];exact Nat.sub_le_sub_right hroom113 _)
                  clear hr113 hC113 hroom113 hi0113 hsz113 hc113
                  have KY113:=Aside0.mk hy113
                  have KA113:=Aside0.mk hA113
                  clear hy113 hA113
                  replace q113:=eq_true q113
                  have q114:((ji99):Int)≤((l0_3.length:Int):Int):=of_decide_eq_true (by first|(with_reducible assumption)|assumption)
                  obtain ⟨i0114,hi0114,_,hsz114,_⟩:=info_parts info3
                  have hroom114:l0_3.length≤c0_3:=(Kd.V_reads' HO_333003.out).2.1
                  have hC114:Kd.F (Kd.int .i64) _ _ A0_3 l0_3.length l0_3:=(Kd.V_at (base:=w.heap.size) HO_333003.out).2.2
                  have q0114:(0:Int)≤((ji99):Int):=of_decide_eq_true (by first|(with_reducible assumption)|assumption)
                  have hcut114:=cut_from (P:=Try.prog) 24 3 .i64 Try.underlying24 hi0114 1 hsz114 A0_3 l0_3.length c0_3 (ji99) q0114 q114
                  have hr114:=Kd.F_cut (m:=((ji99):Int).toNat) (c:=c0_3) hC114 (by omega) hroom114
                  obtain ⟨A114,hA114⟩:∃ A1,A1=(if c0_3=((ji99):Int).toNat then A0_3 else (A0_3:Option Addr).map (·.add (((ji99):Int).toNat * 1))):=⟨_,rfl⟩
                  obtain ⟨c114,hc114⟩:∃ c_,c_=c0_3 - ((ji99):Int).toNat:=⟨_,rfl⟩
                  have hy114:y380.length=l0_3.length - ((ji99):Int).toNat:=(by rw [Ny380.out,List.length_drop] <;> omega)
                  rw [show (l0_3).drop ((ji99):Int).toNat=y380 from Ny380.out.symm] at hr114
                  replace hr114:Kd.F (Kd.int .i64) _ _ A114 y380.length y380:=(by rw [hA114];exact hr114)
                  rw [← hy114,← hA114,← hc114] at hcut114
                  have HO384:=Aside0.mk (show Kd.V (Kd.int .i64) 3 _ w.heap.size _ (.slice A114 y380.length c114) y380 from Kd.V_mk (by rw [hy114,hc114];exact Nat.sub_le_sub_right hroom114 _) hr114)
                  have HC384:=Aside0.mk (show y380.length≤c114 from by rw [hy114,hc114];exact Nat.sub_le_sub_right hroom114 _)
                  clear hr114 hC114 hroom114 hi0114 hsz114 hc114
                  have KY114:=Aside0.mk hy114
                  have KA114:=Aside0.mk hA114
                  clear hy114 hA114
                  replace q114:=eq_true q114
                  have p385:0≤(x9_3:Int):=of_decide_eq_true (by first|(with_reducible assumption)|assumption)
                  have q385:x9_3 < (l0_2.length:Int):=of_decide_eq_true (by first|(with_reducible assumption)|assumption)
                  obtain ⟨ad385,e385,hx385_0⟩:=Kd.at_string (Kd.V_reads' HO_333002.out).2.2 x9_3 p385 q385
                  obtain rfl:ad363=ad385:=(by injection e385)
                  replace p385:=eq_true p385
                  replace q385:=eq_true q385
                  refine start_ (n:=29) (S:=fun w'=>w'.cell? ⟨gb332,0,none⟩=some (.bool a0_0)∧w'.cell? ⟨gb332,1,none⟩=some (.slice A0_1 l0_1.length c0_1)∧w'.cell? ⟨gb332,2,none⟩=some (.slice (some ad363) l0_2.length c0_2)∧w'.cell? ⟨gb332,3,none⟩=some (.slice A0_3 l0_3.length c0_3)∧w'.cell? (ad363.add (x9_3).toNat)=some (.string (rdOf ByteArray.empty l0_2 x9_3))) (ds:=[]) #[false,false,false,false,false,false,false,false,false,false,false,false,false,false,false,false,false,false,false,false,false,false,false,false,false,false,false,false,false] (by kernel_rfl) rfl rfl ⟨(blk_cell BK332.out 0).trans rfl,(blk_cell BK332.out 1).trans rfl,(blk_cell BK332.out 2).trans rfl,(blk_cell BK332.out 3).trans rfl,hx385_0⟩ (fun hHeld=>?_);refine with_tabW factotumref09_Split.tab16 factotumref09_Split.bits16 (fun HT_ HW_=>?_)
                  generalize wr.drew=w110 at HO_333001 HO_333002 HO_333003 BK332 BK333 BK334 HB HO369 HO374 HO379 HO384 hx385_0 hHeld ⊢
                  refine pure_ (i:=0) (N:=some 116) (v:=?_) (a':=?_) #[true,false,false,false,false,false,false,false,false,false,false,false,false,false,false,false,false,false,false,false,false,false,false,false,false,false,false,false,false] rfl rfl (any_of HT_.out (by kernel_rfl)) (fun _ _ _ h=>h) (Or.inl ⟨by rfl,?_⟩) ?_ ?_
                  rotate_left
                  ·intro w'
                   go_simp
                   with_reducible rfl
                  rotate_left
                  ·simp only [Act.put,List.setIfInBounds_toArray,List.set_cons_zero,List.set_cons_succ,i64_w,i32_w]
                   rfl
                  refine pure_ (i:=2) (N:=some 118) (v:=?_) (a':=?_) #[true,false,true,false,false,false,false,false,false,false,false,false,false,false,false,false,false,false,false,false,false,false,false,false,false,false,false,false,false] rfl rfl (any_of HT_.out (by kernel_rfl)) (fun _ _ _ h=>h) (Or.inl ⟨by rfl,?_⟩) ?_ ?_
                  rotate_left
                  ·intro w'
                   go_simp
                   with_reducible rfl
                  rotate_left
                  ·simp only [Act.put,List.setIfInBounds_toArray,List.set_cons_zero,List.set_cons_succ,i64_w,i32_w]
                   rfl
                  refine pure_ (i:=4) (N:=some 120) (v:=?_) (a':=?_) #[true,false,true,false,true,false,false,false,false,false,false,false,false,false,false,false,false,false,false,false,false,false,false,false,false,false,false,false,false] rfl rfl (any_of HT_.out (by kernel_rfl)) (fun _ _ _ h=>h) (Or.inl ⟨by rfl,?_⟩) ?_ ?_
                  rotate_left
                  ·intro w'
                   go_simp
                   with_reducible rfl
                  rotate_left
                  ·simp only [Act.put,List.setIfInBounds_toArray,List.set_cons_zero,List.set_cons_succ,i64_w,i32_w]
                   rfl
                  refine pure_ (i:=6) (N:=some 122) (v:=?_) (a':=?_) #[true,false,true,false,true,false,true,false,false,false,false,false,false,false,false,false,false,false,false,false,false,false,false,false,false,false,false,false,false] rfl rfl (any_of HT_.out (by kernel_rfl)) (fun _ _ _ h=>h) (Or.inl ⟨by rfl,?_⟩) ?_ ?_
                  rotate_left
                  ·intro w'
                   go_simp
                   with_reducible rfl
                  rotate_left
                  ·simp only [Act.put,List.setIfInBounds_toArray,List.set_cons_zero,List.set_cons_succ,i64_w,i32_w]
                   rfl
                  refine pure_ (i:=7) (N:=some 123) (v:=?_) (a':=?_) #[true,false,true,false,true,false,true,true,false,false,false,false,false,false,false,false,false,false,false,false,false,false,false,false,false,false,false,false,false] rfl rfl (any_of HT_.out (by kernel_rfl)) (fun _ _ _ h=>h) (Or.inl ⟨by rfl,?_⟩) ?_ ?_
                  rotate_left
                  ·intro w'
                   go_simp
                   with_reducible rfl
                  rotate_left
                  ·simp only [Act.put,List.setIfInBounds_toArray,List.set_cons_zero,List.set_cons_succ,i64_w,i32_w]
                   rfl
                  refine pure_ (i:=10) (N:=some 126) (v:=?_) (a':=?_) #[true,false,true,false,true,false,true,true,false,false,true,false,false,false,false,false,false,false,false,false,false,false,false,false,false,false,false,false,false] rfl rfl (any_of HT_.out (by kernel_rfl)) (fun _ _ _ h=>h) (Or.inl ⟨by rfl,?_⟩) ?_ ?_
                  rotate_left
                  ·intro w'
                   go_simp
                   with_reducible rfl
                  rotate_left
                  ·simp only [Act.put,List.setIfInBounds_toArray,List.set_cons_zero,List.set_cons_succ,i64_w,i32_w]
                   rfl
                  refine pure_ (i:=12) (N:=some 128) (v:=?_) (a':=?_) #[true,false,true,false,true,false,true,true,false,false,true,false,true,false,false,false,false,false,false,false,false,false,false,false,false,false,false,false,false] rfl rfl (any_of HT_.out (by kernel_rfl)) (fun _ _ _ h=>h) (Or.inl ⟨by rfl,?_⟩) ?_ ?_
                  rotate_left
                  ·intro w'
                   go_simp
                   with_reducible rfl
                  rotate_left
                  ·simp only [Act.put,List.setIfInBounds_toArray,List.set_cons_zero,List.set_cons_succ,i64_w,i32_w]
                   rfl
                  refine pure_ (i:=13) (N:=some 129) (v:=?_) (a':=?_) #[true,false,true,false,true,false,true,true,false,false,true,false,true,true,false,false,false,false,false,false,false,false,false,false,false,false,false,false,false] rfl rfl (any_of HT_.out (by kernel_rfl)) (fun _ _ _ h=>h) (Or.inl ⟨by rfl,?_⟩) ?_ ?_
                  rotate_left
                  ·intro w'
                   go_simp
                   with_reducible rfl
                  rotate_left
                  ·simp only [Act.put,List.setIfInBounds_toArray,List.set_cons_zero,List.set_cons_succ,i64_w,i32_w]
                   rfl
                  refine pure_ (i:=15) (N:=some 131) (v:=?_) (a':=?_) #[true,false,true,false,true,false,true,true,false,false,true,false,true,true,false,true,false,false,false,false,false,false,false,false,false,false,false,false,false] rfl rfl (any_of HT_.out (by kernel_rfl)) (fun _ _ _ h=>h) (Or.inl ⟨by rfl,?_⟩) ?_ ?_
                  rotate_left
                  ·intro w'
                   go_simp
                   with_reducible rfl
                  rotate_left
                  ·simp only [Act.put,List.setIfInBounds_toArray,List.set_cons_zero,List.set_cons_succ,i64_w,i32_w]
                   rfl
                  refine pure_ (i:=17) (N:=some 133) (v:=?_) (a':=?_) #[true,false,true,false,true,false,true,true,false,false,true,false,true,true,false,true,false,true,false,false,false,false,false,false,false,false,false,false,false] rfl rfl (any_of HT_.out (by kernel_rfl)) (fun _ _ _ h=>h) (Or.inl ⟨by rfl,?_⟩) ?_ ?_
                  rotate_left
                  ·intro w'
                   go_simp
                   with_reducible rfl
                  rotate_left
                  ·simp only [Act.put,List.setIfInBounds_toArray,List.set_cons_zero,List.set_cons_succ,i64_w,i32_w]
                   rfl
                  refine pure_ (i:=18) (N:=some 134) (v:=?_) (a':=?_) #[true,false,true,false,true,false,true,true,false,false,true,false,true,true,false,true,false,true,true,false,false,false,false,false,false,false,false,false,false] rfl rfl (any_of HT_.out (by kernel_rfl)) (fun _ _ _ h=>h) (Or.inl ⟨by rfl,?_⟩) ?_ ?_
                  rotate_left
                  ·intro w'
                   go_simp
                   with_reducible rfl
                  rotate_left
                  ·simp only [Act.put,List.setIfInBounds_toArray,List.set_cons_zero,List.set_cons_succ,i64_w,i32_w]
                   rfl
                  refine pure_ (i:=21) (N:=some 137) (v:=?_) (a':=?_) #[true,false,true,false,true,false,true,true,false,false,true,false,true,true,false,true,false,true,true,false,false,true,false,false,false,false,false,false,false] rfl rfl (any_of HT_.out (by kernel_rfl)) (fun _ _ _ h=>h) (Or.inl ⟨by rfl,?_⟩) ?_ ?_
                  rotate_left
                  ·intro w'
                   go_simp
                   with_reducible rfl
                  rotate_left
                  ·simp only [Act.put,List.setIfInBounds_toArray,List.set_cons_zero,List.set_cons_succ,i64_w,i32_w]
                   rfl
                  refine pure_ (i:=23) (N:=some 139) (v:=?_) (a':=?_) #[true,false,true,false,true,false,true,true,false,false,true,false,true,true,false,true,false,true,true,false,false,true,false,true,false,false,false,false,false] rfl rfl (any_of HT_.out (by kernel_rfl)) (fun _ _ _ h=>h) (Or.inl ⟨by rfl,?_⟩) ?_ ?_
                  rotate_left
                  ·intro w'
                   go_simp
                   with_reducible rfl
                  rotate_left
                  ·simp only [Act.put,List.setIfInBounds_toArray,List.set_cons_zero,List.set_cons_succ,i64_w,i32_w]
                   rfl
                  refine take_ (i:=1) (N:=some 117) (v:=?_) (a':=?_) #[true,true,true,false,true,false,true,true,false,false,true,false,true,true,false,true,false,true,true,false,false,true,false,true,false,false,false,false,false] rfl rfl (take_ofW HT_.out HW_.out (by kernel_rfl)) (fun _ _ _ h=>h) (Or.inl ⟨by rfl,?_⟩) hHeld ?_ ?_
                  rotate_left
                  ·rintro w' ⟨s0,s1,s2,s3,s4⟩
                   go_simp
                   with_reducible rfl
                  rotate_left
                  ·simp only [Act.put,List.setIfInBounds_toArray,List.set_cons_zero,List.set_cons_succ,i64_w,i32_w]
                   rfl
                  refine pure_ (i:=3) (N:=some 119) (v:=?_) (a':=?_) #[true,true,true,true,true,false,true,true,false,false,true,false,true,true,false,true,false,true,true,false,false,true,false,true,false,false,false,false,false] rfl rfl (any_of HT_.out (by kernel_rfl)) (fun _ _ _ h=>h) (Or.inl ⟨by rfl,?_⟩) ?_ ?_
                  rotate_left
                  ·intro w'
                   go_simp
                   with_reducible rfl
                  rotate_left
                  ·simp only [Act.put,List.setIfInBounds_toArray,List.set_cons_zero,List.set_cons_succ,i64_w,i32_w]
                   rfl
                  refine take_ (i:=5) (N:=some 121) (v:=?_) (a':=?_) #[true,true,true,true,true,true,true,true,false,false,true,false,true,true,false,true,false,true,true,false,false,true,false,true,false,false,false,false,false] rfl rfl (take_ofW HT_.out HW_.out (by kernel_rfl)) (fun _ _ _ h=>h) (Or.inl ⟨by rfl,?_⟩) hHeld ?_ ?_
                  rotate_left
                  ·rintro w' ⟨s0,s1,s2,s3,s4⟩
                   go_simp
                   with_reducible rfl
                  rotate_left
                  ·simp only [Act.put,List.setIfInBounds_toArray,List.set_cons_zero,List.set_cons_succ,i64_w,i32_w]
                   rfl
                  refine pure_ (i:=8) (N:=some 124) (v:=?_) (a':=?_) #[true,true,true,true,true,true,true,true,true,false,true,false,true,true,false,true,false,true,true,false,false,true,false,true,false,false,false,false,false] rfl rfl (any_of HT_.out (by kernel_rfl)) (fun _ _ _ h=>h) (Or.inl ⟨by rfl,?_⟩) ?_ ?_
                  rotate_left
                  ·intro w'
                   go_simp
                   with_reducible rfl
                  rotate_left
                  ·simp only [Act.put,List.setIfInBounds_toArray,List.set_cons_zero,List.set_cons_succ,i64_w,i32_w]
                   rfl
                  refine pure_ (i:=9) (N:=some 125) (v:=?_) (a':=?_) #[true,true,true,true,true,true,true,true,true,true,true,false,true,true,false,true,false,true,true,false,false,true,false,true,false,false,false,false,false] rfl rfl (any_of HT_.out (by kernel_rfl)) (fun _ _ _ h=>h) (Or.inl ⟨by rfl,?_⟩) ?_ ?_
                  rotate_left
                  ·intro w'
                   go_simp
                   with_reducible rfl
                  rotate_left
                  ·simp only [Act.put,List.setIfInBounds_toArray,List.set_cons_zero,List.set_cons_succ,i64_w,i32_w]
                   rfl
                  refine take_ (i:=11) (N:=some 127) (v:=?_) (a':=?_) #[true,true,true,true,true,true,true,true,true,true,true,true,true,true,false,true,false,true,true,false,false,true,false,true,false,false,false,false,false] rfl rfl (take_ofW HT_.out HW_.out (by kernel_rfl)) (fun _ _ _ h=>h) (Or.inl ⟨by rfl,?_⟩) hHeld ?_ ?_
                  rotate_left
                  ·rintro w' ⟨s0,s1,s2,s3,s4⟩
                   go_simp
                   with_reducible rfl
                  rotate_left
                  ·simp only [Act.put,List.setIfInBounds_toArray,List.set_cons_zero,List.set_cons_succ,i64_w,i32_w]
                   rfl
                  refine pure_ (i:=14) (N:=some 130) (v:=?_) (a':=?_) #[true,true,true,true,true,true,true,true,true,true,true,true,true,true,true,true,false,true,true,false,false,true,false,true,false,false,false,false,false] rfl rfl (any_of HT_.out (by kernel_rfl)) (fun _ _ _ h=>h) (Or.inl ⟨by rfl,?_⟩) ?_ ?_
                  rotate_left
                  ·intro w'
                   go_simp
                   with_reducible rfl
                  rotate_left
                  ·simp only [Act.put,List.setIfInBounds_toArray,List.set_cons_zero,List.set_cons_succ,i64_w,i32_w]
                   rfl
                  refine take_ (i:=16) (N:=some 132) (v:=?_) (a':=?_) #[true,true,true,true,true,true,true,true,true,true,true,true,true,true,true,true,true,true,true,false,false,true,false,true,false,false,false,false,false] rfl rfl (take_ofW HT_.out HW_.out (by kernel_rfl)) (fun _ _ _ h=>h) (Or.inl ⟨by rfl,?_⟩) hHeld ?_ ?_
                  rotate_left
                  ·rintro w' ⟨s0,s1,s2,s3,s4⟩
                   go_simp
                   with_reducible rfl
                  rotate_left
                  ·simp only [Act.put,List.setIfInBounds_toArray,List.set_cons_zero,List.set_cons_succ,i64_w,i32_w]
                   rfl
                  refine pure_ (i:=19) (N:=some 135) (v:=?_) (a':=?_) #[true,true,true,true,true,true,true,true,true,true,true,true,true,true,true,true,true,true,true,true,false,true,false,true,false,false,false,false,false] rfl rfl (any_of HT_.out (by kernel_rfl)) (fun _ _ _ h=>h) (Or.inl ⟨by rfl,?_⟩) ?_ ?_
                  rotate_left
                  ·intro w'
                   go_simp
                   with_reducible rfl
                  rotate_left
                  ·simp only [Act.put,List.setIfInBounds_toArray,List.set_cons_zero,List.set_cons_succ,i64_w,i32_w]
                   rfl
                  refine pure_ (i:=20) (N:=some 136) (v:=?_) (a':=?_) #[true,true,true,true,true,true,true,true,true,true,true,true,true,true,true,true,true,true,true,true,true,true,false,true,false,false,false,false,false] rfl rfl (any_of HT_.out (by kernel_rfl)) (fun _ _ _ h=>h) (Or.inl ⟨by rfl,?_⟩) ?_ ?_
                  rotate_left
                  ·intro w'
                   go_simp
                   with_reducible rfl
                  rotate_left
                  ·simp only [Act.put,List.setIfInBounds_toArray,List.set_cons_zero,List.set_cons_succ,i64_w,i32_w]
                   rfl
                  refine take_ (i:=22) (N:=some 138) (v:=?_) (a':=?_) #[true,true,true,true,true,true,true,true,true,true,true,true,true,true,true,true,true,true,true,true,true,true,true,true,false,false,false,false,false] rfl rfl (take_ofW HT_.out HW_.out (by kernel_rfl)) (fun _ _ _ h=>h) (Or.inl ⟨by rfl,?_⟩) hHeld ?_ ?_
                  rotate_left
                  ·rintro w' ⟨s0,s1,s2,s3,s4⟩
                   go_simp
                   with_reducible rfl
                  rotate_left
                  ·simp only [Act.put,List.setIfInBounds_toArray,List.set_cons_zero,List.set_cons_succ,i64_w,i32_w]
                   rfl
                  refine pure_ (i:=24) (N:=some 140) (v:=?_) (a':=?_) #[true,true,true,true,true,true,true,true,true,true,true,true,true,true,true,true,true,true,true,true,true,true,true,true,true,false,false,false,false] rfl rfl (any_of HT_.out (by kernel_rfl)) (fun _ _ _ h=>h) (Or.inl ⟨by rfl,?_⟩) ?_ ?_
                  rotate_left
                  ·intro w'
                   go_simp
                   with_reducible rfl
                  rotate_left
                  ·simp only [Act.put,List.setIfInBounds_toArray,List.set_cons_zero,List.set_cons_succ,i64_w,i32_w]
                   rfl
                  refine take_ (i:=25) (N:=some 141) (v:=?_) (a':=?_) #[true,true,true,true,true,true,true,true,true,true,true,true,true,true,true,true,true,true,true,true,true,true,true,true,true,true,false,false,false] rfl rfl (take_ofW HT_.out HW_.out (by kernel_rfl)) (fun _ _ _ h=>h) (Or.inl ⟨by rfl,?_⟩) hHeld ?_ ?_
                  rotate_left
                  ·rintro w' ⟨s0,s1,s2,s3,s4⟩
                   go_simp
                   with_reducible rfl
                  rotate_left
                  ·simp only [Act.put,List.setIfInBounds_toArray,List.set_cons_zero,List.set_cons_succ,i64_w,i32_w]
                   rfl
                  refine one_ (i:=26) (N:=none) #[true,true,true,true,true,true,true,true,true,true,true,true,true,true,true,true,true,true,true,true,true,true,true,true,true,true,true,false,false] rfl rfl (one_of HT_.out (by kernel_rfl)) (by decide) (fun K hK=>?_)
                  have hs115:w110.cell? ⟨gb333,0,none⟩=some (.bool false):=(blk_cell BK333.out 0).trans rfl
                  have hfs115:=blk_frozen BK333.out 0
                  have hns115_0:=NB332_333.out
                  have hns115_2:=NB334_333.out
                  have hms115_0:=NB333_332.out
                  have hms115_2:=NB333_334.out
                  have hs116:w110.cell? ⟨gb333,1,none⟩=some (.slice none 0 0):=(blk_cell BK333.out 1).trans rfl
                  have hfs116:=blk_frozen BK333.out 1
                  have hns116_0:=NB332_333.out
                  have hns116_2:=NB334_333.out
                  have hms116_0:=NB333_332.out
                  have hms116_2:=NB333_334.out
                  have hs117:w110.cell? ⟨gb333,2,none⟩=some (.slice none 0 0):=(blk_cell BK333.out 2).trans rfl
                  have hfs117:=blk_frozen BK333.out 2
                  have hns117_0:=NB332_333.out
                  have hns117_2:=NB334_333.out
                  have hms117_0:=NB333_332.out
                  have hms117_2:=NB333_334.out
                  have hs118:w110.cell? ⟨gb333,3,none⟩=some (.slice none 0 0):=(blk_cell BK333.out 3).trans rfl
                  have hfs118:=blk_frozen BK333.out 3
                  have hns118_0:=NB332_333.out
                  have hns118_2:=NB334_333.out
                  have hms118_0:=NB333_332.out
                  have hms118_2:=NB333_334.out
                  refine skip_ (w1:=?_) (by rfl) rfl ?_ ?_
                  rotate_left
                  ·go_simp
                   rfl
                  refine hK.out _ _ ⟨((far4 (g:=gb333) NB332_333.out).trans (hHeld.1)),((far4 (g:=gb333) NB332_333.out).trans (hHeld.2.1)),((far4 (g:=gb333) NB332_333.out).trans (hHeld.2.2.1)),((far4 (g:=gb333) NB332_333.out).trans (hHeld.2.2.2.1)),((far4 (g:=gb333) (by first|exact Kd.own_blk (Kd.V_away (of_eq_true p385) (of_eq_true q385) HO_333002.out (fun _ hk=>hk.2.2.1))|(rw [add_block];exact Kd.own_blk (Kd.V_away (of_eq_true p385) (of_eq_true q385) HO_333002.out (fun _ hk=>hk.2.2.1)))|(show (Addr.add _ _).block ≠ _;rw [add_block];exact Kd.own_blk (Kd.V_away (of_eq_true p385) (of_eq_true q385) HO_333002.out (fun _ hk=>hk.2.2.1)))|(dsimp only;exact Kd.own_blk (Kd.V_away (of_eq_true p385) (of_eq_true q385) HO_333002.out (fun _ hk=>hk.2.2.1))))).trans (hHeld.2.2.2.2))⟩ (fun hHeld=>?_)
                  clear hK K
                  refine one_ (i:=27) (N:=none) #[true,true,true,true,true,true,true,true,true,true,true,true,true,true,true,true,true,true,true,true,true,true,true,true,true,true,true,true,false] rfl rfl (one_of HT_.out (by kernel_rfl)) (by decide) (fun K hK=>?_)
                  have hs119:w110.cell? ⟨gb334,0,none⟩=some (.bool false):=(blk_cell BK334.out 0).trans rfl
                  have hfs119:=blk_frozen BK334.out 0
                  have hns119_0:=NB332_334.out
                  have hns119_1:=NB333_334.out
                  have hms119_0:=NB334_332.out
                  have hms119_1:=NB334_333.out
                  have hs120:w110.cell? ⟨gb334,1,none⟩=some (.slice none 0 0):=(blk_cell BK334.out 1).trans rfl
                  have hfs120:=blk_frozen BK334.out 1
                  have hns120_0:=NB332_334.out
                  have hns120_1:=NB333_334.out
                  have hms120_0:=NB334_332.out
                  have hms120_1:=NB334_333.out
                  have hs121:w110.cell? ⟨gb334,2,none⟩=some (.slice none 0 0):=(blk_cell BK334.out 2).trans rfl
                  have hfs121:=blk_frozen BK334.out 2
                  have hns121_0:=NB332_334.out
                  have hns121_1:=NB333_334.out
                  have hms121_0:=NB334_332.out
                  have hms121_1:=NB334_333.out
                  have hs122:w110.cell? ⟨gb334,3,none⟩=some (.slice none 0 0):=(blk_cell BK334.out 3).trans rfl
                  have hfs122:=blk_frozen BK334.out 3
                  have hns122_0:=NB332_334.out
                  have hns122_1:=NB333_334.out
                  have hms122_0:=NB334_332.out
                  have hms122_1:=NB334_333.out
                  refine skip_ (w1:=?_) (by rfl) rfl ?_ ?_
                  rotate_left
                  ·go_simp
                   rfl
                  refine hK.out _ _ ⟨((far4 (g:=gb334) NB332_334.out).trans (hHeld.1)),((far4 (g:=gb334) NB332_334.out).trans (hHeld.2.1)),((far4 (g:=gb334) NB332_334.out).trans (hHeld.2.2.1)),((far4 (g:=gb334) NB332_334.out).trans (hHeld.2.2.2.1)),((far4 (g:=gb334) (by first|exact Kd.own_blk (Kd.V_away (of_eq_true p385) (of_eq_true q385) HO_333002.out (fun _ hk=>hk.2.2.2))|(rw [add_block];exact Kd.own_blk (Kd.V_away (of_eq_true p385) (of_eq_true q385) HO_333002.out (fun _ hk=>hk.2.2.2)))|(show (Addr.add _ _).block ≠ _;rw [add_block];exact Kd.own_blk (Kd.V_away (of_eq_true p385) (of_eq_true q385) HO_333002.out (fun _ hk=>hk.2.2.2)))|(dsimp only;exact Kd.own_blk (Kd.V_away (of_eq_true p385) (of_eq_true q385) HO_333002.out (fun _ hk=>hk.2.2.2))))).trans (hHeld.2.2.2.2))⟩ (fun hHeld=>?_)
                  clear hK K
                  refine pure_ (i:=28) (N:=some 4) (v:=?_) (a':=?_) #[true,true,true,true,true,true,true,true,true,true,true,true,true,true,true,true,true,true,true,true,true,true,true,true,true,true,true,true,true] rfl rfl (any_of HT_.out (by kernel_rfl)) (fun _ _ _ h=>h) (Or.inl ⟨by rfl,?_⟩) ?_ ?_
                  rotate_left
                  ·intro w'
                   go_simp
                   with_reducible rfl
                  rotate_left
                  ·simp only [Act.put,List.setIfInBounds_toArray,List.set_cons_zero,List.set_cons_succ,i64_w,i32_w]
                   rfl
                  refine done_ (done_of HT_.out (by kernel_rfl)) ?_
                  try go_wp2
                  refine bodyPost_ret (results_list (rs:=[.cell 2 26,.cell 3 26,.tmp 4]) rfl (by simp) (.cell gb333 26 #[.bool false,.slice none 0 0,.slice (some ad363) y365.length c0_2,.slice A0_3 y370.length c0_3] (0,0) _ rfl (by apply zpe;(repeat (first|(with_reducible first|apply zb1|apply zb2|apply zb3|apply zpi|exact BK333.out)|refine blk_far ?_ NB333_334.out _));rfl) Try.underlying26 rfl (by kernel_rfl) (.cell gb334 26 #[.bool false,.slice none 0 0,.slice A113 y375.length c113,.slice A114 y380.length c114] (0,0) _ rfl (by apply zpe;(repeat (first|(with_reducible first|apply zb1|apply zb2|apply zb3|apply zpi|exact BK334.out)|refine blk_far ?_ NB334_333.out _));rfl) Try.underlying26 rfl (by kernel_rfl) (.tmp .nil)))) rfl ?_
                  exact ⟨_,_,_,_,_,_,by first|(with_reducible rfl)|(simp only [isEmpty_bne,Bool.not_not] <;> with_reducible rfl)|(simp [errW_none,errW_some] <;> with_reducible rfl)|(simp only [isEmpty_bne,Bool.not_not] <;> rfl)|rfl|(simp [errW_none,errW_some] <;> rfl)|(simp only [← hji99];first|rfl|(simp [errW_none,errW_some] <;> rfl))|(simp [*,errW_none,errW_some] <;> rfl),Kd.V_nil _ _ _ _ _,by (with_reducible repeat (first|apply Kd.V_alloc|apply Kd.V_drewN|apply Kd.V_drew));exact Kd.V_mono (Kd.V_far (p:=⟨gb334,3,none⟩) (Kd.V_far (p:=⟨gb334,2,none⟩) (Kd.V_far (p:=⟨gb334,1,none⟩) (Kd.V_far (p:=⟨gb334,0,none⟩) (Kd.V_far (p:=⟨gb333,3,none⟩) (Kd.V_far (p:=⟨gb333,2,none⟩) (Kd.V_far (p:=⟨gb333,1,none⟩) (Kd.V_far (p:=⟨gb333,0,none⟩) (Kd.V_mono (Kd.V_mono HO369.out (fun k_ hk=>(⟨hk,hk.2.2.1⟩:_∧k_ ≠ gb333))) (fun k_ hk=>(⟨hk,hk.1.2.2.2⟩:_∧k_ ≠ gb334))) (fun _ hk=>hk.1.2) (.bool false)) (fun _ hk=>hk.1.2) (.slice none 0 0)) (fun _ hk=>hk.1.2) (.slice (some ad363) y365.length c0_2)) (fun _ hk=>hk.1.2) (.slice A0_3 y370.length c0_3)) (fun _ hk=>hk.2) (.bool false)) (fun _ hk=>hk.2) (.slice none 0 0)) (fun _ hk=>hk.2) (.slice A113 y375.length c113)) (fun _ hk=>hk.2) (.slice A114 y380.length c114)) (fun _ hk=>hk.1.1.1),by (with_reducible repeat (first|apply Kd.V_alloc|apply Kd.V_drewN|apply Kd.V_drew));exact Kd.V_mono (Kd.V_far (p:=⟨gb334,3,none⟩) (Kd.V_far (p:=⟨gb334,2,none⟩) (Kd.V_far (p:=⟨gb334,1,none⟩) (Kd.V_far (p:=⟨gb334,0,none⟩) (Kd.V_far (p:=⟨gb333,3,none⟩) (Kd.V_far (p:=⟨gb333,2,none⟩) (Kd.V_far (p:=⟨gb333,1,none⟩) (Kd.V_far (p:=⟨gb333,0,none⟩) (Kd.V_mono (Kd.V_mono HO374.out (fun k_ hk=>(⟨hk,hk.2.2.1⟩:_∧k_ ≠ gb333))) (fun k_ hk=>(⟨hk,hk.1.2.2.2⟩:_∧k_ ≠ gb334))) (fun _ hk=>hk.1.2) (.bool false)) (fun _ hk=>hk.1.2) (.slice none 0 0)) (fun _ hk=>hk.1.2) (.slice (some ad363) y365.length c0_2)) (fun _ hk=>hk.1.2) (.slice A0_3 y370.length c0_3)) (fun _ hk=>hk.2) (.bool false)) (fun _ hk=>hk.2) (.slice none 0 0)) (fun _ hk=>hk.2) (.slice A113 y375.length c113)) (fun _ hk=>hk.2) (.slice A114 y380.length c114)) (fun _ hk=>hk.1.1.1),Kd.V_nil _ _ _ _ _,by (with_reducible repeat (first|apply Kd.V_alloc|apply Kd.V_drewN|apply Kd.V_drew));exact Kd.V_mono (Kd.V_far (p:=⟨gb334,3,none⟩) (Kd.V_far (p:=⟨gb334,2,none⟩) (Kd.V_far (p:=⟨gb334,1,none⟩) (Kd.V_far (p:=⟨gb334,0,none⟩) (Kd.V_far (p:=⟨gb333,3,none⟩) (Kd.V_far (p:=⟨gb333,2,none⟩) (Kd.V_far (p:=⟨gb333,1,none⟩) (Kd.V_far (p:=⟨gb333,0,none⟩) (Kd.V_mono (Kd.V_mono HO379.out (fun k_ hk=>(⟨hk,hk.2.2.1⟩:_∧k_ ≠ gb333))) (fun k_ hk=>(⟨hk,hk.1.2.2.2⟩:_∧k_ ≠ gb334))) (fun _ hk=>hk.1.2) (.bool false)) (fun _ hk=>hk.1.2) (.slice none 0 0)) (fun _ hk=>hk.1.2) (.slice (some ad363) y365.length c0_2)) (fun _ hk=>hk.1.2) (.slice A0_3 y370.length c0_3)) (fun _ hk=>hk.2) (.bool false)) (fun _ hk=>hk.2) (.slice none 0 0)) (fun _ hk=>hk.2) (.slice A113 y375.length c113)) (fun _ hk=>hk.2) (.slice A114 y380.length c114)) (fun _ hk=>hk.1.1.1),by (with_reducible repeat (first|apply Kd.V_alloc|apply Kd.V_drewN|apply Kd.V_drew));exact Kd.V_mono (Kd.V_far (p:=⟨gb334,3,none⟩) (Kd.V_far (p:=⟨gb334,2,none⟩) (Kd.V_far (p:=⟨gb334,1,none⟩) (Kd.V_far (p:=⟨gb334,0,none⟩) (Kd.V_far (p:=⟨gb333,3,none⟩) (Kd.V_far (p:=⟨gb333,2,none⟩) (Kd.V_far (p:=⟨gb333,1,none⟩) (Kd.V_far (p:=⟨gb333,0,none⟩) (Kd.V_mono (Kd.V_mono HO384.out (fun k_ hk=>(⟨hk,hk.2.2.1⟩:_∧k_ ≠ gb333))) (fun k_ hk=>(⟨hk,hk.1.2.2.2⟩:_∧k_ ≠ gb334))) (fun _ hk=>hk.1.2) (.bool false)) (fun _ hk=>hk.1.2) (.slice none 0 0)) (fun _ hk=>hk.1.2) (.slice (some ad363) y365.length c0_2)) (fun _ hk=>hk.1.2) (.slice A0_3 y370.length c0_3)) (fun _ hk=>hk.2) (.bool false)) (fun _ hk=>hk.2) (.slice none 0 0)) (fun _ hk=>hk.2) (.slice A113 y375.length c113)) (fun _ hk=>hk.2) (.slice A114 y380.length c114)) (fun _ hk=>hk.1.1.1),by repeat (first|(with_reducible first|exact HB.out|apply zl1|apply zl2|apply zl3|refine below_set ?_ GE332.out|refine below_set ?_ GE333.out|refine below_set ?_ GE334.out)|exact HB.out)⟩
                 ·rw [if_neg c106] at H
                  exact absurd H (by simp)
                ·rw [if_neg c103] at H
                 exact absurd H (by simp)
               ·rw [if_neg c101] at H
                exact absurd H (by simp)
              ·rw [if_neg c100] at H
               exact absurd H (by simp)
             ·rw [if_neg c98] at H
              exact absurd H (by simp)
            ·rw [if_neg c97] at H
             exact absurd H (by simp)
          ·rw [if_neg c90] at H
           have c90b0:decide (x9_3 < (wrap64 ((l0_2.length:Int) - 2)))=false:=decide_eq_false c90
           clear c90
           by_cases c123:0≤x9_3
           ·rw [if_pos c123] at H
            have c123b0:=eq_true c123
            have c123b1:decide (0≤x9_3)=true:=decide_eq_true c123
            clear c123
            by_cases c124:x9_3≤(l0_2.length:Int)
            ·rw [if_pos c124] at H
             have c124b0:=eq_true c124
             have c124b1:decide (x9_3≤(l0_2.length:Int))=true:=decide_eq_true c124
             clear c124
             obtain ⟨y386,hy386⟩:∃ y_:List ByteArray,y_=(l0_2.take (x9_3:Int).toNat):=⟨_,rfl⟩
             replace H:(if 0≤(wrap64 (x9_3 + 1)) then (if (wrap64 (x9_3 + 1))≤(l0_3.length:Int) then (if (wrap64 (x9_3 + 1))≤(l0_2.length:Int) then (if x9_3 < (l0_2.length:Int) then (some (false,([]:List (S43)),y386,(l0_3.take ((wrap64 (x9_3 + 1)):Int).toNat),false,([]:List (S43)),(l0_2.drop ((wrap64 (x9_3 + 1)):Int).toNat),(l0_3.drop ((wrap64 (x9_3 + 1)):Int).toNat),rdOf ByteArray.empty l0_2 x9_3)) else (none)) else (none)) else (none)) else (none))=some (r1,r2,r3,r4,r5,r6,r7,r8,r9):=by first|(rw [hy386];with_reducible exact H)|(have H2_:=(Option.bind_some _ _).symm.trans H;rw [hy386];with_reducible exact H2_)|(have H2_:=(Option.bind_some _ _).symm.trans H;with_reducible exact H2_)|with_reducible exact H|(rw [hy386];exact H)|exact H
             have Ny386:=Aside0.mk hy386
             clear hy386
             obtain ⟨ji125,hji125⟩:∃ j_:Int,(wrap64 (x9_3 + 1))=j_:=⟨_,rfl⟩
             replace H:(if 0≤(ji125) then (if (ji125)≤(l0_3.length:Int) then (if (ji125)≤(l0_2.length:Int) then (if x9_3 < (l0_2.length:Int) then (some (false,([]:List (S43)),y386,(l0_3.take ((ji125):Int).toNat),false,([]:List (S43)),(l0_2.drop ((ji125):Int).toNat),(l0_3.drop ((ji125):Int).toNat),rdOf ByteArray.empty l0_2 x9_3)) else (none)) else (none)) else (none)) else (none))=some (r1,r2,r3,r4,r5,r6,r7,r8,r9):=by first|(rw [hji125] at H;exact H)|(simp only [hji125] at H ⊢;exact H)
             have hji125w:(IntKind.i64.wrap (x9_3 + 1))=ji125:=(i64_w _).trans hji125
             by_cases c126:0≤(ji125)
             ·rw [if_pos c126] at H
              have c126b0:=eq_true c126
              have c126b1:decide (0≤(ji125))=true:=decide_eq_true c126
              clear c126
              by_cases c127:(ji125)≤(l0_3.length:Int)
              ·rw [if_pos c127] at H
               have c127b0:=eq_true c127
               have c127b1:decide ((ji125)≤(l0_3.length:Int))=true:=decide_eq_true c127
               clear c127
               obtain ⟨y391,hy391⟩:∃ y_:List Int,y_=(l0_3.take ((ji125):Int).toNat):=⟨_,rfl⟩
               replace H:(if (ji125)≤(l0_2.length:Int) then (if x9_3 < (l0_2.length:Int) then (some (false,([]:List (S43)),y386,y391,false,([]:List (S43)),(l0_2.drop ((ji125):Int).toNat),(l0_3.drop ((ji125):Int).toNat),rdOf ByteArray.empty l0_2 x9_3)) else (none)) else (none))=some (r1,r2,r3,r4,r5,r6,r7,r8,r9):=by first|(rw [hy391];with_reducible exact H)|(have H2_:=(Option.bind_some _ _).symm.trans H;rw [hy391];with_reducible exact H2_)|(have H2_:=(Option.bind_some _ _).symm.trans H;with_reducible exact H2_)|with_reducible exact H|(rw [hy391];exact H)|exact H
               have Ny391:=Aside0.mk hy391
               clear hy391
               have c128b0:=eq_true (of_decide_eq_true (by first|(with_reducible assumption)|assumption):0≤(ji125))
               by_cases c129:(ji125)≤(l0_2.length:Int)
               ·rw [if_pos c129] at H
                have c129b0:=eq_true c129
                have c129b1:decide ((ji125)≤(l0_2.length:Int))=true:=decide_eq_true c129
                clear c129
                obtain ⟨y396,hy396⟩:∃ y_:List ByteArray,y_=(l0_2.drop ((ji125):Int).toNat):=⟨_,rfl⟩
                replace H:(if x9_3 < (l0_2.length:Int) then (some (false,([]:List (S43)),y386,y391,false,([]:List (S43)),y396,(l0_3.drop ((ji125):Int).toNat),rdOf ByteArray.empty l0_2 x9_3)) else (none))=some (r1,r2,r3,r4,r5,r6,r7,r8,r9):=by first|(rw [hy396];with_reducible exact H)|(have H2_:=(Option.bind_some _ _).symm.trans H;rw [hy396];with_reducible exact H2_)|(have H2_:=(Option.bind_some _ _).symm.trans H;with_reducible exact H2_)|with_reducible exact H|(rw [hy396];exact H)|exact H
                have Ny396:=Aside0.mk hy396
                clear hy396
                have c130b0:=eq_true (of_decide_eq_true (by first|(with_reducible assumption)|assumption):0≤(ji125))
                have c131b0:=eq_true (of_decide_eq_true (by first|(with_reducible assumption)|assumption):(ji125)≤(l0_3.length:Int))
                obtain ⟨y401,hy401⟩:∃ y_:List Int,y_=(l0_3.drop ((ji125):Int).toNat):=⟨_,rfl⟩
                replace H:(if x9_3 < (l0_2.length:Int) then (some (false,([]:List (S43)),y386,y391,false,([]:List (S43)),y396,y401,rdOf ByteArray.empty l0_2 x9_3)) else (none))=some (r1,r2,r3,r4,r5,r6,r7,r8,r9):=by first|(rw [hy401];with_reducible exact H)|(have H2_:=(Option.bind_some _ _).symm.trans H;rw [hy401];with_reducible exact H2_)|(have H2_:=(Option.bind_some _ _).symm.trans H;with_reducible exact H2_)|with_reducible exact H|(rw [hy401];exact H)|exact H
                have Ny401:=Aside0.mk hy401
                clear hy401
                by_cases c132:x9_3 < (l0_2.length:Int)
                ·rw [if_pos c132] at H
                 have c132b0:decide (x9_3 < (l0_2.length:Int))=true:=decide_eq_true c132
                 clear c132
                 simp only [Option.some.injEq,Prod.mk.injEq] at H
                 obtain ⟨rfl,rfl,rfl,rfl,rfl,rfl,rfl,rfl,rfl⟩:=H
                 have hnb133:=NB332_333.out
                 have hnc133:=NB333_332.out
                 have hnb134:=NB332_334.out
                 have hnc134:=NB334_332.out
                 obtain ⟨hcz135_0,hcz135_1,hcz135_2,hcz135_3⟩:=zc4 BK332.out
                 obtain ⟨hfz135_0,hfz135_1,hfz135_2,hfz135_3⟩:=zf4 BK332.out
                 try go_wp2
                 replace HO_333001:=Aside0.mk (Kd.V_drew HO_333001.out)
                 replace HO_333002:=Aside0.mk (Kd.V_drew HO_333002.out)
                 replace HO_333003:=Aside0.mk (Kd.V_drew HO_333003.out)
                 replace BK332:=Aside0.mk (blk_drew BK332.out)
                 replace BK333:=Aside0.mk (blk_drew BK333.out)
                 replace BK334:=Aside0.mk (blk_drew BK334.out)
                 replace HB:=Aside0.mk (below_drew1 HB.out)
                 have q137:(x9_3:Int)≤((l0_2.length:Int):Int):=of_decide_eq_true (by first|(with_reducible assumption)|assumption)
                 obtain ⟨i0137,hi0137,_,hsz137,_⟩:=info_parts info9
                 have hroom137:l0_2.length≤c0_2:=(Kd.V_reads' HO_333002.out).2.1
                 have hC137:Kd.F Kd.string _ _ (some ad363) l0_2.length l0_2:=(Kd.V_at (base:=w.heap.size) HO_333002.out).2.2
                 have hcut137:=cut_to (P:=Try.prog) 23 9 .i64 Try.underlying23 hi0137 (some ad363) l0_2.length c0_2 x9_3 (of_decide_eq_true (by first|(with_reducible assumption)|assumption)) q137 hroom137
                 have hr137:=Kd.F_take (m:=(x9_3:Int).toNat) hC137 (by omega)
                 have hy137:y386.length=(x9_3:Int).toNat:=(by rw [Ny386.out,List.length_take];omega)
                 rw [← Ny386.out] at hr137
                 rw [← hy137] at hcut137
                 have HO390:=Aside0.mk (show Kd.V Kd.string 9 _ w.heap.size _ (.slice (some ad363) y386.length c0_2) y386 from Kd.V_mk (by omega) hr137)
                 have HC390:=Aside0.mk (show y386.length≤c0_2 from by omega)
                 clear hr137 hC137 hroom137 hi0137 hsz137
                 have KY137:=Aside0.mk hy137
                 clear hy137
                 replace q137:=eq_true q137
                 have q138:((ji125):Int)≤((l0_3.length:Int):Int):=of_decide_eq_true (by first|(with_reducible assumption)|assumption)
                 obtain ⟨i0138,hi0138,_,hsz138,_⟩:=info_parts info3
                 have hroom138:l0_3.length≤c0_3:=(Kd.V_reads' HO_333003.out).2.1
                 have hC138:Kd.F (Kd.int .i64) _ _ A0_3 l0_3.length l0_3:=(Kd.V_at (base:=w.heap.size) HO_333003.out).2.2
                 have hcut138:=cut_to (P:=Try.prog) 24 3 .i64 Try.underlying24 hi0138 A0_3 l0_3.length c0_3 (ji125) (of_decide_eq_true (by first|(with_reducible assumption)|assumption)) q138 hroom138
                 have hr138:=Kd.F_take (m:=((ji125):Int).toNat) hC138 (by omega)
                 have hy138:y391.length=((ji125):Int).toNat:=(by rw [Ny391.out,List.length_take];omega)
                 rw [← Ny391.out] at hr138
                 rw [← hy138] at hcut138
                 have HO395:=Aside0.mk (show Kd.V (Kd.int .i64) 3 _ w.heap.size _ (.slice A0_3 y391.length c0_3) y391 from Kd.V_mk (by omega) hr138)
                 have HC395:=Aside0.mk (show y391.length≤c0_3 from by omega)
                 clear hr138 hC138 hroom138 hi0138 hsz138
                 have KY138:=Aside0.mk hy138
                 clear hy138
                 replace q138:=eq_true q138
                 have q139:((ji125):Int)≤((l0_2.length:Int):Int):=of_decide_eq_true (by first|(with_reducible assumption)|assumption)
                 obtain ⟨i0139,hi0139,_,hsz139,_⟩:=info_parts info9
                 have hroom139:l0_2.length≤c0_2:=(Kd.V_reads' HO_333002.out).2.1
                 have hC139:Kd.F Kd.string _ _ (some ad363) l0_2.length l0_2:=(Kd.V_at (base:=w.heap.size) HO_333002.out).2.2
                 have q0139:(0:Int)≤((ji125):Int):=of_decide_eq_true (by first|(with_reducible assumption)|assumption)
                 have hcut139:=cut_from (P:=Try.prog) 23 9 .i64 Try.underlying23 hi0139 1 hsz139 (some ad363) l0_2.length c0_2 (ji125) q0139 q139
                 have hr139:=Kd.F_cut (m:=((ji125):Int).toNat) (c:=c0_2) hC139 (by omega) hroom139
                 obtain ⟨A139,hA139⟩:∃ A1,A1=(if c0_2=((ji125):Int).toNat then (some ad363) else ((some ad363):Option Addr).map (·.add (((ji125):Int).toNat * 1))):=⟨_,rfl⟩
                 obtain ⟨c139,hc139⟩:∃ c_,c_=c0_2 - ((ji125):Int).toNat:=⟨_,rfl⟩
                 have hy139:y396.length=l0_2.length - ((ji125):Int).toNat:=(by rw [Ny396.out,List.length_drop] <;> omega)
                 rw [show (l0_2).drop ((ji125):Int).toNat=y396 from Ny396.out.symm] at hr139
                 replace hr139:Kd.F Kd.string _ _ A139 y396.length y396:=(by rw [hA139];exact hr139)
                 rw [← hy139,← hA139,← hc139] at hcut139
                 have HO400:=Aside0.mk (show Kd.V Kd.string 9 _ w.heap.size _ (.slice A139 y396.length c139) y396 from Kd.V_mk (by rw [hy139,hc139];exact Nat.sub_le_sub_right hroom139 _) hr139)
                 have HC400:=Aside0.mk (show y396.length≤c139 from by rw [hy139,hc139];exact Nat.sub_le_sub_right hroom139 _)
                 clear hr139 hC139 hroom139 hi0139 hsz139 hc139
                 have KY139:=Aside0.mk hy139
                 have KA139:=Aside0.mk hA139
                 clear hy139 hA139
                 replace q139:=eq_true q139
                 have q140:((ji125):Int)≤((l0_3.length:Int):Int):=of_decide_eq_true (by first|(with_reducible assumption)|assumption)
                 obtain ⟨i0140,hi0140,_,hsz140,_⟩:=info_parts info3
                 have hroom140:l0_3.length≤c0_3:=(Kd.V_reads' HO_333003.out).2.1
                 have hC140:Kd.F (Kd.int .i64) _ _ A0_3 l0_3.length l0_3:=(Kd.V_at (base:=w.heap.size) HO_333003.out).2.2
                 have q0140:(0:Int)≤((ji125):Int):=of_decide_eq_true (by first|(with_reducible assumption)|assumption)
                 have hcut140:=cut_from (P:=Try.prog) 24 3 .i64 Try.underlying24 hi0140 1 hsz140 A0_3 l0_3.length c0_3 (ji125) q0140 q140
                 have hr140:=Kd.F_cut (m:=((ji125):Int).toNat) (c:=c0_3) hC140 (by omega) hroom140
                 obtain ⟨A140,hA140⟩:∃ A1,A1=(if c0_3=((ji125):Int).toNat then A0_3 else (A0_3:Option Addr).map (·.add (((ji125):Int).toNat * 1))):=⟨_,rfl⟩
                 obtain ⟨c140,hc140⟩:∃ c_,c_=c0_3 - ((ji125):Int).toNat:=⟨_,rfl⟩
                 have hy140:y401.length=l0_3.length - ((ji125):Int).toNat:=(by rw [Ny401.out,List.length_drop] <;> omega)
                 rw [show (l0_3).drop ((ji125):Int).toNat=y401 from Ny401.out.symm] at hr140
                 replace hr140:Kd.F (Kd.int .i64) _ _ A140 y401.length y401:=(by rw [hA140];exact hr140)
                 rw [← hy140,← hA140,← hc140] at hcut140
                 have HO405:=Aside0.mk (show Kd.V (Kd.int .i64) 3 _ w.heap.size _ (.slice A140 y401.length c140) y401 from Kd.V_mk (by rw [hy140,hc140];exact Nat.sub_le_sub_right hroom140 _) hr140)
                 have HC405:=Aside0.mk (show y401.length≤c140 from by rw [hy140,hc140];exact Nat.sub_le_sub_right hroom140 _)
                 clear hr140 hC140 hroom140 hi0140 hsz140 hc140
                 have KY140:=Aside0.mk hy140
                 have KA140:=Aside0.mk hA140
                 clear hy140 hA140
                 replace q140:=eq_true q140
                 have p406:0≤(x9_3:Int):=of_decide_eq_true (by first|(with_reducible assumption)|assumption)
                 have q406:x9_3 < (l0_2.length:Int):=of_decide_eq_true (by first|(with_reducible assumption)|assumption)
                 obtain ⟨ad406,e406,hx406_0⟩:=Kd.at_string (Kd.V_reads' HO_333002.out).2.2 x9_3 p406 q406
                 obtain rfl:ad363=ad406:=(by injection e406)
                 replace p406:=eq_true p406
                 replace q406:=eq_true q406
                 refine start_ (n:=29) (S:=fun w'=>w'.cell? ⟨gb332,0,none⟩=some (.bool a0_0)∧w'.cell? ⟨gb332,1,none⟩=some (.slice A0_1 l0_1.length c0_1)∧w'.cell? ⟨gb332,2,none⟩=some (.slice (some ad363) l0_2.length c0_2)∧w'.cell? ⟨gb332,3,none⟩=some (.slice A0_3 l0_3.length c0_3)∧w'.cell? (ad363.add (x9_3).toNat)=some (.string (rdOf ByteArray.empty l0_2 x9_3))) (ds:=[]) #[false,false,false,false,false,false,false,false,false,false,false,false,false,false,false,false,false,false,false,false,false,false,false,false,false,false,false,false,false] (by kernel_rfl) rfl rfl ⟨(blk_cell BK332.out 0).trans rfl,(blk_cell BK332.out 1).trans rfl,(blk_cell BK332.out 2).trans rfl,(blk_cell BK332.out 3).trans rfl,hx406_0⟩ (fun hHeld=>?_);refine with_tabW factotumref09_Split.tab16 factotumref09_Split.bits16 (fun HT_ HW_=>?_)
                 generalize wr.drew=w136 at HO_333001 HO_333002 HO_333003 BK332 BK333 BK334 HB HO390 HO395 HO400 HO405 hx406_0 hHeld ⊢
                 refine pure_ (i:=0) (N:=some 116) (v:=?_) (a':=?_) #[true,false,false,false,false,false,false,false,false,false,false,false,false,false,false,false,false,false,false,false,false,false,false,false,false,false,false,false,false] rfl rfl (any_of HT_.out (by kernel_rfl)) (fun _ _ _ h=>h) (Or.inl ⟨by rfl,?_⟩) ?_ ?_
                 rotate_left
                 ·intro w'
                  go_simp
                  with_reducible rfl
                 rotate_left
                 ·simp only [Act.put,List.setIfInBounds_toArray,List.set_cons_zero,List.set_cons_succ,i64_w,i32_w]
                  rfl
                 refine pure_ (i:=2) (N:=some 118) (v:=?_) (a':=?_) #[true,false,true,false,false,false,false,false,false,false,false,false,false,false,false,false,false,false,false,false,false,false,false,false,false,false,false,false,false] rfl rfl (any_of HT_.out (by kernel_rfl)) (fun _ _ _ h=>h) (Or.inl ⟨by rfl,?_⟩) ?_ ?_
                 rotate_left
                 ·intro w'
                  go_simp
                  with_reducible rfl
                 rotate_left
                 ·simp only [Act.put,List.setIfInBounds_toArray,List.set_cons_zero,List.set_cons_succ,i64_w,i32_w]
                  rfl
                 refine pure_ (i:=4) (N:=some 120) (v:=?_) (a':=?_) #[true,false,true,false,true,false,false,false,false,false,false,false,false,false,false,false,false,false,false,false,false,false,false,false,false,false,false,false,false] rfl rfl (any_of HT_.out (by kernel_rfl)) (fun _ _ _ h=>h) (Or.inl ⟨by rfl,?_⟩) ?_ ?_
                 rotate_left
                 ·intro w'
                  go_simp
                  with_reducible rfl
                 rotate_left
                 ·simp only [Act.put,List.setIfInBounds_toArray,List.set_cons_zero,List.set_cons_succ,i64_w,i32_w]
                  rfl
                 refine pure_ (i:=6) (N:=some 122) (v:=?_) (a':=?_) #[true,false,true,false,true,false,true,false,false,false,false,false,false,false,false,false,false,false,false,false,false,false,false,false,false,false,false,false,false] rfl rfl (any_of HT_.out (by kernel_rfl)) (fun _ _ _ h=>h) (Or.inl ⟨by rfl,?_⟩) ?_ ?_
                 rotate_left
                 ·intro w'
                  go_simp
                  with_reducible rfl
                 rotate_left
                 ·simp only [Act.put,List.setIfInBounds_toArray,List.set_cons_zero,List.set_cons_succ,i64_w,i32_w]
                  rfl
                 refine pure_ (i:=7) (N:=some 123) (v:=?_) (a':=?_) #[true,false,true,false,true,false,true,true,false,false,false,false,false,false,false,false,false,false,false,false,false,false,false,false,false,false,false,false,false] rfl rfl (any_of HT_.out (by kernel_rfl)) (fun _ _ _ h=>h) (Or.inl ⟨by rfl,?_⟩) ?_ ?_
                 rotate_left
                 ·intro w'
                  go_simp
                  with_reducible rfl
                 rotate_left
                 ·simp only [Act.put,List.setIfInBounds_toArray,List.set_cons_zero,List.set_cons_succ,i64_w,i32_w]
                  rfl
                 refine pure_ (i:=10) (N:=some 126) (v:=?_) (a':=?_) #[true,false,true,false,true,false,true,true,false,false,true,false,false,false,false,false,false,false,false,false,false,false,false,false,false,false,false,false,false] rfl rfl (any_of HT_.out (by kernel_rfl)) (fun _ _ _ h=>h) (Or.inl ⟨by rfl,?_⟩) ?_ ?_
                 rotate_left
                 ·intro w'
                  go_simp
                  with_reducible rfl
                 rotate_left
                 ·simp only [Act.put,List.setIfInBounds_toArray,List.set_cons_zero,List.set_cons_succ,i64_w,i32_w]
                  rfl
                 refine pure_ (i:=12) (N:=some 128) (v:=?_) (a':=?_) #[true,false,true,false,true,false,true,true,false,false,true,false,true,false,false,false,false,false,false,false,false,false,false,false,false,false,false,false,false] rfl rfl (any_of HT_.out (by kernel_rfl)) (fun _ _ _ h=>h) (Or.inl ⟨by rfl,?_⟩) ?_ ?_
                 rotate_left
                 ·intro w'
                  go_simp
                  with_reducible rfl
                 rotate_left
                 ·simp only [Act.put,List.setIfInBounds_toArray,List.set_cons_zero,List.set_cons_succ,i64_w,i32_w]
                  rfl
                 refine pure_ (i:=13) (N:=some 129) (v:=?_) (a':=?_) #[true,false,true,false,true,false,true,true,false,false,true,false,true,true,false,false,false,false,false,false,false,false,false,false,false,false,false,false,false] rfl rfl (any_of HT_.out (by kernel_rfl)) (fun _ _ _ h=>h) (Or.inl ⟨by rfl,?_⟩) ?_ ?_
                 rotate_left
                 ·intro w'
                  go_simp
                  with_reducible rfl
                 rotate_left
                 ·simp only [Act.put,List.setIfInBounds_toArray,List.set_cons_zero,List.set_cons_succ,i64_w,i32_w]
                  rfl
                 refine pure_ (i:=15) (N:=some 131) (v:=?_) (a':=?_) #[true,false,true,false,true,false,true,true,false,false,true,false,true,true,false,true,false,false,false,false,false,false,false,false,false,false,false,false,false] rfl rfl (any_of HT_.out (by kernel_rfl)) (fun _ _ _ h=>h) (Or.inl ⟨by rfl,?_⟩) ?_ ?_
                 rotate_left
                 ·intro w'
                  go_simp
                  with_reducible rfl
                 rotate_left
                 ·simp only [Act.put,List.setIfInBounds_toArray,List.set_cons_zero,List.set_cons_succ,i64_w,i32_w]
                  rfl
                 refine pure_ (i:=17) (N:=some 133) (v:=?_) (a':=?_) #[true,false,true,false,true,false,true,true,false,false,true,false,true,true,false,true,false,true,false,false,false,false,false,false,false,false,false,false,false] rfl rfl (any_of HT_.out (by kernel_rfl)) (fun _ _ _ h=>h) (Or.inl ⟨by rfl,?_⟩) ?_ ?_
                 rotate_left
                 ·intro w'
                  go_simp
                  with_reducible rfl
                 rotate_left
                 ·simp only [Act.put,List.setIfInBounds_toArray,List.set_cons_zero,List.set_cons_succ,i64_w,i32_w]
                  rfl
                 refine pure_ (i:=18) (N:=some 134) (v:=?_) (a':=?_) #[true,false,true,false,true,false,true,true,false,false,true,false,true,true,false,true,false,true,true,false,false,false,false,false,false,false,false,false,false] rfl rfl (any_of HT_.out (by kernel_rfl)) (fun _ _ _ h=>h) (Or.inl ⟨by rfl,?_⟩) ?_ ?_
                 rotate_left
                 ·intro w'
                  go_simp
                  with_reducible rfl
                 rotate_left
                 ·simp only [Act.put,List.setIfInBounds_toArray,List.set_cons_zero,List.set_cons_succ,i64_w,i32_w]
                  rfl
                 refine pure_ (i:=21) (N:=some 137) (v:=?_) (a':=?_) #[true,false,true,false,true,false,true,true,false,false,true,false,true,true,false,true,false,true,true,false,false,true,false,false,false,false,false,false,false] rfl rfl (any_of HT_.out (by kernel_rfl)) (fun _ _ _ h=>h) (Or.inl ⟨by rfl,?_⟩) ?_ ?_
                 rotate_left
                 ·intro w'
                  go_simp
                  with_reducible rfl
                 rotate_left
                 ·simp only [Act.put,List.setIfInBounds_toArray,List.set_cons_zero,List.set_cons_succ,i64_w,i32_w]
                  rfl
                 refine pure_ (i:=23) (N:=some 139) (v:=?_) (a':=?_) #[true,false,true,false,true,false,true,true,false,false,true,false,true,true,false,true,false,true,true,false,false,true,false,true,false,false,false,false,false] rfl rfl (any_of HT_.out (by kernel_rfl)) (fun _ _ _ h=>h) (Or.inl ⟨by rfl,?_⟩) ?_ ?_
                 rotate_left
                 ·intro w'
                  go_simp
                  with_reducible rfl
                 rotate_left
                 ·simp only [Act.put,List.setIfInBounds_toArray,List.set_cons_zero,List.set_cons_succ,i64_w,i32_w]
                  rfl
                 refine take_ (i:=1) (N:=some 117) (v:=?_) (a':=?_) #[true,true,true,false,true,false,true,true,false,false,true,false,true,true,false,true,false,true,true,false,false,true,false,true,false,false,false,false,false] rfl rfl (take_ofW HT_.out HW_.out (by kernel_rfl)) (fun _ _ _ h=>h) (Or.inl ⟨by rfl,?_⟩) hHeld ?_ ?_
                 rotate_left
                 ·rintro w' ⟨s0,s1,s2,s3,s4⟩
                  go_simp
                  with_reducible rfl
                 rotate_left
                 ·simp only [Act.put,List.setIfInBounds_toArray,List.set_cons_zero,List.set_cons_succ,i64_w,i32_w]
                  rfl
                 refine pure_ (i:=3) (N:=some 119) (v:=?_) (a':=?_) #[true,true,true,true,true,false,true,true,false,false,true,false,true,true,false,true,false,true,true,false,false,true,false,true,false,false,false,false,false] rfl rfl (any_of HT_.out (by kernel_rfl)) (fun _ _ _ h=>h) (Or.inl ⟨by rfl,?_⟩) ?_ ?_
                 rotate_left
                 ·intro w'
                  go_simp
                  with_reducible rfl
                 rotate_left
                 ·simp only [Act.put,List.setIfInBounds_toArray,List.set_cons_zero,List.set_cons_succ,i64_w,i32_w]
                  rfl
                 refine take_ (i:=5) (N:=some 121) (v:=?_) (a':=?_) #[true,true,true,true,true,true,true,true,false,false,true,false,true,true,false,true,false,true,true,false,false,true,false,true,false,false,false,false,false] rfl rfl (take_ofW HT_.out HW_.out (by kernel_rfl)) (fun _ _ _ h=>h) (Or.inl ⟨by rfl,?_⟩) hHeld ?_ ?_
                 rotate_left
                 ·rintro w' ⟨s0,s1,s2,s3,s4⟩
                  go_simp
                  with_reducible rfl
                 rotate_left
                 ·simp only [Act.put,List.setIfInBounds_toArray,List.set_cons_zero,List.set_cons_succ,i64_w,i32_w]
                  rfl
                 refine pure_ (i:=8) (N:=some 124) (v:=?_) (a':=?_) #[true,true,true,true,true,true,true,true,true,false,true,false,true,true,false,true,false,true,true,false,false,true,false,true,false,false,false,false,false] rfl rfl (any_of HT_.out (by kernel_rfl)) (fun _ _ _ h=>h) (Or.inl ⟨by rfl,?_⟩) ?_ ?_
                 rotate_left
                 ·intro w'
                  go_simp
                  with_reducible rfl
                 rotate_left
                 ·simp only [Act.put,List.setIfInBounds_toArray,List.set_cons_zero,List.set_cons_succ,i64_w,i32_w]
                  rfl
                 refine pure_ (i:=9) (N:=some 125) (v:=?_) (a':=?_) #[true,true,true,true,true,true,true,true,true,true,true,false,true,true,false,true,false,true,true,false,false,true,false,true,false,false,false,false,false] rfl rfl (any_of HT_.out (by kernel_rfl)) (fun _ _ _ h=>h) (Or.inl ⟨by rfl,?_⟩) ?_ ?_
                 rotate_left
                 ·intro w'
                  go_simp
                  with_reducible rfl
                 rotate_left
                 ·simp only [Act.put,List.setIfInBounds_toArray,List.set_cons_zero,List.set_cons_succ,i64_w,i32_w]
                  rfl
                 refine take_ (i:=11) (N:=some 127) (v:=?_) (a':=?_) #[true,true,true,true,true,true,true,true,true,true,true,true,true,true,false,true,false,true,true,false,false,true,false,true,false,false,false,false,false] rfl rfl (take_ofW HT_.out HW_.out (by kernel_rfl)) (fun _ _ _ h=>h) (Or.inl ⟨by rfl,?_⟩) hHeld ?_ ?_
                 rotate_left
                 ·rintro w' ⟨s0,s1,s2,s3,s4⟩
                  go_simp
                  with_reducible rfl
                 rotate_left
                 ·simp only [Act.put,List.setIfInBounds_toArray,List.set_cons_zero,List.set_cons_succ,i64_w,i32_w]
                  rfl
                 refine pure_ (i:=14) (N:=some 130) (v:=?_) (a':=?_) #[true,true,true,true,true,true,true,true,true,true,true,true,true,true,true,true,false,true,true,false,false,true,false,true,false,false,false,false,false] rfl rfl (any_of HT_.out (by kernel_rfl)) (fun _ _ _ h=>h) (Or.inl ⟨by rfl,?_⟩) ?_ ?_
                 rotate_left
                 ·intro w'
                  go_simp
                  with_reducible rfl
                 rotate_left
                 ·simp only [Act.put,List.setIfInBounds_toArray,List.set_cons_zero,List.set_cons_succ,i64_w,i32_w]
                  rfl
                 refine take_ (i:=16) (N:=some 132) (v:=?_) (a':=?_) #[true,true,true,true,true,true,true,true,true,true,true,true,true,true,true,true,true,true,true,false,false,true,false,true,false,false,false,false,false] rfl rfl (take_ofW HT_.out HW_.out (by kernel_rfl)) (fun _ _ _ h=>h) (Or.inl ⟨by rfl,?_⟩) hHeld ?_ ?_
                 rotate_left
                 ·rintro w' ⟨s0,s1,s2,s3,s4⟩
                  go_simp
                  with_reducible rfl
                 rotate_left
                 ·simp only [Act.put,List.setIfInBounds_toArray,List.set_cons_zero,List.set_cons_succ,i64_w,i32_w]
                  rfl
                 refine pure_ (i:=19) (N:=some 135) (v:=?_) (a':=?_) #[true,true,true,true,true,true,true,true,true,true,true,true,true,true,true,true,true,true,true,true,false,true,false,true,false,false,false,false,false] rfl rfl (any_of HT_.out (by kernel_rfl)) (fun _ _ _ h=>h) (Or.inl ⟨by rfl,?_⟩) ?_ ?_
                 rotate_left
                 ·intro w'
                  go_simp
                  with_reducible rfl
                 rotate_left
                 ·simp only [Act.put,List.setIfInBounds_toArray,List.set_cons_zero,List.set_cons_succ,i64_w,i32_w]
                  rfl
                 refine pure_ (i:=20) (N:=some 136) (v:=?_) (a':=?_) #[true,true,true,true,true,true,true,true,true,true,true,true,true,true,true,true,true,true,true,true,true,true,false,true,false,false,false,false,false] rfl rfl (any_of HT_.out (by kernel_rfl)) (fun _ _ _ h=>h) (Or.inl ⟨by rfl,?_⟩) ?_ ?_
                 rotate_left
                 ·intro w'
                  go_simp
                  with_reducible rfl
                 rotate_left
                 ·simp only [Act.put,List.setIfInBounds_toArray,List.set_cons_zero,List.set_cons_succ,i64_w,i32_w]
                  rfl
                 refine take_ (i:=22) (N:=some 138) (v:=?_) (a':=?_) #[true,true,true,true,true,true,true,true,true,true,true,true,true,true,true,true,true,true,true,true,true,true,true,true,false,false,false,false,false] rfl rfl (take_ofW HT_.out HW_.out (by kernel_rfl)) (fun _ _ _ h=>h) (Or.inl ⟨by rfl,?_⟩) hHeld ?_ ?_
                 rotate_left
                 ·rintro w' ⟨s0,s1,s2,s3,s4⟩
                  go_simp
                  with_reducible rfl
                 rotate_left
                 ·simp only [Act.put,List.setIfInBounds_toArray,List.set_cons_zero,List.set_cons_succ,i64_w,i32_w]
                  rfl
                 refine pure_ (i:=24) (N:=some 140) (v:=?_) (a':=?_) #[true,true,true,true,true,true,true,true,true,true,true,true,true,true,true,true,true,true,true,true,true,true,true,true,true,false,false,false,false] rfl rfl (any_of HT_.out (by kernel_rfl)) (fun _ _ _ h=>h) (Or.inl ⟨by rfl,?_⟩) ?_ ?_
                 rotate_left
                 ·intro w'
                  go_simp
                  with_reducible rfl
                 rotate_left
                 ·simp only [Act.put,List.setIfInBounds_toArray,List.set_cons_zero,List.set_cons_succ,i64_w,i32_w]
                  rfl
                 refine take_ (i:=25) (N:=some 141) (v:=?_) (a':=?_) #[true,true,true,true,true,true,true,true,true,true,true,true,true,true,true,true,true,true,true,true,true,true,true,true,true,true,false,false,false] rfl rfl (take_ofW HT_.out HW_.out (by kernel_rfl)) (fun _ _ _ h=>h) (Or.inl ⟨by rfl,?_⟩) hHeld ?_ ?_
                 rotate_left
                 ·rintro w' ⟨s0,s1,s2,s3,s4⟩
                  go_simp
                  with_reducible rfl
                 rotate_left
                 ·simp only [Act.put,List.setIfInBounds_toArray,List.set_cons_zero,List.set_cons_succ,i64_w,i32_w]
                  rfl
                 refine one_ (i:=26) (N:=none) #[true,true,true,true,true,true,true,true,true,true,true,true,true,true,true,true,true,true,true,true,true,true,true,true,true,true,true,false,false] rfl rfl (one_of HT_.out (by kernel_rfl)) (by decide) (fun K hK=>?_)
                 have hs141:w136.cell? ⟨gb333,0,none⟩=some (.bool false):=(blk_cell BK333.out 0).trans rfl
                 have hfs141:=blk_frozen BK333.out 0
                 have hns141_0:=NB332_333.out
                 have hns141_2:=NB334_333.out
                 have hms141_0:=NB333_332.out
                 have hms141_2:=NB333_334.out
                 have hs142:w136.cell? ⟨gb333,1,none⟩=some (.slice none 0 0):=(blk_cell BK333.out 1).trans rfl
                 have hfs142:=blk_frozen BK333.out 1
                 have hns142_0:=NB332_333.out
                 have hns142_2:=NB334_333.out
                 have hms142_0:=NB333_332.out
                 have hms142_2:=NB333_334.out
                 have hs143:w136.cell? ⟨gb333,2,none⟩=some (.slice none 0 0):=(blk_cell BK333.out 2).trans rfl
                 have hfs143:=blk_frozen BK333.out 2
                 have hns143_0:=NB332_333.out
                 have hns143_2:=NB334_333.out
                 have hms143_0:=NB333_332.out
                 have hms143_2:=NB333_334.out
                 have hs144:w136.cell? ⟨gb333,3,none⟩=some (.slice none 0 0):=(blk_cell BK333.out 3).trans rfl
                 have hfs144:=blk_frozen BK333.out 3
                 have hns144_0:=NB332_333.out
                 have hns144_2:=NB334_333.out
                 have hms144_0:=NB333_332.out
                 have hms144_2:=NB333_334.out
                 refine skip_ (w1:=?_) (by rfl) rfl ?_ ?_
                 rotate_left
                 ·go_simp
                  rfl
                 refine hK.out _ _ ⟨((far4 (g:=gb333) NB332_333.out).trans (hHeld.1)),((far4 (g:=gb333) NB332_333.out).trans (hHeld.2.1)),((far4 (g:=gb333) NB332_333.out).trans (hHeld.2.2.1)),((far4 (g:=gb333) NB332_333.out).trans (hHeld.2.2.2.1)),((far4 (g:=gb333) (by first|exact Kd.own_blk (Kd.V_away (of_eq_true p406) (of_eq_true q406) HO_333002.out (fun _ hk=>hk.2.2.1))|(rw [add_block];exact Kd.own_blk (Kd.V_away (of_eq_true p406) (of_eq_true q406) HO_333002.out (fun _ hk=>hk.2.2.1)))|(show (Addr.add _ _).block ≠ _;rw [add_block];exact Kd.own_blk (Kd.V_away (of_eq_true p406) (of_eq_true q406) HO_333002.out (fun _ hk=>hk.2.2.1)))|(dsimp only;exact Kd.own_blk (Kd.V_away (of_eq_true p406) (of_eq_true q406) HO_333002.out (fun _ hk=>hk.2.2.1))))).trans (hHeld.2.2.2.2))⟩ (fun hHeld=>?_)
                 clear hK K
                 refine one_ (i:=27) (N:=none) #[true,true,true,true,true,true,true,true,true,true,true,true,true,true,true,true,true,true,true,true,true,true,true,true,true,true,true,true,false] rfl rfl (one_of HT_.out (by kernel_rfl)) (by decide) (fun K hK=>?_)
                 have hs145:w136.cell? ⟨gb334,0,none⟩=some (.bool false):=(blk_cell BK334.out 0).trans rfl
                 have hfs145:=blk_frozen BK334.out 0
                 have hns145_0:=NB332_334.out
                 have hns145_1:=NB333_334.out
                 have hms145_0:=NB334_332.out
                 have hms145_1:=NB334_333.out
                 have hs146:w136.cell? ⟨gb334,1,none⟩=some (.slice none 0 0):=(blk_cell BK334.out 1).trans rfl
                 have hfs146:=blk_frozen BK334.out 1
                 have hns146_0:=NB332_334.out
                 have hns146_1:=NB333_334.out
                 have hms146_0:=NB334_332.out
                 have hms146_1:=NB334_333.out
                 have hs147:w136.cell? ⟨gb334,2,none⟩=some (.slice none 0 0):=(blk_cell BK334.out 2).trans rfl
                 have hfs147:=blk_frozen BK334.out 2
                 have hns147_0:=NB332_334.out
                 have hns147_1:=NB333_334.out
                 have hms147_0:=NB334_332.out
                 have hms147_1:=NB334_333.out
                 have hs148:w136.cell? ⟨gb334,3,none⟩=some (.slice none 0 0):=(blk_cell BK334.out 3).trans rfl
                 have hfs148:=blk_frozen BK334.out 3
                 have hns148_0:=NB332_334.out
                 have hns148_1:=NB333_334.out
                 have hms148_0:=NB334_332.out
                 have hms148_1:=NB334_333.out
                 refine skip_ (w1:=?_) (by rfl) rfl ?_ ?_
                 rotate_left
                 ·go_simp
                  rfl
                 refine hK.out _ _ ⟨((far4 (g:=gb334) NB332_334.out).trans (hHeld.1)),((far4 (g:=gb334) NB332_334.out).trans (hHeld.2.1)),((far4 (g:=gb334) NB332_334.out).trans (hHeld.2.2.1)),((far4 (g:=gb334) NB332_334.out).trans (hHeld.2.2.2.1)),((far4 (g:=gb334) (by first|exact Kd.own_blk (Kd.V_away (of_eq_true p406) (of_eq_true q406) HO_333002.out (fun _ hk=>hk.2.2.2))|(rw [add_block];exact Kd.own_blk (Kd.V_away (of_eq_true p406) (of_eq_true q406) HO_333002.out (fun _ hk=>hk.2.2.2)))|(show (Addr.add _ _).block ≠ _;rw [add_block];exact Kd.own_blk (Kd.V_away (of_eq_true p406) (of_eq_true q406) HO_333002.out (fun _ hk=>hk.2.2.2)))|(dsimp only;exact Kd.own_blk (Kd.V_away (of_eq_true p406) (of_eq_true q406) HO_333002.out (fun _ hk=>hk.2.2.2))))).trans (hHeld.2.2.2.2))⟩ (fun hHeld=>?_)
                 clear hK K
                 refine pure_ (i:=28) (N:=some 4) (v:=?_) (a':=?_) #[true,true,true,true,true,true,true,true,true,true,true,true,true,true,true,true,true,true,true,true,true,true,true,true,true,true,true,true,true] rfl rfl (any_of HT_.out (by kernel_rfl)) (fun _ _ _ h=>h) (Or.inl ⟨by rfl,?_⟩) ?_ ?_
                 rotate_left
                 ·intro w'
                  go_simp
                  with_reducible rfl
                 rotate_left
                 ·simp only [Act.put,List.setIfInBounds_toArray,List.set_cons_zero,List.set_cons_succ,i64_w,i32_w]
                  rfl
                 refine done_ (done_of HT_.out (by kernel_rfl)) ?_
                 try go_wp2
                 refine bodyPost_ret (results_list (rs:=[.cell 2 26,.cell 3 26,.tmp 4]) rfl (by simp) (.cell gb333 26 #[.bool false,.slice none 0 0,.slice (some ad363) y386.length c0_2,.slice A0_3 y391.length c0_3] (0,0) _ rfl (by apply zpe;(repeat (first|(with_reducible first|apply zb1|apply zb2|apply zb3|apply zpi|exact BK333.out)|refine blk_far ?_ NB333_334.out _));rfl) Try.underlying26 rfl (by kernel_rfl) (.cell gb334 26 #[.bool false,.slice none 0 0,.slice A139 y396.length c139,.slice A140 y401.length c140] (0,0) _ rfl (by apply zpe;(repeat (first|(with_reducible first|apply zb1|apply zb2|apply zb3|apply zpi|exact BK334.out)|refine blk_far ?_ NB334_333.out _));rfl) Try.underlying26 rfl (by kernel_rfl) (.tmp .nil)))) rfl ?_
                 exact ⟨_,_,_,_,_,_,by first|(with_reducible rfl)|(simp only [isEmpty_bne,Bool.not_not] <;> with_reducible rfl)|(simp [errW_none,errW_some] <;> with_reducible rfl)|(simp only [isEmpty_bne,Bool.not_not] <;> rfl)|rfl|(simp [errW_none,errW_some] <;> rfl)|(simp only [← hji125];first|rfl|(simp [errW_none,errW_some] <;> rfl))|(simp [*,errW_none,errW_some] <;> rfl),Kd.V_nil _ _ _ _ _,by (with_reducible repeat (first|apply Kd.V_alloc|apply Kd.V_drewN|apply Kd.V_drew));exact Kd.V_mono (Kd.V_far (p:=⟨gb334,3,none⟩) (Kd.V_far (p:=⟨gb334,2,none⟩) (Kd.V_far (p:=⟨gb334,1,none⟩) (Kd.V_far (p:=⟨gb334,0,none⟩) (Kd.V_far (p:=⟨gb333,3,none⟩) (Kd.V_far (p:=⟨gb333,2,none⟩) (Kd.V_far (p:=⟨gb333,1,none⟩) (Kd.V_far (p:=⟨gb333,0,none⟩) (Kd.V_mono (Kd.V_mono HO390.out (fun k_ hk=>(⟨hk,hk.2.2.1⟩:_∧k_ ≠ gb333))) (fun k_ hk=>(⟨hk,hk.1.2.2.2⟩:_∧k_ ≠ gb334))) (fun _ hk=>hk.1.2) (.bool false)) (fun _ hk=>hk.1.2) (.slice none 0 0)) (fun _ hk=>hk.1.2) (.slice (some ad363) y386.length c0_2)) (fun _ hk=>hk.1.2) (.slice A0_3 y391.length c0_3)) (fun _ hk=>hk.2) (.bool false)) (fun _ hk=>hk.2) (.slice none 0 0)) (fun _ hk=>hk.2) (.slice A139 y396.length c139)) (fun _ hk=>hk.2) (.slice A140 y401.length c140)) (fun _ hk=>hk.1.1.1),by (with_reducible repeat (first|apply Kd.V_alloc|apply Kd.V_drewN|apply Kd.V_drew));exact Kd.V_mono (Kd.V_far (p:=⟨gb334,3,none⟩) (Kd.V_far (p:=⟨gb334,2,none⟩) (Kd.V_far (p:=⟨gb334,1,none⟩) (Kd.V_far (p:=⟨gb334,0,none⟩) (Kd.V_far (p:=⟨gb333,3,none⟩) (Kd.V_far (p:=⟨gb333,2,none⟩) (Kd.V_far (p:=⟨gb333,1,none⟩) (Kd.V_far (p:=⟨gb333,0,none⟩) (Kd.V_mono (Kd.V_mono HO395.out (fun k_ hk=>(⟨hk,hk.2.2.1⟩:_∧k_ ≠ gb333))) (fun k_ hk=>(⟨hk,hk.1.2.2.2⟩:_∧k_ ≠ gb334))) (fun _ hk=>hk.1.2) (.bool false)) (fun _ hk=>hk.1.2) (.slice none 0 0)) (fun _ hk=>hk.1.2) (.slice (some ad363) y386.length c0_2)) (fun _ hk=>hk.1.2) (.slice A0_3 y391.length c0_3)) (fun _ hk=>hk.2) (.bool false)) (fun _ hk=>hk.2) (.slice none 0 0)) (fun _ hk=>hk.2) (.slice A139 y396.length c139)) (fun _ hk=>hk.2) (.slice A140 y401.length c140)) (fun _ hk=>hk.1.1.1),Kd.V_nil _ _ _ _ _,by (with_reducible repeat (first|apply Kd.V_alloc|apply Kd.V_drewN|apply Kd.V_drew));exact Kd.V_mono (Kd.V_far (p:=⟨gb334,3,none⟩) (Kd.V_far (p:=⟨gb334,2,none⟩) (Kd.V_far (p:=⟨gb334,1,none⟩) (Kd.V_far (p:=⟨gb334,0,none⟩) (Kd.V_far (p:=⟨gb333,3,none⟩) (Kd.V_far (p:=⟨gb333,2,none⟩) (Kd.V_far (p:=⟨gb333,1,none⟩) (Kd.V_far (p:=⟨gb333,0,none⟩) (Kd.V_mono (Kd.V_mono HO400.out (fun k_ hk=>(⟨hk,hk.2.2.1⟩:_∧k_ ≠ gb333))) (fun k_ hk=>(⟨hk,hk.1.2.2.2⟩:_∧k_ ≠ gb334))) (fun _ hk=>hk.1.2) (.bool false)) (fun _ hk=>hk.1.2) (.slice none 0 0)) (fun _ hk=>hk.1.2) (.slice (some ad363) y386.length c0_2)) (fun _ hk=>hk.1.2) (.slice A0_3 y391.length c0_3)) (fun _ hk=>hk.2) (.bool false)) (fun _ hk=>hk.2) (.slice none 0 0)) (fun _ hk=>hk.2) (.slice A139 y396.length c139)) (fun _ hk=>hk.2) (.slice A140 y401.length c140)) (fun _ hk=>hk.1.1.1),by (with_reducible repeat (first|apply Kd.V_alloc|apply Kd.V_drewN|apply Kd.V_drew));exact Kd.V_mono (Kd.V_far (p:=⟨gb334,3,none⟩) (Kd.V_far (p:=⟨gb334,2,none⟩) (Kd.V_far (p:=⟨gb334,1,none⟩) (Kd.V_far (p:=⟨gb334,0,none⟩) (Kd.V_far (p:=⟨gb333,3,none⟩) (Kd.V_far (p:=⟨gb333,2,none⟩) (Kd.V_far (p:=⟨gb333,1,none⟩) (Kd.V_far (p:=⟨gb333,0,none⟩) (Kd.V_mono (Kd.V_mono HO405.out (fun k_ hk=>(⟨hk,hk.2.2.1⟩:_∧k_ ≠ gb333))) (fun k_ hk=>(⟨hk,hk.1.2.2.2⟩:_∧k_ ≠ gb334))) (fun _ hk=>hk.1.2) (.bool false)) (fun _ hk=>hk.1.2) (.slice none 0 0)) (fun _ hk=>hk.1.2) (.slice (some ad363) y386.length c0_2)) (fun _ hk=>hk.1.2) (.slice A0_3 y391.length c0_3)) (fun _ hk=>hk.2) (.bool false)) (fun _ hk=>hk.2) (.slice none 0 0)) (fun _ hk=>hk.2) (.slice A139 y396.length c139)) (fun _ hk=>hk.2) (.slice A140 y401.length c140)) (fun _ hk=>hk.1.1.1),by repeat (first|(with_reducible first|exact HB.out|apply zl1|apply zl2|apply zl3|refine below_set ?_ GE332.out|refine below_set ?_ GE333.out|refine below_set ?_ GE334.out)|exact HB.out)⟩
                ·rw [if_neg c132] at H
                 exact absurd H (by simp)
               ·rw [if_neg c129] at H
                exact absurd H (by simp)
              ·rw [if_neg c127] at H
               exact absurd H (by simp)
             ·rw [if_neg c126] at H
              exact absurd H (by simp)
            ·rw [if_neg c124] at H
             exact absurd H (by simp)
           ·rw [if_neg c123] at H
            exact absurd H (by simp)
       ·rw [if_neg c84] at H
        exact absurd H (by simp)
      ·replace c82:=Bool.eq_false_iff.mpr c82
       subst c82
       have H1:(some (a0_0,l0_1,l0_2,l0_3,false,([]:List (S43)),([]:List ByteArray),([]:List Int),(⟨#[]⟩:ByteArray)))=some (r1,r2,r3,r4,r5,r6,r7,r8,r9):=by rw [if_neg (show ¬ (false=true) by decide)] at H;exact H
       clear H
       have H:=H1
       clear H1
       simp only [Option.some.injEq,Prod.mk.injEq] at H
       obtain ⟨rfl,rfl,rfl,rfl,rfl,rfl,rfl,rfl,rfl⟩:=H
       have hnb149:=NB332_333.out
       have hnc149:=NB333_332.out
       have hnb150:=NB332_334.out
       have hnc150:=NB334_332.out
       obtain ⟨hcz151_0,hcz151_1,hcz151_2,hcz151_3⟩:=zc4 BK332.out
       obtain ⟨hfz151_0,hfz151_1,hfz151_2,hfz151_3⟩:=zf4 BK332.out
       go_wp2_with (first|((with_reducible refine gate_store (t:=26) (p:=2) rfl ?_);refine store_all 26 gb333 26 #[.bool false,.slice none 0 0,.slice none 0 0,.slice none 0 0] #[.bool a0_0,.slice A0_1 l0_1.length c0_1,.slice A0_2 l0_2.length c0_2,.slice A0_3 l0_3.length c0_3] rfl rfl rfl (by first|rfl|(go_simp;done)) (by (with_reducible repeat (first|apply zb1|apply zb2|apply zb3));exact BK333.out) (by kernel_rfl) rfl (by kernel_rfl) ?_;intro w152 hx hg;replace HO_333001:=Aside0.mk (Kd.V_grown HO_333001.out hg (fun k_ hk_ he_=>(hk_.2.2.1) (Option.some.inj he_)));replace HO_333002:=Aside0.mk (Kd.V_grown HO_333002.out hg (fun k_ hk_ he_=>(hk_.2.2.1) (Option.some.inj he_)));replace HO_333003:=Aside0.mk (Kd.V_grown HO_333003.out hg (fun k_ hk_ he_=>(hk_.2.2.1) (Option.some.inj he_)));replace BK332:=Aside0.mk (blk_grown (g:=gb332) (o:=.cells #[.bool a0_0,.slice A0_1 l0_1.length c0_1,.slice A0_2 l0_2.length c0_2,.slice A0_3 l0_3.length c0_3] 26 (0,0)) (by (with_reducible repeat (first|apply zb1|apply zb2|apply zb3));exact BK332.out) hg (fun e_=>NB332_333.out (Option.some.inj e_)));replace BK334:=Aside0.mk (blk_grown (g:=gb334) (o:=.cells #[.bool false,.slice none 0 0,.slice none 0 0,.slice none 0 0] 26 (0,0)) (by (with_reducible repeat (first|apply zb1|apply zb2|apply zb3));exact BK334.out) hg (fun e_=>NB334_333.out (Option.some.inj e_)));replace HB:=Aside0.mk ((fun {W_:World} (hB_:Below w.heap.size w W_) (hg_:W_.grownBy w152 (some gb333))=>hB_.grown hg_ hB_.size (fun k_ e_=>by cases e_;exact GE333.out)) (by repeat (first|(with_reducible first|exact HB.out|apply zl1|apply zl2|apply zl3|refine below_set ?_ GE332.out|refine below_set ?_ GE333.out|refine below_set ?_ GE334.out)|exact HB.out)) hg);replace BK333:=Aside0.mk (hx);clear hx hg)|((with_reducible refine gate_store (t:=26) (p:=3) rfl ?_);refine store_all 26 gb334 26 #[.bool false,.slice none 0 0,.slice none 0 0,.slice none 0 0] #[.bool false,.slice none 0 0,.slice none 0 0,.slice none 0 0] rfl rfl rfl (by first|rfl|(go_simp;done)) (by (with_reducible repeat (first|apply zb1|apply zb2|apply zb3));exact BK334.out) (by kernel_rfl) rfl (by kernel_rfl) ?_;intro w153 hx hg;replace HO_333001:=Aside0.mk (Kd.V_grown HO_333001.out hg (fun k_ hk_ he_=>(hk_.2.2.2) (Option.some.inj he_)));replace HO_333002:=Aside0.mk (Kd.V_grown HO_333002.out hg (fun k_ hk_ he_=>(hk_.2.2.2) (Option.some.inj he_)));replace HO_333003:=Aside0.mk (Kd.V_grown HO_333003.out hg (fun k_ hk_ he_=>(hk_.2.2.2) (Option.some.inj he_)));replace BK332:=Aside0.mk (blk_grown (g:=gb332) (o:=.cells #[.bool a0_0,.slice A0_1 l0_1.length c0_1,.slice A0_2 l0_2.length c0_2,.slice A0_3 l0_3.length c0_3] 26 (0,0)) (by (with_reducible repeat (first|apply zb1|apply zb2|apply zb3));exact BK332.out) hg (fun e_=>NB332_334.out (Option.some.inj e_)));replace BK333:=Aside0.mk (blk_grown (g:=gb333) (o:=.cells #[.bool a0_0,.slice A0_1 l0_1.length c0_1,.slice A0_2 l0_2.length c0_2,.slice A0_3 l0_3.length c0_3] 26 (0,0)) (by (with_reducible repeat (first|apply zb1|apply zb2|apply zb3));exact BK333.out) hg (fun e_=>NB333_334.out (Option.some.inj e_)));replace HB:=Aside0.mk ((fun {W_:World} (hB_:Below w.heap.size w W_) (hg_:W_.grownBy w153 (some gb334))=>hB_.grown hg_ hB_.size (fun k_ e_=>by cases e_;exact GE334.out)) (by repeat (first|(with_reducible first|exact HB.out|apply zl1|apply zl2|apply zl3|refine below_set ?_ GE332.out|refine below_set ?_ GE333.out|refine below_set ?_ GE334.out)|exact HB.out)) hg);replace BK334:=Aside0.mk (hx);clear hx hg))
       refine bodyPost_ret (results_list (rs:=[.cell 2 26,.cell 3 26,.tmp 4]) rfl (by simp) (.cell gb333 26 #[.bool a0_0,.slice A0_1 l0_1.length c0_1,.slice A0_2 l0_2.length c0_2,.slice A0_3 l0_3.length c0_3] (0,0) _ rfl (by (with_reducible repeat (first|apply zb1|apply zb2|apply zb3));exact BK333.out) Try.underlying26 rfl (by kernel_rfl) (.cell gb334 26 #[.bool false,.slice none 0 0,.slice none 0 0,.slice none 0 0] (0,0) _ rfl (by (with_reducible repeat (first|apply zb1|apply zb2|apply zb3));exact BK334.out) Try.underlying26 rfl (by kernel_rfl) (.tmp .nil)))) rfl ?_
       exact ⟨_,_,_,_,_,_,by first|(with_reducible rfl)|(simp only [isEmpty_bne,Bool.not_not] <;> rfl)|rfl|(simp [*,errW_none,errW_some] <;> rfl),by (with_reducible repeat (first|apply Kd.V_alloc|apply Kd.V_drewN|apply Kd.V_drew));exact Kd.V_mono HO_333001.out (fun _ hk=>hk.1),by (with_reducible repeat (first|apply Kd.V_alloc|apply Kd.V_drewN|apply Kd.V_drew));exact Kd.V_mono HO_333002.out (fun _ hk=>hk.1),by (with_reducible repeat (first|apply Kd.V_alloc|apply Kd.V_drewN|apply Kd.V_drew));exact Kd.V_mono HO_333003.out (fun _ hk=>hk.1),Kd.V_nil _ _ _ _ _,Kd.V_nil _ _ _ _ _,Kd.V_nil _ _ _ _ _,by repeat (first|(with_reducible first|exact HB.out|apply zl1|apply zl2|apply zl3|refine below_set ?_ GE332.out|refine below_set ?_ GE333.out|refine below_set ?_ GE334.out)|exact HB.out)⟩

end Go.Proofs.Ytokjbncjapndgaa.PAll
