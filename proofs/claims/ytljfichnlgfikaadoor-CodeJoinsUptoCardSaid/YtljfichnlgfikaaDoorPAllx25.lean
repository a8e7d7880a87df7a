/- Printed walks of the functions that the laws reach: each function, what it computes, and that it does. No conditions. -/
import Derived.Test.YtljfichnlgfikaaDoorPAllx0
import Derived.Test.YtljfichnlgfikaaDoorPAllx15
import Derived.Test.YtljfichnlgfikaaDoorPAllx22
import Derived.Test.YtljfichnlgfikaaDoorPAllx23
import Derived.Test.YtljfichnlgfikaaDoorPAllx24
namespace Go.Proofs.YtljfichnlgfikaaDoor.PAll
open Go.RowKit Go.Proofs.YtljfichnlgfikaaDoor.XW Go.Proofs.YtljfichnlgfikaaDoor.XLib Go.Proofs.YtljfichnlgfikaaDoorW.PrintWords Go.Proofs.YtljfichnlgfikaaDoorW.PrintLast Go.Proofs.YtljfichnlgfikaaDoorW.PrintMore
attribute [local go_sem] max2_int min2_int max_two min_two max_three min_three max_four min_four   -- for this text's walks alone
set_option linter.unusedVariables false
set_option linter.unusedSimpArgs false

/-! ### factotumref13_read: function 26 -/
mutual
def factotumref13_read.l0:Nat→Int→List Int→Int→ByteArray→Int→Int→Int→Int→Int→Int→Int→Int→ByteArray→Option (Int × Int × Int × Int × Int × Int × ByteArray × Int × ByteArray × Int × Int)
 | 0,_,_,_,_,_,_,_,_,_,_,_,_,_=>none
 | k + 1,x6,x8,x9,x1000,x1001,x1002,x247000,x247001,x247002,x247003,x247004,x247005,x247006=>if x9 < x6 then ((factotumref01_Reader_Num.f k x1000 x1001 x1002 1).bind fun bt256=>(if 0≤x9 then (if x9 < (x8.length:Int) then (factotumref13_read.l0 k x6 (x8.set (x9:Int).toNat (wrap64 (bt256.1))) (wrap64 (x9 + 1)) bt256.2.1 bt256.2.2.1 bt256.2.2.2 x247000 x247001 x247002 x247003 x247004 x247005 x247006) else (none)) else (none))) else (if 0 < (x8.length:Int) then (if 1 < (x8.length:Int) then (if 2 < (x8.length:Int) then (if x247000=1 then (factotumref13_read.j1 k (x1002 != 0) x1000 x1001 x1002 x247000 (rd x8 0) (rd x8 1) (rd x8 2) x247004 x247005 x247006) else (factotumref13_read.j1 k true x1000 x1001 x1002 x247000 (rd x8 0) (rd x8 1) (rd x8 2) x247004 x247005 x247006)) else (none)) else (none)) else (none))
def factotumref13_read.j1:Nat→Bool→ByteArray→Int→Int→Int→Int→Int→Int→Int→Int→ByteArray→Option (Int × Int × Int × Int × Int × Int × ByteArray × Int × ByteArray × Int × Int)
 | 0,_,_,_,_,_,_,_,_,_,_,_=>none
 | k + 1,x61,x1000,x1001,x1002,x247000,x247001,x247002,x247003,x247004,x247005,x247006=>if x61=true then (some (x247000,x247001,x247002,x247003,x247004,x247005,x247006,x1002,x1000,x1001,x1002)) else ((factotumref01_Reader_Num.f k x1000 x1001 x1002 1).bind fun bt264=>(if bt264.2.2.2=0 then (if (wrap64 (bt264.1))=1 then ((factotumref01_Reader_Num.f k bt264.2.1 bt264.2.2.1 bt264.2.2.2 8).bind fun bt268=>(some (x247000,x247001,x247002,x247003,wrap64 (bt264.1),wrap64 (bt268.1),x247006,bt268.2.2.2,bt268.2.1,bt268.2.2.1,bt268.2.2.2))) else (if (wrap64 (bt264.1))=2 then ((factotumref01_Reader_Str.f bt264.2.1 bt264.2.2.1 bt264.2.2.2 10).bind fun bt272=>(some (x247000,x247001,x247002,x247003,wrap64 (bt264.1),x247005,bt272.1,bt272.2.2.2,bt272.2.1,bt272.2.2.1,bt272.2.2.2))) else (some (x247000,x247001,x247002,x247003,wrap64 (bt264.1),x247005,x247006,4,bt264.2.1,bt264.2.2.1,bt264.2.2.2)))) else (some (x247000,x247001,x247002,x247003,x247004,x247005,x247006,bt264.2.2.2,bt264.2.1,bt264.2.2.1,bt264.2.2.2))))
end
def factotumref13_read.f (k:Nat) (s0_0:ByteArray) (s0_1:Int) (s0_2:Int):Option (Int × Int × Int × Int × Int × Int × ByteArray × Int × ByteArray × Int × Int):=(factotumref01_Reader_Num.f k s0_0 s0_1 s0_2 1).bind fun bt247=>((factotumref13_Operands.f k (wrap64 (bt247.1))).bind fun bt251=>(if bt251.2=true then (factotumref13_read.l0 k bt251.1 (([0,0,0]:List Int)) 0 bt247.2.1 bt247.2.2.1 bt247.2.2.2 (wrap64 (bt247.1)) 0 0 0 0 0 (⟨#[]⟩:ByteArray)) else (some (wrap64 (bt247.1),0,0,0,0,0,(⟨#[]⟩:ByteArray),4,bt247.2.1,bt247.2.2.1,bt247.2.2.2))))
theorem factotumref13_read.mono_l:∀ k,(∀ y0 y1 y2 y3 y4 y5 y6 y7 y8 y9 y10 y11 y12,LeO (factotumref13_read.l0 k y0 y1 y2 y3 y4 y5 y6 y7 y8 y9 y10 y11 y12) (factotumref13_read.l0 (k + 1) y0 y1 y2 y3 y4 y5 y6 y7 y8 y9 y10 y11 y12))∧(∀ y0 y1 y2 y3 y4 y5 y6 y7 y8 y9 y10,LeO (factotumref13_read.j1 k y0 y1 y2 y3 y4 y5 y6 y7 y8 y9 y10) (factotumref13_read.j1 (k + 1) y0 y1 y2 y3 y4 y5 y6 y7 y8 y9 y10))
 | 0=>⟨fun _ _ _ _ _ _ _ _ _ _ _ _ _ r h=>by simp [factotumref13_read.l0] at h,fun _ _ _ _ _ _ _ _ _ _ _ r h=>by simp [factotumref13_read.j1] at h⟩
 | k + 1=>by
  obtain ⟨ih0,ih1⟩:=factotumref13_read.mono_l k
  refine ⟨?_,?_⟩
  ·intro y0 y1 y2 y3 y4 y5 y6 y7 y8 y9 y10 y11 y12
   unfold factotumref13_read.l0
   repeat' first
   | (with_reducible exact ih0 _ _ _ _ _ _ _ _ _ _ _ _ _)
   | (with_reducible exact ih1 _ _ _ _ _ _ _ _ _ _ _)
   | (with_reducible exact factotumref01_Reader_Num.mono _ _ _ _ _)
   | (with_reducible exact factotumref13_Operands.mono _ _)
   | (with_reducible exact LeO.refl _)
   | (with_reducible exact LeO.none _)
   | (with_reducible refine LeO.ite ?_ ?_)
   | (with_reducible refine LeO.bind ?_ (fun _=>?_))
   | exact ih0 _ _ _ _ _ _ _ _ _ _ _ _ _
   | exact ih1 _ _ _ _ _ _ _ _ _ _ _
   | exact factotumref01_Reader_Num.mono _ _ _ _ _
   | exact factotumref13_Operands.mono _ _
   | exact LeO.none _
   | refine LeO.ite ?_ ?_
   | refine LeO.bind ?_ (fun _=>?_)
  ·intro y0 y1 y2 y3 y4 y5 y6 y7 y8 y9 y10
   unfold factotumref13_read.j1
   repeat' first
   | (with_reducible exact ih0 _ _ _ _ _ _ _ _ _ _ _ _ _)
   | (with_reducible exact ih1 _ _ _ _ _ _ _ _ _ _ _)
   | (with_reducible exact factotumref01_Reader_Num.mono _ _ _ _ _)
   | (with_reducible exact factotumref13_Operands.mono _ _)
   | (with_reducible exact LeO.refl _)
   | (with_reducible exact LeO.none _)
   | (with_reducible refine LeO.ite ?_ ?_)
   | (with_reducible refine LeO.bind ?_ (fun _=>?_))
   | exact ih0 _ _ _ _ _ _ _ _ _ _ _ _ _
   | exact ih1 _ _ _ _ _ _ _ _ _ _ _
   | exact factotumref01_Reader_Num.mono _ _ _ _ _
   | exact factotumref13_Operands.mono _ _
   | exact LeO.none _
   | refine LeO.ite ?_ ?_
   | refine LeO.bind ?_ (fun _=>?_)
theorem factotumref13_read.mono:∀ a0 a1 a2 k,LeO (factotumref13_read.f k a0 a1 a2) (factotumref13_read.f (k + 1) a0 a1 a2):=by
 intro a0 a1 a2 k
 obtain ⟨ih0,ih1⟩:=factotumref13_read.mono_l k
 unfold factotumref13_read.f
 repeat' first
   | (with_reducible exact ih0 _ _ _ _ _ _ _ _ _ _ _ _ _)
   | (with_reducible exact ih1 _ _ _ _ _ _ _ _ _ _ _)
   | (with_reducible exact factotumref01_Reader_Num.mono _ _ _ _ _)
   | (with_reducible exact factotumref13_Operands.mono _ _)
   | (with_reducible exact LeO.refl _)
   | (with_reducible exact LeO.none _)
   | (with_reducible refine LeO.ite ?_ ?_)
   | (with_reducible refine LeO.bind ?_ (fun _=>?_))
   | exact ih0 _ _ _ _ _ _ _ _ _ _ _ _ _
   | exact ih1 _ _ _ _ _ _ _ _ _ _ _
   | exact factotumref01_Reader_Num.mono _ _ _ _ _
   | exact factotumref13_Operands.mono _ _
   | exact LeO.none _
   | refine LeO.ite ?_ ?_
   | refine LeO.bind ?_ (fun _=>?_)
set_option maxHeartbeats 8000000 in
set_option maxRecDepth 100000 in
theorem factotumref13_read.calls (k:Nat) (g:Nat) (s0_0:ByteArray) (s0_1:Int) (s0_2:Int) (r1:Int) (r2:Int) (r3:Int) (r4:Int) (r5:Int) (r6:Int) (r7:ByteArray) (r8:Int) (r9:ByteArray) (r10:Int) (r11:Int) (w0 w:World) (hI:IsS57 w0 w g s0_0 s0_1 s0_2) (hB:Below w0.heap.size w0 w) (h:factotumref13_read.f k s0_0 s0_1 s0_2=some (r1,r2,r3,r4,r5,r6,r7,r8,r9,r10,r11)) :
  Calls Tryd.prog 26 #[.pointer (some ⟨g,0,none⟩)] w fun e w'=>e=.returned (.tuple #[.agg #[.int .i64 r1,.int .i64 r2,.int .i64 r3,.int .i64 r4,.int .i64 r5,.int .i64 r6,.string r7],.int .i64 r8])∧IsS57 w0 w' g r9 r10 r11∧Below w0.heap.size w0 w'∧KeepBut w w' g none:=by
 have hu42:=Tryd.underlying42
 have HI0:=Aside0.mk hI
 have HK:=Aside0.mk (KeepBut.refl w g none)
 have HL:=Aside0.mk hB.size
 clear hI
 have HW0:=Aside0.mk hB.size
 have HB:=Aside0.mk hB
 clear hB
 have H:((factotumref01_Reader_Num.f k s0_0 s0_1 s0_2 1).bind fun bt247=>((factotumref13_Operands.f k (wrap64 (bt247.1))).bind fun bt251=>(if bt251.2=true then (factotumref13_read.l0 k bt251.1 (([0,0,0]:List Int)) 0 bt247.2.1 bt247.2.2.1 bt247.2.2.2 (wrap64 (bt247.1)) 0 0 0 0 0 (⟨#[]⟩:ByteArray)) else (some (wrap64 (bt247.1),0,0,0,0,0,(⟨#[]⟩:ByteArray),4,bt247.2.1,bt247.2.2.1,bt247.2.2.2)))))=some (r1,r2,r3,r4,r5,r6,r7,r8,r9,r10,r11):=h
 clear h
 replace H:=Option.bind_eq_some_iff.mp H
 obtain ⟨⟨t247,t248,t249,t250⟩,A20,H⟩:=H
 replace H:((factotumref13_Operands.f k (wrap64 (t247))).bind fun bt251=>(if bt251.2=true then (factotumref13_read.l0 k bt251.1 (([0,0,0]:List Int)) 0 t248 t249 t250 (wrap64 (t247)) 0 0 0 0 0 (⟨#[]⟩:ByteArray)) else (some (wrap64 (t247),0,0,0,0,0,(⟨#[]⟩:ByteArray),4,t248,t249,t250))))=some (r1,r2,r3,r4,r5,r6,r7,r8,r9,r10,r11):=H
 have A2:=Aside0.mk A20
 clear A20
 replace H:=Option.bind_eq_some_iff.mp H
 obtain ⟨⟨t251,t252⟩,A30,H⟩:=H
 replace H:(if t252=true then (factotumref13_read.l0 k t251 (([0,0,0]:List Int)) 0 t248 t249 t250 (wrap64 (t247)) 0 0 0 0 0 (⟨#[]⟩:ByteArray)) else (some (wrap64 (t247),0,0,0,0,0,(⟨#[]⟩:ByteArray),4,t248,t249,t250)))=some (r1,r2,r3,r4,r5,r6,r7,r8,r9,r10,r11):=H
 have A3:=Aside0.mk A30
 clear A30
 by_cases c4:t252=true
 ·subst c4
  have H1:(factotumref13_read.l0 k t251 (([0,0,0]:List Int)) 0 t248 t249 t250 (wrap64 (t247)) 0 0 0 0 0 (⟨#[]⟩:ByteArray))=some (r1,r2,r3,r4,r5,r6,r7,r8,r9,r10,r11):=by rw [if_pos rfl] at H;exact H
  clear H
  have H:=H1
  clear H1
  obtain ⟨y253,hy253⟩:∃ y_:List Int,y_=(([0,0,0]:List Int)):=⟨_,rfl⟩
  replace H:(factotumref13_read.l0 k t251 y253 0 t248 t249 t250 (wrap64 (t247)) 0 0 0 0 0 (⟨#[]⟩:ByteArray))=some (r1,r2,r3,r4,r5,r6,r7,r8,r9,r10,r11):=by first|(rw [hy253];with_reducible exact H)|(have H2_:=(Option.bind_some _ _).symm.trans H;rw [hy253];with_reducible exact H2_)|(have H2_:=(Option.bind_some _ _).symm.trans H;with_reducible exact H2_)|with_reducible exact H|(rw [hy253];exact H)|exact H
  have Ny253:=Aside0.mk hy253
  clear hy253
  have H':=Aside0.mk H
  clear H
  go_enter Tryd.func26,Tryd.ntmps26
  go_wp2_with (first|((with_reducible refine gate_dst (N:=2) rfl ?_);refine box_event ?hg (N:=2) ?hd (cs:=#[.int .i64 0,.int .i64 0,.int .i64 0,.int .i64 0,.int .i64 0,.int .i64 0,.string (⟨#[]⟩:ByteArray)]) (t:=42) ?hr ?_;(case hd=>rfl);(case hg=>rfl);(case hr=>first|(go_simp;done)|(go_simp;rfl));intro gb245 hg w5 hbox hb;replace HB:=Aside0.mk (below_step (by repeat (first|(with_reducible first|exact HB.out|apply zl1|apply zl2|apply zl3|refine below_set ?_ (IsS57.ge HI0.out))|exact HB.out)) hb);have BK245:=Aside0.mk (hbox);have GW245:=Aside0.mk ((by rw [hg];exact (keep_size (w:=w) (g:=g) (row:=none) (by repeat (first|(with_reducible first|exact HK.out|apply KeepBut.set_|apply keep_drewN|apply keep_drew|apply keep_alloc)|exact HK.out))):w.heap.size≤gb245));have GE245:=Aside0.mk ((Nat.le_trans HW0.out (by rw [hg];exact (keep_size (w:=w) (g:=g) (row:=none) (by repeat (first|(with_reducible first|exact HK.out|apply KeepBut.set_|apply keep_drewN|apply keep_drew|apply keep_alloc)|exact HK.out))):w.heap.size≤gb245):w0.heap.size≤gb245));replace HK:=Aside0.mk (KeepBut.trans (by repeat (first|(with_reducible first|exact HK.out|apply KeepBut.set_|apply keep_drewN|apply keep_drew|apply keep_alloc)|exact HK.out)) (KeepBut.of_below hb g none) (.inl rfl));have NB0_245:=Aside0.mk ((by rw [hg];exact Nat.ne_of_lt (IsS57.lt (show IsS57 w0 _ g s0_0 s0_1 s0_2 from by repeat (first|(with_reducible first|exact HI0.out|apply IsS57.alloc|apply IsS57.drewN|apply IsS57.drew|apply IsS57.set_0|apply IsS57.set_1|apply IsS57.set_2)|exact HI0.out))):g ≠ gb245));have NB245_0:=Aside0.mk ((by rw [hg];exact Nat.ne_of_gt (IsS57.lt (show IsS57 w0 _ g s0_0 s0_1 s0_2 from by repeat (first|(with_reducible first|exact HI0.out|apply IsS57.alloc|apply IsS57.drewN|apply IsS57.drew|apply IsS57.set_0|apply IsS57.set_1|apply IsS57.set_2)|exact HI0.out))):gb245 ≠ g));replace HI0:=Aside0.mk (IsS57.below (by repeat (first|(with_reducible first|exact HI0.out|apply IsS57.alloc|apply IsS57.drewN|apply IsS57.drew|apply IsS57.set_0|apply IsS57.set_1|apply IsS57.set_2)|exact HI0.out)) hb);clear hb hbox hg)|((with_reducible refine gate_dst (N:=4) rfl ?_);refine box_event ?hg (N:=4) ?hd (cs:=#[.int .i64 0,.int .i64 0,.int .i64 0,.int .i64 0,.int .i64 0,.int .i64 0,.string (⟨#[]⟩:ByteArray)]) (t:=42) ?hr ?_;(case hd=>rfl);(case hg=>rfl);(case hr=>first|(go_simp;done)|(go_simp;rfl));intro gb246 hg w6 hbox hb;replace HB:=Aside0.mk (below_step (by repeat (first|(with_reducible first|exact HB.out|apply zl1|apply zl2|apply zl3|refine below_set ?_ (IsS57.ge HI0.out)|refine below_set ?_ GE245.out)|exact HB.out)) hb);have BK246:=Aside0.mk (hbox);have GW246:=Aside0.mk ((by rw [hg];exact (keep_size (w:=w) (g:=g) (row:=none) (by repeat (first|(with_reducible first|exact HK.out|apply KeepBut.set_|apply keep_drewN|apply keep_drew|apply keep_alloc|refine keep_far ?_ GW245.out _)|exact HK.out))):w.heap.size≤gb246));have GE246:=Aside0.mk ((Nat.le_trans HW0.out (by rw [hg];exact (keep_size (w:=w) (g:=g) (row:=none) (by repeat (first|(with_reducible first|exact HK.out|apply KeepBut.set_|apply keep_drewN|apply keep_drew|apply keep_alloc|refine keep_far ?_ GW245.out _)|exact HK.out))):w.heap.size≤gb246):w0.heap.size≤gb246));replace HK:=Aside0.mk (KeepBut.trans (by repeat (first|(with_reducible first|exact HK.out|apply KeepBut.set_|apply keep_drewN|apply keep_drew|apply keep_alloc|refine keep_far ?_ GW245.out _)|exact HK.out)) (KeepBut.of_below hb g none) (.inl rfl));have NB245_246:=Aside0.mk ((by rw [hg];exact Nat.ne_of_lt (blk_lt (g:=gb245) (o:=.cells #[.int .i64 0,.int .i64 0,.int .i64 0,.int .i64 0,.int .i64 0,.int .i64 0,.string (⟨#[]⟩:ByteArray)] 42 (0,0)) (by (with_reducible repeat (first|apply zb1|apply zb2|apply zb3));exact BK245.out)):gb245 ≠ gb246));have NB246_245:=Aside0.mk ((by rw [hg];exact Nat.ne_of_gt (blk_lt (g:=gb245) (o:=.cells #[.int .i64 0,.int .i64 0,.int .i64 0,.int .i64 0,.int .i64 0,.int .i64 0,.string (⟨#[]⟩:ByteArray)] 42 (0,0)) (by (with_reducible repeat (first|apply zb1|apply zb2|apply zb3));exact BK245.out)):gb246 ≠ gb245));replace BK245:=Aside0.mk (blk_below (g:=gb245) (o:=.cells #[.int .i64 0,.int .i64 0,.int .i64 0,.int .i64 0,.int .i64 0,.int .i64 0,.string (⟨#[]⟩:ByteArray)] 42 (0,0)) (by (with_reducible repeat (first|apply zb1|apply zb2|apply zb3));exact BK245.out) hb);have NB0_246:=Aside0.mk ((by rw [hg];exact Nat.ne_of_lt (IsS57.lt (show IsS57 w0 _ g s0_0 s0_1 s0_2 from by repeat (first|(with_reducible first|exact HI0.out|apply IsS57.alloc|apply IsS57.drewN|apply IsS57.drew|apply IsS57.set_0|apply IsS57.set_1|apply IsS57.set_2|refine IsS57.far ?_ NB0_245.out _)|exact HI0.out))):g ≠ gb246));have NB246_0:=Aside0.mk ((by rw [hg];exact Nat.ne_of_gt (IsS57.lt (show IsS57 w0 _ g s0_0 s0_1 s0_2 from by repeat (first|(with_reducible first|exact HI0.out|apply IsS57.alloc|apply IsS57.drewN|apply IsS57.drew|apply IsS57.set_0|apply IsS57.set_1|apply IsS57.set_2|refine IsS57.far ?_ NB0_245.out _)|exact HI0.out))):gb246 ≠ g));replace HI0:=Aside0.mk (IsS57.below (by repeat (first|(with_reducible first|exact HI0.out|apply IsS57.alloc|apply IsS57.drewN|apply IsS57.drew|apply IsS57.set_0|apply IsS57.set_1|apply IsS57.set_2|refine IsS57.far ?_ NB0_245.out _)|exact HI0.out)) hb);clear hb hbox hg)|((with_reducible refine gate_callee (f:=39) rfl ?_);refine goesL_ (some 14) rfl rfl Tryd.func39 (by kernel_rfl) rfl #[.pointer (some ⟨g,0,none⟩),.int .i64 1] rfl (by (try simp only [List.map_toArray,List.map_cons,List.map_nil]);first|done|rfl|(simp only [List.length_drop,List.length_take];rfl)|(simp (disch:=omega) only [u64_in];rfl)) ?_;(with_reducible refine (factotumref01_Reader_Num.calls k g s0_0 s0_1 s0_2 1 t247 t248 t249 t250 w0 _ ?side1 ?side2 A2.out).mono ?_);(case side1=>repeat (first|(with_reducible first|exact HI0.out|apply IsS57.alloc|apply IsS57.drewN|apply IsS57.drew|apply IsS57.set_0|apply IsS57.set_1|apply IsS57.set_2|refine IsS57.far ?_ NB0_245.out _|refine IsS57.far ?_ NB0_246.out _)|exact HI0.out));(case side2=>repeat (first|(with_reducible first|exact HB.out|apply zl1|apply zl2|apply zl3|refine below_set ?_ (IsS57.ge HI0.out)|refine below_set ?_ GE245.out|refine below_set ?_ GE246.out)|exact HB.out));rintro e w7 ⟨rfl,hi,hb,hk⟩;refine ⟨_,rfl,?_⟩;replace BK245:=Aside0.mk (KeepBut.blk hk (g':=gb245) (o:=.cells #[.int .i64 0,.int .i64 0,.int .i64 0,.int .i64 0,.int .i64 0,.int .i64 0,.string (⟨#[]⟩:ByteArray)] 42 (0,0)) (by (with_reducible repeat (first|apply zb1|apply zb2|apply zb3));exact BK245.out) NB245_0.out (by simp));replace BK246:=Aside0.mk (KeepBut.blk hk (g':=gb246) (o:=.cells #[.int .i64 0,.int .i64 0,.int .i64 0,.int .i64 0,.int .i64 0,.int .i64 0,.string (⟨#[]⟩:ByteArray)] 42 (0,0)) (by (with_reducible repeat (first|apply zb1|apply zb2|apply zb3));exact BK246.out) NB246_0.out (by simp));replace HK:=Aside0.mk (KeepBut.trans (by repeat (first|(with_reducible first|exact HK.out|apply KeepBut.set_|apply keep_drewN|apply keep_drew|apply keep_alloc|refine keep_far ?_ GW245.out _|refine keep_far ?_ GW246.out _)|exact HK.out)) hk (.inl rfl));replace HB:=Aside0.mk (hb);replace HI0:=Aside0.mk (hi);(try clear hb);(try clear hk);(try clear hi);have hnb8:=NB246_245.out;have hnc8:=NB245_246.out;have hnb9:=NB246_0.out;have hnc9:=NB0_246.out;obtain ⟨hcz10_0,hcz10_1,hcz10_2,hcz10_3,hcz10_4,hcz10_5,hcz10_6⟩:=zc7 BK246.out;obtain ⟨hfz10_0,hfz10_1,hfz10_2,hfz10_3,hfz10_4,hfz10_5,hfz10_6⟩:=zf7 BK246.out)|((with_reducible refine gate_callee (f:=15) rfl ?_);refine goesL_ (some 21) rfl rfl Tryd.func15 (by kernel_rfl) rfl #[.int .i64 (wrap64 (t247))] rfl (by (try simp only [List.map_toArray,List.map_cons,List.map_nil]);first|done|rfl|(simp only [List.length_drop,List.length_take];rfl)|(simp (disch:=omega) only [u64_in];rfl)) ?_;(with_reducible refine (factotumref13_Operands.calls k (wrap64 (t247)) t251 true _ A3.out).mono ?_);rintro e w' ⟨rfl,⟨nd,rfl⟩⟩;refine ⟨_,rfl,?_⟩)|((with_reducible refine gate_dst (N:=27) rfl ?_);refine Kd.R_lit (Kd.int .i64) _ 3 ?hg (N:=27) ?hd (xs:=([0,0,0]:List Int)) (inner:=[.int .i64 0,.int .i64 0,.int .i64 0]) (ok:=fun _=>True) (okp:=fun _=>True) ?hr ?hp (fun _ hk=>hk) trivial (Below.refl _ _) (Nat.le_refl _) (by simp) ?_;(case hd=>rfl);(case hg=>rfl);(case hr=>first|(go_simp;done)|(go_simp;rfl));(case hp=>exact (Reps.one (show Kd.M (Kd.int .i64) _ _ _ 0 [.int .i64 0] from rfl) (Reps.one (show Kd.M (Kd.int .i64) _ _ _ 0 [.int .i64 0] from rfl) (Reps.one (show Kd.M (Kd.int .i64) _ _ _ 0 [.int .i64 0] from rfl) (Reps.none _ _)))));intro v254 w11 ho12 hb hg_ hnew_;clear hg_ hnew_;(first|rw [← Ny253.out] at ho12|(simp only [Int.reduceToNat] at ho12;rw [← Ny253.out] at ho12));have HO255:=Aside0.mk (Kd.R_lower ho12 (keep_size (w:=w) (g:=g) (row:=none) (by repeat (first|(with_reducible first|exact HK.out|apply KeepBut.set_|apply keep_drewN|apply keep_drew|apply keep_alloc|refine keep_far ?_ GW245.out _|refine keep_far ?_ GW246.out _)|exact HK.out))));replace BK245:=Aside0.mk (blk_below (g:=gb245) (o:=.cells #[.int .i64 0,.int .i64 0,.int .i64 0,.int .i64 0,.int .i64 0,.int .i64 0,.string (⟨#[]⟩:ByteArray)] 42 (0,0)) (by (repeat (first|(with_reducible first|apply zb1|apply zb2|apply zb3|exact BK245.out)|refine blk_far ?_ NB245_246.out _))) hb);replace BK246:=Aside0.mk (blk_below (g:=gb246) (o:=.cells #[.int .i64 (wrap64 (t247)),.int .i64 0,.int .i64 0,.int .i64 0,.int .i64 0,.int .i64 0,.string (⟨#[]⟩:ByteArray)] 42 (0,0)) (by apply zpe;(repeat (first|(with_reducible first|apply zb1|apply zb2|apply zb3|apply zpi|exact BK246.out)));rfl) hb);replace HK:=Aside0.mk (KeepBut.trans (by repeat (first|(with_reducible first|exact HK.out|apply KeepBut.set_|apply keep_drewN|apply keep_drew|apply keep_alloc|refine keep_far ?_ GW245.out _|refine keep_far ?_ GW246.out _)|exact HK.out)) (KeepBut.of_below hb g none) (.inl rfl));replace HB:=Aside0.mk (below_step (by repeat (first|(with_reducible first|exact HB.out|apply zl1|apply zl2|apply zl3|refine below_set ?_ (IsS57.ge HI0.out)|refine below_set ?_ GE245.out|refine below_set ?_ GE246.out)|exact HB.out)) hb);replace HI0:=Aside0.mk (IsS57.below (show IsS57 w0 _ g t248 t249 t250 from by repeat (first|(with_reducible first|exact HI0.out|apply IsS57.alloc|apply IsS57.drewN|apply IsS57.drew|apply IsS57.set_0|apply IsS57.set_1|apply IsS57.set_2|refine IsS57.far ?_ NB0_245.out _|refine IsS57.far ?_ NB0_246.out _)|exact HI0.out)) hb);clear hb ho12))
  go_loopg [9] k (fun kq v9 w'=>∃ (x8_1:List Int) (x9_1:Int) (x1000_1:ByteArray) (x1001_1:Int) (x1002_1:Int),v9=.int .i64 x9_1∧Aside0 (factotumref13_read.l0 kq t251 x8_1 x9_1 x1000_1 x1001_1 x1002_1 (wrap64 (t247)) 0 0 0 0 0 (⟨#[]⟩:ByteArray)=some (r1,r2,r3,r4,r5,r6,r7,r8,r9,r10,r11))∧Aside0 (kq≤k)∧Aside0 (Kd.R (Kd.int .i64) 3 w' w.heap.size (fun _=>True) v254 x8_1)∧Aside0 (w'.heap[gb245]?=some (.cells #[.int .i64 0,.int .i64 0,.int .i64 0,.int .i64 0,.int .i64 0,.int .i64 0,.string (⟨#[]⟩:ByteArray)] 42 (0,0)))∧Aside0 (w'.heap[gb246]?=some (.cells #[.int .i64 (wrap64 (t247)),.int .i64 0,.int .i64 0,.int .i64 0,.int .i64 0,.int .i64 0,.string (⟨#[]⟩:ByteArray)] 42 (0,0)))∧Aside0 (IsS57 w0 w' g x1000_1 x1001_1 x1002_1)∧Aside0 (KeepBut w w' g none)∧Aside0 (Below w0.heap.size w0 w'))
  case atStart=>exact ⟨(y253),(0),(t248),(t249),(t250),(by first|(with_reducible rfl)|(simp;done)|(simp [*];done)|rfl|(simp only [not_isEmpty_bne])),H',⟨Nat.le_refl _⟩,⟨by (with_reducible repeat (first|apply zk1|apply zk2|apply zk3));exact HO255.out⟩,⟨by (with_reducible repeat (first|apply zb1|apply zb2|apply zb3));exact BK245.out⟩,⟨by (with_reducible repeat (first|apply zb1|apply zb2|apply zb3));exact BK246.out⟩,⟨by repeat (first|(with_reducible first|exact HI0.out|apply IsS57.alloc|apply IsS57.drewN|apply IsS57.drew|apply IsS57.set_0|apply IsS57.set_1|apply IsS57.set_2|refine IsS57.far ?_ NB0_245.out _|refine IsS57.far ?_ NB0_246.out _)|exact HI0.out)⟩,⟨by repeat (first|(with_reducible first|exact HK.out|apply KeepBut.set_|apply keep_drewN|apply keep_drew|apply keep_alloc|refine keep_far ?_ GW245.out _|refine keep_far ?_ GW246.out _)|exact HK.out)⟩,⟨by repeat (first|(with_reducible first|exact HB.out|apply zl1|apply zl2|apply zl3|refine below_set ?_ (IsS57.ge HI0.out)|refine below_set ?_ GE245.out|refine below_set ?_ GE246.out)|exact HB.out)⟩⟩
  case round =>
   clear H'
   try clear hfz10_0 hfz10_1 hfz10_2 hfz10_3 hfz10_4 hfz10_5 hfz10_6
   try clear hcz10_0 hcz10_1 hcz10_2 hcz10_3 hcz10_4 hcz10_5 hcz10_6
   try clear c1
   try clear c2
   try clear p2
   try clear c3
   try clear c4
   try clear p6
   try clear c8
   try clear c9
   obtain ⟨x8_1,x9_1,x1000_1,x1001_1,x1002_1,rfl,HA,HK1,HO_8,BK245,BK246,HI0,HK,HB⟩:=hrel
   cases gk with
   | zero=>exact absurd HA.out (by simp [factotumref13_read.l0])
   | succ k1 =>
    have H:=HA.out
    clear HA
    simp only [factotumref13_read.l0] at H
    by_cases c13:x9_1 < t251
    ·rw [if_pos c13] at H
     have c13b0:decide (x9_1 < t251)=true:=decide_eq_true c13
     clear c13
     replace H:=Option.bind_eq_some_iff.mp H
     obtain ⟨⟨t256,t257,t258,t259⟩,A140,H⟩:=H
     replace H:(if 0≤x9_1 then (if x9_1 < (x8_1.length:Int) then (factotumref13_read.l0 k1 t251 (x8_1.set (x9_1:Int).toNat (wrap64 (t256))) (wrap64 (x9_1 + 1)) t257 t258 t259 (wrap64 (t247)) 0 0 0 0 0 (⟨#[]⟩:ByteArray)) else (none)) else (none))=some (r1,r2,r3,r4,r5,r6,r7,r8,r9,r10,r11):=H
     have A14:=Aside0.mk A140
     clear A140
     by_cases c15:0≤x9_1
     ·rw [if_pos c15] at H
      have c15b0:decide (0≤x9_1)=true:=decide_eq_true c15
      clear c15
      by_cases c16:x9_1 < (x8_1.length:Int)
      ·rw [if_pos c16] at H
       have c16b0:decide (x9_1 < (x8_1.length:Int))=true:=decide_eq_true c16
       clear c16
       obtain ⟨y260,hy260⟩:∃ y_:List Int,y_=(x8_1.set (x9_1:Int).toNat (wrap64 (t256))):=⟨_,rfl⟩
       replace H:(factotumref13_read.l0 k1 t251 y260 (wrap64 (x9_1 + 1)) t257 t258 t259 (wrap64 (t247)) 0 0 0 0 0 (⟨#[]⟩:ByteArray))=some (r1,r2,r3,r4,r5,r6,r7,r8,r9,r10,r11):=by first|(rw [hy260];with_reducible exact H)|(have H2_:=(Option.bind_some _ _).symm.trans H;rw [hy260];with_reducible exact H2_)|(have H2_:=(Option.bind_some _ _).symm.trans H;with_reducible exact H2_)|with_reducible exact H|(rw [hy260];exact H)|exact H
       have Ny260:=Aside0.mk hy260
       clear hy260
       have H':=Aside0.mk H
       clear H
       go_wp2_with (first|((with_reducible refine gate_callee (f:=39) rfl ?_);refine goesL_ (some 34) rfl rfl Tryd.func39 (by kernel_rfl) rfl #[.pointer (some ⟨g,0,none⟩),.int .i64 1] rfl (by (try simp only [List.map_toArray,List.map_cons,List.map_nil]);first|done|rfl|(simp only [List.length_drop,List.length_take];rfl)|(simp (disch:=omega) only [u64_in];rfl)) ?_;(with_reducible refine (factotumref01_Reader_Num.calls k1 g x1000_1 x1001_1 x1002_1 1 t256 t257 t258 t259 w0 _ ?side1 ?side2 A14.out).mono ?_);(case side1=>repeat (first|(with_reducible first|exact HI0.out|apply IsS57.alloc|apply IsS57.drewN|apply IsS57.drew|apply IsS57.set_0|apply IsS57.set_1|apply IsS57.set_2|refine IsS57.far ?_ NB0_245.out _|refine IsS57.far ?_ NB0_246.out _)|exact HI0.out));(case side2=>repeat (first|(with_reducible first|exact HB.out|apply zl1|apply zl2|apply zl3|refine below_set ?_ (IsS57.ge HI0.out)|refine below_set ?_ GE245.out|refine below_set ?_ GE246.out)|exact HB.out));rintro e w18 ⟨rfl,hi,hb,hk⟩;refine ⟨_,rfl,?_⟩;replace HO_8:=Aside0.mk (Kd.R_mono (Kd.R_keep (IsS57.apart (show IsS57 w0 _ g x1000_1 x1001_1 x1002_1 from by repeat (first|(with_reducible first|exact HI0.out|apply IsS57.alloc|apply IsS57.drewN|apply IsS57.drew|apply IsS57.set_0|apply IsS57.set_1|apply IsS57.set_2|refine IsS57.far ?_ NB0_245.out _|refine IsS57.far ?_ NB0_246.out _)|exact HI0.out)) (by (with_reducible repeat (first|apply zk1|apply zk2|apply zk3));exact HO_8.out) (by decide)) hk (fun _ h=>h.2)) (fun _ h=>h.1));replace BK245:=Aside0.mk (KeepBut.blk hk (g':=gb245) (o:=.cells #[.int .i64 0,.int .i64 0,.int .i64 0,.int .i64 0,.int .i64 0,.int .i64 0,.string (⟨#[]⟩:ByteArray)] 42 (0,0)) (by (with_reducible repeat (first|apply zb1|apply zb2|apply zb3));exact BK245.out) NB245_0.out (by simp));replace BK246:=Aside0.mk (KeepBut.blk hk (g':=gb246) (o:=.cells #[.int .i64 (wrap64 (t247)),.int .i64 0,.int .i64 0,.int .i64 0,.int .i64 0,.int .i64 0,.string (⟨#[]⟩:ByteArray)] 42 (0,0)) (by (with_reducible repeat (first|apply zb1|apply zb2|apply zb3));exact BK246.out) NB246_0.out (by simp));replace HK:=Aside0.mk (KeepBut.trans (by repeat (first|(with_reducible first|exact HK.out|apply KeepBut.set_|apply keep_drewN|apply keep_drew|apply keep_alloc|refine keep_far ?_ GW245.out _|refine keep_far ?_ GW246.out _)|exact HK.out)) hk (.inl rfl));replace HB:=Aside0.mk (hb);replace HI0:=Aside0.mk (hi);(try clear hb);(try clear hk);(try clear hi);have p17:0≤(x9_1:Int):=of_decide_eq_true (by first|(with_reducible assumption)|assumption);have q17:(x9_1:Int) < ((x8_1.length:Int):Int):=of_decide_eq_true (by first|(with_reducible assumption)|assumption);obtain ⟨go17,co17,eo17,gb17,gl17,cl17,HG17⟩:=Kd.R_form HO_8.out (by omega);(first|cases eo17|(injection eo17 with ea_ en_ ec_;(first|subst ea_|(injection ea_ with ea_;subst ea_));subst ec_;clear en_));have GB17:=Aside0.mk gb17;have GG17:=Aside0.mk HG17;clear gb17 gl17 HG17;obtain ⟨hx17_0,hf17_0⟩:=Kd.R_celln 0 HO_8.out (x9_1:Int) p17 q17;replace p17:=eq_true p17;replace q17:=eq_true q17;obtain ⟨hy19_,hz19_⟩:=Kd.R_celln 0 HO_8.out (x9_1:Int) (of_decide_eq_true (by first|(with_reducible assumption)|assumption)) (of_decide_eq_true (by first|(with_reducible assumption)|assumption));have HP19:=Kd.R_putg HO_8.out (x9_1:Int) (wrap64 (t256)))|((with_reducible refine gate_store (t:=3) (p:=39) rfl ?_);refine store_event (t:=3) (p:=39) (v:=?vo_w20) (w1:=(w18.setCell ⟨go17,(x9_1:Int).toNat,none⟩ (.int .i64 (wrap64 (t256))))) ?hg ?ho ?hn ?hr ?_;(case ho=>rfl);(case hg=>rfl);(case hn=>rfl);(case hr=>first|(go_simp;done)|(go_simp;rfl));intro w20 hw;have hg:w18.grownBy w20 (some go17):=(by rw [hw];exact HP19.2);have hp_:Kd.R (Kd.int .i64) 3 w20 w.heap.size (fun _=>True) (.slice (some ⟨go17,0,none⟩) x8_1.length co17) y260:=(by rw [hw,Ny260.out];exact HP19.1);clear HP19;replace BK245:=Aside0.mk (blk_grown (g:=gb245) (o:=.cells #[.int .i64 0,.int .i64 0,.int .i64 0,.int .i64 0,.int .i64 0,.int .i64 0,.string (⟨#[]⟩:ByteArray)] 42 (0,0)) (by (with_reducible repeat (first|apply zb1|apply zb2|apply zb3));exact BK245.out) hg (Kd.R_ne HO_8.out BK245.out (by decide)));replace BK246:=Aside0.mk (blk_grown (g:=gb246) (o:=.cells #[.int .i64 (wrap64 (t247)),.int .i64 0,.int .i64 0,.int .i64 0,.int .i64 0,.int .i64 0,.string (⟨#[]⟩:ByteArray)] 42 (0,0)) (by (with_reducible repeat (first|apply zb1|apply zb2|apply zb3));exact BK246.out) hg (Kd.R_ne HO_8.out BK246.out (by decide)));replace HI0:=Aside0.mk (IsS57.grown (show IsS57 w0 _ g t257 t258 t259 from by repeat (first|(with_reducible first|exact HI0.out|apply IsS57.alloc|apply IsS57.drewN|apply IsS57.drew|apply IsS57.set_0|apply IsS57.set_1|apply IsS57.set_2|refine IsS57.far ?_ NB0_245.out _|refine IsS57.far ?_ NB0_246.out _)|exact HI0.out)) hg (IsS57.own_ne HI0.out HO_8.out (by decide)));replace HB:=Aside0.mk ((by rw [hw];exact below_set (HB.out) (Nat.le_trans HL.out GB17.out):Below w0.heap.size w0 w20));replace HK:=Aside0.mk (KeepBut.trans (by repeat (first|(with_reducible first|exact HK.out|apply KeepBut.set_|apply keep_drewN|apply keep_drew|apply keep_alloc|refine keep_far ?_ GW245.out _|refine keep_far ?_ GW246.out _)|exact HK.out)) (KeepBut.of_grown hg g) (Kd.R_base2 HO_8.out));replace HO_8:=Aside0.mk (hp_);clear hg hw hp_))
       go_roundg k1
       case measure=>have:=HK1.out;omega
       case rel=>exact ⟨(y260),(wrap64 (x9_1 + 1)),(t257),(t258),(t259),(by first|(with_reducible rfl)|(simp;done)|(simp [*];done)|rfl|(simp only [not_isEmpty_bne])),H',⟨by have:=HK1.out;omega⟩,⟨by (with_reducible repeat (first|apply zk1|apply zk2|apply zk3));exact HO_8.out⟩,⟨by (with_reducible repeat (first|apply zb1|apply zb2|apply zb3));exact BK245.out⟩,⟨by (with_reducible repeat (first|apply zb1|apply zb2|apply zb3));exact BK246.out⟩,⟨by repeat (first|(with_reducible first|exact HI0.out|apply IsS57.alloc|apply IsS57.drewN|apply IsS57.drew|apply IsS57.set_0|apply IsS57.set_1|apply IsS57.set_2|refine IsS57.far ?_ NB0_245.out _|refine IsS57.far ?_ NB0_246.out _)|exact HI0.out)⟩,⟨by repeat (first|(with_reducible first|exact HK.out|apply KeepBut.set_|apply keep_drewN|apply keep_drew|apply keep_alloc|refine keep_far ?_ GW245.out _|refine keep_far ?_ GW246.out _)|exact HK.out)⟩,⟨by repeat (first|(with_reducible first|exact HB.out|apply zl1|apply zl2|apply zl3|refine below_set ?_ (IsS57.ge HI0.out)|refine below_set ?_ GE245.out|refine below_set ?_ GE246.out)|exact HB.out)⟩⟩
      ·rw [if_neg c16] at H
       exact absurd H (by simp)
     ·rw [if_neg c15] at H
      exact absurd H (by simp)
    ·rw [if_neg c13] at H
     have c13b0:decide (x9_1 < t251)=false:=decide_eq_false c13
     clear c13
     by_cases c21:0 < (x8_1.length:Int)
     ·rw [if_pos c21] at H
      have c21b0:decide (0 < (x8_1.length:Int))=true:=decide_eq_true c21
      have c21b1:decide (0 < x8_1.length)=true:=decide_eq_true (by omega)
      clear c21
      by_cases c22:1 < (x8_1.length:Int)
      ·rw [if_pos c22] at H
       have c22b0:decide (1 < (x8_1.length:Int))=true:=decide_eq_true c22
       have c22b1:decide (1 < x8_1.length)=true:=decide_eq_true (by omega)
       clear c22
       by_cases c23:2 < (x8_1.length:Int)
       ·rw [if_pos c23] at H
        have c23b0:decide (2 < (x8_1.length:Int))=true:=decide_eq_true c23
        have c23b1:decide (2 < x8_1.length)=true:=decide_eq_true (by omega)
        clear c23
        have HC24:=Aside0.mk H
        clear H
        obtain ⟨Ao25,co25,eo25⟩:=Kd.R_slice HO_8.out
        subst eo25
        have p261:0≤(0:Int):=(by omega)
        have q261:0 < (x8_1.length:Int):=of_decide_eq_true (by first|(with_reducible assumption)|assumption)
        obtain ⟨ad261,e261,hx261_0⟩:=Kd.at_int (Kd.R_reads' HO_8.out).2.2 0 p261 q261
        cases e261
        have qi261:(0 < x8_1.length)=True:=eq_true (by omega)
        (try rw [show ((0:Int)).toNat=0 from rfl] at hx261_0)
        (try rw [Addr.add_zero'] at hx261_0)
        replace p261:=eq_true p261
        replace q261:=eq_true q261
        have hnb26:=NB246_245.out
        have hnc26:=NB245_246.out
        have hnb27:=NB246_0.out
        have hnc27:=NB0_246.out
        obtain ⟨hcz28_0,hcz28_1,hcz28_2,hcz28_3,hcz28_4,hcz28_5,hcz28_6⟩:=zc7 BK246.out
        obtain ⟨hfz28_0,hfz28_1,hfz28_2,hfz28_3,hfz28_4,hfz28_5,hfz28_6⟩:=zf7 BK246.out
        have p262:0≤(1:Int):=(by omega)
        have q262:1 < (x8_1.length:Int):=of_decide_eq_true (by first|(with_reducible assumption)|assumption)
        obtain ⟨ad262,e262,hx262_0⟩:=Kd.at_int (Kd.R_reads' HO_8.out).2.2 1 p262 q262
        obtain rfl:ad261=ad262:=(by injection e262)
        (try simp only [show (1:Int).toNat=1 from rfl,Nat.reduceMul,Nat.reduceEqDiff,Go.Addr.add,↓reduceIte] at hx262_0)
        have qi262:(1 < x8_1.length)=True:=eq_true (by omega)
        (try rw [show ((1:Int)).toNat=1 from rfl] at hx262_0)
        have hn262_0:ad261.block ≠ gb246:=Kd.own_blk (Kd.R_ne HO_8.out BK246.out (by decide))
        replace hx262_0:=(cell_far (p:=⟨gb246,1,none⟩) (by first|(rw [add_block];exact hn262_0)|(show (Addr.add _ _).block ≠ _;rw [add_block];exact hn262_0)|exact hn262_0) (.int .i64 (rd x8_1 0))).trans hx262_0
        clear hn262_0
        replace p262:=eq_true p262
        replace q262:=eq_true q262
        have p263:0≤(2:Int):=(by omega)
        have q263:2 < (x8_1.length:Int):=of_decide_eq_true (by first|(with_reducible assumption)|assumption)
        obtain ⟨ad263,e263,hx263_0⟩:=Kd.at_int (Kd.R_reads' HO_8.out).2.2 2 p263 q263
        obtain rfl:ad261=ad263:=(by injection e263)
        (try simp only [show (2:Int).toNat=2 from rfl,Nat.reduceMul,Nat.reduceEqDiff,Go.Addr.add,↓reduceIte] at hx263_0)
        have qi263:(2 < x8_1.length)=True:=eq_true (by omega)
        (try rw [show ((2:Int)).toNat=2 from rfl] at hx263_0)
        have hn263_0:ad261.block ≠ gb246:=Kd.own_blk (Kd.R_ne HO_8.out BK246.out (by decide))
        have hn263_1:ad261.block ≠ gb246:=Kd.own_blk (Kd.R_ne HO_8.out BK246.out (by decide))
        replace hx263_0:=(cell_far (p:=⟨gb246,1,none⟩) (by first|(rw [add_block];exact hn263_0)|(show (Addr.add _ _).block ≠ _;rw [add_block];exact hn263_0)|exact hn263_0) (.int .i64 (rd x8_1 0))).trans hx263_0
        replace hx263_0:=(cell_far (p:=⟨gb246,2,none⟩) (by first|(rw [add_block];exact hn263_1)|(show (Addr.add _ _).block ≠ _;rw [add_block];exact hn263_1)|exact hn263_1) (.int .i64 (rd x8_1 1))).trans hx263_0
        clear hn263_0
        clear hn263_1
        replace p263:=eq_true p263
        replace q263:=eq_true q263
        go_upto_region 16 with (fail)
        go_cut [61] (fun v61 wc=>∃ (kq:Nat) (x61_23:Bool),v61=.bool x61_23∧Aside0 (factotumref13_read.j1 kq x61_23 x1000_1 x1001_1 x1002_1 (wrap64 (t247)) (rd x8_1 0) (rd x8_1 1) (rd x8_1 2) 0 0 (⟨#[]⟩:ByteArray)=some (r1,r2,r3,r4,r5,r6,r7,r8,r9,r10,r11))∧Aside0 (kq≤k1)∧Aside0 (wc.heap[gb245]?=some (.cells #[.int .i64 0,.int .i64 0,.int .i64 0,.int .i64 0,.int .i64 0,.int .i64 0,.string (⟨#[]⟩:ByteArray)] 42 (0,0)))∧Aside0 (wc.heap[gb246]?=some (.cells #[.int .i64 (wrap64 (t247)),.int .i64 (rd x8_1 0),.int .i64 (rd x8_1 1),.int .i64 (rd x8_1 2),.int .i64 0,.int .i64 0,.string (⟨#[]⟩:ByteArray)] 42 (0,0)))∧Aside0 (IsS57 w0 wc g x1000_1 x1001_1 x1002_1)∧Aside0 (KeepBut w wc g none)∧Aside0 (Below w0.heap.size w0 wc))
        case first =>
         have H:=HC24.out
         clear HC24
         by_cases c29:(wrap64 (t247))=1
         ·rw [if_pos c29] at H
          have c29b0:((wrap64 (t247)) == 1)=true:=beq_iff_eq.mpr c29
          have c29b1:((wrap64 (t247)) != 1)=false:=bne_eq_false_iff_eq.mpr c29
          clear c29
          (first|rw [c29b0]|(simp only [i64_w,i32_w];rw [c29b0])|skip)
          have H':=Aside0.mk H
          clear H
          have hnb30:=NB246_245.out
          have hnc30:=NB245_246.out
          have hnb31:=NB246_0.out
          have hnc31:=NB0_246.out
          obtain ⟨hcz32_0,hcz32_1,hcz32_2,hcz32_3,hcz32_4,hcz32_5,hcz32_6⟩:=zc7 BK246.out
          obtain ⟨hfz32_0,hfz32_1,hfz32_2,hfz32_3,hfz32_4,hfz32_5,hfz32_6⟩:=zf7 BK246.out
          obtain ⟨HGz33,hgz33⟩:=HI0.out
          have hcz33_0:=cellS57_0 HGz33
          have hcz33_1:=cellS57_1 HGz33
          have hcz33_2:=cellS57_2 HGz33
          have hfz33_0:=blk_frozen HGz33 0
          have hfz33_1:=blk_frozen HGz33 1
          have hfz33_2:=blk_frozen HGz33 2
          clear HGz33 hgz33
          go_wp2
          go_meet
          case rel=>exact ⟨_,((x1002_1 != 0)),(by first|(with_reducible rfl)|(simp;done)|(simp [*];done)|rfl|(simp only [not_isEmpty_bne])),H',⟨by have:=HK1.out;first|omega|exact Nat.le_refl _⟩,⟨by (repeat (first|(with_reducible first|apply zb1|apply zb2|apply zb3|exact BK245.out)|refine blk_far ?_ NB245_246.out _))⟩,⟨by apply zpe;(repeat (first|(with_reducible first|apply zb1|apply zb2|apply zb3|apply zpi|exact BK246.out)));rfl⟩,⟨by repeat (first|(with_reducible first|exact HI0.out|apply IsS57.alloc|apply IsS57.drewN|apply IsS57.drew|apply IsS57.set_0|apply IsS57.set_1|apply IsS57.set_2|refine IsS57.far ?_ NB0_245.out _|refine IsS57.far ?_ NB0_246.out _)|exact HI0.out)⟩,⟨by repeat (first|(with_reducible first|exact HK.out|apply KeepBut.set_|apply keep_drewN|apply keep_drew|apply keep_alloc|refine keep_far ?_ GW245.out _|refine keep_far ?_ GW246.out _)|exact HK.out)⟩,⟨by repeat (first|(with_reducible first|exact HB.out|apply zl1|apply zl2|apply zl3|refine below_set ?_ (IsS57.ge HI0.out)|refine below_set ?_ GE245.out|refine below_set ?_ GE246.out)|exact HB.out)⟩⟩
         ·rw [if_neg c29] at H
          have c29b0:((wrap64 (t247)) == 1)=false:=beq_eq_false_iff_ne.mpr c29
          have c29b1:((wrap64 (t247)) != 1)=true:=bne_iff_ne.mpr c29
          (first|rw [c29b0]|(simp only [i64_w,i32_w];rw [c29b0])|skip)
          have H':=Aside0.mk H
          clear H
          have hnb34:=NB246_245.out
          have hnc34:=NB245_246.out
          have hnb35:=NB246_0.out
          have hnc35:=NB0_246.out
          obtain ⟨hcz36_0,hcz36_1,hcz36_2,hcz36_3,hcz36_4,hcz36_5,hcz36_6⟩:=zc7 BK246.out
          obtain ⟨hfz36_0,hfz36_1,hfz36_2,hfz36_3,hfz36_4,hfz36_5,hfz36_6⟩:=zf7 BK246.out
          go_wp2
          go_meet
          case rel=>exact ⟨_,(true),(by first|(with_reducible rfl)|(simp;done)|(simp [*];done)|rfl|(simp only [not_isEmpty_bne])),H',⟨by have:=HK1.out;first|omega|exact Nat.le_refl _⟩,⟨by (repeat (first|(with_reducible first|apply zb1|apply zb2|apply zb3|exact BK245.out)|refine blk_far ?_ NB245_246.out _))⟩,⟨by apply zpe;(repeat (first|(with_reducible first|apply zb1|apply zb2|apply zb3|apply zpi|exact BK246.out)));rfl⟩,⟨by repeat (first|(with_reducible first|exact HI0.out|apply IsS57.alloc|apply IsS57.drewN|apply IsS57.drew|apply IsS57.set_0|apply IsS57.set_1|apply IsS57.set_2|refine IsS57.far ?_ NB0_245.out _|refine IsS57.far ?_ NB0_246.out _)|exact HI0.out)⟩,⟨by repeat (first|(with_reducible first|exact HK.out|apply KeepBut.set_|apply keep_drewN|apply keep_drew|apply keep_alloc|refine keep_far ?_ GW245.out _|refine keep_far ?_ GW246.out _)|exact HK.out)⟩,⟨by repeat (first|(with_reducible first|exact HB.out|apply zl1|apply zl2|apply zl3|refine below_set ?_ (IsS57.ge HI0.out)|refine below_set ?_ GE245.out|refine below_set ?_ GE246.out)|exact HB.out)⟩⟩
        case rest =>
         clear HC24
         try clear c1
         try clear p1
         try clear q1
         try clear hx1
         try clear hf1
         try clear c2
         try clear p2
         try clear q2
         try clear hx2
         try clear qi2
         try clear c3
         try clear c4
         try clear p6
         try clear c8
         try clear c9
         try clear c13
         try clear c13b0
         try clear c15
         try clear c15b0
         try clear c16
         try clear c16b0
         try clear p17
         try clear q17
         try clear hx17
         try clear hf17
         try clear c21
         try clear c21b0
         try clear c21b1
         try clear c22
         try clear c22b0
         try clear hcz10_0 hcz10_1 hcz10_2 hcz10_3 hcz10_4 hcz10_5 hcz10_6 hcz28_0 hcz28_1 hcz28_2 hcz28_3 hcz28_4 hcz28_5
         try clear c22b1
         try clear c23
         try clear c23b0
         try clear c23b1
         try clear c26
         try clear p26
         try clear q26
         try clear hx26
         try clear qi26
         try clear c27
         try clear c29
         try clear c29b0
         try clear c29b1
         try clear c30
         try clear c31
         try clear c34
         try clear c35
         try clear hfz10_0 hfz10_1 hfz10_2 hfz10_3 hfz10_4 hfz10_5 hfz10_6 hfz28_0 hfz28_1 hfz28_2 hfz28_3 hfz28_4
         try clear hcz28_6 hcz32_0 hcz32_1 hcz32_2 hcz32_3 hcz32_4 hcz32_5 hcz32_6 hcz33_0 hcz33_1 hcz33_2 hcz36_0 hcz36_1 hcz36_2 hcz36_3 hcz36_4 hcz36_5 hcz36_6
         try clear hfz28_5 hfz28_6 hfz32_0 hfz32_1 hfz32_2 hfz32_3 hfz32_4 hfz32_5 hfz32_6 hfz33_0 hfz33_1 hfz33_2 hfz36_0 hfz36_1 hfz36_2 hfz36_3 hfz36_4 hfz36_5 hfz36_6
         try clear hx17_0
         try clear hx261_0
         try clear hx262_0
         try clear hx263_0
         try clear p17
         try clear p2
         try clear p261
         try clear p262
         try clear p263
         try clear p6
         try clear q17
         try clear q261
         try clear q262
         try clear q263
         obtain ⟨kq,x61_23,rfl,HA,HJ23,BK245,BK246,HI0,HK,HB⟩:=hcut
         cases kq with
         | zero=>exact absurd HA.out (by simp [factotumref13_read.j1])
         | succ kj23 =>
          have H:=HA.out
          clear HA
          simp only [factotumref13_read.j1] at H
          by_cases c37:x61_23=true
          ·subst c37
           have H1:(some ((wrap64 (t247)),(rd x8_1 0),(rd x8_1 1),(rd x8_1 2),0,0,(⟨#[]⟩:ByteArray),x1002_1,x1000_1,x1001_1,x1002_1))=some (r1,r2,r3,r4,r5,r6,r7,r8,r9,r10,r11):=by rw [if_pos rfl] at H;exact H
           clear H
           have H:=H1
           clear H1
           simp only [Option.some.injEq,Prod.mk.injEq] at H
           obtain ⟨rfl,rfl,rfl,rfl,rfl,rfl,rfl,rfl,rfl,rfl,rfl⟩:=H
           try go_wp2
           replace BK245:=Aside0.mk (blk_drew BK245.out)
           replace BK246:=Aside0.mk (blk_drew BK246.out)
           replace HI0:=Aside0.mk (IsS57.drew HI0.out)
           replace HK:=Aside0.mk (keep_drew HK.out)
           replace HB:=Aside0.mk (below_drew1 HB.out)
           refine start_ (n:=7) (S:=fun w'=>w'.cell? ⟨gb246,0,none⟩=some (.int .i64 (wrap64 (t247)))∧w'.cell? ⟨gb246,1,none⟩=some (.int .i64 (rd x8_1 0))∧w'.cell? ⟨gb246,2,none⟩=some (.int .i64 (rd x8_1 1))∧w'.cell? ⟨gb246,3,none⟩=some (.int .i64 (rd x8_1 2))∧w'.cell? ⟨gb246,4,none⟩=some (.int .i64 0)∧w'.cell? ⟨gb246,5,none⟩=some (.int .i64 0)∧w'.cell? ⟨gb246,6,none⟩=some (.string (⟨#[]⟩:ByteArray))∧w'.cell? ⟨g,0,none⟩=some (.string x1000_1)∧w'.cell? ⟨g,1,none⟩=some (.int .i64 x1001_1)∧w'.cell? ⟨g,2,none⟩=some (.int .i64 x1002_1)) (ds:=[]) #[false,false,false,false,false,false,false] (by kernel_rfl) rfl rfl ⟨(blk_cell BK246.out 0).trans rfl,(blk_cell BK246.out 1).trans rfl,(blk_cell BK246.out 2).trans rfl,(blk_cell BK246.out 3).trans rfl,(blk_cell BK246.out 4).trans rfl,(blk_cell BK246.out 5).trans rfl,(blk_cell BK246.out 6).trans rfl,(cellS57_0 HI0.out.1),(cellS57_1 HI0.out.1),(cellS57_2 HI0.out.1)⟩ (fun hHeld=>?_)
           generalize wc.drew=w38 at BK245 BK246 HI0 HK HB hHeld ⊢
           refine pure_ (i:=1) (N:=some 63) (v:=?_) (a':=?_) #[false,true,false,false,false,false,false] rfl rfl (by kernel_rfl) (fun _ _ _ h=>h) (Or.inl ⟨by rfl,?_⟩) ?_ ?_
           rotate_left
           ·intro w'
            go_simp
            with_reducible rfl
           rotate_left
           ·simp only [Act.put,List.setIfInBounds_toArray,List.set_cons_zero,List.set_cons_succ,i64_w,i32_w]
            rfl
           refine pure_ (i:=2) (N:=some 64) (v:=?_) (a':=?_) #[false,true,true,false,false,false,false] rfl rfl (by kernel_rfl) (fun _ _ _ h=>h) (Or.inl ⟨by rfl,?_⟩) ?_ ?_
           rotate_left
           ·intro w'
            go_simp
            with_reducible rfl
           rotate_left
           ·simp only [Act.put,List.setIfInBounds_toArray,List.set_cons_zero,List.set_cons_succ,i64_w,i32_w]
            rfl
           refine pure_ (i:=3) (N:=some 65) (v:=?_) (a':=?_) #[false,true,true,true,false,false,false] rfl rfl (by kernel_rfl) (fun _ _ _ h=>h) (Or.inl ⟨by rfl,?_⟩) ?_ ?_
           rotate_left
           ·intro w'
            go_simp
            with_reducible rfl
           rotate_left
           ·simp only [Act.put,List.setIfInBounds_toArray,List.set_cons_zero,List.set_cons_succ,i64_w,i32_w]
            rfl
           refine take_ (i:=0) (N:=some 62) (v:=?_) (a':=?_) #[true,true,true,true,false,false,false] rfl rfl (by kernel_rfl) (fun _ _ _ h=>h) (Or.inl ⟨by rfl,?_⟩) hHeld ?_ ?_
           rotate_left
           ·rintro w' ⟨s0,s1,s2,s3,s4,s5,s6,s7,s8,s9⟩
            go_simp
            with_reducible rfl
           rotate_left
           ·simp only [Act.put,List.setIfInBounds_toArray,List.set_cons_zero,List.set_cons_succ,i64_w,i32_w]
            rfl
           refine take_ (i:=4) (N:=some 66) (v:=?_) (a':=?_) #[true,true,true,true,true,false,false] rfl rfl (by kernel_rfl) (fun _ _ _ h=>h) (Or.inl ⟨by rfl,?_⟩) hHeld ?_ ?_
           rotate_left
           ·rintro w' ⟨s0,s1,s2,s3,s4,s5,s6,s7,s8,s9⟩
            go_simp
            with_reducible rfl
           rotate_left
           ·simp only [Act.put,List.setIfInBounds_toArray,List.set_cons_zero,List.set_cons_succ,i64_w,i32_w]
            rfl
           refine one_ (i:=5) (N:=none) #[true,true,true,true,true,true,false] rfl rfl (by kernel_rfl) (by decide) (fun K hK=>?_)
           have hs39:w38.cell? ⟨gb245,0,none⟩=some (.int .i64 0):=(blk_cell BK245.out 0).trans rfl
           have hfs39:=blk_frozen BK245.out 0
           have hns39_1:=NB246_245.out
           have hms39_1:=NB245_246.out
           have hs40:w38.cell? ⟨gb245,1,none⟩=some (.int .i64 0):=(blk_cell BK245.out 1).trans rfl
           have hfs40:=blk_frozen BK245.out 1
           have hns40_1:=NB246_245.out
           have hms40_1:=NB245_246.out
           have hs41:w38.cell? ⟨gb245,2,none⟩=some (.int .i64 0):=(blk_cell BK245.out 2).trans rfl
           have hfs41:=blk_frozen BK245.out 2
           have hns41_1:=NB246_245.out
           have hms41_1:=NB245_246.out
           have hs42:w38.cell? ⟨gb245,3,none⟩=some (.int .i64 0):=(blk_cell BK245.out 3).trans rfl
           have hfs42:=blk_frozen BK245.out 3
           have hns42_1:=NB246_245.out
           have hms42_1:=NB245_246.out
           have hs43:w38.cell? ⟨gb245,4,none⟩=some (.int .i64 0):=(blk_cell BK245.out 4).trans rfl
           have hfs43:=blk_frozen BK245.out 4
           have hns43_1:=NB246_245.out
           have hms43_1:=NB245_246.out
           have hs44:w38.cell? ⟨gb245,5,none⟩=some (.int .i64 0):=(blk_cell BK245.out 5).trans rfl
           have hfs44:=blk_frozen BK245.out 5
           have hns44_1:=NB246_245.out
           have hms44_1:=NB245_246.out
           have hs45:w38.cell? ⟨gb245,6,none⟩=some (.string (⟨#[]⟩:ByteArray)):=(blk_cell BK245.out 6).trans rfl
           have hfs45:=blk_frozen BK245.out 6
           have hns45_1:=NB246_245.out
           have hms45_1:=NB245_246.out
           refine skip_ (w1:=?_) (by rfl) rfl ?_ ?_
           rotate_left
           ·go_simp
            rfl
           refine hK.out _ _ ⟨((cell_far (p:=⟨gb245,_,none⟩) NB246_245.out _).trans (((cell_far (p:=⟨gb245,_,none⟩) NB246_245.out _).trans (((cell_far (p:=⟨gb245,_,none⟩) NB246_245.out _).trans (((cell_far (p:=⟨gb245,_,none⟩) NB246_245.out _).trans (((cell_far (p:=⟨gb245,_,none⟩) NB246_245.out _).trans (((cell_far (p:=⟨gb245,_,none⟩) NB246_245.out _).trans (((cell_far (p:=⟨gb245,_,none⟩) NB246_245.out _).trans (hHeld.1)))))))))))))),((cell_far (p:=⟨gb245,_,none⟩) NB246_245.out _).trans (((cell_far (p:=⟨gb245,_,none⟩) NB246_245.out _).trans (((cell_far (p:=⟨gb245,_,none⟩) NB246_245.out _).trans (((cell_far (p:=⟨gb245,_,none⟩) NB246_245.out _).trans (((cell_far (p:=⟨gb245,_,none⟩) NB246_245.out _).trans (((cell_far (p:=⟨gb245,_,none⟩) NB246_245.out _).trans (((cell_far (p:=⟨gb245,_,none⟩) NB246_245.out _).trans (hHeld.2.1)))))))))))))),((cell_far (p:=⟨gb245,_,none⟩) NB246_245.out _).trans (((cell_far (p:=⟨gb245,_,none⟩) NB246_245.out _).trans (((cell_far (p:=⟨gb245,_,none⟩) NB246_245.out _).trans (((cell_far (p:=⟨gb245,_,none⟩) NB246_245.out _).trans (((cell_far (p:=⟨gb245,_,none⟩) NB246_245.out _).trans (((cell_far (p:=⟨gb245,_,none⟩) NB246_245.out _).trans (((cell_far (p:=⟨gb245,_,none⟩) NB246_245.out _).trans (hHeld.2.2.1)))))))))))))),((cell_far (p:=⟨gb245,_,none⟩) NB246_245.out _).trans (((cell_far (p:=⟨gb245,_,none⟩) NB246_245.out _).trans (((cell_far (p:=⟨gb245,_,none⟩) NB246_245.out _).trans (((cell_far (p:=⟨gb245,_,none⟩) NB246_245.out _).trans (((cell_far (p:=⟨gb245,_,none⟩) NB246_245.out _).trans (((cell_far (p:=⟨gb245,_,none⟩) NB246_245.out _).trans (((cell_far (p:=⟨gb245,_,none⟩) NB246_245.out _).trans (hHeld.2.2.2.1)))))))))))))),((cell_far (p:=⟨gb245,_,none⟩) NB246_245.out _).trans (((cell_far (p:=⟨gb245,_,none⟩) NB246_245.out _).trans (((cell_far (p:=⟨gb245,_,none⟩) NB246_245.out _).trans (((cell_far (p:=⟨gb245,_,none⟩) NB246_245.out _).trans (((cell_far (p:=⟨gb245,_,none⟩) NB246_245.out _).trans (((cell_far (p:=⟨gb245,_,none⟩) NB246_245.out _).trans (((cell_far (p:=⟨gb245,_,none⟩) NB246_245.out _).trans (hHeld.2.2.2.2.1)))))))))))))),((cell_far (p:=⟨gb245,_,none⟩) NB246_245.out _).trans (((cell_far (p:=⟨gb245,_,none⟩) NB246_245.out _).trans (((cell_far (p:=⟨gb245,_,none⟩) NB246_245.out _).trans (((cell_far (p:=⟨gb245,_,none⟩) NB246_245.out _).trans (((cell_far (p:=⟨gb245,_,none⟩) NB246_245.out _).trans (((cell_far (p:=⟨gb245,_,none⟩) NB246_245.out _).trans (((cell_far (p:=⟨gb245,_,none⟩) NB246_245.out _).trans (hHeld.2.2.2.2.2.1)))))))))))))),((cell_far (p:=⟨gb245,_,none⟩) NB246_245.out _).trans (((cell_far (p:=⟨gb245,_,none⟩) NB246_245.out _).trans (((cell_far (p:=⟨gb245,_,none⟩) NB246_245.out _).trans (((cell_far (p:=⟨gb245,_,none⟩) NB246_245.out _).trans (((cell_far (p:=⟨gb245,_,none⟩) NB246_245.out _).trans (((cell_far (p:=⟨gb245,_,none⟩) NB246_245.out _).trans (((cell_far (p:=⟨gb245,_,none⟩) NB246_245.out _).trans (hHeld.2.2.2.2.2.2.1)))))))))))))),((cell_far (p:=⟨gb245,_,none⟩) NB0_245.out _).trans (((cell_far (p:=⟨gb245,_,none⟩) NB0_245.out _).trans (((cell_far (p:=⟨gb245,_,none⟩) NB0_245.out _).trans (((cell_far (p:=⟨gb245,_,none⟩) NB0_245.out _).trans (((cell_far (p:=⟨gb245,_,none⟩) NB0_245.out _).trans (((cell_far (p:=⟨gb245,_,none⟩) NB0_245.out _).trans (((cell_far (p:=⟨gb245,_,none⟩) NB0_245.out _).trans (hHeld.2.2.2.2.2.2.2.1)))))))))))))),((cell_far (p:=⟨gb245,_,none⟩) NB0_245.out _).trans (((cell_far (p:=⟨gb245,_,none⟩) NB0_245.out _).trans (((cell_far (p:=⟨gb245,_,none⟩) NB0_245.out _).trans (((cell_far (p:=⟨gb245,_,none⟩) NB0_245.out _).trans (((cell_far (p:=⟨gb245,_,none⟩) NB0_245.out _).trans (((cell_far (p:=⟨gb245,_,none⟩) NB0_245.out _).trans (((cell_far (p:=⟨gb245,_,none⟩) NB0_245.out _).trans (hHeld.2.2.2.2.2.2.2.2.1)))))))))))))),((cell_far (p:=⟨gb245,_,none⟩) NB0_245.out _).trans (((cell_far (p:=⟨gb245,_,none⟩) NB0_245.out _).trans (((cell_far (p:=⟨gb245,_,none⟩) NB0_245.out _).trans (((cell_far (p:=⟨gb245,_,none⟩) NB0_245.out _).trans (((cell_far (p:=⟨gb245,_,none⟩) NB0_245.out _).trans (((cell_far (p:=⟨gb245,_,none⟩) NB0_245.out _).trans (((cell_far (p:=⟨gb245,_,none⟩) NB0_245.out _).trans (hHeld.2.2.2.2.2.2.2.2.2))))))))))))))⟩ (fun hHeld=>?_)
           clear hK K
           refine pure_ (i:=6) (N:=some 3) (v:=?_) (a':=?_) #[true,true,true,true,true,true,true] rfl rfl (by kernel_rfl) (fun _ _ _ h=>h) (Or.inl ⟨by rfl,?_⟩) ?_ ?_
           rotate_left
           ·intro w'
            go_simp
            with_reducible rfl
           rotate_left
           ·simp only [Act.put,List.setIfInBounds_toArray,List.set_cons_zero,List.set_cons_succ,i64_w,i32_w]
            rfl
           refine done_ (by kernel_rfl) ?_
           try go_wp2
           refine bodyPost_ret (results_ct rfl _ _ gb245 42 #[.int .i64 (wrap64 (t247)),.int .i64 (rd x8_1 0),.int .i64 (rd x8_1 1),.int .i64 (rd x8_1 2),.int .i64 0,.int .i64 0,.string (⟨#[]⟩:ByteArray)] (0,0) _ rfl (by apply zpe;(repeat (first|(with_reducible first|apply zb1|apply zb2|apply zb3|apply zpi|exact BK245.out)));rfl) Tryd.underlying42 rfl (by kernel_rfl)) rfl ?_
           exact ⟨by first|(with_reducible rfl)|(simp only [isEmpty_bne,Bool.not_not] <;> rfl)|rfl|(simp [*,errW_none,errW_some] <;> rfl),by repeat (first|(with_reducible first|exact HI0.out|apply IsS57.alloc|apply IsS57.drewN|apply IsS57.drew|apply IsS57.set_0|apply IsS57.set_1|apply IsS57.set_2|refine IsS57.far ?_ NB0_245.out _|refine IsS57.far ?_ NB0_246.out _)|exact HI0.out),by repeat (first|(with_reducible first|exact HB.out|apply zl1|apply zl2|apply zl3|refine below_set ?_ (IsS57.ge HI0.out)|refine below_set ?_ GE245.out|refine below_set ?_ GE246.out)|exact HB.out),by repeat (first|(with_reducible first|exact HK.out|apply KeepBut.set_|apply keep_drewN|apply keep_drew|apply keep_alloc|refine keep_far ?_ GW245.out _|refine keep_far ?_ GW246.out _)|exact HK.out)⟩
          ·replace c37:=Bool.eq_false_iff.mpr c37
           subst c37
           have H1:((factotumref01_Reader_Num.f kj23 x1000_1 x1001_1 x1002_1 1).bind fun bt264=>(if bt264.2.2.2=0 then (if (wrap64 (bt264.1))=1 then ((factotumref01_Reader_Num.f kj23 bt264.2.1 bt264.2.2.1 bt264.2.2.2 8).bind fun bt268=>(some ((wrap64 (t247)),(rd x8_1 0),(rd x8_1 1),(rd x8_1 2),wrap64 (bt264.1),wrap64 (bt268.1),(⟨#[]⟩:ByteArray),bt268.2.2.2,bt268.2.1,bt268.2.2.1,bt268.2.2.2))) else (if (wrap64 (bt264.1))=2 then ((factotumref01_Reader_Str.f bt264.2.1 bt264.2.2.1 bt264.2.2.2 10).bind fun bt272=>(some ((wrap64 (t247)),(rd x8_1 0),(rd x8_1 1),(rd x8_1 2),wrap64 (bt264.1),0,bt272.1,bt272.2.2.2,bt272.2.1,bt272.2.2.1,bt272.2.2.2))) else (some ((wrap64 (t247)),(rd x8_1 0),(rd x8_1 1),(rd x8_1 2),wrap64 (bt264.1),0,(⟨#[]⟩:ByteArray),4,bt264.2.1,bt264.2.2.1,bt264.2.2.2)))) else (some ((wrap64 (t247)),(rd x8_1 0),(rd x8_1 1),(rd x8_1 2),0,0,(⟨#[]⟩:ByteArray),bt264.2.2.2,bt264.2.1,bt264.2.2.1,bt264.2.2.2))))=some (r1,r2,r3,r4,r5,r6,r7,r8,r9,r10,r11):=by rw [if_neg (show ¬ (false=true) by decide)] at H;exact H
           clear H
           have H:=H1
           clear H1
           replace H:=Option.bind_eq_some_iff.mp H
           obtain ⟨⟨t264,t265,t266,t267⟩,A460,H⟩:=H
           replace H:(if t267=0 then (if (wrap64 (t264))=1 then ((factotumref01_Reader_Num.f kj23 t265 t266 t267 8).bind fun bt268=>(some ((wrap64 (t247)),(rd x8_1 0),(rd x8_1 1),(rd x8_1 2),wrap64 (t264),wrap64 (bt268.1),(⟨#[]⟩:ByteArray),bt268.2.2.2,bt268.2.1,bt268.2.2.1,bt268.2.2.2))) else (if (wrap64 (t264))=2 then ((factotumref01_Reader_Str.f t265 t266 t267 10).bind fun bt272=>(some ((wrap64 (t247)),(rd x8_1 0),(rd x8_1 1),(rd x8_1 2),wrap64 (t264),0,bt272.1,bt272.2.2.2,bt272.2.1,bt272.2.2.1,bt272.2.2.2))) else (some ((wrap64 (t247)),(rd x8_1 0),(rd x8_1 1),(rd x8_1 2),wrap64 (t264),0,(⟨#[]⟩:ByteArray),4,t265,t266,t267)))) else (some ((wrap64 (t247)),(rd x8_1 0),(rd x8_1 1),(rd x8_1 2),0,0,(⟨#[]⟩:ByteArray),t267,t265,t266,t267)))=some (r1,r2,r3,r4,r5,r6,r7,r8,r9,r10,r11):=H
           have A46:=Aside0.mk A460
           clear A460
           by_cases c47:t267=0
           ·rw [if_pos c47] at H
            have c47b0:(t267 == 0)=true:=beq_iff_eq.mpr c47
            have c47b1:(t267 != 0)=false:=bne_eq_false_iff_eq.mpr c47
            clear c47
            by_cases c48:(wrap64 (t264))=1
            ·rw [if_pos c48] at H
             have c48b0:((wrap64 (t264)) == 1)=true:=beq_iff_eq.mpr c48
             have c48b1:((wrap64 (t264)) != 1)=false:=bne_eq_false_iff_eq.mpr c48
             clear c48
             replace H:=Option.bind_eq_some_iff.mp H
             obtain ⟨⟨t268,t269,t270,t271⟩,A490,H⟩:=H
             replace H:(some ((wrap64 (t247)),(rd x8_1 0),(rd x8_1 1),(rd x8_1 2),wrap64 (t264),wrap64 (t268),(⟨#[]⟩:ByteArray),t271,t269,t270,t271))=some (r1,r2,r3,r4,r5,r6,r7,r8,r9,r10,r11):=H
             have A49:=Aside0.mk A490
             clear A490
             simp only [Option.some.injEq,Prod.mk.injEq] at H
             obtain ⟨rfl,rfl,rfl,rfl,rfl,rfl,rfl,rfl,rfl,rfl,rfl⟩:=H
             try go_wp2_with (first|((with_reducible refine gate_callee (f:=39) rfl ?_);refine goesL_ (some 68) rfl rfl Tryd.func39 (by kernel_rfl) rfl #[.pointer (some ⟨g,0,none⟩),.int .i64 1] rfl (by (try simp only [List.map_toArray,List.map_cons,List.map_nil]);first|done|rfl|(simp only [List.length_drop,List.length_take];rfl)|(simp (disch:=omega) only [u64_in];rfl)) ?_;(with_reducible refine (factotumref01_Reader_Num.calls kj23 g x1000_1 x1001_1 x1002_1 1 t264 t265 t266 t267 w0 _ ?side1 ?side2 A46.out).mono ?_);(case side1=>repeat (first|(with_reducible first|exact HI0.out|apply IsS57.alloc|apply IsS57.drewN|apply IsS57.drew|apply IsS57.set_0|apply IsS57.set_1|apply IsS57.set_2|refine IsS57.far ?_ NB0_245.out _|refine IsS57.far ?_ NB0_246.out _)|exact HI0.out));(case side2=>repeat (first|(with_reducible first|exact HB.out|apply zl1|apply zl2|apply zl3|refine below_set ?_ (IsS57.ge HI0.out)|refine below_set ?_ GE245.out|refine below_set ?_ GE246.out)|exact HB.out));rintro e w50 ⟨rfl,hi,hb,hk⟩;refine ⟨_,rfl,?_⟩;replace BK245:=Aside0.mk (KeepBut.blk hk (g':=gb245) (o:=.cells #[.int .i64 0,.int .i64 0,.int .i64 0,.int .i64 0,.int .i64 0,.int .i64 0,.string (⟨#[]⟩:ByteArray)] 42 (0,0)) (by (with_reducible repeat (first|apply zb1|apply zb2|apply zb3));exact BK245.out) NB245_0.out (by simp));replace BK246:=Aside0.mk (KeepBut.blk hk (g':=gb246) (o:=.cells #[.int .i64 (wrap64 (t247)),.int .i64 (rd x8_1 0),.int .i64 (rd x8_1 1),.int .i64 (rd x8_1 2),.int .i64 0,.int .i64 0,.string (⟨#[]⟩:ByteArray)] 42 (0,0)) (by (with_reducible repeat (first|apply zb1|apply zb2|apply zb3));exact BK246.out) NB246_0.out (by simp));replace HK:=Aside0.mk (KeepBut.trans (by repeat (first|(with_reducible first|exact HK.out|apply KeepBut.set_|apply keep_drewN|apply keep_drew|apply keep_alloc|refine keep_far ?_ GW245.out _|refine keep_far ?_ GW246.out _)|exact HK.out)) hk (.inl rfl));replace HB:=Aside0.mk (hb);replace HI0:=Aside0.mk (hi);(try clear hb);(try clear hk);(try clear hi);obtain ⟨HGz51,hgz51⟩:=HI0.out;have hcz51_0:=cellS57_0 HGz51;have hcz51_1:=cellS57_1 HGz51;have hcz51_2:=cellS57_2 HGz51;have hfz51_0:=blk_frozen HGz51 0;have hfz51_1:=blk_frozen HGz51 1;have hfz51_2:=blk_frozen HGz51 2;clear HGz51 hgz51;have hnb52:=NB246_245.out;have hnc52:=NB245_246.out;have hnb53:=NB246_0.out;have hnc53:=NB0_246.out;obtain ⟨hcz54_0,hcz54_1,hcz54_2,hcz54_3,hcz54_4,hcz54_5,hcz54_6⟩:=zc7 BK246.out;obtain ⟨hfz54_0,hfz54_1,hfz54_2,hfz54_3,hfz54_4,hfz54_5,hfz54_6⟩:=zf7 BK246.out)|((with_reducible refine gate_callee (f:=39) rfl ?_);refine goesL_ (some 90) rfl rfl Tryd.func39 (by kernel_rfl) rfl #[.pointer (some ⟨g,0,none⟩),.int .i64 8] rfl (by (try simp only [List.map_toArray,List.map_cons,List.map_nil]);first|done|rfl|(simp only [List.length_drop,List.length_take];rfl)|(simp (disch:=omega) only [u64_in];rfl)) ?_;(with_reducible refine (factotumref01_Reader_Num.calls kj23 g t265 t266 t267 8 t268 t269 t270 t271 w0 _ ?side1 ?side2 A49.out).mono ?_);(case side1=>repeat (first|(with_reducible first|exact HI0.out|apply IsS57.alloc|apply IsS57.drewN|apply IsS57.drew|apply IsS57.set_0|apply IsS57.set_1|apply IsS57.set_2|refine IsS57.far ?_ NB0_245.out _|refine IsS57.far ?_ NB0_246.out _)|exact HI0.out));(case side2=>repeat (first|(with_reducible first|exact HB.out|apply zl1|apply zl2|apply zl3|refine below_set ?_ (IsS57.ge HI0.out)|refine below_set ?_ GE245.out|refine below_set ?_ GE246.out)|exact HB.out));rintro e w55 ⟨rfl,hi,hb,hk⟩;refine ⟨_,rfl,?_⟩;replace BK245:=Aside0.mk (KeepBut.blk hk (g':=gb245) (o:=.cells #[.int .i64 0,.int .i64 0,.int .i64 0,.int .i64 0,.int .i64 0,.int .i64 0,.string (⟨#[]⟩:ByteArray)] 42 (0,0)) (by (repeat (first|(with_reducible first|apply zb1|apply zb2|apply zb3|exact BK245.out)|refine blk_far ?_ NB245_246.out _))) NB245_0.out (by simp));replace BK246:=Aside0.mk (KeepBut.blk hk (g':=gb246) (o:=.cells #[.int .i64 (wrap64 (t247)),.int .i64 (rd x8_1 0),.int .i64 (rd x8_1 1),.int .i64 (rd x8_1 2),.int .i64 (wrap64 (t264)),.int .i64 0,.string (⟨#[]⟩:ByteArray)] 42 (0,0)) (by apply zpe;(repeat (first|(with_reducible first|apply zb1|apply zb2|apply zb3|apply zpi|exact BK246.out)));rfl) NB246_0.out (by simp));replace HK:=Aside0.mk (KeepBut.trans (by repeat (first|(with_reducible first|exact HK.out|apply KeepBut.set_|apply keep_drewN|apply keep_drew|apply keep_alloc|refine keep_far ?_ GW245.out _|refine keep_far ?_ GW246.out _)|exact HK.out)) hk (.inl rfl));replace HB:=Aside0.mk (hb);replace HI0:=Aside0.mk (hi);(try clear hb);(try clear hk);(try clear hi);obtain ⟨hcz56_0,hcz56_1,hcz56_2,hcz56_3,hcz56_4,hcz56_5,hcz56_6⟩:=zc7 BK246.out;obtain ⟨hfz56_0,hfz56_1,hfz56_2,hfz56_3,hfz56_4,hfz56_5,hfz56_6⟩:=zf7 BK246.out))
             have n0_:Aside0 ((w55.setCell ⟨gb246,5,none⟩ (.int .i64 (wrap64 (t268)))).heap[gb245]?=some (.cells #[.int .i64 0,.int .i64 0,.int .i64 0,.int .i64 0,.int .i64 0,.int .i64 0,.string (⟨#[]⟩:ByteArray)] 42 (0,0))):=⟨by (repeat (first|(with_reducible first|apply zb1|apply zb2|apply zb3|exact BK245.out)|refine blk_far ?_ NB245_246.out _))⟩
             have n1_:Aside0 ((w55.setCell ⟨gb246,5,none⟩ (.int .i64 (wrap64 (t268)))).heap[gb246]?=some (.cells #[.int .i64 (wrap64 (t247)),.int .i64 (rd x8_1 0),.int .i64 (rd x8_1 1),.int .i64 (rd x8_1 2),.int .i64 (wrap64 (t264)),.int .i64 (wrap64 (t268)),.string (⟨#[]⟩:ByteArray)] 42 (0,0))):=⟨by apply zpe;(repeat (first|(with_reducible first|apply zb1|apply zb2|apply zb3|apply zpi|exact BK246.out)));rfl⟩
             have n2_:Aside0 (IsS57 w0 (w55.setCell ⟨gb246,5,none⟩ (.int .i64 (wrap64 (t268)))) g t269 t270 t271):=⟨by repeat (first|(with_reducible first|exact HI0.out|apply IsS57.alloc|apply IsS57.drewN|apply IsS57.drew|apply IsS57.set_0|apply IsS57.set_1|apply IsS57.set_2|refine IsS57.far ?_ NB0_245.out _|refine IsS57.far ?_ NB0_246.out _)|exact HI0.out)⟩
             have n3_:Aside0 (KeepBut w (w55.setCell ⟨gb246,5,none⟩ (.int .i64 (wrap64 (t268)))) g none):=⟨by repeat (first|(with_reducible first|exact HK.out|apply KeepBut.set_|apply keep_drewN|apply keep_drew|apply keep_alloc|refine keep_far ?_ GW245.out _|refine keep_far ?_ GW246.out _)|exact HK.out)⟩
             have n4_:Aside0 (Below w0.heap.size w0 (w55.setCell ⟨gb246,5,none⟩ (.int .i64 (wrap64 (t268))))):=⟨by repeat (first|(with_reducible first|exact HB.out|apply zl1|apply zl2|apply zl3|refine below_set ?_ (IsS57.ge HI0.out)|refine below_set ?_ GE245.out|refine below_set ?_ GE246.out)|exact HB.out)⟩
             (try clear BK245)
             (try clear BK246)
             (try clear HI0)
             (try clear HK)
             (try clear HB)
             generalize (w55.setCell ⟨gb246,5,none⟩ (.int .i64 (wrap64 (t268))))=w57 at n0_ n1_ n2_ n3_ n4_ ⊢
             have BK245:=n0_
             have BK246:=n1_
             have HI0:=n2_
             have HK:=n3_
             have HB:=n4_
             clear n0_ n1_ n2_ n3_ n4_
             replace BK245:=Aside0.mk (blk_drew BK245.out)
             replace BK246:=Aside0.mk (blk_drew BK246.out)
             replace HI0:=Aside0.mk (IsS57.drew HI0.out)
             replace HK:=Aside0.mk (keep_drew HK.out)
             replace HB:=Aside0.mk (below_drew1 HB.out)
             refine start_ (n:=7) (S:=fun w'=>w'.cell? ⟨gb246,0,none⟩=some (.int .i64 (wrap64 (t247)))∧w'.cell? ⟨gb246,1,none⟩=some (.int .i64 (rd x8_1 0))∧w'.cell? ⟨gb246,2,none⟩=some (.int .i64 (rd x8_1 1))∧w'.cell? ⟨gb246,3,none⟩=some (.int .i64 (rd x8_1 2))∧w'.cell? ⟨gb246,4,none⟩=some (.int .i64 (wrap64 (t264)))∧w'.cell? ⟨gb246,5,none⟩=some (.int .i64 (wrap64 (t268)))∧w'.cell? ⟨gb246,6,none⟩=some (.string (⟨#[]⟩:ByteArray))∧w'.cell? ⟨g,0,none⟩=some (.string t269)∧w'.cell? ⟨g,1,none⟩=some (.int .i64 t270)∧w'.cell? ⟨g,2,none⟩=some (.int .i64 t271)) (ds:=[]) #[false,false,false,false,false,false,false] (by kernel_rfl) rfl rfl ⟨(blk_cell BK246.out 0).trans rfl,(blk_cell BK246.out 1).trans rfl,(blk_cell BK246.out 2).trans rfl,(blk_cell BK246.out 3).trans rfl,(blk_cell BK246.out 4).trans rfl,(blk_cell BK246.out 5).trans rfl,(blk_cell BK246.out 6).trans rfl,(cellS57_0 HI0.out.1),(cellS57_1 HI0.out.1),(cellS57_2 HI0.out.1)⟩ (fun hHeld=>?_)
             generalize w57.drew=w58 at BK245 BK246 HI0 HK HB hHeld ⊢
             refine pure_ (i:=1) (N:=some 102) (v:=?_) (a':=?_) #[false,true,false,false,false,false,false] rfl rfl (by kernel_rfl) (fun _ _ _ h=>h) (Or.inl ⟨by rfl,?_⟩) ?_ ?_
             rotate_left
             ·intro w'
              go_simp
              with_reducible rfl
             rotate_left
             ·simp only [Act.put,List.setIfInBounds_toArray,List.set_cons_zero,List.set_cons_succ,i64_w,i32_w]
              rfl
             refine pure_ (i:=2) (N:=some 103) (v:=?_) (a':=?_) #[false,true,true,false,false,false,false] rfl rfl (by kernel_rfl) (fun _ _ _ h=>h) (Or.inl ⟨by rfl,?_⟩) ?_ ?_
             rotate_left
             ·intro w'
              go_simp
              with_reducible rfl
             rotate_left
             ·simp only [Act.put,List.setIfInBounds_toArray,List.set_cons_zero,List.set_cons_succ,i64_w,i32_w]
              rfl
             refine pure_ (i:=3) (N:=some 104) (v:=?_) (a':=?_) #[false,true,true,true,false,false,false] rfl rfl (by kernel_rfl) (fun _ _ _ h=>h) (Or.inl ⟨by rfl,?_⟩) ?_ ?_
             rotate_left
             ·intro w'
              go_simp
              with_reducible rfl
             rotate_left
             ·simp only [Act.put,List.setIfInBounds_toArray,List.set_cons_zero,List.set_cons_succ,i64_w,i32_w]
              rfl
             refine take_ (i:=0) (N:=some 101) (v:=?_) (a':=?_) #[true,true,true,true,false,false,false] rfl rfl (by kernel_rfl) (fun _ _ _ h=>h) (Or.inl ⟨by rfl,?_⟩) hHeld ?_ ?_
             rotate_left
             ·rintro w' ⟨s0,s1,s2,s3,s4,s5,s6,s7,s8,s9⟩
              go_simp
              with_reducible rfl
             rotate_left
             ·simp only [Act.put,List.setIfInBounds_toArray,List.set_cons_zero,List.set_cons_succ,i64_w,i32_w]
              rfl
             refine take_ (i:=4) (N:=some 105) (v:=?_) (a':=?_) #[true,true,true,true,true,false,false] rfl rfl (by kernel_rfl) (fun _ _ _ h=>h) (Or.inl ⟨by rfl,?_⟩) hHeld ?_ ?_
             rotate_left
             ·rintro w' ⟨s0,s1,s2,s3,s4,s5,s6,s7,s8,s9⟩
              go_simp
              with_reducible rfl
             rotate_left
             ·simp only [Act.put,List.setIfInBounds_toArray,List.set_cons_zero,List.set_cons_succ,i64_w,i32_w]
              rfl
             refine one_ (i:=5) (N:=none) #[true,true,true,true,true,true,false] rfl rfl (by kernel_rfl) (by decide) (fun K hK=>?_)
             have hs59:w58.cell? ⟨gb245,0,none⟩=some (.int .i64 0):=(blk_cell BK245.out 0).trans rfl
             have hfs59:=blk_frozen BK245.out 0
             have hns59_1:=NB246_245.out
             have hms59_1:=NB245_246.out
             have hs60:w58.cell? ⟨gb245,1,none⟩=some (.int .i64 0):=(blk_cell BK245.out 1).trans rfl
             have hfs60:=blk_frozen BK245.out 1
             have hns60_1:=NB246_245.out
             have hms60_1:=NB245_246.out
             have hs61:w58.cell? ⟨gb245,2,none⟩=some (.int .i64 0):=(blk_cell BK245.out 2).trans rfl
             have hfs61:=blk_frozen BK245.out 2
             have hns61_1:=NB246_245.out
             have hms61_1:=NB245_246.out
             have hs62:w58.cell? ⟨gb245,3,none⟩=some (.int .i64 0):=(blk_cell BK245.out 3).trans rfl
             have hfs62:=blk_frozen BK245.out 3
             have hns62_1:=NB246_245.out
             have hms62_1:=NB245_246.out
             have hs63:w58.cell? ⟨gb245,4,none⟩=some (.int .i64 0):=(blk_cell BK245.out 4).trans rfl
             have hfs63:=blk_frozen BK245.out 4
             have hns63_1:=NB246_245.out
             have hms63_1:=NB245_246.out
             have hs64:w58.cell? ⟨gb245,5,none⟩=some (.int .i64 0):=(blk_cell BK245.out 5).trans rfl
             have hfs64:=blk_frozen BK245.out 5
             have hns64_1:=NB246_245.out
             have hms64_1:=NB245_246.out
             have hs65:w58.cell? ⟨gb245,6,none⟩=some (.string (⟨#[]⟩:ByteArray)):=(blk_cell BK245.out 6).trans rfl
             have hfs65:=blk_frozen BK245.out 6
             have hns65_1:=NB246_245.out
             have hms65_1:=NB245_246.out
             refine skip_ (w1:=?_) (by rfl) rfl ?_ ?_
             rotate_left
             ·go_simp
              rfl
             refine hK.out _ _ ⟨((cell_far (p:=⟨gb245,_,none⟩) NB246_245.out _).trans (((cell_far (p:=⟨gb245,_,none⟩) NB246_245.out _).trans (((cell_far (p:=⟨gb245,_,none⟩) NB246_245.out _).trans (((cell_far (p:=⟨gb245,_,none⟩) NB246_245.out _).trans (((cell_far (p:=⟨gb245,_,none⟩) NB246_245.out _).trans (((cell_far (p:=⟨gb245,_,none⟩) NB246_245.out _).trans (((cell_far (p:=⟨gb245,_,none⟩) NB246_245.out _).trans (hHeld.1)))))))))))))),((cell_far (p:=⟨gb245,_,none⟩) NB246_245.out _).trans (((cell_far (p:=⟨gb245,_,none⟩) NB246_245.out _).trans (((cell_far (p:=⟨gb245,_,none⟩) NB246_245.out _).trans (((cell_far (p:=⟨gb245,_,none⟩) NB246_245.out _).trans (((cell_far (p:=⟨gb245,_,none⟩) NB246_245.out _).trans (((cell_far (p:=⟨gb245,_,none⟩) NB246_245.out _).trans (((cell_far (p:=⟨gb245,_,none⟩) NB246_245.out _).trans (hHeld.2.1)))))))))))))),((cell_far (p:=⟨gb245,_,none⟩) NB246_245.out _).trans (((cell_far (p:=⟨gb245,_,none⟩) NB246_245.out _).trans (((cell_far (p:=⟨gb245,_,none⟩) NB246_245.out _).trans (((cell_far (p:=⟨gb245,_,none⟩) NB246_245.out _).trans (((cell_far (p:=⟨gb245,_,none⟩) NB246_245.out _).trans (((cell_far (p:=⟨gb245,_,none⟩) NB246_245.out _).trans (((cell_far (p:=⟨gb245,_,none⟩) NB246_245.out _).trans (hHeld.2.2.1)))))))))))))),((cell_far (p:=⟨gb245,_,none⟩) NB246_245.out _).trans (((cell_far (p:=⟨gb245,_,none⟩) NB246_245.out _).trans (((cell_far (p:=⟨gb245,_,none⟩) NB246_245.out _).trans (((cell_far (p:=⟨gb245,_,none⟩) NB246_245.out _).trans (((cell_far (p:=⟨gb245,_,none⟩) NB246_245.out _).trans (((cell_far (p:=⟨gb245,_,none⟩) NB246_245.out _).trans (((cell_far (p:=⟨gb245,_,none⟩) NB246_245.out _).trans (hHeld.2.2.2.1)))))))))))))),((cell_far (p:=⟨gb245,_,none⟩) NB246_245.out _).trans (((cell_far (p:=⟨gb245,_,none⟩) NB246_245.out _).trans (((cell_far (p:=⟨gb245,_,none⟩) NB246_245.out _).trans (((cell_far (p:=⟨gb245,_,none⟩) NB246_245.out _).trans (((cell_far (p:=⟨gb245,_,none⟩) NB246_245.out _).trans (((cell_far (p:=⟨gb245,_,none⟩) NB246_245.out _).trans (((cell_far (p:=⟨gb245,_,none⟩) NB246_245.out _).trans (hHeld.2.2.2.2.1)))))))))))))),((cell_far (p:=⟨gb245,_,none⟩) NB246_245.out _).trans (((cell_far (p:=⟨gb245,_,none⟩) NB246_245.out _).trans (((cell_far (p:=⟨gb245,_,none⟩) NB246_245.out _).trans (((cell_far (p:=⟨gb245,_,none⟩) NB246_245.out _).trans (((cell_far (p:=⟨gb245,_,none⟩) NB246_245.out _).trans (((cell_far (p:=⟨gb245,_,none⟩) NB246_245.out _).trans (((cell_far (p:=⟨gb245,_,none⟩) NB246_245.out _).trans (hHeld.2.2.2.2.2.1)))))))))))))),((cell_far (p:=⟨gb245,_,none⟩) NB246_245.out _).trans (((cell_far (p:=⟨gb245,_,none⟩) NB246_245.out _).trans (((cell_far (p:=⟨gb245,_,none⟩) NB246_245.out _).trans (((cell_far (p:=⟨gb245,_,none⟩) NB246_245.out _).trans (((cell_far (p:=⟨gb245,_,none⟩) NB246_245.out _).trans (((cell_far (p:=⟨gb245,_,none⟩) NB246_245.out _).trans (((cell_far (p:=⟨gb245,_,none⟩) NB246_245.out _).trans (hHeld.2.2.2.2.2.2.1)))))))))))))),((cell_far (p:=⟨gb245,_,none⟩) NB0_245.out _).trans (((cell_far (p:=⟨gb245,_,none⟩) NB0_245.out _).trans (((cell_far (p:=⟨gb245,_,none⟩) NB0_245.out _).trans (((cell_far (p:=⟨gb245,_,none⟩) NB0_245.out _).trans (((cell_far (p:=⟨gb245,_,none⟩) NB0_245.out _).trans (((cell_far (p:=⟨gb245,_,none⟩) NB0_245.out _).trans (((cell_far (p:=⟨gb245,_,none⟩) NB0_245.out _).trans (hHeld.2.2.2.2.2.2.2.1)))))))))))))),((cell_far (p:=⟨gb245,_,none⟩) NB0_245.out _).trans (((cell_far (p:=⟨gb245,_,none⟩) NB0_245.out _).trans (((cell_far (p:=⟨gb245,_,none⟩) NB0_245.out _).trans (((cell_far (p:=⟨gb245,_,none⟩) NB0_245.out _).trans (((cell_far (p:=⟨gb245,_,none⟩) NB0_245.out _).trans (((cell_far (p:=⟨gb245,_,none⟩) NB0_245.out _).trans (((cell_far (p:=⟨gb245,_,none⟩) NB0_245.out _).trans (hHeld.2.2.2.2.2.2.2.2.1)))))))))))))),((cell_far (p:=⟨gb245,_,none⟩) NB0_245.out _).trans (((cell_far (p:=⟨gb245,_,none⟩) NB0_245.out _).trans (((cell_far (p:=⟨gb245,_,none⟩) NB0_245.out _).trans (((cell_far (p:=⟨gb245,_,none⟩) NB0_245.out _).trans (((cell_far (p:=⟨gb245,_,none⟩) NB0_245.out _).trans (((cell_far (p:=⟨gb245,_,none⟩) NB0_245.out _).trans (((cell_far (p:=⟨gb245,_,none⟩) NB0_245.out _).trans (hHeld.2.2.2.2.2.2.2.2.2))))))))))))))⟩ (fun hHeld=>?_)
             clear hK K
             refine pure_ (i:=6) (N:=some 3) (v:=?_) (a':=?_) #[true,true,true,true,true,true,true] rfl rfl (by kernel_rfl) (fun _ _ _ h=>h) (Or.inl ⟨by rfl,?_⟩) ?_ ?_
             rotate_left
             ·intro w'
              go_simp
              with_reducible rfl
             rotate_left
             ·simp only [Act.put,List.setIfInBounds_toArray,List.set_cons_zero,List.set_cons_succ,i64_w,i32_w]
              rfl
             refine done_ (by kernel_rfl) ?_
             try go_wp2
             refine bodyPost_ret (results_ct rfl _ _ gb245 42 #[.int .i64 (wrap64 (t247)),.int .i64 (rd x8_1 0),.int .i64 (rd x8_1 1),.int .i64 (rd x8_1 2),.int .i64 (wrap64 (t264)),.int .i64 (wrap64 (t268)),.string (⟨#[]⟩:ByteArray)] (0,0) _ rfl (by apply zpe;(repeat (first|(with_reducible first|apply zb1|apply zb2|apply zb3|apply zpi|exact BK245.out)));rfl) Tryd.underlying42 rfl (by kernel_rfl)) rfl ?_
             exact ⟨by first|(with_reducible rfl)|(simp only [isEmpty_bne,Bool.not_not] <;> rfl)|rfl|(simp [*,errW_none,errW_some] <;> rfl),by repeat (first|(with_reducible first|exact HI0.out|apply IsS57.alloc|apply IsS57.drewN|apply IsS57.drew|apply IsS57.set_0|apply IsS57.set_1|apply IsS57.set_2|refine IsS57.far ?_ NB0_245.out _|refine IsS57.far ?_ NB0_246.out _)|exact HI0.out),by repeat (first|(with_reducible first|exact HB.out|apply zl1|apply zl2|apply zl3|refine below_set ?_ (IsS57.ge HI0.out)|refine below_set ?_ GE245.out|refine below_set ?_ GE246.out)|exact HB.out),by repeat (first|(with_reducible first|exact HK.out|apply KeepBut.set_|apply keep_drewN|apply keep_drew|apply keep_alloc|refine keep_far ?_ GW245.out _|refine keep_far ?_ GW246.out _)|exact HK.out)⟩
            ·rw [if_neg c48] at H
             have c48b0:((wrap64 (t264)) == 1)=false:=beq_eq_false_iff_ne.mpr c48
             have c48b1:((wrap64 (t264)) != 1)=true:=bne_iff_ne.mpr c48
             by_cases c66:(wrap64 (t264))=2
             ·rw [if_pos c66] at H
              have c66b0:((wrap64 (t264)) == 2)=true:=beq_iff_eq.mpr c66
              have c66b1:((wrap64 (t264)) != 2)=false:=bne_eq_false_iff_eq.mpr c66
              clear c66
              replace H:=Option.bind_eq_some_iff.mp H
              obtain ⟨⟨t272,t273,t274,t275⟩,A670,H⟩:=H
              replace H:(some ((wrap64 (t247)),(rd x8_1 0),(rd x8_1 1),(rd x8_1 2),wrap64 (t264),0,t272,t275,t273,t274,t275))=some (r1,r2,r3,r4,r5,r6,r7,r8,r9,r10,r11):=H
              have A67:=Aside0.mk A670
              clear A670
              simp only [Option.some.injEq,Prod.mk.injEq] at H
              obtain ⟨rfl,rfl,rfl,rfl,rfl,rfl,rfl,rfl,rfl,rfl,rfl⟩:=H
              try go_wp2_with (first|((with_reducible refine gate_callee (f:=39) rfl ?_);refine goesL_ (some 68) rfl rfl Tryd.func39 (by kernel_rfl) rfl #[.pointer (some ⟨g,0,none⟩),.int .i64 1] rfl (by (try simp only [List.map_toArray,List.map_cons,List.map_nil]);first|done|rfl|(simp only [List.length_drop,List.length_take];rfl)|(simp (disch:=omega) only [u64_in];rfl)) ?_;(with_reducible refine (factotumref01_Reader_Num.calls kj23 g x1000_1 x1001_1 x1002_1 1 t264 t265 t266 t267 w0 _ ?side1 ?side2 A46.out).mono ?_);(case side1=>repeat (first|(with_reducible first|exact HI0.out|apply IsS57.alloc|apply IsS57.drewN|apply IsS57.drew|apply IsS57.set_0|apply IsS57.set_1|apply IsS57.set_2|refine IsS57.far ?_ NB0_245.out _|refine IsS57.far ?_ NB0_246.out _)|exact HI0.out));(case side2=>repeat (first|(with_reducible first|exact HB.out|apply zl1|apply zl2|apply zl3|refine below_set ?_ (IsS57.ge HI0.out)|refine below_set ?_ GE245.out|refine below_set ?_ GE246.out)|exact HB.out));rintro e w68 ⟨rfl,hi,hb,hk⟩;refine ⟨_,rfl,?_⟩;replace BK245:=Aside0.mk (KeepBut.blk hk (g':=gb245) (o:=.cells #[.int .i64 0,.int .i64 0,.int .i64 0,.int .i64 0,.int .i64 0,.int .i64 0,.string (⟨#[]⟩:ByteArray)] 42 (0,0)) (by (with_reducible repeat (first|apply zb1|apply zb2|apply zb3));exact BK245.out) NB245_0.out (by simp));replace BK246:=Aside0.mk (KeepBut.blk hk (g':=gb246) (o:=.cells #[.int .i64 (wrap64 (t247)),.int .i64 (rd x8_1 0),.int .i64 (rd x8_1 1),.int .i64 (rd x8_1 2),.int .i64 0,.int .i64 0,.string (⟨#[]⟩:ByteArray)] 42 (0,0)) (by (with_reducible repeat (first|apply zb1|apply zb2|apply zb3));exact BK246.out) NB246_0.out (by simp));replace HK:=Aside0.mk (KeepBut.trans (by repeat (first|(with_reducible first|exact HK.out|apply KeepBut.set_|apply keep_drewN|apply keep_drew|apply keep_alloc|refine keep_far ?_ GW245.out _|refine keep_far ?_ GW246.out _)|exact HK.out)) hk (.inl rfl));replace HB:=Aside0.mk (hb);replace HI0:=Aside0.mk (hi);(try clear hb);(try clear hk);(try clear hi);obtain ⟨HGz69,hgz69⟩:=HI0.out;have hcz69_0:=cellS57_0 HGz69;have hcz69_1:=cellS57_1 HGz69;have hcz69_2:=cellS57_2 HGz69;have hfz69_0:=blk_frozen HGz69 0;have hfz69_1:=blk_frozen HGz69 1;have hfz69_2:=blk_frozen HGz69 2;clear HGz69 hgz69;have hnb70:=NB246_245.out;have hnc70:=NB245_246.out;have hnb71:=NB246_0.out;have hnc71:=NB0_246.out;obtain ⟨hcz72_0,hcz72_1,hcz72_2,hcz72_3,hcz72_4,hcz72_5,hcz72_6⟩:=zc7 BK246.out;obtain ⟨hfz72_0,hfz72_1,hfz72_2,hfz72_3,hfz72_4,hfz72_5,hfz72_6⟩:=zf7 BK246.out)|((with_reducible refine gate_callee (f:=40) rfl ?_);refine goesL_ (some 98) rfl rfl Tryd.func40 (by kernel_rfl) rfl #[.pointer (some ⟨g,0,none⟩),.int .i64 10] rfl (by (try simp only [List.map_toArray,List.map_cons,List.map_nil]);first|done|rfl|(simp only [List.length_drop,List.length_take];rfl)|(simp (disch:=omega) only [u64_in];rfl)) ?_;(with_reducible refine (factotumref01_Reader_Str.calls g t265 t266 t267 10 t272 t273 t274 t275 w0 _ ?side1 ?side2 A67.out).mono ?_);(case side1=>repeat (first|(with_reducible first|exact HI0.out|apply IsS57.alloc|apply IsS57.drewN|apply IsS57.drew|apply IsS57.set_0|apply IsS57.set_1|apply IsS57.set_2|refine IsS57.far ?_ NB0_245.out _|refine IsS57.far ?_ NB0_246.out _)|exact HI0.out));(case side2=>repeat (first|(with_reducible first|exact HB.out|apply zl1|apply zl2|apply zl3|refine below_set ?_ (IsS57.ge HI0.out)|refine below_set ?_ GE245.out|refine below_set ?_ GE246.out)|exact HB.out));rintro e w73 ⟨rfl,hi,hb,hk⟩;refine ⟨_,rfl,?_⟩;replace BK245:=Aside0.mk (KeepBut.blk hk (g':=gb245) (o:=.cells #[.int .i64 0,.int .i64 0,.int .i64 0,.int .i64 0,.int .i64 0,.int .i64 0,.string (⟨#[]⟩:ByteArray)] 42 (0,0)) (by (repeat (first|(with_reducible first|apply zb1|apply zb2|apply zb3|exact BK245.out)|refine blk_far ?_ NB245_246.out _))) NB245_0.out (by simp));replace BK246:=Aside0.mk (KeepBut.blk hk (g':=gb246) (o:=.cells #[.int .i64 (wrap64 (t247)),.int .i64 (rd x8_1 0),.int .i64 (rd x8_1 1),.int .i64 (rd x8_1 2),.int .i64 (wrap64 (t264)),.int .i64 0,.string (⟨#[]⟩:ByteArray)] 42 (0,0)) (by apply zpe;(repeat (first|(with_reducible first|apply zb1|apply zb2|apply zb3|apply zpi|exact BK246.out)));rfl) NB246_0.out (by simp));replace HK:=Aside0.mk (KeepBut.trans (by repeat (first|(with_reducible first|exact HK.out|apply KeepBut.set_|apply keep_drewN|apply keep_drew|apply keep_alloc|refine keep_far ?_ GW245.out _|refine keep_far ?_ GW246.out _)|exact HK.out)) hk (.inl rfl));replace HB:=Aside0.mk (hb);replace HI0:=Aside0.mk (hi);(try clear hb);(try clear hk);(try clear hi);obtain ⟨hcz74_0,hcz74_1,hcz74_2,hcz74_3,hcz74_4,hcz74_5,hcz74_6⟩:=zc7 BK246.out;obtain ⟨hfz74_0,hfz74_1,hfz74_2,hfz74_3,hfz74_4,hfz74_5,hfz74_6⟩:=zf7 BK246.out))
              have n0_:Aside0 ((w73.setCell ⟨gb246,6,none⟩ (.string t272)).heap[gb245]?=some (.cells #[.int .i64 0,.int .i64 0,.int .i64 0,.int .i64 0,.int .i64 0,.int .i64 0,.string (⟨#[]⟩:ByteArray)] 42 (0,0))):=⟨by (repeat (first|(with_reducible first|apply zb1|apply zb2|apply zb3|exact BK245.out)|refine blk_far ?_ NB245_246.out _))⟩
              have n1_:Aside0 ((w73.setCell ⟨gb246,6,none⟩ (.string t272)).heap[gb246]?=some (.cells #[.int .i64 (wrap64 (t247)),.int .i64 (rd x8_1 0),.int .i64 (rd x8_1 1),.int .i64 (rd x8_1 2),.int .i64 (wrap64 (t264)),.int .i64 0,.string t272] 42 (0,0))):=⟨by apply zpe;(repeat (first|(with_reducible first|apply zb1|apply zb2|apply zb3|apply zpi|exact BK246.out)));rfl⟩
              have n2_:Aside0 (IsS57 w0 (w73.setCell ⟨gb246,6,none⟩ (.string t272)) g t273 t274 t275):=⟨by repeat (first|(with_reducible first|exact HI0.out|apply IsS57.alloc|apply IsS57.drewN|apply IsS57.drew|apply IsS57.set_0|apply IsS57.set_1|apply IsS57.set_2|refine IsS57.far ?_ NB0_245.out _|refine IsS57.far ?_ NB0_246.out _)|exact HI0.out)⟩
              have n3_:Aside0 (KeepBut w (w73.setCell ⟨gb246,6,none⟩ (.string t272)) g none):=⟨by repeat (first|(with_reducible first|exact HK.out|apply KeepBut.set_|apply keep_drewN|apply keep_drew|apply keep_alloc|refine keep_far ?_ GW245.out _|refine keep_far ?_ GW246.out _)|exact HK.out)⟩
              have n4_:Aside0 (Below w0.heap.size w0 (w73.setCell ⟨gb246,6,none⟩ (.string t272))):=⟨by repeat (first|(with_reducible first|exact HB.out|apply zl1|apply zl2|apply zl3|refine below_set ?_ (IsS57.ge HI0.out)|refine below_set ?_ GE245.out|refine below_set ?_ GE246.out)|exact HB.out)⟩
              (try clear BK245)
              (try clear BK246)
              (try clear HI0)
              (try clear HK)
              (try clear HB)
              generalize (w73.setCell ⟨gb246,6,none⟩ (.string t272))=w75 at n0_ n1_ n2_ n3_ n4_ ⊢
              have BK245:=n0_
              have BK246:=n1_
              have HI0:=n2_
              have HK:=n3_
              have HB:=n4_
              clear n0_ n1_ n2_ n3_ n4_
              replace BK245:=Aside0.mk (blk_drew BK245.out)
              replace BK246:=Aside0.mk (blk_drew BK246.out)
              replace HI0:=Aside0.mk (IsS57.drew HI0.out)
              replace HK:=Aside0.mk (keep_drew HK.out)
              replace HB:=Aside0.mk (below_drew1 HB.out)
              refine start_ (n:=7) (S:=fun w'=>w'.cell? ⟨gb246,0,none⟩=some (.int .i64 (wrap64 (t247)))∧w'.cell? ⟨gb246,1,none⟩=some (.int .i64 (rd x8_1 0))∧w'.cell? ⟨gb246,2,none⟩=some (.int .i64 (rd x8_1 1))∧w'.cell? ⟨gb246,3,none⟩=some (.int .i64 (rd x8_1 2))∧w'.cell? ⟨gb246,4,none⟩=some (.int .i64 (wrap64 (t264)))∧w'.cell? ⟨gb246,5,none⟩=some (.int .i64 0)∧w'.cell? ⟨gb246,6,none⟩=some (.string t272)∧w'.cell? ⟨g,0,none⟩=some (.string t273)∧w'.cell? ⟨g,1,none⟩=some (.int .i64 t274)∧w'.cell? ⟨g,2,none⟩=some (.int .i64 t275)) (ds:=[]) #[false,false,false,false,false,false,false] (by kernel_rfl) rfl rfl ⟨(blk_cell BK246.out 0).trans rfl,(blk_cell BK246.out 1).trans rfl,(blk_cell BK246.out 2).trans rfl,(blk_cell BK246.out 3).trans rfl,(blk_cell BK246.out 4).trans rfl,(blk_cell BK246.out 5).trans rfl,(blk_cell BK246.out 6).trans rfl,(cellS57_0 HI0.out.1),(cellS57_1 HI0.out.1),(cellS57_2 HI0.out.1)⟩ (fun hHeld=>?_)
              generalize w75.drew=w76 at BK245 BK246 HI0 HK HB hHeld ⊢
              refine pure_ (i:=1) (N:=some 102) (v:=?_) (a':=?_) #[false,true,false,false,false,false,false] rfl rfl (by kernel_rfl) (fun _ _ _ h=>h) (Or.inl ⟨by rfl,?_⟩) ?_ ?_
              rotate_left
              ·intro w'
               go_simp
               with_reducible rfl
              rotate_left
              ·simp only [Act.put,List.setIfInBounds_toArray,List.set_cons_zero,List.set_cons_succ,i64_w,i32_w]
               rfl
              refine pure_ (i:=2) (N:=some 103) (v:=?_) (a':=?_) #[false,true,true,false,false,false,false] rfl rfl (by kernel_rfl) (fun _ _ _ h=>h) (Or.inl ⟨by rfl,?_⟩) ?_ ?_
              rotate_left
              ·intro w'
               go_simp
               with_reducible rfl
              rotate_left
              ·simp only [Act.put,List.setIfInBounds_toArray,List.set_cons_zero,List.set_cons_succ,i64_w,i32_w]
               rfl
              refine pure_ (i:=3) (N:=some 104) (v:=?_) (a':=?_) #[false,true,true,true,false,false,false] rfl rfl (by kernel_rfl) (fun _ _ _ h=>h) (Or.inl ⟨by rfl,?_⟩) ?_ ?_
              rotate_left
              ·intro w'
               go_simp
               with_reducible rfl
              rotate_left
              ·simp only [Act.put,List.setIfInBounds_toArray,List.set_cons_zero,List.set_cons_succ,i64_w,i32_w]
               rfl
              refine take_ (i:=0) (N:=some 101) (v:=?_) (a':=?_) #[true,true,true,true,false,false,false] rfl rfl (by kernel_rfl) (fun _ _ _ h=>h) (Or.inl ⟨by rfl,?_⟩) hHeld ?_ ?_
              rotate_left
              ·rintro w' ⟨s0,s1,s2,s3,s4,s5,s6,s7,s8,s9⟩
               go_simp
               with_reducible rfl
              rotate_left
              ·simp only [Act.put,List.setIfInBounds_toArray,List.set_cons_zero,List.set_cons_succ,i64_w,i32_w]
               rfl
              refine take_ (i:=4) (N:=some 105) (v:=?_) (a':=?_) #[true,true,true,true,true,false,false] rfl rfl (by kernel_rfl) (fun _ _ _ h=>h) (Or.inl ⟨by rfl,?_⟩) hHeld ?_ ?_
              rotate_left
              ·rintro w' ⟨s0,s1,s2,s3,s4,s5,s6,s7,s8,s9⟩
               go_simp
               with_reducible rfl
              rotate_left
              ·simp only [Act.put,List.setIfInBounds_toArray,List.set_cons_zero,List.set_cons_succ,i64_w,i32_w]
               rfl
              refine one_ (i:=5) (N:=none) #[true,true,true,true,true,true,false] rfl rfl (by kernel_rfl) (by decide) (fun K hK=>?_)
              have hs77:w76.cell? ⟨gb245,0,none⟩=some (.int .i64 0):=(blk_cell BK245.out 0).trans rfl
              have hfs77:=blk_frozen BK245.out 0
              have hns77_1:=NB246_245.out
              have hms77_1:=NB245_246.out
              have hs78:w76.cell? ⟨gb245,1,none⟩=some (.int .i64 0):=(blk_cell BK245.out 1).trans rfl
              have hfs78:=blk_frozen BK245.out 1
              have hns78_1:=NB246_245.out
              have hms78_1:=NB245_246.out
              have hs79:w76.cell? ⟨gb245,2,none⟩=some (.int .i64 0):=(blk_cell BK245.out 2).trans rfl
              have hfs79:=blk_frozen BK245.out 2
              have hns79_1:=NB246_245.out
              have hms79_1:=NB245_246.out
              have hs80:w76.cell? ⟨gb245,3,none⟩=some (.int .i64 0):=(blk_cell BK245.out 3).trans rfl
              have hfs80:=blk_frozen BK245.out 3
              have hns80_1:=NB246_245.out
              have hms80_1:=NB245_246.out
              have hs81:w76.cell? ⟨gb245,4,none⟩=some (.int .i64 0):=(blk_cell BK245.out 4).trans rfl
              have hfs81:=blk_frozen BK245.out 4
              have hns81_1:=NB246_245.out
              have hms81_1:=NB245_246.out
              have hs82:w76.cell? ⟨gb245,5,none⟩=some (.int .i64 0):=(blk_cell BK245.out 5).trans rfl
              have hfs82:=blk_frozen BK245.out 5
              have hns82_1:=NB246_245.out
              have hms82_1:=NB245_246.out
              have hs83:w76.cell? ⟨gb245,6,none⟩=some (.string (⟨#[]⟩:ByteArray)):=(blk_cell BK245.out 6).trans rfl
              have hfs83:=blk_frozen BK245.out 6
              have hns83_1:=NB246_245.out
              have hms83_1:=NB245_246.out
              refine skip_ (w1:=?_) (by rfl) rfl ?_ ?_
              rotate_left
              ·go_simp
               rfl
              refine hK.out _ _ ⟨((cell_far (p:=⟨gb245,_,none⟩) NB246_245.out _).trans (((cell_far (p:=⟨gb245,_,none⟩) NB246_245.out _).trans (((cell_far (p:=⟨gb245,_,none⟩) NB246_245.out _).trans (((cell_far (p:=⟨gb245,_,none⟩) NB246_245.out _).trans (((cell_far (p:=⟨gb245,_,none⟩) NB246_245.out _).trans (((cell_far (p:=⟨gb245,_,none⟩) NB246_245.out _).trans (((cell_far (p:=⟨gb245,_,none⟩) NB246_245.out _).trans (hHeld.1)))))))))))))),((cell_far (p:=⟨gb245,_,none⟩) NB246_245.out _).trans (((cell_far (p:=⟨gb245,_,none⟩) NB246_245.out _).trans (((cell_far (p:=⟨gb245,_,none⟩) NB246_245.out _).trans (((cell_far (p:=⟨gb245,_,none⟩) NB246_245.out _).trans (((cell_far (p:=⟨gb245,_,none⟩) NB246_245.out _).trans (((cell_far (p:=⟨gb245,_,none⟩) NB246_245.out _).trans (((cell_far (p:=⟨gb245,_,none⟩) NB246_245.out _).trans (hHeld.2.1)))))))))))))),((cell_far (p:=⟨gb245,_,none⟩) NB246_245.out _).trans (((cell_far (p:=⟨gb245,_,none⟩) NB246_245.out _).trans (((cell_far (p:=⟨gb245,_,none⟩) NB246_245.out _).trans (((cell_far (p:=⟨gb245,_,none⟩) NB246_245.out _).trans (((cell_far (p:=⟨gb245,_,none⟩) NB246_245.out _).trans (((cell_far (p:=⟨gb245,_,none⟩) NB246_245.out _).trans (((cell_far (p:=⟨gb245,_,none⟩) NB246_245.out _).trans (hHeld.2.2.1)))))))))))))),((cell_far (p:=⟨gb245,_,none⟩) NB246_245.out _).trans (((cell_far (p:=⟨gb245,_,none⟩) NB246_245.out _).trans (((cell_far (p:=⟨gb245,_,none⟩) NB246_245.out _).trans (((cell_far (p:=⟨gb245,_,none⟩) NB246_245.out _).trans (((cell_far (p:=⟨gb245,_,none⟩) NB246_245.out _).trans (((cell_far (p:=⟨gb245,_,none⟩) NB246_245.out _).trans (((cell_far (p:=⟨gb245,_,none⟩) NB246_245.out _).trans (hHeld.2.2.2.1)))))))))))))),((cell_far (p:=⟨gb245,_,none⟩) NB246_245.out _).trans (((cell_far (p:=⟨gb245,_,none⟩) NB246_245.out _).trans (((cell_far (p:=⟨gb245,_,none⟩) NB246_245.out _).trans (((cell_far (p:=⟨gb245,_,none⟩) NB246_245.out _).trans (((cell_far (p:=⟨gb245,_,none⟩) NB246_245.out _).trans (((cell_far (p:=⟨gb245,_,none⟩) NB246_245.out _).trans (((cell_far (p:=⟨gb245,_,none⟩) NB246_245.out _).trans (hHeld.2.2.2.2.1)))))))))))))),((cell_far (p:=⟨gb245,_,none⟩) NB246_245.out _).trans (((cell_far (p:=⟨gb245,_,none⟩) NB246_245.out _).trans (((cell_far (p:=⟨gb245,_,none⟩) NB246_245.out _).trans (((cell_far (p:=⟨gb245,_,none⟩) NB246_245.out _).trans (((cell_far (p:=⟨gb245,_,none⟩) NB246_245.out _).trans (((cell_far (p:=⟨gb245,_,none⟩) NB246_245.out _).trans (((cell_far (p:=⟨gb245,_,none⟩) NB246_245.out _).trans (hHeld.2.2.2.2.2.1)))))))))))))),((cell_far (p:=⟨gb245,_,none⟩) NB246_245.out _).trans (((cell_far (p:=⟨gb245,_,none⟩) NB246_245.out _).trans (((cell_far (p:=⟨gb245,_,none⟩) NB246_245.out _).trans (((cell_far (p:=⟨gb245,_,none⟩) NB246_245.out _).trans (((cell_far (p:=⟨gb245,_,none⟩) NB246_245.out _).trans (((cell_far (p:=⟨gb245,_,none⟩) NB246_245.out _).trans (((cell_far (p:=⟨gb245,_,none⟩) NB246_245.out _).trans (hHeld.2.2.2.2.2.2.1)))))))))))))),((cell_far (p:=⟨gb245,_,none⟩) NB0_245.out _).trans (((cell_far (p:=⟨gb245,_,none⟩) NB0_245.out _).trans (((cell_far (p:=⟨gb245,_,none⟩) NB0_245.out _).trans (((cell_far (p:=⟨gb245,_,none⟩) NB0_245.out _).trans (((cell_far (p:=⟨gb245,_,none⟩) NB0_245.out _).trans (((cell_far (p:=⟨gb245,_,none⟩) NB0_245.out _).trans (((cell_far (p:=⟨gb245,_,none⟩) NB0_245.out _).trans (hHeld.2.2.2.2.2.2.2.1)))))))))))))),((cell_far (p:=⟨gb245,_,none⟩) NB0_245.out _).trans (((cell_far (p:=⟨gb245,_,none⟩) NB0_245.out _).trans (((cell_far (p:=⟨gb245,_,none⟩) NB0_245.out _).trans (((cell_far (p:=⟨gb245,_,none⟩) NB0_245.out _).trans (((cell_far (p:=⟨gb245,_,none⟩) NB0_245.out _).trans (((cell_far (p:=⟨gb245,_,none⟩) NB0_245.out _).trans (((cell_far (p:=⟨gb245,_,none⟩) NB0_245.out _).trans (hHeld.2.2.2.2.2.2.2.2.1)))))))))))))),((cell_far (p:=⟨gb245,_,none⟩) NB0_245.out _).trans (((cell_far (p:=⟨gb245,_,none⟩) NB0_245.out _).trans (((cell_far (p:=⟨gb245,_,none⟩) NB0_245.out _).trans (((cell_far (p:=⟨gb245,_,none⟩) NB0_245.out _).trans (((cell_far (p:=⟨gb245,_,none⟩) NB0_245.out _).trans (((cell_far (p:=⟨gb245,_,none⟩) NB0_245.out _).trans (((cell_far (p:=⟨gb245,_,none⟩) NB0_245.out _).trans (hHeld.2.2.2.2.2.2.2.2.2))))))))))))))⟩ (fun hHeld=>?_)
              clear hK K
              refine pure_ (i:=6) (N:=some 3) (v:=?_) (a':=?_) #[true,true,true,true,true,true,true] rfl rfl (by kernel_rfl) (fun _ _ _ h=>h) (Or.inl ⟨by rfl,?_⟩) ?_ ?_
              rotate_left
              ·intro w'
               go_simp
               with_reducible rfl
              rotate_left
              ·simp only [Act.put,List.setIfInBounds_toArray,List.set_cons_zero,List.set_cons_succ,i64_w,i32_w]
               rfl
              refine done_ (by kernel_rfl) ?_
              try go_wp2
              refine bodyPost_ret (results_ct rfl _ _ gb245 42 #[.int .i64 (wrap64 (t247)),.int .i64 (rd x8_1 0),.int .i64 (rd x8_1 1),.int .i64 (rd x8_1 2),.int .i64 (wrap64 (t264)),.int .i64 0,.string t272] (0,0) _ rfl (by apply zpe;(repeat (first|(with_reducible first|apply zb1|apply zb2|apply zb3|apply zpi|exact BK245.out)));rfl) Tryd.underlying42 rfl (by kernel_rfl)) rfl ?_
              exact ⟨by first|(with_reducible rfl)|(simp only [isEmpty_bne,Bool.not_not] <;> rfl)|rfl|(simp [*,errW_none,errW_some] <;> rfl),by repeat (first|(with_reducible first|exact HI0.out|apply IsS57.alloc|apply IsS57.drewN|apply IsS57.drew|apply IsS57.set_0|apply IsS57.set_1|apply IsS57.set_2|refine IsS57.far ?_ NB0_245.out _|refine IsS57.far ?_ NB0_246.out _)|exact HI0.out),by repeat (first|(with_reducible first|exact HB.out|apply zl1|apply zl2|apply zl3|refine below_set ?_ (IsS57.ge HI0.out)|refine below_set ?_ GE245.out|refine below_set ?_ GE246.out)|exact HB.out),by repeat (first|(with_reducible first|exact HK.out|apply KeepBut.set_|apply keep_drewN|apply keep_drew|apply keep_alloc|refine keep_far ?_ GW245.out _|refine keep_far ?_ GW246.out _)|exact HK.out)⟩
             ·rw [if_neg c66] at H
              have c66b0:((wrap64 (t264)) == 2)=false:=beq_eq_false_iff_ne.mpr c66
              have c66b1:((wrap64 (t264)) != 2)=true:=bne_iff_ne.mpr c66
              simp only [Option.some.injEq,Prod.mk.injEq] at H
              obtain ⟨rfl,rfl,rfl,rfl,rfl,rfl,rfl,rfl,rfl,rfl,rfl⟩:=H
              go_wp2_with (first|((with_reducible refine gate_callee (f:=39) rfl ?_);refine goesL_ (some 68) rfl rfl Tryd.func39 (by kernel_rfl) rfl #[.pointer (some ⟨g,0,none⟩),.int .i64 1] rfl (by (try simp only [List.map_toArray,List.map_cons,List.map_nil]);first|done|rfl|(simp only [List.length_drop,List.length_take];rfl)|(simp (disch:=omega) only [u64_in];rfl)) ?_;(with_reducible refine (factotumref01_Reader_Num.calls kj23 g x1000_1 x1001_1 x1002_1 1 t264 t265 t266 t267 w0 _ ?side1 ?side2 A46.out).mono ?_);(case side1=>repeat (first|(with_reducible first|exact HI0.out|apply IsS57.alloc|apply IsS57.drewN|apply IsS57.drew|apply IsS57.set_0|apply IsS57.set_1|apply IsS57.set_2|refine IsS57.far ?_ NB0_245.out _|refine IsS57.far ?_ NB0_246.out _)|exact HI0.out));(case side2=>repeat (first|(with_reducible first|exact HB.out|apply zl1|apply zl2|apply zl3|refine below_set ?_ (IsS57.ge HI0.out)|refine below_set ?_ GE245.out|refine below_set ?_ GE246.out)|exact HB.out));rintro e w84 ⟨rfl,hi,hb,hk⟩;refine ⟨_,rfl,?_⟩;replace BK245:=Aside0.mk (KeepBut.blk hk (g':=gb245) (o:=.cells #[.int .i64 0,.int .i64 0,.int .i64 0,.int .i64 0,.int .i64 0,.int .i64 0,.string (⟨#[]⟩:ByteArray)] 42 (0,0)) (by (with_reducible repeat (first|apply zb1|apply zb2|apply zb3));exact BK245.out) NB245_0.out (by simp));replace BK246:=Aside0.mk (KeepBut.blk hk (g':=gb246) (o:=.cells #[.int .i64 (wrap64 (t247)),.int .i64 (rd x8_1 0),.int .i64 (rd x8_1 1),.int .i64 (rd x8_1 2),.int .i64 0,.int .i64 0,.string (⟨#[]⟩:ByteArray)] 42 (0,0)) (by (with_reducible repeat (first|apply zb1|apply zb2|apply zb3));exact BK246.out) NB246_0.out (by simp));replace HK:=Aside0.mk (KeepBut.trans (by repeat (first|(with_reducible first|exact HK.out|apply KeepBut.set_|apply keep_drewN|apply keep_drew|apply keep_alloc|refine keep_far ?_ GW245.out _|refine keep_far ?_ GW246.out _)|exact HK.out)) hk (.inl rfl));replace HB:=Aside0.mk (hb);replace HI0:=Aside0.mk (hi);(try clear hb);(try clear hk);(try clear hi);obtain ⟨HGz85,hgz85⟩:=HI0.out;have hcz85_0:=cellS57_0 HGz85;have hcz85_1:=cellS57_1 HGz85;have hcz85_2:=cellS57_2 HGz85;have hfz85_0:=blk_frozen HGz85 0;have hfz85_1:=blk_frozen HGz85 1;have hfz85_2:=blk_frozen HGz85 2;clear HGz85 hgz85;have hnb86:=NB246_245.out;have hnc86:=NB245_246.out;have hnb87:=NB246_0.out;have hnc87:=NB0_246.out;obtain ⟨hcz88_0,hcz88_1,hcz88_2,hcz88_3,hcz88_4,hcz88_5,hcz88_6⟩:=zc7 BK246.out;obtain ⟨hfz88_0,hfz88_1,hfz88_2,hfz88_3,hfz88_4,hfz88_5,hfz88_6⟩:=zf7 BK246.out;have hnb89:=NB245_0.out;have hnc89:=NB0_245.out;obtain ⟨hcz90_0,hcz90_1,hcz90_2,hcz90_3,hcz90_4,hcz90_5,hcz90_6⟩:=zc7 BK245.out;obtain ⟨hfz90_0,hfz90_1,hfz90_2,hfz90_3,hfz90_4,hfz90_5,hfz90_6⟩:=zf7 BK245.out))
              refine bodyPost_ret (results_ct rfl _ _ gb245 42 #[.int .i64 (wrap64 (t247)),.int .i64 (rd x8_1 0),.int .i64 (rd x8_1 1),.int .i64 (rd x8_1 2),.int .i64 (wrap64 (t264)),.int .i64 0,.string (⟨#[]⟩:ByteArray)] (0,0) _ rfl (by apply zpe;(repeat (first|(with_reducible first|apply zb1|apply zb2|apply zb3|apply zpi|exact BK245.out)|refine blk_far ?_ NB245_246.out _));rfl) Tryd.underlying42 rfl (by kernel_rfl)) rfl ?_
              exact ⟨by first|(with_reducible rfl)|(simp only [isEmpty_bne,Bool.not_not] <;> rfl)|rfl|(simp [*,errW_none,errW_some] <;> rfl),by repeat (first|(with_reducible first|exact HI0.out|apply IsS57.alloc|apply IsS57.drewN|apply IsS57.drew|apply IsS57.set_0|apply IsS57.set_1|apply IsS57.set_2|refine IsS57.far ?_ NB0_245.out _|refine IsS57.far ?_ NB0_246.out _)|exact HI0.out),by repeat (first|(with_reducible first|exact HB.out|apply zl1|apply zl2|apply zl3|refine below_set ?_ (IsS57.ge HI0.out)|refine below_set ?_ GE245.out|refine below_set ?_ GE246.out)|exact HB.out),by repeat (first|(with_reducible first|exact HK.out|apply KeepBut.set_|apply keep_drewN|apply keep_drew|apply keep_alloc|refine keep_far ?_ GW245.out _|refine keep_far ?_ GW246.out _)|exact HK.out)⟩
           ·rw [if_neg c47] at H
            have c47b0:(t267 == 0)=false:=beq_eq_false_iff_ne.mpr c47
            have c47b1:(t267 != 0)=true:=bne_iff_ne.mpr c47
            simp only [Option.some.injEq,Prod.mk.injEq] at H
            obtain ⟨rfl,rfl,rfl,rfl,rfl,rfl,rfl,rfl,rfl,rfl,rfl⟩:=H
            try go_wp2_with (first|((with_reducible refine gate_callee (f:=39) rfl ?_);refine goesL_ (some 68) rfl rfl Tryd.func39 (by kernel_rfl) rfl #[.pointer (some ⟨g,0,none⟩),.int .i64 1] rfl (by (try simp only [List.map_toArray,List.map_cons,List.map_nil]);first|done|rfl|(simp only [List.length_drop,List.length_take];rfl)|(simp (disch:=omega) only [u64_in];rfl)) ?_;(with_reducible refine (factotumref01_Reader_Num.calls kj23 g x1000_1 x1001_1 x1002_1 1 t264 t265 t266 t267 w0 _ ?side1 ?side2 A46.out).mono ?_);(case side1=>repeat (first|(with_reducible first|exact HI0.out|apply IsS57.alloc|apply IsS57.drewN|apply IsS57.drew|apply IsS57.set_0|apply IsS57.set_1|apply IsS57.set_2|refine IsS57.far ?_ NB0_245.out _|refine IsS57.far ?_ NB0_246.out _)|exact HI0.out));(case side2=>repeat (first|(with_reducible first|exact HB.out|apply zl1|apply zl2|apply zl3|refine below_set ?_ (IsS57.ge HI0.out)|refine below_set ?_ GE245.out|refine below_set ?_ GE246.out)|exact HB.out));rintro e w91 ⟨rfl,hi,hb,hk⟩;refine ⟨_,rfl,?_⟩;replace BK245:=Aside0.mk (KeepBut.blk hk (g':=gb245) (o:=.cells #[.int .i64 0,.int .i64 0,.int .i64 0,.int .i64 0,.int .i64 0,.int .i64 0,.string (⟨#[]⟩:ByteArray)] 42 (0,0)) (by (with_reducible repeat (first|apply zb1|apply zb2|apply zb3));exact BK245.out) NB245_0.out (by simp));replace BK246:=Aside0.mk (KeepBut.blk hk (g':=gb246) (o:=.cells #[.int .i64 (wrap64 (t247)),.int .i64 (rd x8_1 0),.int .i64 (rd x8_1 1),.int .i64 (rd x8_1 2),.int .i64 0,.int .i64 0,.string (⟨#[]⟩:ByteArray)] 42 (0,0)) (by (with_reducible repeat (first|apply zb1|apply zb2|apply zb3));exact BK246.out) NB246_0.out (by simp));replace HK:=Aside0.mk (KeepBut.trans (by repeat (first|(with_reducible first|exact HK.out|apply KeepBut.set_|apply keep_drewN|apply keep_drew|apply keep_alloc|refine keep_far ?_ GW245.out _|refine keep_far ?_ GW246.out _)|exact HK.out)) hk (.inl rfl));replace HB:=Aside0.mk (hb);replace HI0:=Aside0.mk (hi);(try clear hb);(try clear hk);(try clear hi);obtain ⟨HGz92,hgz92⟩:=HI0.out;have hcz92_0:=cellS57_0 HGz92;have hcz92_1:=cellS57_1 HGz92;have hcz92_2:=cellS57_2 HGz92;have hfz92_0:=blk_frozen HGz92 0;have hfz92_1:=blk_frozen HGz92 1;have hfz92_2:=blk_frozen HGz92 2;clear HGz92 hgz92))
            replace BK245:=Aside0.mk (blk_drew BK245.out)
            replace BK246:=Aside0.mk (blk_drew BK246.out)
            replace HI0:=Aside0.mk (IsS57.drew HI0.out)
            replace HK:=Aside0.mk (keep_drew HK.out)
            replace HB:=Aside0.mk (below_drew1 HB.out)
            refine start_ (n:=7) (S:=fun w'=>w'.cell? ⟨gb246,0,none⟩=some (.int .i64 (wrap64 (t247)))∧w'.cell? ⟨gb246,1,none⟩=some (.int .i64 (rd x8_1 0))∧w'.cell? ⟨gb246,2,none⟩=some (.int .i64 (rd x8_1 1))∧w'.cell? ⟨gb246,3,none⟩=some (.int .i64 (rd x8_1 2))∧w'.cell? ⟨gb246,4,none⟩=some (.int .i64 0)∧w'.cell? ⟨gb246,5,none⟩=some (.int .i64 0)∧w'.cell? ⟨gb246,6,none⟩=some (.string (⟨#[]⟩:ByteArray))∧w'.cell? ⟨g,0,none⟩=some (.string t265)∧w'.cell? ⟨g,1,none⟩=some (.int .i64 t266)∧w'.cell? ⟨g,2,none⟩=some (.int .i64 t267)) (ds:=[]) #[false,false,false,false,false,false,false] (by kernel_rfl) rfl rfl ⟨(blk_cell BK246.out 0).trans rfl,(blk_cell BK246.out 1).trans rfl,(blk_cell BK246.out 2).trans rfl,(blk_cell BK246.out 3).trans rfl,(blk_cell BK246.out 4).trans rfl,(blk_cell BK246.out 5).trans rfl,(blk_cell BK246.out 6).trans rfl,(cellS57_0 HI0.out.1),(cellS57_1 HI0.out.1),(cellS57_2 HI0.out.1)⟩ (fun hHeld=>?_)
            generalize w91.drew=w93 at BK245 BK246 HI0 HK HB hHeld ⊢
            refine pure_ (i:=1) (N:=some 75) (v:=?_) (a':=?_) #[false,true,false,false,false,false,false] rfl rfl (by kernel_rfl) (fun _ _ _ h=>h) (Or.inl ⟨by rfl,?_⟩) ?_ ?_
            rotate_left
            ·intro w'
             go_simp
             with_reducible rfl
            rotate_left
            ·simp only [Act.put,List.setIfInBounds_toArray,List.set_cons_zero,List.set_cons_succ,i64_w,i32_w]
             rfl
            refine pure_ (i:=2) (N:=some 76) (v:=?_) (a':=?_) #[false,true,true,false,false,false,false] rfl rfl (by kernel_rfl) (fun _ _ _ h=>h) (Or.inl ⟨by rfl,?_⟩) ?_ ?_
            rotate_left
            ·intro w'
             go_simp
             with_reducible rfl
            rotate_left
            ·simp only [Act.put,List.setIfInBounds_toArray,List.set_cons_zero,List.set_cons_succ,i64_w,i32_w]
             rfl
            refine pure_ (i:=3) (N:=some 77) (v:=?_) (a':=?_) #[false,true,true,true,false,false,false] rfl rfl (by kernel_rfl) (fun _ _ _ h=>h) (Or.inl ⟨by rfl,?_⟩) ?_ ?_
            rotate_left
            ·intro w'
             go_simp
             with_reducible rfl
            rotate_left
            ·simp only [Act.put,List.setIfInBounds_toArray,List.set_cons_zero,List.set_cons_succ,i64_w,i32_w]
             rfl
            refine take_ (i:=0) (N:=some 74) (v:=?_) (a':=?_) #[true,true,true,true,false,false,false] rfl rfl (by kernel_rfl) (fun _ _ _ h=>h) (Or.inl ⟨by rfl,?_⟩) hHeld ?_ ?_
            rotate_left
            ·rintro w' ⟨s0,s1,s2,s3,s4,s5,s6,s7,s8,s9⟩
             go_simp
             with_reducible rfl
            rotate_left
            ·simp only [Act.put,List.setIfInBounds_toArray,List.set_cons_zero,List.set_cons_succ,i64_w,i32_w]
             rfl
            refine take_ (i:=4) (N:=some 78) (v:=?_) (a':=?_) #[true,true,true,true,true,false,false] rfl rfl (by kernel_rfl) (fun _ _ _ h=>h) (Or.inl ⟨by rfl,?_⟩) hHeld ?_ ?_
            rotate_left
            ·rintro w' ⟨s0,s1,s2,s3,s4,s5,s6,s7,s8,s9⟩
             go_simp
             with_reducible rfl
            rotate_left
            ·simp only [Act.put,List.setIfInBounds_toArray,List.set_cons_zero,List.set_cons_succ,i64_w,i32_w]
             rfl
            refine one_ (i:=5) (N:=none) #[true,true,true,true,true,true,false] rfl rfl (by kernel_rfl) (by decide) (fun K hK=>?_)
            have hs94:w93.cell? ⟨gb245,0,none⟩=some (.int .i64 0):=(blk_cell BK245.out 0).trans rfl
            have hfs94:=blk_frozen BK245.out 0
            have hns94_1:=NB246_245.out
            have hms94_1:=NB245_246.out
            have hs95:w93.cell? ⟨gb245,1,none⟩=some (.int .i64 0):=(blk_cell BK245.out 1).trans rfl
            have hfs95:=blk_frozen BK245.out 1
            have hns95_1:=NB246_245.out
            have hms95_1:=NB245_246.out
            have hs96:w93.cell? ⟨gb245,2,none⟩=some (.int .i64 0):=(blk_cell BK245.out 2).trans rfl
            have hfs96:=blk_frozen BK245.out 2
            have hns96_1:=NB246_245.out
            have hms96_1:=NB245_246.out
            have hs97:w93.cell? ⟨gb245,3,none⟩=some (.int .i64 0):=(blk_cell BK245.out 3).trans rfl
            have hfs97:=blk_frozen BK245.out 3
            have hns97_1:=NB246_245.out
            have hms97_1:=NB245_246.out
            have hs98:w93.cell? ⟨gb245,4,none⟩=some (.int .i64 0):=(blk_cell BK245.out 4).trans rfl
            have hfs98:=blk_frozen BK245.out 4
            have hns98_1:=NB246_245.out
            have hms98_1:=NB245_246.out
            have hs99:w93.cell? ⟨gb245,5,none⟩=some (.int .i64 0):=(blk_cell BK245.out 5).trans rfl
            have hfs99:=blk_frozen BK245.out 5
            have hns99_1:=NB246_245.out
            have hms99_1:=NB245_246.out
            have hs100:w93.cell? ⟨gb245,6,none⟩=some (.string (⟨#[]⟩:ByteArray)):=(blk_cell BK245.out 6).trans rfl
            have hfs100:=blk_frozen BK245.out 6
            have hns100_1:=NB246_245.out
            have hms100_1:=NB245_246.out
            refine skip_ (w1:=?_) (by rfl) rfl ?_ ?_
            rotate_left
            ·go_simp
             rfl
            refine hK.out _ _ ⟨((cell_far (p:=⟨gb245,_,none⟩) NB246_245.out _).trans (((cell_far (p:=⟨gb245,_,none⟩) NB246_245.out _).trans (((cell_far (p:=⟨gb245,_,none⟩) NB246_245.out _).trans (((cell_far (p:=⟨gb245,_,none⟩) NB246_245.out _).trans (((cell_far (p:=⟨gb245,_,none⟩) NB246_245.out _).trans (((cell_far (p:=⟨gb245,_,none⟩) NB246_245.out _).trans (((cell_far (p:=⟨gb245,_,none⟩) NB246_245.out _).trans (hHeld.1)))))))))))))),((cell_far (p:=⟨gb245,_,none⟩) NB246_245.out _).trans (((cell_far (p:=⟨gb245,_,none⟩) NB246_245.out _).trans (((cell_far (p:=⟨gb245,_,none⟩) NB246_245.out _).trans (((cell_far (p:=⟨gb245,_,none⟩) NB246_245.out _).trans (((cell_far (p:=⟨gb245,_,none⟩) NB246_245.out _).trans (((cell_far (p:=⟨gb245,_,none⟩) NB246_245.out _).trans (((cell_far (p:=⟨gb245,_,none⟩) NB246_245.out _).trans (hHeld.2.1)))))))))))))),((cell_far (p:=⟨gb245,_,none⟩) NB246_245.out _).trans (((cell_far (p:=⟨gb245,_,none⟩) NB246_245.out _).trans (((cell_far (p:=⟨gb245,_,none⟩) NB246_245.out _).trans (((cell_far (p:=⟨gb245,_,none⟩) NB246_245.out _).trans (((cell_far (p:=⟨gb245,_,none⟩) NB246_245.out _).trans (((cell_far (p:=⟨gb245,_,none⟩) NB246_245.out _).trans (((cell_far (p:=⟨gb245,_,none⟩) NB246_245.out _).trans (hHeld.2.2.1)))))))))))))),((cell_far (p:=⟨gb245,_,none⟩) NB246_245.out _).trans (((cell_far (p:=⟨gb245,_,none⟩) NB246_245.out _).trans (((cell_far (p:=⟨gb245,_,none⟩) NB246_245.out _).trans (((cell_far (p:=⟨gb245,_,none⟩) NB246_245.out _).trans (((cell_far (p:=⟨gb245,_,none⟩) NB246_245.out _).trans (((cell_far (p:=⟨gb245,_,none⟩) NB246_245.out _).trans (((cell_far (p:=⟨gb245,_,none⟩) NB246_245.out _).trans (hHeld.2.2.2.1)))))))))))))),((cell_far (p:=⟨gb245,_,none⟩) NB246_245.out _).trans (((cell_far (p:=⟨gb245,_,none⟩) NB246_245.out _).trans (((cell_far (p:=⟨gb245,_,none⟩) NB246_245.out _).trans (((cell_far (p:=⟨gb245,_,none⟩) NB246_245.out _).trans (((cell_far (p:=⟨gb245,_,none⟩) NB246_245.out _).trans (((cell_far (p:=⟨gb245,_,none⟩) NB246_245.out _).trans (((cell_far (p:=⟨gb245,_,none⟩) NB246_245.out _).trans (hHeld.2.2.2.2.1)))))))))))))),((cell_far (p:=⟨gb245,_,none⟩) NB246_245.out _).trans (((cell_far (p:=⟨gb245,_,none⟩) NB246_245.out _).trans (((cell_far (p:=⟨gb245,_,none⟩) NB246_245.out _).trans (((cell_far (p:=⟨gb245,_,none⟩) NB246_245.out _).trans (((cell_far (p:=⟨gb245,_,none⟩) NB246_245.out _).trans (((cell_far (p:=⟨gb245,_,none⟩) NB246_245.out _).trans (((cell_far (p:=⟨gb245,_,none⟩) NB246_245.out _).trans (hHeld.2.2.2.2.2.1)))))))))))))),((cell_far (p:=⟨gb245,_,none⟩) NB246_245.out _).trans (((cell_far (p:=⟨gb245,_,none⟩) NB246_245.out _).trans (((cell_far (p:=⟨gb245,_,none⟩) NB246_245.out _).trans (((cell_far (p:=⟨gb245,_,none⟩) NB246_245.out _).trans (((cell_far (p:=⟨gb245,_,none⟩) NB246_245.out _).trans (((cell_far (p:=⟨gb245,_,none⟩) NB246_245.out _).trans (((cell_far (p:=⟨gb245,_,none⟩) NB246_245.out _).trans (hHeld.2.2.2.2.2.2.1)))))))))))))),((cell_far (p:=⟨gb245,_,none⟩) NB0_245.out _).trans (((cell_far (p:=⟨gb245,_,none⟩) NB0_245.out _).trans (((cell_far (p:=⟨gb245,_,none⟩) NB0_245.out _).trans (((cell_far (p:=⟨gb245,_,none⟩) NB0_245.out _).trans (((cell_far (p:=⟨gb245,_,none⟩) NB0_245.out _).trans (((cell_far (p:=⟨gb245,_,none⟩) NB0_245.out _).trans (((cell_far (p:=⟨gb245,_,none⟩) NB0_245.out _).trans (hHeld.2.2.2.2.2.2.2.1)))))))))))))),((cell_far (p:=⟨gb245,_,none⟩) NB0_245.out _).trans (((cell_far (p:=⟨gb245,_,none⟩) NB0_245.out _).trans (((cell_far (p:=⟨gb245,_,none⟩) NB0_245.out _).trans (((cell_far (p:=⟨gb245,_,none⟩) NB0_245.out _).trans (((cell_far (p:=⟨gb245,_,none⟩) NB0_245.out _).trans (((cell_far (p:=⟨gb245,_,none⟩) NB0_245.out _).trans (((cell_far (p:=⟨gb245,_,none⟩) NB0_245.out _).trans (hHeld.2.2.2.2.2.2.2.2.1)))))))))))))),((cell_far (p:=⟨gb245,_,none⟩) NB0_245.out _).trans (((cell_far (p:=⟨gb245,_,none⟩) NB0_245.out _).trans (((cell_far (p:=⟨gb245,_,none⟩) NB0_245.out _).trans (((cell_far (p:=⟨gb245,_,none⟩) NB0_245.out _).trans (((cell_far (p:=⟨gb245,_,none⟩) NB0_245.out _).trans (((cell_far (p:=⟨gb245,_,none⟩) NB0_245.out _).trans (((cell_far (p:=⟨gb245,_,none⟩) NB0_245.out _).trans (hHeld.2.2.2.2.2.2.2.2.2))))))))))))))⟩ (fun hHeld=>?_)
            clear hK K
            refine pure_ (i:=6) (N:=some 3) (v:=?_) (a':=?_) #[true,true,true,true,true,true,true] rfl rfl (by kernel_rfl) (fun _ _ _ h=>h) (Or.inl ⟨by rfl,?_⟩) ?_ ?_
            rotate_left
            ·intro w'
             go_simp
             with_reducible rfl
            rotate_left
            ·simp only [Act.put,List.setIfInBounds_toArray,List.set_cons_zero,List.set_cons_succ,i64_w,i32_w]
             rfl
            refine done_ (by kernel_rfl) ?_
            try go_wp2
            refine bodyPost_ret (results_ct rfl _ _ gb245 42 #[.int .i64 (wrap64 (t247)),.int .i64 (rd x8_1 0),.int .i64 (rd x8_1 1),.int .i64 (rd x8_1 2),.int .i64 0,.int .i64 0,.string (⟨#[]⟩:ByteArray)] (0,0) _ rfl (by apply zpe;(repeat (first|(with_reducible first|apply zb1|apply zb2|apply zb3|apply zpi|exact BK245.out)));rfl) Tryd.underlying42 rfl (by kernel_rfl)) rfl ?_
            exact ⟨by first|(with_reducible rfl)|(simp only [isEmpty_bne,Bool.not_not] <;> rfl)|rfl|(simp [*,errW_none,errW_some] <;> rfl),by repeat (first|(with_reducible first|exact HI0.out|apply IsS57.alloc|apply IsS57.drewN|apply IsS57.drew|apply IsS57.set_0|apply IsS57.set_1|apply IsS57.set_2|refine IsS57.far ?_ NB0_245.out _|refine IsS57.far ?_ NB0_246.out _)|exact HI0.out),by repeat (first|(with_reducible first|exact HB.out|apply zl1|apply zl2|apply zl3|refine below_set ?_ (IsS57.ge HI0.out)|refine below_set ?_ GE245.out|refine below_set ?_ GE246.out)|exact HB.out),by repeat (first|(with_reducible first|exact HK.out|apply KeepBut.set_|apply keep_drewN|apply keep_drew|apply keep_alloc|refine keep_far ?_ GW245.out _|refine keep_far ?_ GW246.out _)|exact HK.out)⟩
       ·rw [if_neg c23] at H
        exact absurd H (by simp)
      ·rw [if_neg c22] at H
       exact absurd H (by simp)
     ·rw [if_neg c21] at H
      exact absurd H (by simp)
 ·replace c4:=Bool.eq_false_iff.mpr c4
  subst c4
  have H1:(some (wrap64 (t247),0,0,0,0,0,(⟨#[]⟩:ByteArray),4,t248,t249,t250))=some (r1,r2,r3,r4,r5,r6,r7,r8,r9,r10,r11):=by rw [if_neg (show ¬ (false=true) by decide)] at H;exact H
  clear H
  have H:=H1
  clear H1
  simp only [Option.some.injEq,Prod.mk.injEq] at H
  obtain ⟨rfl,rfl,rfl,rfl,rfl,rfl,rfl,rfl,rfl,rfl,rfl⟩:=H
  go_enter Tryd.func26,Tryd.ntmps26
  go_wp2_with (first|((with_reducible refine gate_dst (N:=2) rfl ?_);refine box_event ?hg (N:=2) ?hd (cs:=#[.int .i64 0,.int .i64 0,.int .i64 0,.int .i64 0,.int .i64 0,.int .i64 0,.string (⟨#[]⟩:ByteArray)]) (t:=42) ?hr ?_;(case hd=>rfl);(case hg=>rfl);(case hr=>first|(go_simp;done)|(go_simp;rfl));intro gb245 hg w101 hbox hb;replace HB:=Aside0.mk (below_step (by repeat (first|(with_reducible first|exact HB.out|apply zl1|apply zl2|apply zl3|refine below_set ?_ (IsS57.ge HI0.out))|exact HB.out)) hb);have BK245:=Aside0.mk (hbox);have GW245:=Aside0.mk ((by rw [hg];exact (keep_size (w:=w) (g:=g) (row:=none) (by repeat (first|(with_reducible first|exact HK.out|apply KeepBut.set_|apply keep_drewN|apply keep_drew|apply keep_alloc)|exact HK.out))):w.heap.size≤gb245));have GE245:=Aside0.mk ((Nat.le_trans HW0.out (by rw [hg];exact (keep_size (w:=w) (g:=g) (row:=none) (by repeat (first|(with_reducible first|exact HK.out|apply KeepBut.set_|apply keep_drewN|apply keep_drew|apply keep_alloc)|exact HK.out))):w.heap.size≤gb245):w0.heap.size≤gb245));replace HK:=Aside0.mk (KeepBut.trans (by repeat (first|(with_reducible first|exact HK.out|apply KeepBut.set_|apply keep_drewN|apply keep_drew|apply keep_alloc)|exact HK.out)) (KeepBut.of_below hb g none) (.inl rfl));have NB0_245:=Aside0.mk ((by rw [hg];exact Nat.ne_of_lt (IsS57.lt (show IsS57 w0 _ g s0_0 s0_1 s0_2 from by repeat (first|(with_reducible first|exact HI0.out|apply IsS57.alloc|apply IsS57.drewN|apply IsS57.drew|apply IsS57.set_0|apply IsS57.set_1|apply IsS57.set_2)|exact HI0.out))):g ≠ gb245));have NB245_0:=Aside0.mk ((by rw [hg];exact Nat.ne_of_gt (IsS57.lt (show IsS57 w0 _ g s0_0 s0_1 s0_2 from by repeat (first|(with_reducible first|exact HI0.out|apply IsS57.alloc|apply IsS57.drewN|apply IsS57.drew|apply IsS57.set_0|apply IsS57.set_1|apply IsS57.set_2)|exact HI0.out))):gb245 ≠ g));replace HI0:=Aside0.mk (IsS57.below (by repeat (first|(with_reducible first|exact HI0.out|apply IsS57.alloc|apply IsS57.drewN|apply IsS57.drew|apply IsS57.set_0|apply IsS57.set_1|apply IsS57.set_2)|exact HI0.out)) hb);clear hb hbox hg)|((with_reducible refine gate_dst (N:=4) rfl ?_);refine box_event ?hg (N:=4) ?hd (cs:=#[.int .i64 0,.int .i64 0,.int .i64 0,.int .i64 0,.int .i64 0,.int .i64 0,.string (⟨#[]⟩:ByteArray)]) (t:=42) ?hr ?_;(case hd=>rfl);(case hg=>rfl);(case hr=>first|(go_simp;done)|(go_simp;rfl));intro gb246 hg w102 hbox hb;replace HB:=Aside0.mk (below_step (by repeat (first|(with_reducible first|exact HB.out|apply zl1|apply zl2|apply zl3|refine below_set ?_ (IsS57.ge HI0.out)|refine below_set ?_ GE245.out)|exact HB.out)) hb);have BK246:=Aside0.mk (hbox);have GW246:=Aside0.mk ((by rw [hg];exact (keep_size (w:=w) (g:=g) (row:=none) (by repeat (first|(with_reducible first|exact HK.out|apply KeepBut.set_|apply keep_drewN|apply keep_drew|apply keep_alloc|refine keep_far ?_ GW245.out _)|exact HK.out))):w.heap.size≤gb246));have GE246:=Aside0.mk ((Nat.le_trans HW0.out (by rw [hg];exact (keep_size (w:=w) (g:=g) (row:=none) (by repeat (first|(with_reducible first|exact HK.out|apply KeepBut.set_|apply keep_drewN|apply keep_drew|apply keep_alloc|refine keep_far ?_ GW245.out _)|exact HK.out))):w.heap.size≤gb246):w0.heap.size≤gb246));replace HK:=Aside0.mk (KeepBut.trans (by repeat (first|(with_reducible first|exact HK.out|apply KeepBut.set_|apply keep_drewN|apply keep_drew|apply keep_alloc|refine keep_far ?_ GW245.out _)|exact HK.out)) (KeepBut.of_below hb g none) (.inl rfl));have NB245_246:=Aside0.mk ((by rw [hg];exact Nat.ne_of_lt (blk_lt (g:=gb245) (o:=.cells #[.int .i64 0,.int .i64 0,.int .i64 0,.int .i64 0,.int .i64 0,.int .i64 0,.string (⟨#[]⟩:ByteArray)] 42 (0,0)) (by (with_reducible repeat (first|apply zb1|apply zb2|apply zb3));exact BK245.out)):gb245 ≠ gb246));have NB246_245:=Aside0.mk ((by rw [hg];exact Nat.ne_of_gt (blk_lt (g:=gb245) (o:=.cells #[.int .i64 0,.int .i64 0,.int .i64 0,.int .i64 0,.int .i64 0,.int .i64 0,.string (⟨#[]⟩:ByteArray)] 42 (0,0)) (by (with_reducible repeat (first|apply zb1|apply zb2|apply zb3));exact BK245.out)):gb246 ≠ gb245));replace BK245:=Aside0.mk (blk_below (g:=gb245) (o:=.cells #[.int .i64 0,.int .i64 0,.int .i64 0,.int .i64 0,.int .i64 0,.int .i64 0,.string (⟨#[]⟩:ByteArray)] 42 (0,0)) (by (with_reducible repeat (first|apply zb1|apply zb2|apply zb3));exact BK245.out) hb);have NB0_246:=Aside0.mk ((by rw [hg];exact Nat.ne_of_lt (IsS57.lt (show IsS57 w0 _ g s0_0 s0_1 s0_2 from by repeat (first|(with_reducible first|exact HI0.out|apply IsS57.alloc|apply IsS57.drewN|apply IsS57.drew|apply IsS57.set_0|apply IsS57.set_1|apply IsS57.set_2|refine IsS57.far ?_ NB0_245.out _)|exact HI0.out))):g ≠ gb246));have NB246_0:=Aside0.mk ((by rw [hg];exact Nat.ne_of_gt (IsS57.lt (show IsS57 w0 _ g s0_0 s0_1 s0_2 from by repeat (first|(with_reducible first|exact HI0.out|apply IsS57.alloc|apply IsS57.drewN|apply IsS57.drew|apply IsS57.set_0|apply IsS57.set_1|apply IsS57.set_2|refine IsS57.far ?_ NB0_245.out _)|exact HI0.out))):gb246 ≠ g));replace HI0:=Aside0.mk (IsS57.below (by repeat (first|(with_reducible first|exact HI0.out|apply IsS57.alloc|apply IsS57.drewN|apply IsS57.drew|apply IsS57.set_0|apply IsS57.set_1|apply IsS57.set_2|refine IsS57.far ?_ NB0_245.out _)|exact HI0.out)) hb);clear hb hbox hg)|((with_reducible refine gate_callee (f:=39) rfl ?_);refine goesL_ (some 14) rfl rfl Tryd.func39 (by kernel_rfl) rfl #[.pointer (some ⟨g,0,none⟩),.int .i64 1] rfl (by (try simp only [List.map_toArray,List.map_cons,List.map_nil]);first|done|rfl|(simp only [List.length_drop,List.length_take];rfl)|(simp (disch:=omega) only [u64_in];rfl)) ?_;(with_reducible refine (factotumref01_Reader_Num.calls k g s0_0 s0_1 s0_2 1 t247 t248 t249 t250 w0 _ ?side1 ?side2 A2.out).mono ?_);(case side1=>repeat (first|(with_reducible first|exact HI0.out|apply IsS57.alloc|apply IsS57.drewN|apply IsS57.drew|apply IsS57.set_0|apply IsS57.set_1|apply IsS57.set_2|refine IsS57.far ?_ NB0_245.out _|refine IsS57.far ?_ NB0_246.out _)|exact HI0.out));(case side2=>repeat (first|(with_reducible first|exact HB.out|apply zl1|apply zl2|apply zl3|refine below_set ?_ (IsS57.ge HI0.out)|refine below_set ?_ GE245.out|refine below_set ?_ GE246.out)|exact HB.out));rintro e w103 ⟨rfl,hi,hb,hk⟩;refine ⟨_,rfl,?_⟩;replace BK245:=Aside0.mk (KeepBut.blk hk (g':=gb245) (o:=.cells #[.int .i64 0,.int .i64 0,.int .i64 0,.int .i64 0,.int .i64 0,.int .i64 0,.string (⟨#[]⟩:ByteArray)] 42 (0,0)) (by (with_reducible repeat (first|apply zb1|apply zb2|apply zb3));exact BK245.out) NB245_0.out (by simp));replace BK246:=Aside0.mk (KeepBut.blk hk (g':=gb246) (o:=.cells #[.int .i64 0,.int .i64 0,.int .i64 0,.int .i64 0,.int .i64 0,.int .i64 0,.string (⟨#[]⟩:ByteArray)] 42 (0,0)) (by (with_reducible repeat (first|apply zb1|apply zb2|apply zb3));exact BK246.out) NB246_0.out (by simp));replace HK:=Aside0.mk (KeepBut.trans (by repeat (first|(with_reducible first|exact HK.out|apply KeepBut.set_|apply keep_drewN|apply keep_drew|apply keep_alloc|refine keep_far ?_ GW245.out _|refine keep_far ?_ GW246.out _)|exact HK.out)) hk (.inl rfl));replace HB:=Aside0.mk (hb);replace HI0:=Aside0.mk (hi);(try clear hb);(try clear hk);(try clear hi);have hnb104:=NB246_245.out;have hnc104:=NB245_246.out;have hnb105:=NB246_0.out;have hnc105:=NB0_246.out;obtain ⟨hcz106_0,hcz106_1,hcz106_2,hcz106_3,hcz106_4,hcz106_5,hcz106_6⟩:=zc7 BK246.out;obtain ⟨hfz106_0,hfz106_1,hfz106_2,hfz106_3,hfz106_4,hfz106_5,hfz106_6⟩:=zf7 BK246.out)|((with_reducible refine gate_callee (f:=15) rfl ?_);refine goesL_ (some 21) rfl rfl Tryd.func15 (by kernel_rfl) rfl #[.int .i64 (wrap64 (t247))] rfl (by (try simp only [List.map_toArray,List.map_cons,List.map_nil]);first|done|rfl|(simp only [List.length_drop,List.length_take];rfl)|(simp (disch:=omega) only [u64_in];rfl)) ?_;(with_reducible refine (factotumref13_Operands.calls k (wrap64 (t247)) t251 false _ A3.out).mono ?_);rintro e w' ⟨rfl,⟨nd,rfl⟩⟩;refine ⟨_,rfl,?_⟩;have hnb107:=NB245_0.out;have hnc107:=NB0_245.out;obtain ⟨hcz108_0,hcz108_1,hcz108_2,hcz108_3,hcz108_4,hcz108_5,hcz108_6⟩:=zc7 BK245.out;obtain ⟨hfz108_0,hfz108_1,hfz108_2,hfz108_3,hfz108_4,hfz108_5,hfz108_6⟩:=zf7 BK245.out))
  refine bodyPost_ret (results_ct rfl _ _ gb245 42 #[.int .i64 (wrap64 (t247)),.int .i64 0,.int .i64 0,.int .i64 0,.int .i64 0,.int .i64 0,.string (⟨#[]⟩:ByteArray)] (0,0) _ rfl (by apply zpe;(repeat (first|(with_reducible first|apply zb1|apply zb2|apply zb3|apply zpi|exact BK245.out)|refine blk_far ?_ NB245_246.out _));rfl) Tryd.underlying42 rfl (by kernel_rfl)) rfl ?_
  exact ⟨by first|(with_reducible rfl)|(simp only [isEmpty_bne,Bool.not_not] <;> rfl)|rfl|(simp [*,errW_none,errW_some] <;> rfl),by repeat (first|(with_reducible first|exact HI0.out|apply IsS57.alloc|apply IsS57.drewN|apply IsS57.drew|apply IsS57.set_0|apply IsS57.set_1|apply IsS57.set_2|refine IsS57.far ?_ NB0_245.out _|refine IsS57.far ?_ NB0_246.out _)|exact HI0.out),by repeat (first|(with_reducible first|exact HB.out|apply zl1|apply zl2|apply zl3|refine below_set ?_ (IsS57.ge HI0.out)|refine below_set ?_ GE245.out|refine below_set ?_ GE246.out)|exact HB.out),by repeat (first|(with_reducible first|exact HK.out|apply KeepBut.set_|apply keep_drewN|apply keep_drew|apply keep_alloc|refine keep_far ?_ GW245.out _|refine keep_far ?_ GW246.out _)|exact HK.out)⟩

end Go.Proofs.YtljfichnlgfikaaDoor.PAll
