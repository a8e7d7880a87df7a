/- Printed walks of the functions that the laws reach: each function, what it computes, and that it does. No conditions. -/
import Derived.Test.YtokjbncjapndgaaDoorPAllx0
import Derived.Test.YtokjbncjapndgaaDoorPAllx16
import Derived.Test.YtokjbncjapndgaaDoorPAllx17
import Derived.Test.YtokjbncjapndgaaDoorPAllx18
import Derived.Test.YtokjbncjapndgaaDoorPAllx26
namespace Go.Proofs.YtokjbncjapndgaaDoor.PAll
open Go.RowKit Go.Proofs.YtokjbncjapndgaaDoor.XW Go.Proofs.YtokjbncjapndgaaDoor.XLib Go.Proofs.YtokjbncjapndgaaDoorW.PrintWords Go.Proofs.YtokjbncjapndgaaDoorW.PrintLast Go.Proofs.YtokjbncjapndgaaDoorW.PrintMore
attribute [local go_sem] max2_int min2_int max_two min_two max_three min_three max_four min_four   -- for this text's walks alone
set_option linter.unusedVariables false
set_option linter.unusedSimpArgs false

/-! ### factotumref09_Read: function 7 -/
mutual
def factotumref09_Read.l0:Nat→ByteArray→Int→Int→ByteArray→Int→Int→Bool→List (S44)→Option (Bool × (List (S44)) × List ByteArray × List Int × Int)
 | 0,_,_,_,_,_,_,_,_=>none
 | k + 1,x0,x6,x8,x357000,x357001,x357002,x366000,x366001=>if x8 < x6 then (factotumref09_Read.j1 k x0 x6 x8 (x357002 == 0) x357000 x357001 x357002 x366000 x366001) else (factotumref09_Read.j1 k x0 x6 x8 false x357000 x357001 x357002 x366000 x366001)
def factotumref09_Read.j1:Nat→ByteArray→Int→Int→Bool→ByteArray→Int→Int→Bool→List (S44)→Option (Bool × (List (S44)) × List ByteArray × List Int × Int)
 | 0,_,_,_,_,_,_,_,_,_=>none
 | k + 1,x0,x6,x8,x35,x357000,x357001,x357002,x366000,x366001=>if x35=true then ((factotumref01_Reader_Str.f x357000 x357001 x357002 255).bind fun bt366=>((factotumref01_Reader_Str.f bt366.2.1 bt366.2.2.1 bt366.2.2.2 255).bind fun bt370=>(if x366001.length < 4398046511104 then (factotumref09_Read.l0 k x0 x6 (IntKind.u64.wrap (x8 + 1)) bt370.2.1 bt370.2.2.1 bt370.2.2.2 x366000 (x366001 ++ [(⟨bt366.1,bt370.1⟩:S44)])) else (none)))) else ((factotumref09_Write.f k x366000 x366001 ([]:List ByteArray) ([]:List Int)).bind fun bt377=>(if x357002=0 then (if bt377.2=0 then (if bt377.1.toList=x0.toList then (some (x366000,x366001,([]:List ByteArray),([]:List Int),0)) else (some (false,([]:List (S44)),([]:List ByteArray),([]:List Int),10))) else (some (false,([]:List (S44)),([]:List ByteArray),([]:List Int),10))) else (some (false,([]:List (S44)),([]:List ByteArray),([]:List Int),10))))
def factotumref09_Read.l1:Nat→ByteArray→Int→Int→ByteArray→Int→Int→Bool→List ByteArray→List Int→Option (Bool × (List (S44)) × List ByteArray × List Int × Int)
 | 0,_,_,_,_,_,_,_,_,_=>none
 | k + 1,x0,x6,x12,x357000,x357001,x357002,x366000,x366002,x366003=>if x12 < x6 then (factotumref09_Read.j3 k x0 x6 x12 (x357002 == 0) x357000 x357001 x357002 x366000 x366002 x366003) else (factotumref09_Read.j3 k x0 x6 x12 false x357000 x357001 x357002 x366000 x366002 x366003)
def factotumref09_Read.j3:Nat→ByteArray→Int→Int→Bool→ByteArray→Int→Int→Bool→List ByteArray→List Int→Option (Bool × (List (S44)) × List ByteArray × List Int × Int)
 | 0,_,_,_,_,_,_,_,_,_,_=>none
 | k + 1,x0,x6,x12,x68,x357000,x357001,x357002,x366000,x366002,x366003=>if x68=true then ((factotumref01_Reader_Str.f x357000 x357001 x357002 255).bind fun bt386=>((factotumref01_Reader_Num.f k bt386.2.1 bt386.2.2.1 bt386.2.2.2 2).bind fun bt390=>(if x366002.length < 8796093022208 then (if x366003.length < 17592186044416 then (factotumref09_Read.l1 k x0 x6 (IntKind.u64.wrap (x12 + 1)) bt390.2.1 bt390.2.2.1 bt390.2.2.2 x366000 (x366002 ++ [bt386.1]) (x366003 ++ [wrap64 (bt390.1)])) else (none)) else (none)))) else ((factotumref09_Write.f k x366000 ([]:List (S44)) x366002 x366003).bind fun bt400=>(if x357002=0 then (if bt400.2=0 then (if bt400.1.toList=x0.toList then (some (x366000,([]:List (S44)),x366002,x366003,0)) else (some (false,([]:List (S44)),([]:List ByteArray),([]:List Int),10))) else (some (false,([]:List (S44)),([]:List ByteArray),([]:List Int),10))) else (some (false,([]:List (S44)),([]:List ByteArray),([]:List Int),10))))
end
def factotumref09_Read.f (k:Nat) (a0:ByteArray):Option (Bool × (List (S44)) × List ByteArray × List Int × Int):=(factotumref01_Reader_Num.f k a0 0 0 1).bind fun bt357=>((factotumref01_Reader_Num.f k bt357.2.1 bt357.2.2.1 bt357.2.2.2 1).bind fun bt361=>(if bt357.1=1 then (factotumref09_Read.l0 k a0 bt361.1 0 bt361.2.1 bt361.2.2.1 bt361.2.2.2 true ([]:List (S44))) else ((factotumref01_Reader_Num.f k bt361.2.1 bt361.2.2.1 bt361.2.2.2 2).bind fun bt379=>(if ([]:List Int).length < 17592186044416 then (factotumref09_Read.l1 k a0 bt361.1 0 bt379.2.1 bt379.2.2.1 bt379.2.2.2 false ([]:List ByteArray) (([]:List Int) ++ [wrap64 (bt379.1)])) else (none)))))
theorem factotumref09_Read.mono_l:∀ k,(∀ y0 y1 y2 y3 y4 y5 y6 y7,LeO (factotumref09_Read.l0 k y0 y1 y2 y3 y4 y5 y6 y7) (factotumref09_Read.l0 (k + 1) y0 y1 y2 y3 y4 y5 y6 y7))∧(∀ y0 y1 y2 y3 y4 y5 y6 y7 y8,LeO (factotumref09_Read.j1 k y0 y1 y2 y3 y4 y5 y6 y7 y8) (factotumref09_Read.j1 (k + 1) y0 y1 y2 y3 y4 y5 y6 y7 y8))∧(∀ y0 y1 y2 y3 y4 y5 y6 y7 y8,LeO (factotumref09_Read.l1 k y0 y1 y2 y3 y4 y5 y6 y7 y8) (factotumref09_Read.l1 (k + 1) y0 y1 y2 y3 y4 y5 y6 y7 y8))∧(∀ y0 y1 y2 y3 y4 y5 y6 y7 y8 y9,LeO (factotumref09_Read.j3 k y0 y1 y2 y3 y4 y5 y6 y7 y8 y9) (factotumref09_Read.j3 (k + 1) y0 y1 y2 y3 y4 y5 y6 y7 y8 y9))
 | 0=>⟨fun _ _ _ _ _ _ _ _ r h=>by simp [factotumref09_Read.l0] at h,fun _ _ _ _ _ _ _ _ _ r h=>by simp [factotumref09_Read.j1] at h,fun _ _ _ _ _ _ _ _ _ r h=>by simp [factotumref09_Read.l1] at h,fun _ _ _ _ _ _ _ _ _ _ r h=>by simp [factotumref09_Read.j3] at h⟩
 | k + 1=>by
  obtain ⟨ih0,ih1,ih2,ih3⟩:=factotumref09_Read.mono_l k
  refine ⟨?_,?_,?_,?_⟩
  ·intro y0 y1 y2 y3 y4 y5 y6 y7
   unfold factotumref09_Read.l0
   repeat' first
   | (with_reducible exact ih0 _ _ _ _ _ _ _ _)
   | (with_reducible exact ih1 _ _ _ _ _ _ _ _ _)
   | (with_reducible exact ih2 _ _ _ _ _ _ _ _ _)
   | (with_reducible exact ih3 _ _ _ _ _ _ _ _ _ _)
   | (with_reducible exact factotumref01_Reader_Num.mono _ _ _ _ _)
   | (with_reducible exact factotumref09_Write.mono _ _ _ _ _)
   | (with_reducible exact LeO.refl _)
   | (with_reducible exact LeO.none _)
   | (with_reducible refine LeO.ite ?_ ?_)
   | (with_reducible refine LeO.bind ?_ (fun _=>?_))
   | exact ih0 _ _ _ _ _ _ _ _
   | exact ih1 _ _ _ _ _ _ _ _ _
   | exact ih2 _ _ _ _ _ _ _ _ _
   | exact ih3 _ _ _ _ _ _ _ _ _ _
   | exact factotumref01_Reader_Num.mono _ _ _ _ _
   | exact factotumref09_Write.mono _ _ _ _ _
   | exact LeO.none _
   | refine LeO.ite ?_ ?_
   | refine LeO.bind ?_ (fun _=>?_)
  ·intro y0 y1 y2 y3 y4 y5 y6 y7 y8
   unfold factotumref09_Read.j1
   repeat' first
   | (with_reducible exact ih0 _ _ _ _ _ _ _ _)
   | (with_reducible exact ih1 _ _ _ _ _ _ _ _ _)
   | (with_reducible exact ih2 _ _ _ _ _ _ _ _ _)
   | (with_reducible exact ih3 _ _ _ _ _ _ _ _ _ _)
   | (with_reducible exact factotumref01_Reader_Num.mono _ _ _ _ _)
   | (with_reducible exact factotumref09_Write.mono _ _ _ _ _)
   | (with_reducible exact LeO.refl _)
   | (with_reducible exact LeO.none _)
   | (with_reducible refine LeO.ite ?_ ?_)
   | (with_reducible refine LeO.bind ?_ (fun _=>?_))
   | exact ih0 _ _ _ _ _ _ _ _
   | exact ih1 _ _ _ _ _ _ _ _ _
   | exact ih2 _ _ _ _ _ _ _ _ _
   | exact ih3 _ _ _ _ _ _ _ _ _ _
   | exact factotumref01_Reader_Num.mono _ _ _ _ _
   | exact factotumref09_Write.mono _ _ _ _ _
   | exact LeO.none _
   | refine LeO.ite ?_ ?_
   | refine LeO.bind ?_ (fun _=>?_)
  ·intro y0 y1 y2 y3 y4 y5 y6 y7 y8
   unfold factotumref09_Read.l1
   repeat' first
   | (with_reducible exact ih0 _ _ _ _ _ _ _ _)
   | (with_reducible exact ih1 _ _ _ _ _ _ _ _ _)
   | (with_reducible exact ih2 _ _ _ _ _ _ _ _ _)
   | (with_reducible exact ih3 _ _ _ _ _ _ _ _ _ _)
   | (with_reducible exact factotumref01_Reader_Num.mono _ _ _ _ _)
   | (with_reducible exact factotumref09_Write.mono _ _ _ _ _)
   | (with_reducible exact LeO.refl _)
   | (with_reducible exact LeO.none _)
   | (with_reducible refine LeO.ite ?_ ?_)
   | (with_reducible refine LeO.bind ?_ (fun _=>?_))
   | exact ih0 _ _ _ _ _ _ _ _
   | exact ih1 _ _ _ _ _ _ _ _ _
   | exact ih2 _ _ _ _ _ _ _ _ _
   | exact ih3 _ _ _ _ _ _ _ _ _ _
   | exact factotumref01_Reader_Num.mono _ _ _ _ _
   | exact factotumref09_Write.mono _ _ _ _ _
   | exact LeO.none _
   | refine LeO.ite ?_ ?_
   | refine LeO.bind ?_ (fun _=>?_)
  ·intro y0 y1 y2 y3 y4 y5 y6 y7 y8 y9
   unfold factotumref09_Read.j3
   repeat' first
   | (with_reducible exact ih0 _ _ _ _ _ _ _ _)
   | (with_reducible exact ih1 _ _ _ _ _ _ _ _ _)
   | (with_reducible exact ih2 _ _ _ _ _ _ _ _ _)
   | (with_reducible exact ih3 _ _ _ _ _ _ _ _ _ _)
   | (with_reducible exact factotumref01_Reader_Num.mono _ _ _ _ _)
   | (with_reducible exact factotumref09_Write.mono _ _ _ _ _)
   | (with_reducible exact LeO.refl _)
   | (with_reducible exact LeO.none _)
   | (with_reducible refine LeO.ite ?_ ?_)
   | (with_reducible refine LeO.bind ?_ (fun _=>?_))
   | exact ih0 _ _ _ _ _ _ _ _
   | exact ih1 _ _ _ _ _ _ _ _ _
   | exact ih2 _ _ _ _ _ _ _ _ _
   | exact ih3 _ _ _ _ _ _ _ _ _ _
   | exact factotumref01_Reader_Num.mono _ _ _ _ _
   | exact factotumref09_Write.mono _ _ _ _ _
   | exact LeO.none _
   | refine LeO.ite ?_ ?_
   | refine LeO.bind ?_ (fun _=>?_)
theorem factotumref09_Read.mono:∀ a0 k,LeO (factotumref09_Read.f k a0) (factotumref09_Read.f (k + 1) a0):=by
 intro a0 k
 obtain ⟨ih0,ih1,ih2,ih3⟩:=factotumref09_Read.mono_l k
 unfold factotumref09_Read.f
 repeat' first
   | (with_reducible exact ih0 _ _ _ _ _ _ _ _)
   | (with_reducible exact ih1 _ _ _ _ _ _ _ _ _)
   | (with_reducible exact ih2 _ _ _ _ _ _ _ _ _)
   | (with_reducible exact ih3 _ _ _ _ _ _ _ _ _ _)
   | (with_reducible exact factotumref01_Reader_Num.mono _ _ _ _ _)
   | (with_reducible exact factotumref09_Write.mono _ _ _ _ _)
   | (with_reducible exact LeO.refl _)
   | (with_reducible exact LeO.none _)
   | (with_reducible refine LeO.ite ?_ ?_)
   | (with_reducible refine LeO.bind ?_ (fun _=>?_))
   | exact ih0 _ _ _ _ _ _ _ _
   | exact ih1 _ _ _ _ _ _ _ _ _
   | exact ih2 _ _ _ _ _ _ _ _ _
   | exact ih3 _ _ _ _ _ _ _ _ _ _
   | exact factotumref01_Reader_Num.mono _ _ _ _ _
   | exact factotumref09_Write.mono _ _ _ _ _
   | exact LeO.none _
   | refine LeO.ite ?_ ?_
   | refine LeO.bind ?_ (fun _=>?_)
set_option maxHeartbeats 8000000 in
set_option maxRecDepth 100000 in
theorem factotumref09_Read.calls (k:Nat) (a0:ByteArray) (r1:Bool) (r2:List (S44)) (r3:List ByteArray) (r4:List Int) (r5:Int) (w:World) (h:factotumref09_Read.f k a0=some (r1,r2,r3,r4,r5)) :
  Calls Tryd.prog 7 #[.string a0] w fun e w'=>∃ v1_ v2_ v3_:Value,e=.returned (.tuple #[.agg #[.bool r1,v1_,v2_,v3_],.int .i64 r5])∧Kd.R k44 44 w' w.heap.size (fun _=>True) v1_ r2∧Kd.R Kd.string 9 w' w.heap.size (fun _=>True) v2_ r3∧Kd.R (Kd.int .i64) 3 w' w.heap.size (fun _=>True) v3_ r4∧Below w.heap.size w w':=by
 have hu27:=Tryd.underlying27
 have hu51:=Tryd.underlying51
 have hu44:=Tryd.underlying44
 have HB:=Aside0.mk (Below.refl w.heap.size w)
 have H:((factotumref01_Reader_Num.f k a0 0 0 1).bind fun bt357=>((factotumref01_Reader_Num.f k bt357.2.1 bt357.2.2.1 bt357.2.2.2 1).bind fun bt361=>(if bt357.1=1 then (factotumref09_Read.l0 k a0 bt361.1 0 bt361.2.1 bt361.2.2.1 bt361.2.2.2 true ([]:List (S44))) else ((factotumref01_Reader_Num.f k bt361.2.1 bt361.2.2.1 bt361.2.2.2 2).bind fun bt379=>(if ([]:List Int).length < 17592186044416 then (factotumref09_Read.l1 k a0 bt361.1 0 bt379.2.1 bt379.2.2.1 bt379.2.2.2 false ([]:List ByteArray) (([]:List Int) ++ [wrap64 (bt379.1)])) else (none))))))=some (r1,r2,r3,r4,r5):=h
 clear h
 replace H:=Option.bind_eq_some_iff.mp H
 obtain ⟨⟨t357,t358,t359,t360⟩,A20,H⟩:=H
 replace H:((factotumref01_Reader_Num.f k t358 t359 t360 1).bind fun bt361=>(if t357=1 then (factotumref09_Read.l0 k a0 bt361.1 0 bt361.2.1 bt361.2.2.1 bt361.2.2.2 true ([]:List (S44))) else ((factotumref01_Reader_Num.f k bt361.2.1 bt361.2.2.1 bt361.2.2.2 2).bind fun bt379=>(if ([]:List Int).length < 17592186044416 then (factotumref09_Read.l1 k a0 bt361.1 0 bt379.2.1 bt379.2.2.1 bt379.2.2.2 false ([]:List ByteArray) (([]:List Int) ++ [wrap64 (bt379.1)])) else (none)))))=some (r1,r2,r3,r4,r5):=H
 have A2:=Aside0.mk A20
 clear A20
 replace H:=Option.bind_eq_some_iff.mp H
 obtain ⟨⟨t361,t362,t363,t364⟩,A30,H⟩:=H
 replace H:(if t357=1 then (factotumref09_Read.l0 k a0 t361 0 t362 t363 t364 true ([]:List (S44))) else ((factotumref01_Reader_Num.f k t362 t363 t364 2).bind fun bt379=>(if ([]:List Int).length < 17592186044416 then (factotumref09_Read.l1 k a0 t361 0 bt379.2.1 bt379.2.2.1 bt379.2.2.2 false ([]:List ByteArray) (([]:List Int) ++ [wrap64 (bt379.1)])) else (none))))=some (r1,r2,r3,r4,r5):=H
 have A3:=Aside0.mk A30
 clear A30
 by_cases c4:t357=1
 ·rw [if_pos c4] at H
  have c4b0:(t357 == 1)=true:=beq_iff_eq.mpr c4
  have c4b1:(t357 != 1)=false:=bne_eq_false_iff_eq.mpr c4
  clear c4
  have H':=Aside0.mk H
  clear H
  go_enter Tryd.func7,Tryd.ntmps7
  go_wp2_with (first|((with_reducible refine gate_dst (N:=2) rfl ?_);refine box_event ?hg (N:=2) ?hd (cs:=#[.bool false,.slice none 0 0,.slice none 0 0,.slice none 0 0]) (t:=27) ?hr ?_;(case hd=>rfl);(case hg=>rfl);(case hr=>first|(go_simp;done)|(go_simp;rfl));intro gb355 hg w5 hbox hb;have BK355:=Aside0.mk (hbox);have GW355:=Aside0.mk ((by rw [hg];exact (below_size (by repeat (first|(with_reducible first|exact HB.out|apply zl1|apply zl2|apply zl3)|exact HB.out))):w.heap.size≤gb355));have GE355:=Aside0.mk ((by rw [hg];exact (below_size (by repeat (first|(with_reducible first|exact HB.out|apply zl1|apply zl2|apply zl3)|exact HB.out))):w.heap.size≤gb355));replace HB:=Aside0.mk (below_step (by repeat (first|(with_reducible first|exact HB.out|apply zl1|apply zl2|apply zl3)|exact HB.out)) hb);clear hb hbox hg)|((with_reducible refine gate_dst (N:=18) rfl ?_);refine box_event ?hg (N:=18) ?hd (cs:=#[.string a0,.int .i64 0,.int .i64 0]) (t:=51) ?hr ?_;(case hd=>rfl);(case hg=>rfl);(case hr=>first|(go_simp;done)|(go_simp;rfl));intro gb356 hg w6 hbox hb;have HI356:=Aside0.mk ((show IsS51 w _ gb356 a0 0 0 from ⟨hbox,(by rw [hg];exact (below_size (by repeat (first|(with_reducible first|exact HB.out|apply zl1|apply zl2|apply zl3|refine below_set ?_ GE355.out)|exact HB.out))):w.heap.size≤gb356)⟩));have GW356:=Aside0.mk ((by rw [hg];exact (below_size (by repeat (first|(with_reducible first|exact HB.out|apply zl1|apply zl2|apply zl3|refine below_set ?_ GE355.out)|exact HB.out))):w.heap.size≤gb356));have GE356:=Aside0.mk ((by rw [hg];exact (below_size (by repeat (first|(with_reducible first|exact HB.out|apply zl1|apply zl2|apply zl3|refine below_set ?_ GE355.out)|exact HB.out))):w.heap.size≤gb356));replace HB:=Aside0.mk (below_step (by repeat (first|(with_reducible first|exact HB.out|apply zl1|apply zl2|apply zl3|refine below_set ?_ GE355.out)|exact HB.out)) hb);have NB355_356:=Aside0.mk ((by rw [hg];exact Nat.ne_of_lt (blk_lt (g:=gb355) (o:=.cells #[.bool false,.slice none 0 0,.slice none 0 0,.slice none 0 0] 27 (0,0)) (by (with_reducible repeat (first|apply zb1|apply zb2|apply zb3));exact BK355.out)):gb355 ≠ gb356));have NB356_355:=Aside0.mk ((by rw [hg];exact Nat.ne_of_gt (blk_lt (g:=gb355) (o:=.cells #[.bool false,.slice none 0 0,.slice none 0 0,.slice none 0 0] 27 (0,0)) (by (with_reducible repeat (first|apply zb1|apply zb2|apply zb3));exact BK355.out)):gb356 ≠ gb355));replace BK355:=Aside0.mk (blk_below (g:=gb355) (o:=.cells #[.bool false,.slice none 0 0,.slice none 0 0,.slice none 0 0] 27 (0,0)) (by (with_reducible repeat (first|apply zb1|apply zb2|apply zb3));exact BK355.out) hb);clear hb hbox hg)|((with_reducible refine gate_callee (f:=20) rfl ?_);refine goesL_ (some 20) rfl rfl Tryd.func20 (by kernel_rfl) rfl #[.pointer (some ⟨gb356,0,none⟩),.int .i64 1] rfl (by (try simp only [List.map_toArray,List.map_cons,List.map_nil]);first|done|rfl|(simp only [List.length_drop,List.length_take];rfl)|(simp (disch:=omega) only [u64_in];rfl)) ?_;(with_reducible refine (factotumref01_Reader_Num.calls k gb356 a0 0 0 1 t357 t358 t359 t360 w _ ?side1 ?side2 A2.out).mono ?_);(case side1=>repeat (first|(with_reducible first|exact HI356.out|apply IsS51.alloc|apply IsS51.drewN|apply IsS51.drew|apply IsS51.set_0|apply IsS51.set_1|apply IsS51.set_2|refine IsS51.far ?_ NB356_355.out _)|exact HI356.out));(case side2=>repeat (first|(with_reducible first|exact HB.out|apply zl1|apply zl2|apply zl3|refine below_set ?_ (IsS51.ge HI356.out)|refine below_set ?_ GE355.out)|exact HB.out));rintro e w7 ⟨rfl,hi,hb,hk⟩;refine ⟨_,rfl,?_⟩;replace BK355:=Aside0.mk (KeepBut.blk hk (g':=gb355) (o:=.cells #[.bool false,.slice none 0 0,.slice none 0 0,.slice none 0 0] 27 (0,0)) (by (with_reducible repeat (first|apply zb1|apply zb2|apply zb3));exact BK355.out) NB355_356.out (by simp));replace HB:=Aside0.mk (hb);replace HI356:=Aside0.mk (hi);(try clear hb);(try clear hk);(try clear hi))|((with_reducible refine gate_callee (f:=20) rfl ?_);refine goesL_ (some 22) rfl rfl Tryd.func20 (by kernel_rfl) rfl #[.pointer (some ⟨gb356,0,none⟩),.int .i64 1] rfl (by (try simp only [List.map_toArray,List.map_cons,List.map_nil]);first|done|rfl|(simp only [List.length_drop,List.length_take];rfl)|(simp (disch:=omega) only [u64_in];rfl)) ?_;(with_reducible refine (factotumref01_Reader_Num.calls k gb356 t358 t359 t360 1 t361 t362 t363 t364 w _ ?side1 ?side2 A3.out).mono ?_);(case side1=>repeat (first|(with_reducible first|exact HI356.out|apply IsS51.alloc|apply IsS51.drewN|apply IsS51.drew|apply IsS51.set_0|apply IsS51.set_1|apply IsS51.set_2|refine IsS51.far ?_ NB356_355.out _)|exact HI356.out));(case side2=>repeat (first|(with_reducible first|exact HB.out|apply zl1|apply zl2|apply zl3|refine below_set ?_ (IsS51.ge HI356.out)|refine below_set ?_ GE355.out)|exact HB.out));rintro e w8 ⟨rfl,hi,hb,hk⟩;refine ⟨_,rfl,?_⟩;replace BK355:=Aside0.mk (KeepBut.blk hk (g':=gb355) (o:=.cells #[.bool false,.slice none 0 0,.slice none 0 0,.slice none 0 0] 27 (0,0)) (by (with_reducible repeat (first|apply zb1|apply zb2|apply zb3));exact BK355.out) NB355_356.out (by simp));replace HB:=Aside0.mk (hb);replace HI356:=Aside0.mk (hi);(try clear hb);(try clear hk);(try clear hi))|((with_reducible refine gate_dst (N:=7) rfl ?_);refine box_event ?hg (N:=7) ?hd (cs:=#[.bool false,.slice none 0 0,.slice none 0 0,.slice none 0 0]) (t:=27) ?hr ?_;(case hd=>rfl);(case hg=>rfl);(case hr=>first|(go_simp;done)|(go_simp;rfl));intro gb365 hg w9 hbox hb;have BK365:=Aside0.mk (hbox);have GW365:=Aside0.mk ((by rw [hg];exact (below_size (by repeat (first|(with_reducible first|exact HB.out|apply zl1|apply zl2|apply zl3|refine below_set ?_ (IsS51.ge HI356.out)|refine below_set ?_ GE355.out)|exact HB.out))):w.heap.size≤gb365));have GE365:=Aside0.mk ((by rw [hg];exact (below_size (by repeat (first|(with_reducible first|exact HB.out|apply zl1|apply zl2|apply zl3|refine below_set ?_ (IsS51.ge HI356.out)|refine below_set ?_ GE355.out)|exact HB.out))):w.heap.size≤gb365));replace HB:=Aside0.mk (below_step (by repeat (first|(with_reducible first|exact HB.out|apply zl1|apply zl2|apply zl3|refine below_set ?_ (IsS51.ge HI356.out)|refine below_set ?_ GE355.out)|exact HB.out)) hb);have NB355_365:=Aside0.mk ((by rw [hg];exact Nat.ne_of_lt (blk_lt (g:=gb355) (o:=.cells #[.bool false,.slice none 0 0,.slice none 0 0,.slice none 0 0] 27 (0,0)) (by (with_reducible repeat (first|apply zb1|apply zb2|apply zb3));exact BK355.out)):gb355 ≠ gb365));have NB365_355:=Aside0.mk ((by rw [hg];exact Nat.ne_of_gt (blk_lt (g:=gb355) (o:=.cells #[.bool false,.slice none 0 0,.slice none 0 0,.slice none 0 0] 27 (0,0)) (by (with_reducible repeat (first|apply zb1|apply zb2|apply zb3));exact BK355.out)):gb365 ≠ gb355));replace BK355:=Aside0.mk (blk_below (g:=gb355) (o:=.cells #[.bool false,.slice none 0 0,.slice none 0 0,.slice none 0 0] 27 (0,0)) (by (with_reducible repeat (first|apply zb1|apply zb2|apply zb3));exact BK355.out) hb);have NB356_365:=Aside0.mk ((by rw [hg];exact Nat.ne_of_lt (IsS51.lt (show IsS51 w _ gb356 t362 t363 t364 from by repeat (first|(with_reducible first|exact HI356.out|apply IsS51.alloc|apply IsS51.drewN|apply IsS51.drew|apply IsS51.set_0|apply IsS51.set_1|apply IsS51.set_2|refine IsS51.far ?_ NB356_355.out _)|exact HI356.out))):gb356 ≠ gb365));have NB365_356:=Aside0.mk ((by rw [hg];exact Nat.ne_of_gt (IsS51.lt (show IsS51 w _ gb356 t362 t363 t364 from by repeat (first|(with_reducible first|exact HI356.out|apply IsS51.alloc|apply IsS51.drewN|apply IsS51.drew|apply IsS51.set_0|apply IsS51.set_1|apply IsS51.set_2|refine IsS51.far ?_ NB356_355.out _)|exact HI356.out))):gb365 ≠ gb356));replace HI356:=Aside0.mk (IsS51.below (by repeat (first|(with_reducible first|exact HI356.out|apply IsS51.alloc|apply IsS51.drewN|apply IsS51.drew|apply IsS51.set_0|apply IsS51.set_1|apply IsS51.set_2|refine IsS51.far ?_ NB356_355.out _)|exact HI356.out)) hb);clear hb hbox hg;have hnb10:=NB365_355.out;have hnc10:=NB355_365.out;have hnb11:=NB365_356.out;have hnc11:=NB356_365.out;have hcz12_0:w9.cell? ⟨gb365,0,none⟩=some (.bool false):=(blk_cell BK365.out 0).trans rfl;have hcz12_1:w9.cell? ⟨gb365,1,none⟩=some (.slice none 0 0):=(blk_cell BK365.out 1).trans rfl;have hcz12_2:w9.cell? ⟨gb365,2,none⟩=some (.slice none 0 0):=(blk_cell BK365.out 2).trans rfl;have hcz12_3:w9.cell? ⟨gb365,3,none⟩=some (.slice none 0 0):=(blk_cell BK365.out 3).trans rfl;have hfz12_0:=blk_frozen BK365.out 0;have hfz12_1:=blk_frozen BK365.out 1;have hfz12_2:=blk_frozen BK365.out 2;have hfz12_3:=blk_frozen BK365.out 3))
  go_loopg [8] k (fun kq v8 w'=>∃ (x8_1:Int) (x357000_1:ByteArray) (x357001_1:Int) (x357002_1:Int) (x366001_1:List (S44)) (u366001:Value),v8=.int .u64 x8_1∧Aside0 (factotumref09_Read.l0 kq a0 t361 x8_1 x357000_1 x357001_1 x357002_1 true x366001_1=some (r1,r2,r3,r4,r5))∧Aside0 (kq≤k)∧Aside0 (Kd.R k44 44 w' w.heap.size (fun _=>True) u366001 x366001_1)∧Aside0 (w'.heap[gb355]?=some (.cells #[.bool false,(.slice none 0 0),(.slice none 0 0),(.slice none 0 0)] 27 (0,0)))∧Aside0 (w'.heap[gb365]?=some (.cells #[.bool true,u366001,(.slice none 0 0),(.slice none 0 0)] 27 (0,0)))∧Aside0 (IsS51 w w' gb356 x357000_1 x357001_1 x357002_1)∧Aside0 (Below w.heap.size w w'))
  case atStart=>exact ⟨(0),(t362),(t363),(t364),(([]:List (S44))),(.slice none 0 0),(by first|(with_reducible rfl)|(simp;done)|(simp [*];done)|rfl|(simp only [not_isEmpty_bne])),H',⟨Nat.le_refl _⟩,⟨by first|exact Kd.R_nil _ _ _ _ _|exact Kd.N_nil _ _ _ _ _|exact Kd.V_nil _ _ _ _ _|exact Kd.Q_nil _ _ _ _ _|exact Kd.S_nil _ _ _ _ _⟩,⟨by (with_reducible repeat (first|apply zb1|apply zb2|apply zb3));refine blk_far ?_ NB355_365.out _;(with_reducible repeat (first|apply zb1|apply zb2|apply zb3));exact BK355.out⟩,⟨by (with_reducible repeat (first|apply zb1|apply zb2|apply zb3));refine blk_put (cs:=#[.bool false,.slice none 0 0,.slice none 0 0,.slice none 0 0]) ?_ 0 _ rfl;(with_reducible repeat (first|apply zb1|apply zb2|apply zb3));exact BK365.out⟩,⟨by repeat (first|(with_reducible first|exact HI356.out|apply IsS51.alloc|apply IsS51.drewN|apply IsS51.drew|apply IsS51.set_0|apply IsS51.set_1|apply IsS51.set_2|refine IsS51.far ?_ NB356_355.out _|refine IsS51.far ?_ NB356_365.out _)|exact HI356.out)⟩,⟨by repeat (first|(with_reducible first|exact HB.out|apply zl1|apply zl2|apply zl3|refine below_set ?_ (IsS51.ge HI356.out)|refine below_set ?_ GE355.out|refine below_set ?_ GE365.out)|exact HB.out)⟩⟩
  case round =>
   clear H'
   try clear hfz12_0 hfz12_1 hfz12_2 hfz12_3
   try clear hcz12_0 hcz12_1 hcz12_2 hcz12_3
   try clear c1
   try clear c2
   try clear p2
   try clear c4
   try clear c4b0
   try clear c4b1
   try clear p6
   try clear c7
   try clear c10
   try clear c11
   obtain ⟨x8_1,x357000_1,x357001_1,x357002_1,x366001_1,u366001,rfl,HA,HK1,HO_366001,BK355,BK365,HI356,HB⟩:=hrel
   cases gk with
   | zero=>exact absurd HA.out (by simp [factotumref09_Read.l0])
   | succ k1 =>
    have H:=HA.out
    clear HA
    simp only [factotumref09_Read.l0] at H
    have HC13:=Aside0.mk H
    clear H
    go_upto_region 8 with (fail)
    go_cut [35] (fun v35 wc=>∃ (kq:Nat) (x35_12:Bool),v35=.bool x35_12∧Aside0 (factotumref09_Read.j1 kq a0 t361 x8_1 x35_12 x357000_1 x357001_1 x357002_1 true x366001_1=some (r1,r2,r3,r4,r5))∧Aside0 (kq≤k1)∧Aside0 (Kd.R k44 44 wc w.heap.size (fun _=>True) u366001 x366001_1)∧Aside0 (wc.heap[gb355]?=some (.cells #[.bool false,(.slice none 0 0),(.slice none 0 0),(.slice none 0 0)] 27 (0,0)))∧Aside0 (wc.heap[gb365]?=some (.cells #[.bool true,u366001,(.slice none 0 0),(.slice none 0 0)] 27 (0,0)))∧Aside0 (IsS51 w wc gb356 x357000_1 x357001_1 x357002_1)∧Aside0 (Below w.heap.size w wc))
    case first =>
     have H:=HC13.out
     clear HC13
     by_cases c14:x8_1 < t361
     ·rw [if_pos c14] at H
      have c14b0:decide (x8_1 < t361)=true:=decide_eq_true c14
      clear c14
      (first|rw [c14b0]|(simp only [i64_w,i32_w];rw [c14b0])|skip)
      have H':=Aside0.mk H
      clear H
      obtain ⟨HGz15,hgz15⟩:=HI356.out
      have hcz15_0:=cellS51_0 HGz15
      have hcz15_1:=cellS51_1 HGz15
      have hcz15_2:=cellS51_2 HGz15
      have hfz15_0:=blk_frozen HGz15 0
      have hfz15_1:=blk_frozen HGz15 1
      have hfz15_2:=blk_frozen HGz15 2
      clear HGz15 hgz15
      go_wp2
      go_meet
      case rel=>exact ⟨_,((x357002_1 == 0)),(by first|(with_reducible rfl)|(simp;done)|(simp [*];done)|rfl|(simp only [not_isEmpty_bne])),H',⟨by have:=HK1.out;first|omega|exact Nat.le_refl _⟩,⟨by (with_reducible repeat (first|apply zk1|apply zk2|apply zk3));exact HO_366001.out⟩,⟨by (with_reducible repeat (first|apply zb1|apply zb2|apply zb3));exact BK355.out⟩,⟨by (with_reducible repeat (first|apply zb1|apply zb2|apply zb3));exact BK365.out⟩,⟨by repeat (first|(with_reducible first|exact HI356.out|apply IsS51.alloc|apply IsS51.drewN|apply IsS51.drew|apply IsS51.set_0|apply IsS51.set_1|apply IsS51.set_2|refine IsS51.far ?_ NB356_355.out _|refine IsS51.far ?_ NB356_365.out _)|exact HI356.out)⟩,⟨by repeat (first|(with_reducible first|exact HB.out|apply zl1|apply zl2|apply zl3|refine below_set ?_ (IsS51.ge HI356.out)|refine below_set ?_ GE355.out|refine below_set ?_ GE365.out)|exact HB.out)⟩⟩
     ·rw [if_neg c14] at H
      have c14b0:decide (x8_1 < t361)=false:=decide_eq_false c14
      clear c14
      (first|rw [c14b0]|(simp only [i64_w,i32_w];rw [c14b0])|skip)
      have H':=Aside0.mk H
      clear H
      go_wp2
      go_meet
      case rel=>exact ⟨_,(false),(by first|(with_reducible rfl)|(simp;done)|(simp [*];done)|rfl|(simp only [not_isEmpty_bne])),H',⟨by have:=HK1.out;first|omega|exact Nat.le_refl _⟩,⟨by (with_reducible repeat (first|apply zk1|apply zk2|apply zk3));exact HO_366001.out⟩,⟨by (with_reducible repeat (first|apply zb1|apply zb2|apply zb3));exact BK355.out⟩,⟨by (with_reducible repeat (first|apply zb1|apply zb2|apply zb3));exact BK365.out⟩,⟨by repeat (first|(with_reducible first|exact HI356.out|apply IsS51.alloc|apply IsS51.drewN|apply IsS51.drew|apply IsS51.set_0|apply IsS51.set_1|apply IsS51.set_2|refine IsS51.far ?_ NB356_355.out _|refine IsS51.far ?_ NB356_365.out _)|exact HI356.out)⟩,⟨by repeat (first|(with_reducible first|exact HB.out|apply zl1|apply zl2|apply zl3|refine below_set ?_ (IsS51.ge HI356.out)|refine below_set ?_ GE355.out|refine below_set ?_ GE365.out)|exact HB.out)⟩⟩
    case rest =>
     clear HC13
     try clear hfz12_0 hfz12_1 hfz12_2 hfz12_3 hfz15_0 hfz15_1 hfz15_2
     try clear hcz12_0 hcz12_1 hcz12_2 hcz12_3 hcz15_0 hcz15_1 hcz15_2
     try clear c1
     try clear c2
     try clear p2
     try clear c4
     try clear c4b0
     try clear c4b1
     try clear p6
     try clear c7
     try clear c10
     try clear c11
     try clear c14
     try clear c14b0
     try clear p2
     try clear p6
     obtain ⟨kq,x35_12,rfl,HA,HJ12,HO_366001,BK355,BK365,HI356,HB⟩:=hcut
     cases kq with
     | zero=>exact absurd HA.out (by simp [factotumref09_Read.j1])
     | succ kj12 =>
      have H:=HA.out
      clear HA
      simp only [factotumref09_Read.j1] at H
      by_cases c16:x35_12=true
      ·subst c16
       have H1:((factotumref01_Reader_Str.f x357000_1 x357001_1 x357002_1 255).bind fun bt366=>((factotumref01_Reader_Str.f bt366.2.1 bt366.2.2.1 bt366.2.2.2 255).bind fun bt370=>(if x366001_1.length < 4398046511104 then (factotumref09_Read.l0 kj12 a0 t361 (IntKind.u64.wrap (x8_1 + 1)) bt370.2.1 bt370.2.2.1 bt370.2.2.2 true (x366001_1 ++ [(⟨bt366.1,bt370.1⟩:S44)])) else (none))))=some (r1,r2,r3,r4,r5):=by rw [if_pos rfl] at H;exact H
       clear H
       have H:=H1
       clear H1
       replace H:=Option.bind_eq_some_iff.mp H
       obtain ⟨⟨t366,t367,t368,t369⟩,A170,H⟩:=H
       replace H:((factotumref01_Reader_Str.f t367 t368 t369 255).bind fun bt370=>(if x366001_1.length < 4398046511104 then (factotumref09_Read.l0 kj12 a0 t361 (IntKind.u64.wrap (x8_1 + 1)) bt370.2.1 bt370.2.2.1 bt370.2.2.2 true (x366001_1 ++ [(⟨t366,bt370.1⟩:S44)])) else (none)))=some (r1,r2,r3,r4,r5):=H
       have A17:=Aside0.mk A170
       clear A170
       replace H:=Option.bind_eq_some_iff.mp H
       obtain ⟨⟨t370,t371,t372,t373⟩,A180,H⟩:=H
       replace H:(if x366001_1.length < 4398046511104 then (factotumref09_Read.l0 kj12 a0 t361 (IntKind.u64.wrap (x8_1 + 1)) t371 t372 t373 true (x366001_1 ++ [(⟨t366,t370⟩:S44)])) else (none))=some (r1,r2,r3,r4,r5):=H
       have A18:=Aside0.mk A180
       clear A180
       by_cases c19:x366001_1.length < 4398046511104
       ·rw [if_pos c19] at H
        have LMc19:=Aside0.mk c19
        clear c19
        obtain ⟨y374,hy374⟩:∃ y_:List (S44),y_=(x366001_1 ++ [(⟨t366,t370⟩:S44)]):=⟨_,rfl⟩
        replace H:(factotumref09_Read.l0 kj12 a0 t361 (IntKind.u64.wrap (x8_1 + 1)) t371 t372 t373 true y374)=some (r1,r2,r3,r4,r5):=by first|(rw [hy374];with_reducible exact H)|(have H2_:=(Option.bind_some _ _).symm.trans H;rw [hy374];with_reducible exact H2_)|(have H2_:=(Option.bind_some _ _).symm.trans H;with_reducible exact H2_)|with_reducible exact H|(rw [hy374];exact H)|exact H
        have Ny374:=Aside0.mk hy374
        clear hy374
        have H':=Aside0.mk H
        clear H
        go_wp2_with (first|((with_reducible refine gate_callee (f:=21) rfl ?_);refine goesL_ (some 39) rfl rfl Tryd.func21 (by kernel_rfl) rfl #[.pointer (some ⟨gb356,0,none⟩),.int .i64 255] rfl (by (try simp only [List.map_toArray,List.map_cons,List.map_nil]);first|done|rfl|(simp only [List.length_drop,List.length_take];rfl)|(simp (disch:=omega) only [u64_in];rfl)) ?_;(with_reducible refine (factotumref01_Reader_Str.calls gb356 x357000_1 x357001_1 x357002_1 255 t366 t367 t368 t369 w _ ?side1 ?side2 A17.out).mono ?_);(case side1=>repeat (first|(with_reducible first|exact HI356.out|apply IsS51.alloc|apply IsS51.drewN|apply IsS51.drew|apply IsS51.set_0|apply IsS51.set_1|apply IsS51.set_2|refine IsS51.far ?_ NB356_355.out _|refine IsS51.far ?_ NB356_365.out _)|exact HI356.out));(case side2=>repeat (first|(with_reducible first|exact HB.out|apply zl1|apply zl2|apply zl3|refine below_set ?_ (IsS51.ge HI356.out)|refine below_set ?_ GE355.out|refine below_set ?_ GE365.out)|exact HB.out));rintro e w20 ⟨rfl,hi,hb,hk⟩;refine ⟨_,rfl,?_⟩;replace HO_366001:=Aside0.mk (Kd.R_mono (Kd.R_keep (IsS51.apart (show IsS51 w _ gb356 x357000_1 x357001_1 x357002_1 from by repeat (first|(with_reducible first|exact HI356.out|apply IsS51.alloc|apply IsS51.drewN|apply IsS51.drew|apply IsS51.set_0|apply IsS51.set_1|apply IsS51.set_2|refine IsS51.far ?_ NB356_355.out _|refine IsS51.far ?_ NB356_365.out _)|exact HI356.out)) (by (with_reducible repeat (first|apply zk1|apply zk2|apply zk3));exact HO_366001.out) (by decide)) hk (fun _ h=>h.2)) (fun _ h=>h.1));replace BK355:=Aside0.mk (KeepBut.blk hk (g':=gb355) (o:=.cells #[.bool false,.slice none 0 0,.slice none 0 0,.slice none 0 0] 27 (0,0)) (by (with_reducible repeat (first|apply zb1|apply zb2|apply zb3));exact BK355.out) NB355_356.out (by simp));replace BK365:=Aside0.mk (KeepBut.blk hk (g':=gb365) (o:=.cells #[.bool true,u366001,.slice none 0 0,.slice none 0 0] 27 (0,0)) (by (with_reducible repeat (first|apply zb1|apply zb2|apply zb3));exact BK365.out) NB365_356.out (by simp));replace HB:=Aside0.mk (hb);replace HI356:=Aside0.mk (hi);(try clear hb);(try clear hk);(try clear hi))|((with_reducible refine gate_callee (f:=21) rfl ?_);refine goesL_ (some 41) rfl rfl Tryd.func21 (by kernel_rfl) rfl #[.pointer (some ⟨gb356,0,none⟩),.int .i64 255] rfl (by (try simp only [List.map_toArray,List.map_cons,List.map_nil]);first|done|rfl|(simp only [List.length_drop,List.length_take];rfl)|(simp (disch:=omega) only [u64_in];rfl)) ?_;(with_reducible refine (factotumref01_Reader_Str.calls gb356 t367 t368 t369 255 t370 t371 t372 t373 w _ ?side1 ?side2 A18.out).mono ?_);(case side1=>repeat (first|(with_reducible first|exact HI356.out|apply IsS51.alloc|apply IsS51.drewN|apply IsS51.drew|apply IsS51.set_0|apply IsS51.set_1|apply IsS51.set_2|refine IsS51.far ?_ NB356_355.out _|refine IsS51.far ?_ NB356_365.out _)|exact HI356.out));(case side2=>repeat (first|(with_reducible first|exact HB.out|apply zl1|apply zl2|apply zl3|refine below_set ?_ (IsS51.ge HI356.out)|refine below_set ?_ GE355.out|refine below_set ?_ GE365.out)|exact HB.out));rintro e w21 ⟨rfl,hi,hb,hk⟩;refine ⟨_,rfl,?_⟩;replace HO_366001:=Aside0.mk (Kd.R_mono (Kd.R_keep (IsS51.apart (show IsS51 w _ gb356 t367 t368 t369 from by repeat (first|(with_reducible first|exact HI356.out|apply IsS51.alloc|apply IsS51.drewN|apply IsS51.drew|apply IsS51.set_0|apply IsS51.set_1|apply IsS51.set_2|refine IsS51.far ?_ NB356_355.out _|refine IsS51.far ?_ NB356_365.out _)|exact HI356.out)) (by (with_reducible repeat (first|apply zk1|apply zk2|apply zk3));exact HO_366001.out) (by decide)) hk (fun _ h=>h.2)) (fun _ h=>h.1));replace BK355:=Aside0.mk (KeepBut.blk hk (g':=gb355) (o:=.cells #[.bool false,.slice none 0 0,.slice none 0 0,.slice none 0 0] 27 (0,0)) (by (with_reducible repeat (first|apply zb1|apply zb2|apply zb3));exact BK355.out) NB355_356.out (by simp));replace BK365:=Aside0.mk (KeepBut.blk hk (g':=gb365) (o:=.cells #[.bool true,u366001,.slice none 0 0,.slice none 0 0] 27 (0,0)) (by (with_reducible repeat (first|apply zb1|apply zb2|apply zb3));exact BK365.out) NB365_356.out (by simp));replace HB:=Aside0.mk (hb);replace HI356:=Aside0.mk (hi);(try clear hb);(try clear hk);(try clear hi);have hnb22:=NB365_355.out;have hnc22:=NB355_365.out;have hnb23:=NB365_356.out;have hnc23:=NB356_365.out;have hcz24_0:w21.cell? ⟨gb365,0,none⟩=some (.bool true):=(blk_cell BK365.out 0).trans rfl;have hcz24_1:w21.cell? ⟨gb365,1,none⟩=some (u366001):=(blk_cell BK365.out 1).trans rfl;have hcz24_2:w21.cell? ⟨gb365,2,none⟩=some (.slice none 0 0):=(blk_cell BK365.out 2).trans rfl;have hcz24_3:w21.cell? ⟨gb365,3,none⟩=some (.slice none 0 0):=(blk_cell BK365.out 3).trans rfl;have hfz24_0:=blk_frozen BK365.out 0;have hfz24_1:=blk_frozen BK365.out 1;have hfz24_2:=blk_frozen BK365.out 2;have hfz24_3:=blk_frozen BK365.out 3)|((with_reducible refine gate_builtin (b:=.append) (xs:=#[.tmp 43,.tmp 47]) rfl ?_);at_builtin;refine Kd.R_append k44 (w0:=w) w.heap.size rfl (.tmp 43) (.tmp 47) 23 44 (.agg #[(.string ⟨#[]⟩),(.string ⟨#[]⟩)]) 32 rfl Tryd.underlying23 info44 rfl (by decide) (by omega) u366001 x366001_1 (⟨t366,t370⟩:S44) [.string t366,.string t370] (fun _=>True) (fun _=>False) rfl rfl ?aP (fun _ hk=>hk.elim) ?aF ?aO ?aB ?aS ?aL ?_;(case aP=>exact k44_mkM _ _ _ (⟨t366,t370⟩:S44));(case aB=>exact (by repeat (first|(with_reducible first|exact HB.out|apply zl1|apply zl2|apply zl3|refine below_set ?_ (IsS51.ge HI356.out)|refine below_set ?_ GE355.out|refine below_set ?_ GE365.out)|exact HB.out)));(case aF=>exact (fun _ _=>trivial));(case aO=>exact (by (with_reducible repeat (first|apply zk1|apply zk2|apply zk3));exact HO_366001.out));(case aS=>exact (below_size (by repeat (first|(with_reducible first|exact HB.out|apply zl1|apply zl2|apply zl3|refine below_set ?_ (IsS51.ge HI356.out)|refine below_set ?_ GE355.out|refine below_set ?_ GE365.out)|exact HB.out))));(case aL=>have:=LMc19.out;omega);intro v375 w25 ho hb hg hat;rw [← Ny374.out] at ho;have n0_:=Aside0.mk (blk_grown (g:=gb355) (o:=.cells #[.bool false,.slice none 0 0,.slice none 0 0,.slice none 0 0] 27 (0,0)) (by (with_reducible repeat (first|apply zb1|apply zb2|apply zb3));exact BK355.out) hg (Kd.R_ne HO_366001.out BK355.out (by decide)));have n1_:=Aside0.mk (blk_grown (g:=gb365) (o:=.cells #[.bool true,u366001,.slice none 0 0,.slice none 0 0] 27 (0,0)) (by (with_reducible repeat (first|apply zb1|apply zb2|apply zb3));exact BK365.out) hg (Kd.R_ne HO_366001.out BK365.out (by decide)));have n2_:=Aside0.mk (IsS51.grown (show IsS51 w _ gb356 t371 t372 t373 from by repeat (first|(with_reducible first|exact HI356.out|apply IsS51.alloc|apply IsS51.drewN|apply IsS51.drew|apply IsS51.set_0|apply IsS51.set_1|apply IsS51.set_2|refine IsS51.far ?_ NB356_355.out _|refine IsS51.far ?_ NB356_365.out _)|exact HI356.out)) hg (IsS51.own_ne HI356.out HO_366001.out (by decide)));have n3_:=Aside0.mk (hb);have n4_:=Aside0.mk (ho);clear BK355;clear BK365;clear HI356;clear HB;clear HO_366001;have BK355:=n0_;have BK365:=n1_;have HI356:=n2_;have HB:=n3_;have HO376:=n4_;clear n0_ n1_ n2_ n3_ n4_;clear ho hb hg hat;obtain ⟨Ao26,co26,eo26⟩:=Kd.R_slice HO376.out;subst eo26;have hcz27_0:w25.cell? ⟨gb365,0,none⟩=some (.bool true):=(blk_cell BK365.out 0).trans rfl;have hcz27_1:w25.cell? ⟨gb365,1,none⟩=some (u366001):=(blk_cell BK365.out 1).trans rfl;have hcz27_2:w25.cell? ⟨gb365,2,none⟩=some (.slice none 0 0):=(blk_cell BK365.out 2).trans rfl;have hcz27_3:w25.cell? ⟨gb365,3,none⟩=some (.slice none 0 0):=(blk_cell BK365.out 3).trans rfl;have hfz27_0:=blk_frozen BK365.out 0;have hfz27_1:=blk_frozen BK365.out 1;have hfz27_2:=blk_frozen BK365.out 2;have hfz27_3:=blk_frozen BK365.out 3))
        go_roundg kj12
        case measure=>have:=HK1.out;have:=HJ12.out;omega
        case rel=>exact ⟨(IntKind.u64.wrap (x8_1 + 1)),(t371),(t372),(t373),(y374),(.slice Ao26 y374.length co26),(by first|(with_reducible rfl)|(simp;done)|(simp [*];done)|rfl|(simp only [not_isEmpty_bne])),H',⟨by have:=HK1.out;have:=HJ12.out;omega⟩,⟨by (with_reducible repeat (first|apply zk1|apply zk2|apply zk3));exact Kd.R_mono (Kd.R_far (p:=⟨gb365,1,none⟩) (Kd.R_types HO376.out BK365.out (by decide)) (fun _ hk=>hk.2) (.slice Ao26 y374.length co26)) (fun _ hk=>trivial)⟩,⟨by (with_reducible repeat (first|apply zb1|apply zb2|apply zb3));refine blk_far ?_ NB355_365.out _;(with_reducible repeat (first|apply zb1|apply zb2|apply zb3));exact BK355.out⟩,⟨by (with_reducible repeat (first|apply zb1|apply zb2|apply zb3));refine blk_put (cs:=#[.bool true,u366001,.slice none 0 0,.slice none 0 0]) ?_ 1 _ rfl;(with_reducible repeat (first|apply zb1|apply zb2|apply zb3));exact BK365.out⟩,⟨by repeat (first|(with_reducible first|exact HI356.out|apply IsS51.alloc|apply IsS51.drewN|apply IsS51.drew|apply IsS51.set_0|apply IsS51.set_1|apply IsS51.set_2|refine IsS51.far ?_ NB356_355.out _|refine IsS51.far ?_ NB356_365.out _)|exact HI356.out)⟩,⟨by repeat (first|(with_reducible first|exact HB.out|apply zl1|apply zl2|apply zl3|refine below_set ?_ (IsS51.ge HI356.out)|refine below_set ?_ GE355.out|refine below_set ?_ GE365.out)|exact HB.out)⟩⟩
       ·rw [if_neg c19] at H
        exact absurd H (by simp)
      ·replace c16:=Bool.eq_false_iff.mpr c16
       subst c16
       have H1:((factotumref09_Write.f kj12 true x366001_1 ([]:List ByteArray) ([]:List Int)).bind fun bt377=>(if x357002_1=0 then (if bt377.2=0 then (if bt377.1.toList=a0.toList then (some (true,x366001_1,([]:List ByteArray),([]:List Int),0)) else (some (false,([]:List (S44)),([]:List ByteArray),([]:List Int),10))) else (some (false,([]:List (S44)),([]:List ByteArray),([]:List Int),10))) else (some (false,([]:List (S44)),([]:List ByteArray),([]:List Int),10))))=some (r1,r2,r3,r4,r5):=by rw [if_neg (show ¬ (false=true) by decide)] at H;exact H
       clear H
       have H:=H1
       clear H1
       replace H:=Option.bind_eq_some_iff.mp H
       obtain ⟨⟨t377,t378⟩,A280,H⟩:=H
       replace H:(if x357002_1=0 then (if t378=0 then (if t377.toList=a0.toList then (some (true,x366001_1,([]:List ByteArray),([]:List Int),0)) else (some (false,([]:List (S44)),([]:List ByteArray),([]:List Int),10))) else (some (false,([]:List (S44)),([]:List ByteArray),([]:List Int),10))) else (some (false,([]:List (S44)),([]:List ByteArray),([]:List Int),10)))=some (r1,r2,r3,r4,r5):=H
       have A28:=Aside0.mk A280
       clear A280
       by_cases c29:x357002_1=0
       ·rw [if_pos c29] at H
        have c29b0:(x357002_1 == 0)=true:=beq_iff_eq.mpr c29
        have c29b1:(x357002_1 != 0)=false:=bne_eq_false_iff_eq.mpr c29
        clear c29
        by_cases c30:t378=0
        ·rw [if_pos c30] at H
         have c30b0:(t378 == 0)=true:=beq_iff_eq.mpr c30
         have c30b1:(t378 != 0)=false:=bne_eq_false_iff_eq.mpr c30
         clear c30
         by_cases c31:t377.toList=a0.toList
         ·rw [if_pos c31] at H
          have c31b0:(t377.toList == a0.toList)=true:=beq_iff_eq.mpr c31
          have c31b1:(t377.toList != a0.toList)=false:=bne_eq_false_iff_eq.mpr c31
          clear c31
          simp only [Option.some.injEq,Prod.mk.injEq] at H
          obtain ⟨rfl,rfl,rfl,rfl,rfl⟩:=H
          have hnb32:=NB365_355.out
          have hnc32:=NB355_365.out
          have hnb33:=NB365_356.out
          have hnc33:=NB356_365.out
          have hcz34_0:wc.cell? ⟨gb365,0,none⟩=some (.bool true):=(blk_cell BK365.out 0).trans rfl
          have hcz34_1:wc.cell? ⟨gb365,1,none⟩=some (u366001):=(blk_cell BK365.out 1).trans rfl
          have hcz34_2:wc.cell? ⟨gb365,2,none⟩=some (.slice none 0 0):=(blk_cell BK365.out 2).trans rfl
          have hcz34_3:wc.cell? ⟨gb365,3,none⟩=some (.slice none 0 0):=(blk_cell BK365.out 3).trans rfl
          have hfz34_0:=blk_frozen BK365.out 0
          have hfz34_1:=blk_frozen BK365.out 1
          have hfz34_2:=blk_frozen BK365.out 2
          have hfz34_3:=blk_frozen BK365.out 3
          obtain ⟨Ao35,co35,eo35⟩:=Kd.R_slice HO_366001.out
          subst eo35
          go_wp2_with (first|((with_reducible refine gate_callee (f:=22) rfl ?_);refine goesL_ (some 90) rfl rfl Tryd.func22 (by kernel_rfl) rfl #[.agg #[.bool true,.slice Ao35 x366001_1.length co35,.slice none 0 0,.slice none 0 0]] rfl (by (try simp only [List.map_toArray,List.map_cons,List.map_nil]);first|done|rfl|(simp only [List.length_drop,List.length_take];rfl)|(simp (disch:=omega) only [u64_in];rfl)) ?_;(refine (factotumref09_Write.calls kj12 true _ _ x366001_1 _ _ ([]:List ByteArray) _ _ ([]:List Int) t377 t378 _ ?side1 ?side2 ?side3 ?side4 ?side5 ?side6 A28.out).mono ?_);(case side1=>repeat (first|exact (Kd.R_reads' HO_366001.out).2.2|(with_reducible refine Kd.C_alloc ?_ _)|(with_reducible refine Kd.C_drewN ?_ _)|(with_reducible refine Kd.C_drew ?_)));(case side2=>exact (Kd.R_reads' HO_366001.out).2.1);(case side3=>exact Kd.C_nil _ _);(case side4=>exact Nat.le_refl _);(case side5=>exact Kd.C_nil _ _);(case side6=>exact Nat.le_refl _);rintro e w36 ⟨rfl,hb⟩;refine ⟨_,rfl,?_⟩;replace HO_366001:=Aside0.mk (Kd.R_below (by (with_reducible repeat (first|apply zk1|apply zk2|apply zk3));exact HO_366001.out) hb);replace BK355:=Aside0.mk (blk_below (g:=gb355) (o:=.cells #[.bool false,.slice none 0 0,.slice none 0 0,.slice none 0 0] 27 (0,0)) (by (with_reducible repeat (first|apply zb1|apply zb2|apply zb3));exact BK355.out) hb);replace BK365:=Aside0.mk (blk_below (g:=gb365) (o:=.cells #[.bool true,.slice Ao35 x366001_1.length co35,.slice none 0 0,.slice none 0 0] 27 (0,0)) (by (with_reducible repeat (first|apply zb1|apply zb2|apply zb3));exact BK365.out) hb);replace HB:=Aside0.mk (below_step (by repeat (first|(with_reducible first|exact HB.out|apply zl1|apply zl2|apply zl3|refine below_set ?_ (IsS51.ge HI356.out)|refine below_set ?_ GE355.out|refine below_set ?_ GE365.out)|exact HB.out)) hb);replace HI356:=Aside0.mk (IsS51.below (by repeat (first|(with_reducible first|exact HI356.out|apply IsS51.alloc|apply IsS51.drewN|apply IsS51.drew|apply IsS51.set_0|apply IsS51.set_1|apply IsS51.set_2|refine IsS51.far ?_ NB356_355.out _|refine IsS51.far ?_ NB356_365.out _)|exact HI356.out)) hb);(try clear hb);obtain ⟨HGz37,hgz37⟩:=HI356.out;have hcz37_0:=cellS51_0 HGz37;have hcz37_1:=cellS51_1 HGz37;have hcz37_2:=cellS51_2 HGz37;have hfz37_0:=blk_frozen HGz37 0;have hfz37_1:=blk_frozen HGz37 1;have hfz37_2:=blk_frozen HGz37 2;clear HGz37 hgz37;have hcz38_0:w36.cell? ⟨gb365,0,none⟩=some (.bool true):=(blk_cell BK365.out 0).trans rfl;have hcz38_1:w36.cell? ⟨gb365,1,none⟩=some (.slice Ao35 x366001_1.length co35):=(blk_cell BK365.out 1).trans rfl;have hcz38_2:w36.cell? ⟨gb365,2,none⟩=some (.slice none 0 0):=(blk_cell BK365.out 2).trans rfl;have hcz38_3:w36.cell? ⟨gb365,3,none⟩=some (.slice none 0 0):=(blk_cell BK365.out 3).trans rfl;have hfz38_0:=blk_frozen BK365.out 0;have hfz38_1:=blk_frozen BK365.out 1;have hfz38_2:=blk_frozen BK365.out 2;have hfz38_3:=blk_frozen BK365.out 3;have hnb39:=NB355_356.out;have hnc39:=NB356_355.out;have hcz40_0:w36.cell? ⟨gb355,0,none⟩=some (.bool false):=(blk_cell BK355.out 0).trans rfl;have hcz40_1:w36.cell? ⟨gb355,1,none⟩=some (.slice none 0 0):=(blk_cell BK355.out 1).trans rfl;have hcz40_2:w36.cell? ⟨gb355,2,none⟩=some (.slice none 0 0):=(blk_cell BK355.out 2).trans rfl;have hcz40_3:w36.cell? ⟨gb355,3,none⟩=some (.slice none 0 0):=(blk_cell BK355.out 3).trans rfl;have hfz40_0:=blk_frozen BK355.out 0;have hfz40_1:=blk_frozen BK355.out 1;have hfz40_2:=blk_frozen BK355.out 2;have hfz40_3:=blk_frozen BK355.out 3))
          refine bodyPost_ret (results_ct rfl _ _ gb355 27 #[.bool true,.slice Ao35 x366001_1.length co35,.slice none 0 0,.slice none 0 0] (0,0) _ rfl (by (with_reducible repeat (first|apply zb1|apply zb2|apply zb3));refine blk_put (cs:=#[.bool true,.slice Ao35 x366001_1.length co35,.slice none 0 0,.slice none 0 0]) ?_ 3 _ rfl;(with_reducible repeat (first|apply zb1|apply zb2|apply zb3));refine blk_put (cs:=#[.bool true,.slice Ao35 x366001_1.length co35,.slice none 0 0,.slice none 0 0]) ?_ 2 _ rfl;(with_reducible repeat (first|apply zb1|apply zb2|apply zb3));refine blk_put (cs:=#[.bool true,.slice none 0 0,.slice none 0 0,.slice none 0 0]) ?_ 1 _ rfl;(with_reducible repeat (first|apply zb1|apply zb2|apply zb3));refine blk_put (cs:=#[.bool false,.slice none 0 0,.slice none 0 0,.slice none 0 0]) ?_ 0 _ rfl;(with_reducible repeat (first|apply zb1|apply zb2|apply zb3));exact BK355.out) Tryd.underlying27 rfl (by kernel_rfl)) rfl ?_
          exact ⟨_,_,_,by first|(with_reducible rfl)|(simp only [isEmpty_bne,Bool.not_not] <;> rfl)|rfl|(simp [*,errW_none,errW_some] <;> rfl),by (with_reducible repeat (first|apply zk1|apply zk2|apply zk3));exact Kd.R_mono (Kd.R_far (p:=⟨gb355,3,none⟩) (Kd.R_far (p:=⟨gb355,2,none⟩) (Kd.R_far (p:=⟨gb355,1,none⟩) (Kd.R_far (p:=⟨gb355,0,none⟩) (Kd.R_types HO_366001.out BK355.out (by decide)) (fun _ hk=>hk.2) (.bool true)) (fun _ hk=>hk.2) (.slice Ao35 x366001_1.length co35)) (fun _ hk=>hk.2) (.slice none 0 0)) (fun _ hk=>hk.2) (.slice none 0 0)) (fun _ hk=>trivial),by first|exact Kd.R_nil _ _ _ _ _|exact Kd.N_nil _ _ _ _ _|exact Kd.V_nil _ _ _ _ _|exact Kd.Q_nil _ _ _ _ _|exact Kd.S_nil _ _ _ _ _,by first|exact Kd.R_nil _ _ _ _ _|exact Kd.N_nil _ _ _ _ _|exact Kd.V_nil _ _ _ _ _|exact Kd.Q_nil _ _ _ _ _|exact Kd.S_nil _ _ _ _ _,by repeat (first|(with_reducible first|exact HB.out|apply zl1|apply zl2|apply zl3|refine below_set ?_ (IsS51.ge HI356.out)|refine below_set ?_ GE355.out|refine below_set ?_ GE365.out)|exact HB.out)⟩
         ·rw [if_neg c31] at H
          have c31b0:(t377.toList == a0.toList)=false:=beq_eq_false_iff_ne.mpr c31
          have c31b1:(t377.toList != a0.toList)=true:=bne_iff_ne.mpr c31
          simp only [Option.some.injEq,Prod.mk.injEq] at H
          obtain ⟨rfl,rfl,rfl,rfl,rfl⟩:=H
          have hnb41:=NB365_355.out
          have hnc41:=NB355_365.out
          have hnb42:=NB365_356.out
          have hnc42:=NB356_365.out
          have hcz43_0:wc.cell? ⟨gb365,0,none⟩=some (.bool true):=(blk_cell BK365.out 0).trans rfl
          have hcz43_1:wc.cell? ⟨gb365,1,none⟩=some (u366001):=(blk_cell BK365.out 1).trans rfl
          have hcz43_2:wc.cell? ⟨gb365,2,none⟩=some (.slice none 0 0):=(blk_cell BK365.out 2).trans rfl
          have hcz43_3:wc.cell? ⟨gb365,3,none⟩=some (.slice none 0 0):=(blk_cell BK365.out 3).trans rfl
          have hfz43_0:=blk_frozen BK365.out 0
          have hfz43_1:=blk_frozen BK365.out 1
          have hfz43_2:=blk_frozen BK365.out 2
          have hfz43_3:=blk_frozen BK365.out 3
          obtain ⟨Ao44,co44,eo44⟩:=Kd.R_slice HO_366001.out
          subst eo44
          go_wp2_with (first|((with_reducible refine gate_callee (f:=22) rfl ?_);refine goesL_ (some 90) rfl rfl Tryd.func22 (by kernel_rfl) rfl #[.agg #[.bool true,.slice Ao44 x366001_1.length co44,.slice none 0 0,.slice none 0 0]] rfl (by (try simp only [List.map_toArray,List.map_cons,List.map_nil]);first|done|rfl|(simp only [List.length_drop,List.length_take];rfl)|(simp (disch:=omega) only [u64_in];rfl)) ?_;(refine (factotumref09_Write.calls kj12 true _ _ x366001_1 _ _ ([]:List ByteArray) _ _ ([]:List Int) t377 t378 _ ?side1 ?side2 ?side3 ?side4 ?side5 ?side6 A28.out).mono ?_);(case side1=>repeat (first|exact (Kd.R_reads' HO_366001.out).2.2|(with_reducible refine Kd.C_alloc ?_ _)|(with_reducible refine Kd.C_drewN ?_ _)|(with_reducible refine Kd.C_drew ?_)));(case side2=>exact (Kd.R_reads' HO_366001.out).2.1);(case side3=>exact Kd.C_nil _ _);(case side4=>exact Nat.le_refl _);(case side5=>exact Kd.C_nil _ _);(case side6=>exact Nat.le_refl _);rintro e w45 ⟨rfl,hb⟩;refine ⟨_,rfl,?_⟩;replace HO_366001:=Aside0.mk (Kd.R_below (by (with_reducible repeat (first|apply zk1|apply zk2|apply zk3));exact HO_366001.out) hb);replace BK355:=Aside0.mk (blk_below (g:=gb355) (o:=.cells #[.bool false,.slice none 0 0,.slice none 0 0,.slice none 0 0] 27 (0,0)) (by (with_reducible repeat (first|apply zb1|apply zb2|apply zb3));exact BK355.out) hb);replace BK365:=Aside0.mk (blk_below (g:=gb365) (o:=.cells #[.bool true,.slice Ao44 x366001_1.length co44,.slice none 0 0,.slice none 0 0] 27 (0,0)) (by (with_reducible repeat (first|apply zb1|apply zb2|apply zb3));exact BK365.out) hb);replace HB:=Aside0.mk (below_step (by repeat (first|(with_reducible first|exact HB.out|apply zl1|apply zl2|apply zl3|refine below_set ?_ (IsS51.ge HI356.out)|refine below_set ?_ GE355.out|refine below_set ?_ GE365.out)|exact HB.out)) hb);replace HI356:=Aside0.mk (IsS51.below (by repeat (first|(with_reducible first|exact HI356.out|apply IsS51.alloc|apply IsS51.drewN|apply IsS51.drew|apply IsS51.set_0|apply IsS51.set_1|apply IsS51.set_2|refine IsS51.far ?_ NB356_355.out _|refine IsS51.far ?_ NB356_365.out _)|exact HI356.out)) hb);(try clear hb);obtain ⟨HGz46,hgz46⟩:=HI356.out;have hcz46_0:=cellS51_0 HGz46;have hcz46_1:=cellS51_1 HGz46;have hcz46_2:=cellS51_2 HGz46;have hfz46_0:=blk_frozen HGz46 0;have hfz46_1:=blk_frozen HGz46 1;have hfz46_2:=blk_frozen HGz46 2;clear HGz46 hgz46;have hnb47:=NB355_356.out;have hnc47:=NB356_355.out;have hcz48_0:w45.cell? ⟨gb355,0,none⟩=some (.bool false):=(blk_cell BK355.out 0).trans rfl;have hcz48_1:w45.cell? ⟨gb355,1,none⟩=some (.slice none 0 0):=(blk_cell BK355.out 1).trans rfl;have hcz48_2:w45.cell? ⟨gb355,2,none⟩=some (.slice none 0 0):=(blk_cell BK355.out 2).trans rfl;have hcz48_3:w45.cell? ⟨gb355,3,none⟩=some (.slice none 0 0):=(blk_cell BK355.out 3).trans rfl;have hfz48_0:=blk_frozen BK355.out 0;have hfz48_1:=blk_frozen BK355.out 1;have hfz48_2:=blk_frozen BK355.out 2;have hfz48_3:=blk_frozen BK355.out 3))
          refine bodyPost_ret (results_ct rfl _ _ gb355 27 #[.bool false,.slice none 0 0,.slice none 0 0,.slice none 0 0] (0,0) _ rfl (by (with_reducible repeat (first|apply zb1|apply zb2|apply zb3));refine blk_put (cs:=#[.bool false,.slice none 0 0,.slice none 0 0,.slice none 0 0]) ?_ 3 _ rfl;(with_reducible repeat (first|apply zb1|apply zb2|apply zb3));refine blk_put (cs:=#[.bool false,.slice none 0 0,.slice none 0 0,.slice none 0 0]) ?_ 2 _ rfl;(with_reducible repeat (first|apply zb1|apply zb2|apply zb3));refine blk_put (cs:=#[.bool false,.slice none 0 0,.slice none 0 0,.slice none 0 0]) ?_ 1 _ rfl;(with_reducible repeat (first|apply zb1|apply zb2|apply zb3));refine blk_put (cs:=#[.bool false,.slice none 0 0,.slice none 0 0,.slice none 0 0]) ?_ 0 _ rfl;(with_reducible repeat (first|apply zb1|apply zb2|apply zb3));exact BK355.out) Tryd.underlying27 rfl (by kernel_rfl)) rfl ?_
          exact ⟨_,_,_,by first|(with_reducible rfl)|(simp only [isEmpty_bne,Bool.not_not] <;> rfl)|rfl|(simp [*,errW_none,errW_some] <;> rfl),by first|exact Kd.R_nil _ _ _ _ _|exact Kd.N_nil _ _ _ _ _|exact Kd.V_nil _ _ _ _ _|exact Kd.Q_nil _ _ _ _ _|exact Kd.S_nil _ _ _ _ _,by first|exact Kd.R_nil _ _ _ _ _|exact Kd.N_nil _ _ _ _ _|exact Kd.V_nil _ _ _ _ _|exact Kd.Q_nil _ _ _ _ _|exact Kd.S_nil _ _ _ _ _,by first|exact Kd.R_nil _ _ _ _ _|exact Kd.N_nil _ _ _ _ _|exact Kd.V_nil _ _ _ _ _|exact Kd.Q_nil _ _ _ _ _|exact Kd.S_nil _ _ _ _ _,by repeat (first|(with_reducible first|exact HB.out|apply zl1|apply zl2|apply zl3|refine below_set ?_ (IsS51.ge HI356.out)|refine below_set ?_ GE355.out|refine below_set ?_ GE365.out)|exact HB.out)⟩
        ·rw [if_neg c30] at H
         have c30b0:(t378 == 0)=false:=beq_eq_false_iff_ne.mpr c30
         have c30b1:(t378 != 0)=true:=bne_iff_ne.mpr c30
         simp only [Option.some.injEq,Prod.mk.injEq] at H
         obtain ⟨rfl,rfl,rfl,rfl,rfl⟩:=H
         have hnb49:=NB365_355.out
         have hnc49:=NB355_365.out
         have hnb50:=NB365_356.out
         have hnc50:=NB356_365.out
         have hcz51_0:wc.cell? ⟨gb365,0,none⟩=some (.bool true):=(blk_cell BK365.out 0).trans rfl
         have hcz51_1:wc.cell? ⟨gb365,1,none⟩=some (u366001):=(blk_cell BK365.out 1).trans rfl
         have hcz51_2:wc.cell? ⟨gb365,2,none⟩=some (.slice none 0 0):=(blk_cell BK365.out 2).trans rfl
         have hcz51_3:wc.cell? ⟨gb365,3,none⟩=some (.slice none 0 0):=(blk_cell BK365.out 3).trans rfl
         have hfz51_0:=blk_frozen BK365.out 0
         have hfz51_1:=blk_frozen BK365.out 1
         have hfz51_2:=blk_frozen BK365.out 2
         have hfz51_3:=blk_frozen BK365.out 3
         obtain ⟨Ao52,co52,eo52⟩:=Kd.R_slice HO_366001.out
         subst eo52
         go_wp2_with (first|((with_reducible refine gate_callee (f:=22) rfl ?_);refine goesL_ (some 90) rfl rfl Tryd.func22 (by kernel_rfl) rfl #[.agg #[.bool true,.slice Ao52 x366001_1.length co52,.slice none 0 0,.slice none 0 0]] rfl (by (try simp only [List.map_toArray,List.map_cons,List.map_nil]);first|done|rfl|(simp only [List.length_drop,List.length_take];rfl)|(simp (disch:=omega) only [u64_in];rfl)) ?_;(refine (factotumref09_Write.calls kj12 true _ _ x366001_1 _ _ ([]:List ByteArray) _ _ ([]:List Int) t377 t378 _ ?side1 ?side2 ?side3 ?side4 ?side5 ?side6 A28.out).mono ?_);(case side1=>repeat (first|exact (Kd.R_reads' HO_366001.out).2.2|(with_reducible refine Kd.C_alloc ?_ _)|(with_reducible refine Kd.C_drewN ?_ _)|(with_reducible refine Kd.C_drew ?_)));(case side2=>exact (Kd.R_reads' HO_366001.out).2.1);(case side3=>exact Kd.C_nil _ _);(case side4=>exact Nat.le_refl _);(case side5=>exact Kd.C_nil _ _);(case side6=>exact Nat.le_refl _);rintro e w53 ⟨rfl,hb⟩;refine ⟨_,rfl,?_⟩;replace HO_366001:=Aside0.mk (Kd.R_below (by (with_reducible repeat (first|apply zk1|apply zk2|apply zk3));exact HO_366001.out) hb);replace BK355:=Aside0.mk (blk_below (g:=gb355) (o:=.cells #[.bool false,.slice none 0 0,.slice none 0 0,.slice none 0 0] 27 (0,0)) (by (with_reducible repeat (first|apply zb1|apply zb2|apply zb3));exact BK355.out) hb);replace BK365:=Aside0.mk (blk_below (g:=gb365) (o:=.cells #[.bool true,.slice Ao52 x366001_1.length co52,.slice none 0 0,.slice none 0 0] 27 (0,0)) (by (with_reducible repeat (first|apply zb1|apply zb2|apply zb3));exact BK365.out) hb);replace HB:=Aside0.mk (below_step (by repeat (first|(with_reducible first|exact HB.out|apply zl1|apply zl2|apply zl3|refine below_set ?_ (IsS51.ge HI356.out)|refine below_set ?_ GE355.out|refine below_set ?_ GE365.out)|exact HB.out)) hb);replace HI356:=Aside0.mk (IsS51.below (by repeat (first|(with_reducible first|exact HI356.out|apply IsS51.alloc|apply IsS51.drewN|apply IsS51.drew|apply IsS51.set_0|apply IsS51.set_1|apply IsS51.set_2|refine IsS51.far ?_ NB356_355.out _|refine IsS51.far ?_ NB356_365.out _)|exact HI356.out)) hb);(try clear hb);obtain ⟨HGz54,hgz54⟩:=HI356.out;have hcz54_0:=cellS51_0 HGz54;have hcz54_1:=cellS51_1 HGz54;have hcz54_2:=cellS51_2 HGz54;have hfz54_0:=blk_frozen HGz54 0;have hfz54_1:=blk_frozen HGz54 1;have hfz54_2:=blk_frozen HGz54 2;clear HGz54 hgz54;have hnb55:=NB355_356.out;have hnc55:=NB356_355.out;have hcz56_0:w53.cell? ⟨gb355,0,none⟩=some (.bool false):=(blk_cell BK355.out 0).trans rfl;have hcz56_1:w53.cell? ⟨gb355,1,none⟩=some (.slice none 0 0):=(blk_cell BK355.out 1).trans rfl;have hcz56_2:w53.cell? ⟨gb355,2,none⟩=some (.slice none 0 0):=(blk_cell BK355.out 2).trans rfl;have hcz56_3:w53.cell? ⟨gb355,3,none⟩=some (.slice none 0 0):=(blk_cell BK355.out 3).trans rfl;have hfz56_0:=blk_frozen BK355.out 0;have hfz56_1:=blk_frozen BK355.out 1;have hfz56_2:=blk_frozen BK355.out 2;have hfz56_3:=blk_frozen BK355.out 3))
         refine bodyPost_ret (results_ct rfl _ _ gb355 27 #[.bool false,.slice none 0 0,.slice none 0 0,.slice none 0 0] (0,0) _ rfl (by (with_reducible repeat (first|apply zb1|apply zb2|apply zb3));refine blk_put (cs:=#[.bool false,.slice none 0 0,.slice none 0 0,.slice none 0 0]) ?_ 3 _ rfl;(with_reducible repeat (first|apply zb1|apply zb2|apply zb3));refine blk_put (cs:=#[.bool false,.slice none 0 0,.slice none 0 0,.slice none 0 0]) ?_ 2 _ rfl;(with_reducible repeat (first|apply zb1|apply zb2|apply zb3));refine blk_put (cs:=#[.bool false,.slice none 0 0,.slice none 0 0,.slice none 0 0]) ?_ 1 _ rfl;(with_reducible repeat (first|apply zb1|apply zb2|apply zb3));refine blk_put (cs:=#[.bool false,.slice none 0 0,.slice none 0 0,.slice none 0 0]) ?_ 0 _ rfl;(with_reducible repeat (first|apply zb1|apply zb2|apply zb3));exact BK355.out) Tryd.underlying27 rfl (by kernel_rfl)) rfl ?_
         exact ⟨_,_,_,by first|(with_reducible rfl)|(simp only [isEmpty_bne,Bool.not_not] <;> rfl)|rfl|(simp [*,errW_none,errW_some] <;> rfl),by first|exact Kd.R_nil _ _ _ _ _|exact Kd.N_nil _ _ _ _ _|exact Kd.V_nil _ _ _ _ _|exact Kd.Q_nil _ _ _ _ _|exact Kd.S_nil _ _ _ _ _,by first|exact Kd.R_nil _ _ _ _ _|exact Kd.N_nil _ _ _ _ _|exact Kd.V_nil _ _ _ _ _|exact Kd.Q_nil _ _ _ _ _|exact Kd.S_nil _ _ _ _ _,by first|exact Kd.R_nil _ _ _ _ _|exact Kd.N_nil _ _ _ _ _|exact Kd.V_nil _ _ _ _ _|exact Kd.Q_nil _ _ _ _ _|exact Kd.S_nil _ _ _ _ _,by repeat (first|(with_reducible first|exact HB.out|apply zl1|apply zl2|apply zl3|refine below_set ?_ (IsS51.ge HI356.out)|refine below_set ?_ GE355.out|refine below_set ?_ GE365.out)|exact HB.out)⟩
       ·rw [if_neg c29] at H
        have c29b0:(x357002_1 == 0)=false:=beq_eq_false_iff_ne.mpr c29
        have c29b1:(x357002_1 != 0)=true:=bne_iff_ne.mpr c29
        simp only [Option.some.injEq,Prod.mk.injEq] at H
        obtain ⟨rfl,rfl,rfl,rfl,rfl⟩:=H
        have hnb57:=NB365_355.out
        have hnc57:=NB355_365.out
        have hnb58:=NB365_356.out
        have hnc58:=NB356_365.out
        have hcz59_0:wc.cell? ⟨gb365,0,none⟩=some (.bool true):=(blk_cell BK365.out 0).trans rfl
        have hcz59_1:wc.cell? ⟨gb365,1,none⟩=some (u366001):=(blk_cell BK365.out 1).trans rfl
        have hcz59_2:wc.cell? ⟨gb365,2,none⟩=some (.slice none 0 0):=(blk_cell BK365.out 2).trans rfl
        have hcz59_3:wc.cell? ⟨gb365,3,none⟩=some (.slice none 0 0):=(blk_cell BK365.out 3).trans rfl
        have hfz59_0:=blk_frozen BK365.out 0
        have hfz59_1:=blk_frozen BK365.out 1
        have hfz59_2:=blk_frozen BK365.out 2
        have hfz59_3:=blk_frozen BK365.out 3
        obtain ⟨Ao60,co60,eo60⟩:=Kd.R_slice HO_366001.out
        subst eo60
        go_wp2_with (first|((with_reducible refine gate_callee (f:=22) rfl ?_);refine goesL_ (some 90) rfl rfl Tryd.func22 (by kernel_rfl) rfl #[.agg #[.bool true,.slice Ao60 x366001_1.length co60,.slice none 0 0,.slice none 0 0]] rfl (by (try simp only [List.map_toArray,List.map_cons,List.map_nil]);first|done|rfl|(simp only [List.length_drop,List.length_take];rfl)|(simp (disch:=omega) only [u64_in];rfl)) ?_;(refine (factotumref09_Write.calls kj12 true _ _ x366001_1 _ _ ([]:List ByteArray) _ _ ([]:List Int) t377 t378 _ ?side1 ?side2 ?side3 ?side4 ?side5 ?side6 A28.out).mono ?_);(case side1=>repeat (first|exact (Kd.R_reads' HO_366001.out).2.2|(with_reducible refine Kd.C_alloc ?_ _)|(with_reducible refine Kd.C_drewN ?_ _)|(with_reducible refine Kd.C_drew ?_)));(case side2=>exact (Kd.R_reads' HO_366001.out).2.1);(case side3=>exact Kd.C_nil _ _);(case side4=>exact Nat.le_refl _);(case side5=>exact Kd.C_nil _ _);(case side6=>exact Nat.le_refl _);rintro e w61 ⟨rfl,hb⟩;refine ⟨_,rfl,?_⟩;replace HO_366001:=Aside0.mk (Kd.R_below (by (with_reducible repeat (first|apply zk1|apply zk2|apply zk3));exact HO_366001.out) hb);replace BK355:=Aside0.mk (blk_below (g:=gb355) (o:=.cells #[.bool false,.slice none 0 0,.slice none 0 0,.slice none 0 0] 27 (0,0)) (by (with_reducible repeat (first|apply zb1|apply zb2|apply zb3));exact BK355.out) hb);replace BK365:=Aside0.mk (blk_below (g:=gb365) (o:=.cells #[.bool true,.slice Ao60 x366001_1.length co60,.slice none 0 0,.slice none 0 0] 27 (0,0)) (by (with_reducible repeat (first|apply zb1|apply zb2|apply zb3));exact BK365.out) hb);replace HB:=Aside0.mk (below_step (by repeat (first|(with_reducible first|exact HB.out|apply zl1|apply zl2|apply zl3|refine below_set ?_ (IsS51.ge HI356.out)|refine below_set ?_ GE355.out|refine below_set ?_ GE365.out)|exact HB.out)) hb);replace HI356:=Aside0.mk (IsS51.below (by repeat (first|(with_reducible first|exact HI356.out|apply IsS51.alloc|apply IsS51.drewN|apply IsS51.drew|apply IsS51.set_0|apply IsS51.set_1|apply IsS51.set_2|refine IsS51.far ?_ NB356_355.out _|refine IsS51.far ?_ NB356_365.out _)|exact HI356.out)) hb);(try clear hb);obtain ⟨HGz62,hgz62⟩:=HI356.out;have hcz62_0:=cellS51_0 HGz62;have hcz62_1:=cellS51_1 HGz62;have hcz62_2:=cellS51_2 HGz62;have hfz62_0:=blk_frozen HGz62 0;have hfz62_1:=blk_frozen HGz62 1;have hfz62_2:=blk_frozen HGz62 2;clear HGz62 hgz62;have hnb63:=NB355_356.out;have hnc63:=NB356_355.out;have hcz64_0:w61.cell? ⟨gb355,0,none⟩=some (.bool false):=(blk_cell BK355.out 0).trans rfl;have hcz64_1:w61.cell? ⟨gb355,1,none⟩=some (.slice none 0 0):=(blk_cell BK355.out 1).trans rfl;have hcz64_2:w61.cell? ⟨gb355,2,none⟩=some (.slice none 0 0):=(blk_cell BK355.out 2).trans rfl;have hcz64_3:w61.cell? ⟨gb355,3,none⟩=some (.slice none 0 0):=(blk_cell BK355.out 3).trans rfl;have hfz64_0:=blk_frozen BK355.out 0;have hfz64_1:=blk_frozen BK355.out 1;have hfz64_2:=blk_frozen BK355.out 2;have hfz64_3:=blk_frozen BK355.out 3))
        refine bodyPost_ret (results_ct rfl _ _ gb355 27 #[.bool false,.slice none 0 0,.slice none 0 0,.slice none 0 0] (0,0) _ rfl (by (with_reducible repeat (first|apply zb1|apply zb2|apply zb3));refine blk_put (cs:=#[.bool false,.slice none 0 0,.slice none 0 0,.slice none 0 0]) ?_ 3 _ rfl;(with_reducible repeat (first|apply zb1|apply zb2|apply zb3));refine blk_put (cs:=#[.bool false,.slice none 0 0,.slice none 0 0,.slice none 0 0]) ?_ 2 _ rfl;(with_reducible repeat (first|apply zb1|apply zb2|apply zb3));refine blk_put (cs:=#[.bool false,.slice none 0 0,.slice none 0 0,.slice none 0 0]) ?_ 1 _ rfl;(with_reducible repeat (first|apply zb1|apply zb2|apply zb3));refine blk_put (cs:=#[.bool false,.slice none 0 0,.slice none 0 0,.slice none 0 0]) ?_ 0 _ rfl;(with_reducible repeat (first|apply zb1|apply zb2|apply zb3));exact BK355.out) Tryd.underlying27 rfl (by kernel_rfl)) rfl ?_
        exact ⟨_,_,_,by first|(with_reducible rfl)|(simp only [isEmpty_bne,Bool.not_not] <;> rfl)|rfl|(simp [*,errW_none,errW_some] <;> rfl),by first|exact Kd.R_nil _ _ _ _ _|exact Kd.N_nil _ _ _ _ _|exact Kd.V_nil _ _ _ _ _|exact Kd.Q_nil _ _ _ _ _|exact Kd.S_nil _ _ _ _ _,by first|exact Kd.R_nil _ _ _ _ _|exact Kd.N_nil _ _ _ _ _|exact Kd.V_nil _ _ _ _ _|exact Kd.Q_nil _ _ _ _ _|exact Kd.S_nil _ _ _ _ _,by first|exact Kd.R_nil _ _ _ _ _|exact Kd.N_nil _ _ _ _ _|exact Kd.V_nil _ _ _ _ _|exact Kd.Q_nil _ _ _ _ _|exact Kd.S_nil _ _ _ _ _,by repeat (first|(with_reducible first|exact HB.out|apply zl1|apply zl2|apply zl3|refine below_set ?_ (IsS51.ge HI356.out)|refine below_set ?_ GE355.out|refine below_set ?_ GE365.out)|exact HB.out)⟩
 ·rw [if_neg c4] at H
  have c4b0:(t357 == 1)=false:=beq_eq_false_iff_ne.mpr c4
  have c4b1:(t357 != 1)=true:=bne_iff_ne.mpr c4
  replace H:=Option.bind_eq_some_iff.mp H
  obtain ⟨⟨t379,t380,t381,t382⟩,A650,H⟩:=H
  replace H:(if ([]:List Int).length < 17592186044416 then (factotumref09_Read.l1 k a0 t361 0 t380 t381 t382 false ([]:List ByteArray) (([]:List Int) ++ [wrap64 (t379)])) else (none))=some (r1,r2,r3,r4,r5):=H
  have A65:=Aside0.mk A650
  clear A650
  by_cases c66:([]:List Int).length < 17592186044416
  ·rw [if_pos c66] at H
   have LMc66:=Aside0.mk c66
   clear c66
   obtain ⟨y383,hy383⟩:∃ y_:List Int,y_=(([]:List Int) ++ [wrap64 (t379)]):=⟨_,rfl⟩
   replace H:(factotumref09_Read.l1 k a0 t361 0 t380 t381 t382 false ([]:List ByteArray) y383)=some (r1,r2,r3,r4,r5):=by first|(rw [hy383];with_reducible exact H)|(have H2_:=(Option.bind_some _ _).symm.trans H;rw [hy383];with_reducible exact H2_)|(have H2_:=(Option.bind_some _ _).symm.trans H;with_reducible exact H2_)|with_reducible exact H|(rw [hy383];exact H)|exact H
   have Ny383:=Aside0.mk hy383
   clear hy383
   have H':=Aside0.mk H
   clear H
   go_enter Tryd.func7,Tryd.ntmps7
   go_wp2_with (first|((with_reducible refine gate_dst (N:=2) rfl ?_);refine box_event ?hg (N:=2) ?hd (cs:=#[.bool false,.slice none 0 0,.slice none 0 0,.slice none 0 0]) (t:=27) ?hr ?_;(case hd=>rfl);(case hg=>rfl);(case hr=>first|(go_simp;done)|(go_simp;rfl));intro gb355 hg w67 hbox hb;have BK355:=Aside0.mk (hbox);have GW355:=Aside0.mk ((by rw [hg];exact (below_size (by repeat (first|(with_reducible first|exact HB.out|apply zl1|apply zl2|apply zl3)|exact HB.out))):w.heap.size≤gb355));have GE355:=Aside0.mk ((by rw [hg];exact (below_size (by repeat (first|(with_reducible first|exact HB.out|apply zl1|apply zl2|apply zl3)|exact HB.out))):w.heap.size≤gb355));replace HB:=Aside0.mk (below_step (by repeat (first|(with_reducible first|exact HB.out|apply zl1|apply zl2|apply zl3)|exact HB.out)) hb);clear hb hbox hg)|((with_reducible refine gate_dst (N:=18) rfl ?_);refine box_event ?hg (N:=18) ?hd (cs:=#[.string a0,.int .i64 0,.int .i64 0]) (t:=51) ?hr ?_;(case hd=>rfl);(case hg=>rfl);(case hr=>first|(go_simp;done)|(go_simp;rfl));intro gb356 hg w68 hbox hb;have HI356:=Aside0.mk ((show IsS51 w _ gb356 a0 0 0 from ⟨hbox,(by rw [hg];exact (below_size (by repeat (first|(with_reducible first|exact HB.out|apply zl1|apply zl2|apply zl3|refine below_set ?_ GE355.out)|exact HB.out))):w.heap.size≤gb356)⟩));have GW356:=Aside0.mk ((by rw [hg];exact (below_size (by repeat (first|(with_reducible first|exact HB.out|apply zl1|apply zl2|apply zl3|refine below_set ?_ GE355.out)|exact HB.out))):w.heap.size≤gb356));have GE356:=Aside0.mk ((by rw [hg];exact (below_size (by repeat (first|(with_reducible first|exact HB.out|apply zl1|apply zl2|apply zl3|refine below_set ?_ GE355.out)|exact HB.out))):w.heap.size≤gb356));replace HB:=Aside0.mk (below_step (by repeat (first|(with_reducible first|exact HB.out|apply zl1|apply zl2|apply zl3|refine below_set ?_ GE355.out)|exact HB.out)) hb);have NB355_356:=Aside0.mk ((by rw [hg];exact Nat.ne_of_lt (blk_lt (g:=gb355) (o:=.cells #[.bool false,.slice none 0 0,.slice none 0 0,.slice none 0 0] 27 (0,0)) (by (with_reducible repeat (first|apply zb1|apply zb2|apply zb3));exact BK355.out)):gb355 ≠ gb356));have NB356_355:=Aside0.mk ((by rw [hg];exact Nat.ne_of_gt (blk_lt (g:=gb355) (o:=.cells #[.bool false,.slice none 0 0,.slice none 0 0,.slice none 0 0] 27 (0,0)) (by (with_reducible repeat (first|apply zb1|apply zb2|apply zb3));exact BK355.out)):gb356 ≠ gb355));replace BK355:=Aside0.mk (blk_below (g:=gb355) (o:=.cells #[.bool false,.slice none 0 0,.slice none 0 0,.slice none 0 0] 27 (0,0)) (by (with_reducible repeat (first|apply zb1|apply zb2|apply zb3));exact BK355.out) hb);clear hb hbox hg)|((with_reducible refine gate_callee (f:=20) rfl ?_);refine goesL_ (some 20) rfl rfl Tryd.func20 (by kernel_rfl) rfl #[.pointer (some ⟨gb356,0,none⟩),.int .i64 1] rfl (by (try simp only [List.map_toArray,List.map_cons,List.map_nil]);first|done|rfl|(simp only [List.length_drop,List.length_take];rfl)|(simp (disch:=omega) only [u64_in];rfl)) ?_;(with_reducible refine (factotumref01_Reader_Num.calls k gb356 a0 0 0 1 t357 t358 t359 t360 w _ ?side1 ?side2 A2.out).mono ?_);(case side1=>repeat (first|(with_reducible first|exact HI356.out|apply IsS51.alloc|apply IsS51.drewN|apply IsS51.drew|apply IsS51.set_0|apply IsS51.set_1|apply IsS51.set_2|refine IsS51.far ?_ NB356_355.out _)|exact HI356.out));(case side2=>repeat (first|(with_reducible first|exact HB.out|apply zl1|apply zl2|apply zl3|refine below_set ?_ (IsS51.ge HI356.out)|refine below_set ?_ GE355.out)|exact HB.out));rintro e w69 ⟨rfl,hi,hb,hk⟩;refine ⟨_,rfl,?_⟩;replace BK355:=Aside0.mk (KeepBut.blk hk (g':=gb355) (o:=.cells #[.bool false,.slice none 0 0,.slice none 0 0,.slice none 0 0] 27 (0,0)) (by (with_reducible repeat (first|apply zb1|apply zb2|apply zb3));exact BK355.out) NB355_356.out (by simp));replace HB:=Aside0.mk (hb);replace HI356:=Aside0.mk (hi);(try clear hb);(try clear hk);(try clear hi))|((with_reducible refine gate_callee (f:=20) rfl ?_);refine goesL_ (some 22) rfl rfl Tryd.func20 (by kernel_rfl) rfl #[.pointer (some ⟨gb356,0,none⟩),.int .i64 1] rfl (by (try simp only [List.map_toArray,List.map_cons,List.map_nil]);first|done|rfl|(simp only [List.length_drop,List.length_take];rfl)|(simp (disch:=omega) only [u64_in];rfl)) ?_;(with_reducible refine (factotumref01_Reader_Num.calls k gb356 t358 t359 t360 1 t361 t362 t363 t364 w _ ?side1 ?side2 A3.out).mono ?_);(case side1=>repeat (first|(with_reducible first|exact HI356.out|apply IsS51.alloc|apply IsS51.drewN|apply IsS51.drew|apply IsS51.set_0|apply IsS51.set_1|apply IsS51.set_2|refine IsS51.far ?_ NB356_355.out _)|exact HI356.out));(case side2=>repeat (first|(with_reducible first|exact HB.out|apply zl1|apply zl2|apply zl3|refine below_set ?_ (IsS51.ge HI356.out)|refine below_set ?_ GE355.out)|exact HB.out));rintro e w70 ⟨rfl,hi,hb,hk⟩;refine ⟨_,rfl,?_⟩;replace BK355:=Aside0.mk (KeepBut.blk hk (g':=gb355) (o:=.cells #[.bool false,.slice none 0 0,.slice none 0 0,.slice none 0 0] 27 (0,0)) (by (with_reducible repeat (first|apply zb1|apply zb2|apply zb3));exact BK355.out) NB355_356.out (by simp));replace HB:=Aside0.mk (hb);replace HI356:=Aside0.mk (hi);(try clear hb);(try clear hk);(try clear hi))|((with_reducible refine gate_dst (N:=7) rfl ?_);refine box_event ?hg (N:=7) ?hd (cs:=#[.bool false,.slice none 0 0,.slice none 0 0,.slice none 0 0]) (t:=27) ?hr ?_;(case hd=>rfl);(case hg=>rfl);(case hr=>first|(go_simp;done)|(go_simp;rfl));intro gb365 hg w71 hbox hb;have BK365:=Aside0.mk (hbox);have GW365:=Aside0.mk ((by rw [hg];exact (below_size (by repeat (first|(with_reducible first|exact HB.out|apply zl1|apply zl2|apply zl3|refine below_set ?_ (IsS51.ge HI356.out)|refine below_set ?_ GE355.out)|exact HB.out))):w.heap.size≤gb365));have GE365:=Aside0.mk ((by rw [hg];exact (below_size (by repeat (first|(with_reducible first|exact HB.out|apply zl1|apply zl2|apply zl3|refine below_set ?_ (IsS51.ge HI356.out)|refine below_set ?_ GE355.out)|exact HB.out))):w.heap.size≤gb365));replace HB:=Aside0.mk (below_step (by repeat (first|(with_reducible first|exact HB.out|apply zl1|apply zl2|apply zl3|refine below_set ?_ (IsS51.ge HI356.out)|refine below_set ?_ GE355.out)|exact HB.out)) hb);have NB355_365:=Aside0.mk ((by rw [hg];exact Nat.ne_of_lt (blk_lt (g:=gb355) (o:=.cells #[.bool false,.slice none 0 0,.slice none 0 0,.slice none 0 0] 27 (0,0)) (by (with_reducible repeat (first|apply zb1|apply zb2|apply zb3));exact BK355.out)):gb355 ≠ gb365));have NB365_355:=Aside0.mk ((by rw [hg];exact Nat.ne_of_gt (blk_lt (g:=gb355) (o:=.cells #[.bool false,.slice none 0 0,.slice none 0 0,.slice none 0 0] 27 (0,0)) (by (with_reducible repeat (first|apply zb1|apply zb2|apply zb3));exact BK355.out)):gb365 ≠ gb355));replace BK355:=Aside0.mk (blk_below (g:=gb355) (o:=.cells #[.bool false,.slice none 0 0,.slice none 0 0,.slice none 0 0] 27 (0,0)) (by (with_reducible repeat (first|apply zb1|apply zb2|apply zb3));exact BK355.out) hb);have NB356_365:=Aside0.mk ((by rw [hg];exact Nat.ne_of_lt (IsS51.lt (show IsS51 w _ gb356 t362 t363 t364 from by repeat (first|(with_reducible first|exact HI356.out|apply IsS51.alloc|apply IsS51.drewN|apply IsS51.drew|apply IsS51.set_0|apply IsS51.set_1|apply IsS51.set_2|refine IsS51.far ?_ NB356_355.out _)|exact HI356.out))):gb356 ≠ gb365));have NB365_356:=Aside0.mk ((by rw [hg];exact Nat.ne_of_gt (IsS51.lt (show IsS51 w _ gb356 t362 t363 t364 from by repeat (first|(with_reducible first|exact HI356.out|apply IsS51.alloc|apply IsS51.drewN|apply IsS51.drew|apply IsS51.set_0|apply IsS51.set_1|apply IsS51.set_2|refine IsS51.far ?_ NB356_355.out _)|exact HI356.out))):gb365 ≠ gb356));replace HI356:=Aside0.mk (IsS51.below (by repeat (first|(with_reducible first|exact HI356.out|apply IsS51.alloc|apply IsS51.drewN|apply IsS51.drew|apply IsS51.set_0|apply IsS51.set_1|apply IsS51.set_2|refine IsS51.far ?_ NB356_355.out _)|exact HI356.out)) hb);clear hb hbox hg)|((with_reducible refine gate_callee (f:=20) rfl ?_);refine goesL_ (some 51) rfl rfl Tryd.func20 (by kernel_rfl) rfl #[.pointer (some ⟨gb356,0,none⟩),.int .i64 2] rfl (by (try simp only [List.map_toArray,List.map_cons,List.map_nil]);first|done|rfl|(simp only [List.length_drop,List.length_take];rfl)|(simp (disch:=omega) only [u64_in];rfl)) ?_;(with_reducible refine (factotumref01_Reader_Num.calls k gb356 t362 t363 t364 2 t379 t380 t381 t382 w _ ?side1 ?side2 A65.out).mono ?_);(case side1=>repeat (first|(with_reducible first|exact HI356.out|apply IsS51.alloc|apply IsS51.drewN|apply IsS51.drew|apply IsS51.set_0|apply IsS51.set_1|apply IsS51.set_2|refine IsS51.far ?_ NB356_355.out _|refine IsS51.far ?_ NB356_365.out _)|exact HI356.out));(case side2=>repeat (first|(with_reducible first|exact HB.out|apply zl1|apply zl2|apply zl3|refine below_set ?_ (IsS51.ge HI356.out)|refine below_set ?_ GE355.out|refine below_set ?_ GE365.out)|exact HB.out));rintro e w72 ⟨rfl,hi,hb,hk⟩;refine ⟨_,rfl,?_⟩;replace BK355:=Aside0.mk (KeepBut.blk hk (g':=gb355) (o:=.cells #[.bool false,.slice none 0 0,.slice none 0 0,.slice none 0 0] 27 (0,0)) (by (with_reducible repeat (first|apply zb1|apply zb2|apply zb3));exact BK355.out) NB355_356.out (by simp));replace BK365:=Aside0.mk (KeepBut.blk hk (g':=gb365) (o:=.cells #[.bool false,.slice none 0 0,.slice none 0 0,.slice none 0 0] 27 (0,0)) (by (with_reducible repeat (first|apply zb1|apply zb2|apply zb3));exact BK365.out) NB365_356.out (by simp));replace HB:=Aside0.mk (hb);replace HI356:=Aside0.mk (hi);(try clear hb);(try clear hk);(try clear hi);have hnb73:=NB365_355.out;have hnc73:=NB355_365.out;have hnb74:=NB365_356.out;have hnc74:=NB356_365.out;have hcz75_0:w72.cell? ⟨gb365,0,none⟩=some (.bool false):=(blk_cell BK365.out 0).trans rfl;have hcz75_1:w72.cell? ⟨gb365,1,none⟩=some (.slice none 0 0):=(blk_cell BK365.out 1).trans rfl;have hcz75_2:w72.cell? ⟨gb365,2,none⟩=some (.slice none 0 0):=(blk_cell BK365.out 2).trans rfl;have hcz75_3:w72.cell? ⟨gb365,3,none⟩=some (.slice none 0 0):=(blk_cell BK365.out 3).trans rfl;have hfz75_0:=blk_frozen BK365.out 0;have hfz75_1:=blk_frozen BK365.out 1;have hfz75_2:=blk_frozen BK365.out 2;have hfz75_3:=blk_frozen BK365.out 3)|((with_reducible refine gate_builtin (b:=.append) (xs:=#[.tmp 53,.tmp 56]) rfl ?_);at_builtin;refine Kd.R_append (Kd.int .i64) (w0:=w) w.heap.size rfl (.tmp 53) (.tmp 56) 25 3 (.int .i64 0) 8 rfl Tryd.underlying25 info3 rfl (by decide) (by omega) (.slice none 0 0) ([]:List Int) (wrap64 (t379)) [.int .i64 (wrap64 (t379))] (fun _=>True) (fun _=>False) rfl rfl ?aP (fun _ hk=>hk.elim) ?aF ?aO ?aB ?aS ?aL ?_;(case aP=>exact rfl);(case aB=>exact (by repeat (first|(with_reducible first|exact HB.out|apply zl1|apply zl2|apply zl3|refine below_set ?_ (IsS51.ge HI356.out)|refine below_set ?_ GE355.out|refine below_set ?_ GE365.out)|exact HB.out)));(case aF=>exact (fun _ _=>trivial));(case aO=>exact ((Kd.R_nil _ _ _ _ (fun _=>True))));(case aS=>exact (below_size (by repeat (first|(with_reducible first|exact HB.out|apply zl1|apply zl2|apply zl3|refine below_set ?_ (IsS51.ge HI356.out)|refine below_set ?_ GE355.out|refine below_set ?_ GE365.out)|exact HB.out))));(case aL=>have:=LMc66.out;omega);intro v384 w76 ho hb hg hat;rw [← Ny383.out] at ho;replace BK355:=Aside0.mk (blk_grown (g:=gb355) (o:=.cells #[.bool false,.slice none 0 0,.slice none 0 0,.slice none 0 0] 27 (0,0)) (by (with_reducible repeat (first|apply zb1|apply zb2|apply zb3));exact BK355.out) hg (by simp [Value.ownBlock]));replace HI356:=Aside0.mk (IsS51.grown (show IsS51 w _ gb356 t380 t381 t382 from by repeat (first|(with_reducible first|exact HI356.out|apply IsS51.alloc|apply IsS51.drewN|apply IsS51.drew|apply IsS51.set_0|apply IsS51.set_1|apply IsS51.set_2|refine IsS51.far ?_ NB356_355.out _|refine IsS51.far ?_ NB356_365.out _)|exact HI356.out)) hg (by simp [Value.ownBlock]));replace BK365:=Aside0.mk (blk_grown (g:=gb365) (o:=.cells #[.bool false,.slice none 0 0,.slice none 0 0,.slice none 0 0] 27 (0,0)) (by (with_reducible repeat (first|apply zb1|apply zb2|apply zb3));exact BK365.out) hg (by simp [Value.ownBlock]));replace HB:=Aside0.mk (hb);have HO385:=Aside0.mk (ho);clear ho hb hg hat;obtain ⟨Ao77,co77,eo77⟩:=Kd.R_slice HO385.out;subst eo77;have hcz78_0:w76.cell? ⟨gb365,0,none⟩=some (.bool false):=(blk_cell BK365.out 0).trans rfl;have hcz78_1:w76.cell? ⟨gb365,1,none⟩=some (.slice none 0 0):=(blk_cell BK365.out 1).trans rfl;have hcz78_2:w76.cell? ⟨gb365,2,none⟩=some (.slice none 0 0):=(blk_cell BK365.out 2).trans rfl;have hcz78_3:w76.cell? ⟨gb365,3,none⟩=some (.slice none 0 0):=(blk_cell BK365.out 3).trans rfl;have hfz78_0:=blk_frozen BK365.out 0;have hfz78_1:=blk_frozen BK365.out 1;have hfz78_2:=blk_frozen BK365.out 2;have hfz78_3:=blk_frozen BK365.out 3))
   go_loopg [12] k (fun kq v12 w'=>∃ (x12_1:Int) (x357000_1:ByteArray) (x357001_1:Int) (x357002_1:Int) (x366002_1:List ByteArray) (x366003_1:List Int) (u366002:Value) (u366003:Value),v12=.int .u64 x12_1∧Aside0 (factotumref09_Read.l1 kq a0 t361 x12_1 x357000_1 x357001_1 x357002_1 false x366002_1 x366003_1=some (r1,r2,r3,r4,r5))∧Aside0 (kq≤k)∧Aside0 (Kd.R Kd.string 9 w' w.heap.size (fun _=>True) u366002 x366002_1)∧Aside0 (Kd.R (Kd.int .i64) 3 w' w.heap.size (fun _=>True) u366003 x366003_1)∧Aside0 (w'.heap[gb355]?=some (.cells #[.bool false,(.slice none 0 0),(.slice none 0 0),(.slice none 0 0)] 27 (0,0)))∧Aside0 (w'.heap[gb365]?=some (.cells #[.bool false,(.slice none 0 0),u366002,u366003] 27 (0,0)))∧Aside0 (IsS51 w w' gb356 x357000_1 x357001_1 x357002_1)∧Aside0 (Below w.heap.size w w'))
   case atStart=>exact ⟨(0),(t380),(t381),(t382),(([]:List ByteArray)),(y383),(.slice none 0 0),(.slice Ao77 y383.length co77),(by first|(with_reducible rfl)|(simp;done)|(simp [*];done)|rfl|(simp only [not_isEmpty_bne])),H',⟨Nat.le_refl _⟩,⟨by first|exact Kd.R_nil _ _ _ _ _|exact Kd.N_nil _ _ _ _ _|exact Kd.V_nil _ _ _ _ _|exact Kd.Q_nil _ _ _ _ _|exact Kd.S_nil _ _ _ _ _⟩,⟨by (with_reducible repeat (first|apply zk1|apply zk2|apply zk3));exact Kd.R_mono (Kd.R_far (p:=⟨gb365,3,none⟩) (Kd.R_types HO385.out BK365.out (by decide)) (fun _ hk=>hk.2) (.slice Ao77 y383.length co77)) (fun _ hk=>trivial)⟩,⟨by (with_reducible repeat (first|apply zb1|apply zb2|apply zb3));refine blk_far ?_ NB355_365.out _;(with_reducible repeat (first|apply zb1|apply zb2|apply zb3));exact BK355.out⟩,⟨by (with_reducible repeat (first|apply zb1|apply zb2|apply zb3));refine blk_put (cs:=#[.bool false,.slice none 0 0,.slice none 0 0,.slice none 0 0]) ?_ 3 _ rfl;(with_reducible repeat (first|apply zb1|apply zb2|apply zb3));exact BK365.out⟩,⟨by repeat (first|(with_reducible first|exact HI356.out|apply IsS51.alloc|apply IsS51.drewN|apply IsS51.drew|apply IsS51.set_0|apply IsS51.set_1|apply IsS51.set_2|refine IsS51.far ?_ NB356_355.out _|refine IsS51.far ?_ NB356_365.out _)|exact HI356.out)⟩,⟨by repeat (first|(with_reducible first|exact HB.out|apply zl1|apply zl2|apply zl3|refine below_set ?_ (IsS51.ge HI356.out)|refine below_set ?_ GE355.out|refine below_set ?_ GE365.out)|exact HB.out)⟩⟩
   case round =>
    clear H'
    try clear c1
    try clear c2
    try clear p2
    try clear c3
    try clear c4
    try clear c4b0
    try clear c4b1
    try clear c5
    try clear c6
    try clear p6
    try clear c7
    try clear c10
    try clear c11
    try clear c14
    try clear c14b0
    try clear c16
    try clear c19
    try clear c20
    try clear c21
    try clear c22
    try clear c23
    try clear c29
    try clear c29b0
    try clear c29b1
    try clear c30
    try clear c30b0
    try clear c30b1
    try clear c31
    try clear c31b0
    try clear c31b1
    try clear hcz12_0 hcz12_1 hcz12_2 hcz12_3 hcz15_0 hcz15_1 hcz15_2 hcz24_0 hcz24_1 hcz24_2 hcz24_3 hcz27_0 hcz27_1 hcz27_2
    try clear c32
    try clear c33
    try clear c39
    try clear c41
    try clear c42
    try clear c47
    try clear c49
    try clear c50
    try clear c55
    try clear c57
    try clear c58
    try clear c63
    try clear p64
    try clear c66
    try clear c73
    try clear c74
    try clear hcz27_3 hcz34_0 hcz34_1 hcz34_2 hcz34_3 hcz37_0 hcz37_1 hcz37_2 hcz38_0 hcz38_1 hcz38_2 hcz38_3 hcz40_0 hcz40_1 hcz40_2 hcz40_3 hcz43_0 hcz43_1 hcz43_2 hcz43_3 hcz46_0 hcz46_1 hcz46_2 hcz48_0 hcz48_1 hcz48_2 hcz48_3 hcz51_0 hcz51_1 hcz51_2
    try clear hfz12_0 hfz12_1 hfz12_2
    try clear hcz51_3 hcz54_0 hcz54_1 hcz54_2 hcz56_0 hcz56_1 hcz56_2 hcz56_3 hcz59_0 hcz59_1 hcz59_2 hcz59_3 hcz62_0 hcz62_1 hcz62_2 hcz64_0 hcz64_1 hcz64_2 hcz64_3 hcz75_0 hcz75_1 hcz75_2 hcz75_3 hcz78_0 hcz78_1 hcz78_2 hcz78_3
    try clear hfz12_3 hfz15_0 hfz15_1 hfz15_2 hfz24_0 hfz24_1 hfz24_2 hfz24_3 hfz27_0 hfz27_1 hfz27_2 hfz27_3 hfz34_0 hfz34_1 hfz34_2 hfz34_3 hfz37_0 hfz37_1 hfz37_2 hfz38_0 hfz38_1 hfz38_2 hfz38_3 hfz40_0 hfz40_1 hfz40_2 hfz40_3 hfz43_0 hfz43_1 hfz43_2
    try clear hfz43_3 hfz46_0 hfz46_1 hfz46_2 hfz48_0 hfz48_1 hfz48_2 hfz48_3 hfz51_0 hfz51_1 hfz51_2 hfz51_3 hfz54_0 hfz54_1 hfz54_2 hfz56_0 hfz56_1 hfz56_2 hfz56_3 hfz59_0 hfz59_1 hfz59_2 hfz59_3 hfz62_0 hfz62_1 hfz62_2 hfz64_0 hfz64_1 hfz64_2 hfz64_3
    try clear hfz75_0 hfz75_1 hfz75_2 hfz75_3 hfz78_0 hfz78_1 hfz78_2 hfz78_3
    try clear p2
    try clear p6
    obtain ⟨x12_1,x357000_1,x357001_1,x357002_1,x366002_1,x366003_1,u366002,u366003,rfl,HA,HK1,HO_366002,HO_366003,BK355,BK365,HI356,HB⟩:=hrel
    cases gk with
    | zero=>exact absurd HA.out (by simp [factotumref09_Read.l1])
    | succ k1 =>
     have H:=HA.out
     clear HA
     simp only [factotumref09_Read.l1] at H
     have HC79:=Aside0.mk H
     clear H
     go_upto_region 16 with (fail)
     go_cut [68] (fun v68 wc=>∃ (kq:Nat) (x68_78:Bool),v68=.bool x68_78∧Aside0 (factotumref09_Read.j3 kq a0 t361 x12_1 x68_78 x357000_1 x357001_1 x357002_1 false x366002_1 x366003_1=some (r1,r2,r3,r4,r5))∧Aside0 (kq≤k1)∧Aside0 (Kd.R Kd.string 9 wc w.heap.size (fun _=>True) u366002 x366002_1)∧Aside0 (Kd.R (Kd.int .i64) 3 wc w.heap.size (fun _=>True) u366003 x366003_1)∧Aside0 (wc.heap[gb355]?=some (.cells #[.bool false,(.slice none 0 0),(.slice none 0 0),(.slice none 0 0)] 27 (0,0)))∧Aside0 (wc.heap[gb365]?=some (.cells #[.bool false,(.slice none 0 0),u366002,u366003] 27 (0,0)))∧Aside0 (IsS51 w wc gb356 x357000_1 x357001_1 x357002_1)∧Aside0 (Below w.heap.size w wc))
     case first =>
      have H:=HC79.out
      clear HC79
      by_cases c80:x12_1 < t361
      ·rw [if_pos c80] at H
       have c80b0:decide (x12_1 < t361)=true:=decide_eq_true c80
       clear c80
       (first|rw [c80b0]|(simp only [i64_w,i32_w];rw [c80b0])|skip)
       have H':=Aside0.mk H
       clear H
       obtain ⟨HGz81,hgz81⟩:=HI356.out
       have hcz81_0:=cellS51_0 HGz81
       have hcz81_1:=cellS51_1 HGz81
       have hcz81_2:=cellS51_2 HGz81
       have hfz81_0:=blk_frozen HGz81 0
       have hfz81_1:=blk_frozen HGz81 1
       have hfz81_2:=blk_frozen HGz81 2
       clear HGz81 hgz81
       go_wp2
       go_meet
       case rel=>exact ⟨_,((x357002_1 == 0)),(by first|(with_reducible rfl)|(simp;done)|(simp [*];done)|rfl|(simp only [not_isEmpty_bne])),H',⟨by have:=HK1.out;first|omega|exact Nat.le_refl _⟩,⟨by (with_reducible repeat (first|apply zk1|apply zk2|apply zk3));exact HO_366002.out⟩,⟨by (with_reducible repeat (first|apply zk1|apply zk2|apply zk3));exact HO_366003.out⟩,⟨by (with_reducible repeat (first|apply zb1|apply zb2|apply zb3));exact BK355.out⟩,⟨by (with_reducible repeat (first|apply zb1|apply zb2|apply zb3));exact BK365.out⟩,⟨by repeat (first|(with_reducible first|exact HI356.out|apply IsS51.alloc|apply IsS51.drewN|apply IsS51.drew|apply IsS51.set_0|apply IsS51.set_1|apply IsS51.set_2|refine IsS51.far ?_ NB356_355.out _|refine IsS51.far ?_ NB356_365.out _)|exact HI356.out)⟩,⟨by repeat (first|(with_reducible first|exact HB.out|apply zl1|apply zl2|apply zl3|refine below_set ?_ (IsS51.ge HI356.out)|refine below_set ?_ GE355.out|refine below_set ?_ GE365.out)|exact HB.out)⟩⟩
      ·rw [if_neg c80] at H
       have c80b0:decide (x12_1 < t361)=false:=decide_eq_false c80
       clear c80
       (first|rw [c80b0]|(simp only [i64_w,i32_w];rw [c80b0])|skip)
       have H':=Aside0.mk H
       clear H
       go_wp2
       go_meet
       case rel=>exact ⟨_,(false),(by first|(with_reducible rfl)|(simp;done)|(simp [*];done)|rfl|(simp only [not_isEmpty_bne])),H',⟨by have:=HK1.out;first|omega|exact Nat.le_refl _⟩,⟨by (with_reducible repeat (first|apply zk1|apply zk2|apply zk3));exact HO_366002.out⟩,⟨by (with_reducible repeat (first|apply zk1|apply zk2|apply zk3));exact HO_366003.out⟩,⟨by (with_reducible repeat (first|apply zb1|apply zb2|apply zb3));exact BK355.out⟩,⟨by (with_reducible repeat (first|apply zb1|apply zb2|apply zb3));exact BK365.out⟩,⟨by repeat (first|(with_reducible first|exact HI356.out|apply IsS51.alloc|apply IsS51.drewN|apply IsS51.drew|apply IsS51.set_0|apply IsS51.set_1|apply IsS51.set_2|refine IsS51.far ?_ NB356_355.out _|refine IsS51.far ?_ NB356_365.out _)|exact HI356.out)⟩,⟨by repeat (first|(with_reducible first|exact HB.out|apply zl1|apply zl2|apply zl3|refine below_set ?_ (IsS51.ge HI356.out)|refine below_set ?_ GE355.out|refine below_set ?_ GE365.out)|exact HB.out)⟩⟩
     case rest =>
      clear HC79
      try clear c1
      try clear c2
      try clear p2
      try clear c3
      try clear c4
      try clear c4b0
      try clear c4b1
      try clear c5
      try clear c6
      try clear p6
      try clear c7
      try clear c8
      try clear c10
      try clear c11
      try clear c14
      try clear c14b0
      try clear c16
      try clear c19
      try clear c20
      try clear c21
      try clear c22
      try clear c23
      try clear c29
      try clear c29b0
      try clear c29b1
      try clear c30
      try clear c30b0
      try clear c30b1
      try clear c31
      try clear c31b0
      try clear hcz12_0 hcz12_1 hcz12_2 hcz12_3 hcz15_0 hcz15_1 hcz15_2 hcz24_0 hcz24_1 hcz24_2 hcz24_3
      try clear c31b1
      try clear c32
      try clear c33
      try clear c39
      try clear c41
      try clear c42
      try clear c47
      try clear c49
      try clear c50
      try clear c55
      try clear c57
      try clear c58
      try clear c63
      try clear p64
      try clear c66
      try clear c73
      try clear c74
      try clear c80
      try clear c80b0
      try clear hcz27_0 hcz27_1 hcz27_2 hcz27_3 hcz34_0 hcz34_1 hcz34_2 hcz34_3 hcz37_0 hcz37_1 hcz37_2 hcz38_0 hcz38_1 hcz38_2 hcz38_3 hcz40_0 hcz40_1 hcz40_2 hcz40_3 hcz43_0 hcz43_1 hcz43_2 hcz43_3 hcz46_0 hcz46_1 hcz46_2 hcz48_0 hcz48_1 hcz48_2 hcz48_3
      try clear hcz51_0 hcz51_1 hcz51_2 hcz51_3 hcz54_0 hcz54_1 hcz54_2 hcz56_0 hcz56_1 hcz56_2 hcz56_3 hcz59_0 hcz59_1 hcz59_2 hcz59_3 hcz62_0 hcz62_1 hcz62_2 hcz64_0 hcz64_1 hcz64_2 hcz64_3 hcz75_0 hcz75_1 hcz75_2 hcz75_3 hcz78_0 hcz78_1 hcz78_2 hcz78_3
      try clear hfz12_0 hfz12_1 hfz12_2 hfz12_3 hfz15_0 hfz15_1 hfz15_2 hfz24_0 hfz24_1 hfz24_2 hfz24_3 hfz27_0 hfz27_1 hfz27_2 hfz27_3 hfz34_0 hfz34_1 hfz34_2 hfz34_3 hfz37_0 hfz37_1 hfz37_2 hfz38_0 hfz38_1 hfz38_2 hfz38_3 hfz40_0
      try clear hcz81_0 hcz81_1 hcz81_2
      try clear hfz40_1 hfz40_2 hfz40_3 hfz43_0 hfz43_1 hfz43_2 hfz43_3 hfz46_0 hfz46_1 hfz46_2 hfz48_0 hfz48_1 hfz48_2 hfz48_3 hfz51_0 hfz51_1 hfz51_2 hfz51_3 hfz54_0 hfz54_1 hfz54_2 hfz56_0 hfz56_1 hfz56_2 hfz56_3 hfz59_0 hfz59_1 hfz59_2 hfz59_3 hfz62_0
      try clear hfz62_1 hfz62_2 hfz64_0 hfz64_1 hfz64_2 hfz64_3 hfz75_0 hfz75_1 hfz75_2 hfz75_3 hfz78_0 hfz78_1 hfz78_2 hfz78_3 hfz81_0 hfz81_1 hfz81_2
      try clear p2
      try clear p6
      try clear p64
      obtain ⟨kq,x68_78,rfl,HA,HJ78,HO_366002,HO_366003,BK355,BK365,HI356,HB⟩:=hcut
      cases kq with
      | zero=>exact absurd HA.out (by simp [factotumref09_Read.j3])
      | succ kj78 =>
       have H:=HA.out
       clear HA
       simp only [factotumref09_Read.j3] at H
       by_cases c82:x68_78=true
       ·subst c82
        have H1:((factotumref01_Reader_Str.f x357000_1 x357001_1 x357002_1 255).bind fun bt386=>((factotumref01_Reader_Num.f kj78 bt386.2.1 bt386.2.2.1 bt386.2.2.2 2).bind fun bt390=>(if x366002_1.length < 8796093022208 then (if x366003_1.length < 17592186044416 then (factotumref09_Read.l1 kj78 a0 t361 (IntKind.u64.wrap (x12_1 + 1)) bt390.2.1 bt390.2.2.1 bt390.2.2.2 false (x366002_1 ++ [bt386.1]) (x366003_1 ++ [wrap64 (bt390.1)])) else (none)) else (none))))=some (r1,r2,r3,r4,r5):=by rw [if_pos rfl] at H;exact H
        clear H
        have H:=H1
        clear H1
        replace H:=Option.bind_eq_some_iff.mp H
        obtain ⟨⟨t386,t387,t388,t389⟩,A830,H⟩:=H
        replace H:((factotumref01_Reader_Num.f kj78 t387 t388 t389 2).bind fun bt390=>(if x366002_1.length < 8796093022208 then (if x366003_1.length < 17592186044416 then (factotumref09_Read.l1 kj78 a0 t361 (IntKind.u64.wrap (x12_1 + 1)) bt390.2.1 bt390.2.2.1 bt390.2.2.2 false (x366002_1 ++ [t386]) (x366003_1 ++ [wrap64 (bt390.1)])) else (none)) else (none)))=some (r1,r2,r3,r4,r5):=H
        have A83:=Aside0.mk A830
        clear A830
        replace H:=Option.bind_eq_some_iff.mp H
        obtain ⟨⟨t390,t391,t392,t393⟩,A840,H⟩:=H
        replace H:(if x366002_1.length < 8796093022208 then (if x366003_1.length < 17592186044416 then (factotumref09_Read.l1 kj78 a0 t361 (IntKind.u64.wrap (x12_1 + 1)) t391 t392 t393 false (x366002_1 ++ [t386]) (x366003_1 ++ [wrap64 (t390)])) else (none)) else (none))=some (r1,r2,r3,r4,r5):=H
        have A84:=Aside0.mk A840
        clear A840
        by_cases c85:x366002_1.length < 8796093022208
        ·rw [if_pos c85] at H
         have LMc85:=Aside0.mk c85
         clear c85
         obtain ⟨y394,hy394⟩:∃ y_:List ByteArray,y_=(x366002_1 ++ [t386]):=⟨_,rfl⟩
         replace H:(if x366003_1.length < 17592186044416 then (factotumref09_Read.l1 kj78 a0 t361 (IntKind.u64.wrap (x12_1 + 1)) t391 t392 t393 false y394 (x366003_1 ++ [wrap64 (t390)])) else (none))=some (r1,r2,r3,r4,r5):=by first|(rw [hy394];with_reducible exact H)|(have H2_:=(Option.bind_some _ _).symm.trans H;rw [hy394];with_reducible exact H2_)|(have H2_:=(Option.bind_some _ _).symm.trans H;with_reducible exact H2_)|with_reducible exact H|(rw [hy394];exact H)|exact H
         have Ny394:=Aside0.mk hy394
         clear hy394
         by_cases c86:x366003_1.length < 17592186044416
         ·rw [if_pos c86] at H
          have LMc86:=Aside0.mk c86
          clear c86
          obtain ⟨y397,hy397⟩:∃ y_:List Int,y_=(x366003_1 ++ [wrap64 (t390)]):=⟨_,rfl⟩
          replace H:(factotumref09_Read.l1 kj78 a0 t361 (IntKind.u64.wrap (x12_1 + 1)) t391 t392 t393 false y394 y397)=some (r1,r2,r3,r4,r5):=by first|(rw [hy397];with_reducible exact H)|(have H2_:=(Option.bind_some _ _).symm.trans H;rw [hy397];with_reducible exact H2_)|(have H2_:=(Option.bind_some _ _).symm.trans H;with_reducible exact H2_)|with_reducible exact H|(rw [hy397];exact H)|exact H
          have Ny397:=Aside0.mk hy397
          clear hy397
          have H':=Aside0.mk H
          clear H
          go_wp2_with (first|((with_reducible refine gate_callee (f:=21) rfl ?_);refine goesL_ (some 72) rfl rfl Tryd.func21 (by kernel_rfl) rfl #[.pointer (some ⟨gb356,0,none⟩),.int .i64 255] rfl (by (try simp only [List.map_toArray,List.map_cons,List.map_nil]);first|done|rfl|(simp only [List.length_drop,List.length_take];rfl)|(simp (disch:=omega) only [u64_in];rfl)) ?_;(with_reducible refine (factotumref01_Reader_Str.calls gb356 x357000_1 x357001_1 x357002_1 255 t386 t387 t388 t389 w _ ?side1 ?side2 A83.out).mono ?_);(case side1=>repeat (first|(with_reducible first|exact HI356.out|apply IsS51.alloc|apply IsS51.drewN|apply IsS51.drew|apply IsS51.set_0|apply IsS51.set_1|apply IsS51.set_2|refine IsS51.far ?_ NB356_355.out _|refine IsS51.far ?_ NB356_365.out _)|exact HI356.out));(case side2=>repeat (first|(with_reducible first|exact HB.out|apply zl1|apply zl2|apply zl3|refine below_set ?_ (IsS51.ge HI356.out)|refine below_set ?_ GE355.out|refine below_set ?_ GE365.out)|exact HB.out));rintro e w87 ⟨rfl,hi,hb,hk⟩;refine ⟨_,rfl,?_⟩;replace HO_366002:=Aside0.mk (Kd.R_mono (Kd.R_keep (IsS51.apart (show IsS51 w _ gb356 x357000_1 x357001_1 x357002_1 from by repeat (first|(with_reducible first|exact HI356.out|apply IsS51.alloc|apply IsS51.drewN|apply IsS51.drew|apply IsS51.set_0|apply IsS51.set_1|apply IsS51.set_2|refine IsS51.far ?_ NB356_355.out _|refine IsS51.far ?_ NB356_365.out _)|exact HI356.out)) (by (with_reducible repeat (first|apply zk1|apply zk2|apply zk3));exact HO_366002.out) (by decide)) hk (fun _ h=>h.2)) (fun _ h=>h.1));replace HO_366003:=Aside0.mk (Kd.R_mono (Kd.R_keep (IsS51.apart (show IsS51 w _ gb356 x357000_1 x357001_1 x357002_1 from by repeat (first|(with_reducible first|exact HI356.out|apply IsS51.alloc|apply IsS51.drewN|apply IsS51.drew|apply IsS51.set_0|apply IsS51.set_1|apply IsS51.set_2|refine IsS51.far ?_ NB356_355.out _|refine IsS51.far ?_ NB356_365.out _)|exact HI356.out)) (by (with_reducible repeat (first|apply zk1|apply zk2|apply zk3));exact HO_366003.out) (by decide)) hk (fun _ h=>h.2)) (fun _ h=>h.1));replace BK355:=Aside0.mk (KeepBut.blk hk (g':=gb355) (o:=.cells #[.bool false,.slice none 0 0,.slice none 0 0,.slice none 0 0] 27 (0,0)) (by (with_reducible repeat (first|apply zb1|apply zb2|apply zb3));exact BK355.out) NB355_356.out (by simp));replace BK365:=Aside0.mk (KeepBut.blk hk (g':=gb365) (o:=.cells #[.bool false,.slice none 0 0,u366002,u366003] 27 (0,0)) (by (with_reducible repeat (first|apply zb1|apply zb2|apply zb3));exact BK365.out) NB365_356.out (by simp));replace HB:=Aside0.mk (hb);replace HI356:=Aside0.mk (hi);(try clear hb);(try clear hk);(try clear hi))|((with_reducible refine gate_callee (f:=20) rfl ?_);refine goesL_ (some 74) rfl rfl Tryd.func20 (by kernel_rfl) rfl #[.pointer (some ⟨gb356,0,none⟩),.int .i64 2] rfl (by (try simp only [List.map_toArray,List.map_cons,List.map_nil]);first|done|rfl|(simp only [List.length_drop,List.length_take];rfl)|(simp (disch:=omega) only [u64_in];rfl)) ?_;(with_reducible refine (factotumref01_Reader_Num.calls kj78 gb356 t387 t388 t389 2 t390 t391 t392 t393 w _ ?side1 ?side2 A84.out).mono ?_);(case side1=>repeat (first|(with_reducible first|exact HI356.out|apply IsS51.alloc|apply IsS51.drewN|apply IsS51.drew|apply IsS51.set_0|apply IsS51.set_1|apply IsS51.set_2|refine IsS51.far ?_ NB356_355.out _|refine IsS51.far ?_ NB356_365.out _)|exact HI356.out));(case side2=>repeat (first|(with_reducible first|exact HB.out|apply zl1|apply zl2|apply zl3|refine below_set ?_ (IsS51.ge HI356.out)|refine below_set ?_ GE355.out|refine below_set ?_ GE365.out)|exact HB.out));rintro e w88 ⟨rfl,hi,hb,hk⟩;refine ⟨_,rfl,?_⟩;replace HO_366002:=Aside0.mk (Kd.R_mono (Kd.R_keep (IsS51.apart (show IsS51 w _ gb356 t387 t388 t389 from by repeat (first|(with_reducible first|exact HI356.out|apply IsS51.alloc|apply IsS51.drewN|apply IsS51.drew|apply IsS51.set_0|apply IsS51.set_1|apply IsS51.set_2|refine IsS51.far ?_ NB356_355.out _|refine IsS51.far ?_ NB356_365.out _)|exact HI356.out)) (by (with_reducible repeat (first|apply zk1|apply zk2|apply zk3));exact HO_366002.out) (by decide)) hk (fun _ h=>h.2)) (fun _ h=>h.1));replace HO_366003:=Aside0.mk (Kd.R_mono (Kd.R_keep (IsS51.apart (show IsS51 w _ gb356 t387 t388 t389 from by repeat (first|(with_reducible first|exact HI356.out|apply IsS51.alloc|apply IsS51.drewN|apply IsS51.drew|apply IsS51.set_0|apply IsS51.set_1|apply IsS51.set_2|refine IsS51.far ?_ NB356_355.out _|refine IsS51.far ?_ NB356_365.out _)|exact HI356.out)) (by (with_reducible repeat (first|apply zk1|apply zk2|apply zk3));exact HO_366003.out) (by decide)) hk (fun _ h=>h.2)) (fun _ h=>h.1));replace BK355:=Aside0.mk (KeepBut.blk hk (g':=gb355) (o:=.cells #[.bool false,.slice none 0 0,.slice none 0 0,.slice none 0 0] 27 (0,0)) (by (with_reducible repeat (first|apply zb1|apply zb2|apply zb3));exact BK355.out) NB355_356.out (by simp));replace BK365:=Aside0.mk (KeepBut.blk hk (g':=gb365) (o:=.cells #[.bool false,.slice none 0 0,u366002,u366003] 27 (0,0)) (by (with_reducible repeat (first|apply zb1|apply zb2|apply zb3));exact BK365.out) NB365_356.out (by simp));replace HB:=Aside0.mk (hb);replace HI356:=Aside0.mk (hi);(try clear hb);(try clear hk);(try clear hi);have hnb89:=NB365_355.out;have hnc89:=NB355_365.out;have hnb90:=NB365_356.out;have hnc90:=NB356_365.out;have hcz91_0:w88.cell? ⟨gb365,0,none⟩=some (.bool false):=(blk_cell BK365.out 0).trans rfl;have hcz91_1:w88.cell? ⟨gb365,1,none⟩=some (.slice none 0 0):=(blk_cell BK365.out 1).trans rfl;have hcz91_2:w88.cell? ⟨gb365,2,none⟩=some (u366002):=(blk_cell BK365.out 2).trans rfl;have hcz91_3:w88.cell? ⟨gb365,3,none⟩=some (u366003):=(blk_cell BK365.out 3).trans rfl;have hfz91_0:=blk_frozen BK365.out 0;have hfz91_1:=blk_frozen BK365.out 1;have hfz91_2:=blk_frozen BK365.out 2;have hfz91_3:=blk_frozen BK365.out 3)|((with_reducible refine gate_builtin (b:=.append) (xs:=#[.tmp 76,.tmp 78]) rfl ?_);at_builtin;refine Kd.R_append Kd.string (w0:=w) w.heap.size rfl (.tmp 76) (.tmp 78) 24 9 (.string ⟨#[]⟩) 16 rfl Tryd.underlying24 info9 rfl (by decide) (by omega) u366002 x366002_1 t386 [.string t386] (fun _=>True) (fun _=>False) rfl rfl ?aP (fun _ hk=>hk.elim) ?aF ?aO ?aB ?aS ?aL ?_;(case aP=>exact rfl);(case aB=>exact (by repeat (first|(with_reducible first|exact HB.out|apply zl1|apply zl2|apply zl3|refine below_set ?_ (IsS51.ge HI356.out)|refine below_set ?_ GE355.out|refine below_set ?_ GE365.out)|exact HB.out)));(case aF=>exact (fun _ _=>trivial));(case aO=>exact (by (with_reducible repeat (first|apply zk1|apply zk2|apply zk3));exact HO_366002.out));(case aS=>exact (below_size (by repeat (first|(with_reducible first|exact HB.out|apply zl1|apply zl2|apply zl3|refine below_set ?_ (IsS51.ge HI356.out)|refine below_set ?_ GE355.out|refine below_set ?_ GE365.out)|exact HB.out))));(case aL=>have:=LMc85.out;omega);intro v395 w92 ho hb hg hat;rw [← Ny394.out] at ho;have n0_:=Aside0.mk (Kd.R_over' (by (with_reducible repeat (first|apply zk1|apply zk2|apply zk3));exact HO_366003.out) (Kd.R_typed (by (with_reducible repeat (first|apply zk1|apply zk2|apply zk3));exact HO_366002.out)) (by decide) hg);have n1_:=Aside0.mk (blk_grown (g:=gb355) (o:=.cells #[.bool false,.slice none 0 0,.slice none 0 0,.slice none 0 0] 27 (0,0)) (by (with_reducible repeat (first|apply zb1|apply zb2|apply zb3));exact BK355.out) hg (Kd.R_ne HO_366002.out BK355.out (by decide)));have n2_:=Aside0.mk (blk_grown (g:=gb365) (o:=.cells #[.bool false,.slice none 0 0,u366002,u366003] 27 (0,0)) (by (with_reducible repeat (first|apply zb1|apply zb2|apply zb3));exact BK365.out) hg (Kd.R_ne HO_366002.out BK365.out (by decide)));have n3_:=Aside0.mk (IsS51.grown (show IsS51 w _ gb356 t391 t392 t393 from by repeat (first|(with_reducible first|exact HI356.out|apply IsS51.alloc|apply IsS51.drewN|apply IsS51.drew|apply IsS51.set_0|apply IsS51.set_1|apply IsS51.set_2|refine IsS51.far ?_ NB356_355.out _|refine IsS51.far ?_ NB356_365.out _)|exact HI356.out)) hg (IsS51.own_ne HI356.out HO_366002.out (by decide)));have n4_:=Aside0.mk (hb);have n5_:=Aside0.mk (ho);clear HO_366003;clear BK355;clear BK365;clear HI356;clear HB;clear HO_366002;have HO_366003:=n0_;have BK355:=n1_;have BK365:=n2_;have HI356:=n3_;have HB:=n4_;have HO396:=n5_;clear n0_ n1_ n2_ n3_ n4_ n5_;clear ho hb hg hat;obtain ⟨Ao93,co93,eo93⟩:=Kd.R_slice HO396.out;subst eo93;have hcz94_0:w92.cell? ⟨gb365,0,none⟩=some (.bool false):=(blk_cell BK365.out 0).trans rfl;have hcz94_1:w92.cell? ⟨gb365,1,none⟩=some (.slice none 0 0):=(blk_cell BK365.out 1).trans rfl;have hcz94_2:w92.cell? ⟨gb365,2,none⟩=some (u366002):=(blk_cell BK365.out 2).trans rfl;have hcz94_3:w92.cell? ⟨gb365,3,none⟩=some (u366003):=(blk_cell BK365.out 3).trans rfl;have hfz94_0:=blk_frozen BK365.out 0;have hfz94_1:=blk_frozen BK365.out 1;have hfz94_2:=blk_frozen BK365.out 2;have hfz94_3:=blk_frozen BK365.out 3)|((with_reducible refine gate_builtin (b:=.append) (xs:=#[.tmp 82,.tmp 85]) rfl ?_);at_builtin;refine Kd.R_append (Kd.int .i64) (w0:=w) w.heap.size rfl (.tmp 82) (.tmp 85) 25 3 (.int .i64 0) 8 rfl Tryd.underlying25 info3 rfl (by decide) (by omega) u366003 x366003_1 (wrap64 (t390)) [.int .i64 (wrap64 (t390))] (fun _=>True) (fun _=>False) rfl (by first|(go_simp;done)|(go_simp;rfl)) ?aP (fun _ hk=>hk.elim) ?aF ?aO ?aB ?aS ?aL ?_;(case aP=>exact rfl);(case aB=>exact (by repeat (first|(with_reducible first|exact HB.out|apply zl1|apply zl2|apply zl3|refine below_set ?_ (IsS51.ge HI356.out)|refine below_set ?_ GE355.out|refine below_set ?_ GE365.out)|exact HB.out)));(case aF=>exact (fun _ _=>trivial));(case aO=>exact (by (with_reducible repeat (first|apply zk1|apply zk2|apply zk3));exact Kd.R_mono (Kd.R_far (p:=⟨gb365,2,none⟩) (Kd.R_types HO_366003.out BK365.out (by decide)) (fun _ hk=>hk.2) (.slice Ao93 y394.length co93)) (fun _ hk=>trivial)));(case aS=>exact (below_size (by repeat (first|(with_reducible first|exact HB.out|apply zl1|apply zl2|apply zl3|refine below_set ?_ (IsS51.ge HI356.out)|refine below_set ?_ GE355.out|refine below_set ?_ GE365.out)|exact HB.out))));(case aL=>have:=LMc86.out;omega);intro v398 w95 ho hb hg hat;rw [← Ny397.out] at ho;have n0_:=Aside0.mk (blk_grown (g:=gb355) (o:=.cells #[.bool false,.slice none 0 0,.slice none 0 0,.slice none 0 0] 27 (0,0)) (by (with_reducible repeat (first|apply zb1|apply zb2|apply zb3));refine blk_far ?_ NB355_365.out _;(with_reducible repeat (first|apply zb1|apply zb2|apply zb3));exact BK355.out) hg (Kd.R_ne HO_366003.out BK355.out (by decide)));have n1_:=Aside0.mk (blk_grown (g:=gb365) (o:=.cells #[.bool false,.slice none 0 0,.slice Ao93 y394.length co93,u366003] 27 (0,0)) (by (with_reducible repeat (first|apply zb1|apply zb2|apply zb3));refine blk_put (cs:=#[.bool false,.slice none 0 0,u366002,u366003]) ?_ 2 _ rfl;(with_reducible repeat (first|apply zb1|apply zb2|apply zb3));exact BK365.out) hg (Kd.R_ne HO_366003.out BK365.out (by decide)));have n2_:=Aside0.mk (IsS51.grown (show IsS51 w _ gb356 t391 t392 t393 from by repeat (first|(with_reducible first|exact HI356.out|apply IsS51.alloc|apply IsS51.drewN|apply IsS51.drew|apply IsS51.set_0|apply IsS51.set_1|apply IsS51.set_2|refine IsS51.far ?_ NB356_355.out _|refine IsS51.far ?_ NB356_365.out _)|exact HI356.out)) hg (IsS51.own_ne HI356.out HO_366003.out (by decide)));have n3_:=Aside0.mk (Kd.R_over' (by (with_reducible repeat (first|apply zk1|apply zk2|apply zk3));exact (Kd.R_mono (Kd.R_far (p:=⟨gb365,2,none⟩) (Kd.R_types HO396.out BK365.out (by decide)) (fun _ hk=>hk.2) (.slice Ao93 y394.length co93)) (fun _ h_=>h_.1))) (Kd.R_typed (by (with_reducible repeat (first|apply zk1|apply zk2|apply zk3));exact (Kd.R_mono (Kd.R_far (p:=⟨gb365,2,none⟩) (Kd.R_types HO_366003.out BK365.out (by decide)) (fun _ hk=>hk.2) (.slice Ao93 y394.length co93)) (fun _ h_=>h_.1)))) (by decide) hg);have n4_:=Aside0.mk (hb);have n5_:=Aside0.mk (ho);clear BK355;clear BK365;clear HI356;clear HO396;clear HB;clear HO_366003;have BK355:=n0_;have BK365:=n1_;have HI356:=n2_;have HO396:=n3_;have HB:=n4_;have HO399:=n5_;clear n0_ n1_ n2_ n3_ n4_ n5_;clear ho hb hg hat;obtain ⟨Ao96,co96,eo96⟩:=Kd.R_slice HO399.out;subst eo96;have hcz97_0:w95.cell? ⟨gb365,0,none⟩=some (.bool false):=(blk_cell BK365.out 0).trans rfl;have hcz97_1:w95.cell? ⟨gb365,1,none⟩=some (.slice none 0 0):=(blk_cell BK365.out 1).trans rfl;have hcz97_2:w95.cell? ⟨gb365,2,none⟩=some (.slice Ao93 y394.length co93):=(blk_cell BK365.out 2).trans rfl;have hcz97_3:w95.cell? ⟨gb365,3,none⟩=some (u366003):=(blk_cell BK365.out 3).trans rfl;have hfz97_0:=blk_frozen BK365.out 0;have hfz97_1:=blk_frozen BK365.out 1;have hfz97_2:=blk_frozen BK365.out 2;have hfz97_3:=blk_frozen BK365.out 3))
          go_roundg kj78
          case measure=>have:=HK1.out;have:=HJ78.out;omega
          case rel=>exact ⟨(IntKind.u64.wrap (x12_1 + 1)),(t391),(t392),(t393),(y394),(y397),(.slice Ao93 y394.length co93),(.slice Ao96 y397.length co96),(by first|(with_reducible rfl)|(simp;done)|(simp [*];done)|rfl|(simp only [not_isEmpty_bne])),H',⟨by have:=HK1.out;have:=HJ78.out;omega⟩,⟨by (with_reducible repeat (first|apply zk1|apply zk2|apply zk3));exact Kd.R_mono (Kd.R_far (p:=⟨gb365,3,none⟩) (Kd.R_types HO396.out BK365.out (by decide)) (fun _ hk=>hk.2) (.slice Ao96 y397.length co96)) (fun _ hk=>trivial)⟩,⟨by (with_reducible repeat (first|apply zk1|apply zk2|apply zk3));exact Kd.R_mono (Kd.R_far (p:=⟨gb365,3,none⟩) (Kd.R_types HO399.out BK365.out (by decide)) (fun _ hk=>hk.2) (.slice Ao96 y397.length co96)) (fun _ hk=>trivial)⟩,⟨by (with_reducible repeat (first|apply zb1|apply zb2|apply zb3));refine blk_far ?_ NB355_365.out _;(with_reducible repeat (first|apply zb1|apply zb2|apply zb3));exact BK355.out⟩,⟨by (with_reducible repeat (first|apply zb1|apply zb2|apply zb3));refine blk_put (cs:=#[.bool false,.slice none 0 0,.slice Ao93 y394.length co93,u366003]) ?_ 3 _ rfl;(with_reducible repeat (first|apply zb1|apply zb2|apply zb3));exact BK365.out⟩,⟨by repeat (first|(with_reducible first|exact HI356.out|apply IsS51.alloc|apply IsS51.drewN|apply IsS51.drew|apply IsS51.set_0|apply IsS51.set_1|apply IsS51.set_2|refine IsS51.far ?_ NB356_355.out _|refine IsS51.far ?_ NB356_365.out _)|exact HI356.out)⟩,⟨by repeat (first|(with_reducible first|exact HB.out|apply zl1|apply zl2|apply zl3|refine below_set ?_ (IsS51.ge HI356.out)|refine below_set ?_ GE355.out|refine below_set ?_ GE365.out)|exact HB.out)⟩⟩
         ·rw [if_neg c86] at H
          exact absurd H (by simp)
        ·rw [if_neg c85] at H
         exact absurd H (by simp)
       ·replace c82:=Bool.eq_false_iff.mpr c82
        subst c82
        have H1:((factotumref09_Write.f kj78 false ([]:List (S44)) x366002_1 x366003_1).bind fun bt400=>(if x357002_1=0 then (if bt400.2=0 then (if bt400.1.toList=a0.toList then (some (false,([]:List (S44)),x366002_1,x366003_1,0)) else (some (false,([]:List (S44)),([]:List ByteArray),([]:List Int),10))) else (some (false,([]:List (S44)),([]:List ByteArray),([]:List Int),10))) else (some (false,([]:List (S44)),([]:List ByteArray),([]:List Int),10))))=some (r1,r2,r3,r4,r5):=by rw [if_neg (show ¬ (false=true) by decide)] at H;exact H
        clear H
        have H:=H1
        clear H1
        replace H:=Option.bind_eq_some_iff.mp H
        obtain ⟨⟨t400,t401⟩,A980,H⟩:=H
        replace H:(if x357002_1=0 then (if t401=0 then (if t400.toList=a0.toList then (some (false,([]:List (S44)),x366002_1,x366003_1,0)) else (some (false,([]:List (S44)),([]:List ByteArray),([]:List Int),10))) else (some (false,([]:List (S44)),([]:List ByteArray),([]:List Int),10))) else (some (false,([]:List (S44)),([]:List ByteArray),([]:List Int),10)))=some (r1,r2,r3,r4,r5):=H
        have A98:=Aside0.mk A980
        clear A980
        by_cases c99:x357002_1=0
        ·rw [if_pos c99] at H
         have c99b0:(x357002_1 == 0)=true:=beq_iff_eq.mpr c99
         have c99b1:(x357002_1 != 0)=false:=bne_eq_false_iff_eq.mpr c99
         clear c99
         by_cases c100:t401=0
         ·rw [if_pos c100] at H
          have c100b0:(t401 == 0)=true:=beq_iff_eq.mpr c100
          have c100b1:(t401 != 0)=false:=bne_eq_false_iff_eq.mpr c100
          clear c100
          by_cases c101:t400.toList=a0.toList
          ·rw [if_pos c101] at H
           have c101b0:(t400.toList == a0.toList)=true:=beq_iff_eq.mpr c101
           have c101b1:(t400.toList != a0.toList)=false:=bne_eq_false_iff_eq.mpr c101
           clear c101
           simp only [Option.some.injEq,Prod.mk.injEq] at H
           obtain ⟨rfl,rfl,rfl,rfl,rfl⟩:=H
           have hnb102:=NB365_355.out
           have hnc102:=NB355_365.out
           have hnb103:=NB365_356.out
           have hnc103:=NB356_365.out
           have hcz104_0:wc.cell? ⟨gb365,0,none⟩=some (.bool false):=(blk_cell BK365.out 0).trans rfl
           have hcz104_1:wc.cell? ⟨gb365,1,none⟩=some (.slice none 0 0):=(blk_cell BK365.out 1).trans rfl
           have hcz104_2:wc.cell? ⟨gb365,2,none⟩=some (u366002):=(blk_cell BK365.out 2).trans rfl
           have hcz104_3:wc.cell? ⟨gb365,3,none⟩=some (u366003):=(blk_cell BK365.out 3).trans rfl
           have hfz104_0:=blk_frozen BK365.out 0
           have hfz104_1:=blk_frozen BK365.out 1
           have hfz104_2:=blk_frozen BK365.out 2
           have hfz104_3:=blk_frozen BK365.out 3
           obtain ⟨Ao105,co105,eo105⟩:=Kd.R_slice HO_366002.out
           subst eo105
           obtain ⟨Ao106,co106,eo106⟩:=Kd.R_slice HO_366003.out
           subst eo106
           go_wp2_with (first|((with_reducible refine gate_callee (f:=22) rfl ?_);refine goesL_ (some 90) rfl rfl Tryd.func22 (by kernel_rfl) rfl #[.agg #[.bool false,.slice none 0 0,.slice Ao105 x366002_1.length co105,.slice Ao106 x366003_1.length co106]] rfl (by (try simp only [List.map_toArray,List.map_cons,List.map_nil]);first|done|rfl|(simp only [List.length_drop,List.length_take];rfl)|(simp (disch:=omega) only [u64_in];rfl)) ?_;(refine (factotumref09_Write.calls kj78 false _ _ ([]:List (S44)) _ _ x366002_1 _ _ x366003_1 t400 t401 _ ?side1 ?side2 ?side3 ?side4 ?side5 ?side6 A98.out).mono ?_);(case side1=>exact Kd.C_nil _ _);(case side2=>exact Nat.le_refl _);(case side3=>repeat (first|exact (Kd.R_reads' HO_366002.out).2.2|(with_reducible refine Kd.C_alloc ?_ _)|(with_reducible refine Kd.C_drewN ?_ _)|(with_reducible refine Kd.C_drew ?_)));(case side4=>exact (Kd.R_reads' HO_366002.out).2.1);(case side5=>repeat (first|exact (Kd.R_reads' HO_366003.out).2.2|(with_reducible refine Kd.C_alloc ?_ _)|(with_reducible refine Kd.C_drewN ?_ _)|(with_reducible refine Kd.C_drew ?_)));(case side6=>exact (Kd.R_reads' HO_366003.out).2.1);rintro e w107 ⟨rfl,hb⟩;refine ⟨_,rfl,?_⟩;replace HO_366002:=Aside0.mk (Kd.R_below (by (with_reducible repeat (first|apply zk1|apply zk2|apply zk3));exact HO_366002.out) hb);replace HO_366003:=Aside0.mk (Kd.R_below (by (with_reducible repeat (first|apply zk1|apply zk2|apply zk3));exact HO_366003.out) hb);replace BK355:=Aside0.mk (blk_below (g:=gb355) (o:=.cells #[.bool false,.slice none 0 0,.slice none 0 0,.slice none 0 0] 27 (0,0)) (by (with_reducible repeat (first|apply zb1|apply zb2|apply zb3));exact BK355.out) hb);replace BK365:=Aside0.mk (blk_below (g:=gb365) (o:=.cells #[.bool false,.slice none 0 0,.slice Ao105 x366002_1.length co105,.slice Ao106 x366003_1.length co106] 27 (0,0)) (by (with_reducible repeat (first|apply zb1|apply zb2|apply zb3));exact BK365.out) hb);replace HB:=Aside0.mk (below_step (by repeat (first|(with_reducible first|exact HB.out|apply zl1|apply zl2|apply zl3|refine below_set ?_ (IsS51.ge HI356.out)|refine below_set ?_ GE355.out|refine below_set ?_ GE365.out)|exact HB.out)) hb);replace HI356:=Aside0.mk (IsS51.below (by repeat (first|(with_reducible first|exact HI356.out|apply IsS51.alloc|apply IsS51.drewN|apply IsS51.drew|apply IsS51.set_0|apply IsS51.set_1|apply IsS51.set_2|refine IsS51.far ?_ NB356_355.out _|refine IsS51.far ?_ NB356_365.out _)|exact HI356.out)) hb);(try clear hb);obtain ⟨HGz108,hgz108⟩:=HI356.out;have hcz108_0:=cellS51_0 HGz108;have hcz108_1:=cellS51_1 HGz108;have hcz108_2:=cellS51_2 HGz108;have hfz108_0:=blk_frozen HGz108 0;have hfz108_1:=blk_frozen HGz108 1;have hfz108_2:=blk_frozen HGz108 2;clear HGz108 hgz108;have hcz109_0:w107.cell? ⟨gb365,0,none⟩=some (.bool false):=(blk_cell BK365.out 0).trans rfl;have hcz109_1:w107.cell? ⟨gb365,1,none⟩=some (.slice none 0 0):=(blk_cell BK365.out 1).trans rfl;have hcz109_2:w107.cell? ⟨gb365,2,none⟩=some (.slice Ao105 x366002_1.length co105):=(blk_cell BK365.out 2).trans rfl;have hcz109_3:w107.cell? ⟨gb365,3,none⟩=some (.slice Ao106 x366003_1.length co106):=(blk_cell BK365.out 3).trans rfl;have hfz109_0:=blk_frozen BK365.out 0;have hfz109_1:=blk_frozen BK365.out 1;have hfz109_2:=blk_frozen BK365.out 2;have hfz109_3:=blk_frozen BK365.out 3;have hnb110:=NB355_356.out;have hnc110:=NB356_355.out;have hcz111_0:w107.cell? ⟨gb355,0,none⟩=some (.bool false):=(blk_cell BK355.out 0).trans rfl;have hcz111_1:w107.cell? ⟨gb355,1,none⟩=some (.slice none 0 0):=(blk_cell BK355.out 1).trans rfl;have hcz111_2:w107.cell? ⟨gb355,2,none⟩=some (.slice none 0 0):=(blk_cell BK355.out 2).trans rfl;have hcz111_3:w107.cell? ⟨gb355,3,none⟩=some (.slice none 0 0):=(blk_cell BK355.out 3).trans rfl;have hfz111_0:=blk_frozen BK355.out 0;have hfz111_1:=blk_frozen BK355.out 1;have hfz111_2:=blk_frozen BK355.out 2;have hfz111_3:=blk_frozen BK355.out 3))
           refine bodyPost_ret (results_ct rfl _ _ gb355 27 #[.bool false,.slice none 0 0,.slice Ao105 x366002_1.length co105,.slice Ao106 x366003_1.length co106] (0,0) _ rfl (by (with_reducible repeat (first|apply zb1|apply zb2|apply zb3));refine blk_put (cs:=#[.bool false,.slice none 0 0,.slice Ao105 x366002_1.length co105,.slice none 0 0]) ?_ 3 _ rfl;(with_reducible repeat (first|apply zb1|apply zb2|apply zb3));refine blk_put (cs:=#[.bool false,.slice none 0 0,.slice none 0 0,.slice none 0 0]) ?_ 2 _ rfl;(with_reducible repeat (first|apply zb1|apply zb2|apply zb3));refine blk_put (cs:=#[.bool false,.slice none 0 0,.slice none 0 0,.slice none 0 0]) ?_ 1 _ rfl;(with_reducible repeat (first|apply zb1|apply zb2|apply zb3));refine blk_put (cs:=#[.bool false,.slice none 0 0,.slice none 0 0,.slice none 0 0]) ?_ 0 _ rfl;(with_reducible repeat (first|apply zb1|apply zb2|apply zb3));exact BK355.out) Tryd.underlying27 rfl (by kernel_rfl)) rfl ?_
           exact ⟨_,_,_,by first|(with_reducible rfl)|(simp only [isEmpty_bne,Bool.not_not] <;> rfl)|rfl|(simp [*,errW_none,errW_some] <;> rfl),by first|exact Kd.R_nil _ _ _ _ _|exact Kd.N_nil _ _ _ _ _|exact Kd.V_nil _ _ _ _ _|exact Kd.Q_nil _ _ _ _ _|exact Kd.S_nil _ _ _ _ _,by (with_reducible repeat (first|apply zk1|apply zk2|apply zk3));exact Kd.R_mono (Kd.R_far (p:=⟨gb355,3,none⟩) (Kd.R_far (p:=⟨gb355,2,none⟩) (Kd.R_far (p:=⟨gb355,1,none⟩) (Kd.R_far (p:=⟨gb355,0,none⟩) (Kd.R_types HO_366002.out BK355.out (by decide)) (fun _ hk=>hk.2) (.bool false)) (fun _ hk=>hk.2) (.slice none 0 0)) (fun _ hk=>hk.2) (.slice Ao105 x366002_1.length co105)) (fun _ hk=>hk.2) (.slice Ao106 x366003_1.length co106)) (fun _ hk=>trivial),by (with_reducible repeat (first|apply zk1|apply zk2|apply zk3));exact Kd.R_mono (Kd.R_far (p:=⟨gb355,3,none⟩) (Kd.R_far (p:=⟨gb355,2,none⟩) (Kd.R_far (p:=⟨gb355,1,none⟩) (Kd.R_far (p:=⟨gb355,0,none⟩) (Kd.R_types HO_366003.out BK355.out (by decide)) (fun _ hk=>hk.2) (.bool false)) (fun _ hk=>hk.2) (.slice none 0 0)) (fun _ hk=>hk.2) (.slice Ao105 x366002_1.length co105)) (fun _ hk=>hk.2) (.slice Ao106 x366003_1.length co106)) (fun _ hk=>trivial),by repeat (first|(with_reducible first|exact HB.out|apply zl1|apply zl2|apply zl3|refine below_set ?_ (IsS51.ge HI356.out)|refine below_set ?_ GE355.out|refine below_set ?_ GE365.out)|exact HB.out)⟩
          ·rw [if_neg c101] at H
           have c101b0:(t400.toList == a0.toList)=false:=beq_eq_false_iff_ne.mpr c101
           have c101b1:(t400.toList != a0.toList)=true:=bne_iff_ne.mpr c101
           simp only [Option.some.injEq,Prod.mk.injEq] at H
           obtain ⟨rfl,rfl,rfl,rfl,rfl⟩:=H
           have hnb112:=NB365_355.out
           have hnc112:=NB355_365.out
           have hnb113:=NB365_356.out
           have hnc113:=NB356_365.out
           have hcz114_0:wc.cell? ⟨gb365,0,none⟩=some (.bool false):=(blk_cell BK365.out 0).trans rfl
           have hcz114_1:wc.cell? ⟨gb365,1,none⟩=some (.slice none 0 0):=(blk_cell BK365.out 1).trans rfl
           have hcz114_2:wc.cell? ⟨gb365,2,none⟩=some (u366002):=(blk_cell BK365.out 2).trans rfl
           have hcz114_3:wc.cell? ⟨gb365,3,none⟩=some (u366003):=(blk_cell BK365.out 3).trans rfl
           have hfz114_0:=blk_frozen BK365.out 0
           have hfz114_1:=blk_frozen BK365.out 1
           have hfz114_2:=blk_frozen BK365.out 2
           have hfz114_3:=blk_frozen BK365.out 3
           obtain ⟨Ao115,co115,eo115⟩:=Kd.R_slice HO_366002.out
           subst eo115
           obtain ⟨Ao116,co116,eo116⟩:=Kd.R_slice HO_366003.out
           subst eo116
           go_wp2_with (first|((with_reducible refine gate_callee (f:=22) rfl ?_);refine goesL_ (some 90) rfl rfl Tryd.func22 (by kernel_rfl) rfl #[.agg #[.bool false,.slice none 0 0,.slice Ao115 x366002_1.length co115,.slice Ao116 x366003_1.length co116]] rfl (by (try simp only [List.map_toArray,List.map_cons,List.map_nil]);first|done|rfl|(simp only [List.length_drop,List.length_take];rfl)|(simp (disch:=omega) only [u64_in];rfl)) ?_;(refine (factotumref09_Write.calls kj78 false _ _ ([]:List (S44)) _ _ x366002_1 _ _ x366003_1 t400 t401 _ ?side1 ?side2 ?side3 ?side4 ?side5 ?side6 A98.out).mono ?_);(case side1=>exact Kd.C_nil _ _);(case side2=>exact Nat.le_refl _);(case side3=>repeat (first|exact (Kd.R_reads' HO_366002.out).2.2|(with_reducible refine Kd.C_alloc ?_ _)|(with_reducible refine Kd.C_drewN ?_ _)|(with_reducible refine Kd.C_drew ?_)));(case side4=>exact (Kd.R_reads' HO_366002.out).2.1);(case side5=>repeat (first|exact (Kd.R_reads' HO_366003.out).2.2|(with_reducible refine Kd.C_alloc ?_ _)|(with_reducible refine Kd.C_drewN ?_ _)|(with_reducible refine Kd.C_drew ?_)));(case side6=>exact (Kd.R_reads' HO_366003.out).2.1);rintro e w117 ⟨rfl,hb⟩;refine ⟨_,rfl,?_⟩;replace HO_366002:=Aside0.mk (Kd.R_below (by (with_reducible repeat (first|apply zk1|apply zk2|apply zk3));exact HO_366002.out) hb);replace HO_366003:=Aside0.mk (Kd.R_below (by (with_reducible repeat (first|apply zk1|apply zk2|apply zk3));exact HO_366003.out) hb);replace BK355:=Aside0.mk (blk_below (g:=gb355) (o:=.cells #[.bool false,.slice none 0 0,.slice none 0 0,.slice none 0 0] 27 (0,0)) (by (with_reducible repeat (first|apply zb1|apply zb2|apply zb3));exact BK355.out) hb);replace BK365:=Aside0.mk (blk_below (g:=gb365) (o:=.cells #[.bool false,.slice none 0 0,.slice Ao115 x366002_1.length co115,.slice Ao116 x366003_1.length co116] 27 (0,0)) (by (with_reducible repeat (first|apply zb1|apply zb2|apply zb3));exact BK365.out) hb);replace HB:=Aside0.mk (below_step (by repeat (first|(with_reducible first|exact HB.out|apply zl1|apply zl2|apply zl3|refine below_set ?_ (IsS51.ge HI356.out)|refine below_set ?_ GE355.out|refine below_set ?_ GE365.out)|exact HB.out)) hb);replace HI356:=Aside0.mk (IsS51.below (by repeat (first|(with_reducible first|exact HI356.out|apply IsS51.alloc|apply IsS51.drewN|apply IsS51.drew|apply IsS51.set_0|apply IsS51.set_1|apply IsS51.set_2|refine IsS51.far ?_ NB356_355.out _|refine IsS51.far ?_ NB356_365.out _)|exact HI356.out)) hb);(try clear hb);obtain ⟨HGz118,hgz118⟩:=HI356.out;have hcz118_0:=cellS51_0 HGz118;have hcz118_1:=cellS51_1 HGz118;have hcz118_2:=cellS51_2 HGz118;have hfz118_0:=blk_frozen HGz118 0;have hfz118_1:=blk_frozen HGz118 1;have hfz118_2:=blk_frozen HGz118 2;clear HGz118 hgz118;have hnb119:=NB355_356.out;have hnc119:=NB356_355.out;have hcz120_0:w117.cell? ⟨gb355,0,none⟩=some (.bool false):=(blk_cell BK355.out 0).trans rfl;have hcz120_1:w117.cell? ⟨gb355,1,none⟩=some (.slice none 0 0):=(blk_cell BK355.out 1).trans rfl;have hcz120_2:w117.cell? ⟨gb355,2,none⟩=some (.slice none 0 0):=(blk_cell BK355.out 2).trans rfl;have hcz120_3:w117.cell? ⟨gb355,3,none⟩=some (.slice none 0 0):=(blk_cell BK355.out 3).trans rfl;have hfz120_0:=blk_frozen BK355.out 0;have hfz120_1:=blk_frozen BK355.out 1;have hfz120_2:=blk_frozen BK355.out 2;have hfz120_3:=blk_frozen BK355.out 3))
           refine bodyPost_ret (results_ct rfl _ _ gb355 27 #[.bool false,.slice none 0 0,.slice none 0 0,.slice none 0 0] (0,0) _ rfl (by (with_reducible repeat (first|apply zb1|apply zb2|apply zb3));refine blk_put (cs:=#[.bool false,.slice none 0 0,.slice none 0 0,.slice none 0 0]) ?_ 3 _ rfl;(with_reducible repeat (first|apply zb1|apply zb2|apply zb3));refine blk_put (cs:=#[.bool false,.slice none 0 0,.slice none 0 0,.slice none 0 0]) ?_ 2 _ rfl;(with_reducible repeat (first|apply zb1|apply zb2|apply zb3));refine blk_put (cs:=#[.bool false,.slice none 0 0,.slice none 0 0,.slice none 0 0]) ?_ 1 _ rfl;(with_reducible repeat (first|apply zb1|apply zb2|apply zb3));refine blk_put (cs:=#[.bool false,.slice none 0 0,.slice none 0 0,.slice none 0 0]) ?_ 0 _ rfl;(with_reducible repeat (first|apply zb1|apply zb2|apply zb3));exact BK355.out) Tryd.underlying27 rfl (by kernel_rfl)) rfl ?_
           exact ⟨_,_,_,by first|(with_reducible rfl)|(simp only [isEmpty_bne,Bool.not_not] <;> rfl)|rfl|(simp [*,errW_none,errW_some] <;> rfl),by first|exact Kd.R_nil _ _ _ _ _|exact Kd.N_nil _ _ _ _ _|exact Kd.V_nil _ _ _ _ _|exact Kd.Q_nil _ _ _ _ _|exact Kd.S_nil _ _ _ _ _,by first|exact Kd.R_nil _ _ _ _ _|exact Kd.N_nil _ _ _ _ _|exact Kd.V_nil _ _ _ _ _|exact Kd.Q_nil _ _ _ _ _|exact Kd.S_nil _ _ _ _ _,by first|exact Kd.R_nil _ _ _ _ _|exact Kd.N_nil _ _ _ _ _|exact Kd.V_nil _ _ _ _ _|exact Kd.Q_nil _ _ _ _ _|exact Kd.S_nil _ _ _ _ _,by repeat (first|(with_reducible first|exact HB.out|apply zl1|apply zl2|apply zl3|refine below_set ?_ (IsS51.ge HI356.out)|refine below_set ?_ GE355.out|refine below_set ?_ GE365.out)|exact HB.out)⟩
         ·rw [if_neg c100] at H
          have c100b0:(t401 == 0)=false:=beq_eq_false_iff_ne.mpr c100
          have c100b1:(t401 != 0)=true:=bne_iff_ne.mpr c100
          simp only [Option.some.injEq,Prod.mk.injEq] at H
          obtain ⟨rfl,rfl,rfl,rfl,rfl⟩:=H
          have hnb121:=NB365_355.out
          have hnc121:=NB355_365.out
          have hnb122:=NB365_356.out
          have hnc122:=NB356_365.out
          have hcz123_0:wc.cell? ⟨gb365,0,none⟩=some (.bool false):=(blk_cell BK365.out 0).trans rfl
          have hcz123_1:wc.cell? ⟨gb365,1,none⟩=some (.slice none 0 0):=(blk_cell BK365.out 1).trans rfl
          have hcz123_2:wc.cell? ⟨gb365,2,none⟩=some (u366002):=(blk_cell BK365.out 2).trans rfl
          have hcz123_3:wc.cell? ⟨gb365,3,none⟩=some (u366003):=(blk_cell BK365.out 3).trans rfl
          have hfz123_0:=blk_frozen BK365.out 0
          have hfz123_1:=blk_frozen BK365.out 1
          have hfz123_2:=blk_frozen BK365.out 2
          have hfz123_3:=blk_frozen BK365.out 3
          obtain ⟨Ao124,co124,eo124⟩:=Kd.R_slice HO_366002.out
          subst eo124
          obtain ⟨Ao125,co125,eo125⟩:=Kd.R_slice HO_366003.out
          subst eo125
          go_wp2_with (first|((with_reducible refine gate_callee (f:=22) rfl ?_);refine goesL_ (some 90) rfl rfl Tryd.func22 (by kernel_rfl) rfl #[.agg #[.bool false,.slice none 0 0,.slice Ao124 x366002_1.length co124,.slice Ao125 x366003_1.length co125]] rfl (by (try simp only [List.map_toArray,List.map_cons,List.map_nil]);first|done|rfl|(simp only [List.length_drop,List.length_take];rfl)|(simp (disch:=omega) only [u64_in];rfl)) ?_;(refine (factotumref09_Write.calls kj78 false _ _ ([]:List (S44)) _ _ x366002_1 _ _ x366003_1 t400 t401 _ ?side1 ?side2 ?side3 ?side4 ?side5 ?side6 A98.out).mono ?_);(case side1=>exact Kd.C_nil _ _);(case side2=>exact Nat.le_refl _);(case side3=>repeat (first|exact (Kd.R_reads' HO_366002.out).2.2|(with_reducible refine Kd.C_alloc ?_ _)|(with_reducible refine Kd.C_drewN ?_ _)|(with_reducible refine Kd.C_drew ?_)));(case side4=>exact (Kd.R_reads' HO_366002.out).2.1);(case side5=>repeat (first|exact (Kd.R_reads' HO_366003.out).2.2|(with_reducible refine Kd.C_alloc ?_ _)|(with_reducible refine Kd.C_drewN ?_ _)|(with_reducible refine Kd.C_drew ?_)));(case side6=>exact (Kd.R_reads' HO_366003.out).2.1);rintro e w126 ⟨rfl,hb⟩;refine ⟨_,rfl,?_⟩;replace HO_366002:=Aside0.mk (Kd.R_below (by (with_reducible repeat (first|apply zk1|apply zk2|apply zk3));exact HO_366002.out) hb);replace HO_366003:=Aside0.mk (Kd.R_below (by (with_reducible repeat (first|apply zk1|apply zk2|apply zk3));exact HO_366003.out) hb);replace BK355:=Aside0.mk (blk_below (g:=gb355) (o:=.cells #[.bool false,.slice none 0 0,.slice none 0 0,.slice none 0 0] 27 (0,0)) (by (with_reducible repeat (first|apply zb1|apply zb2|apply zb3));exact BK355.out) hb);replace BK365:=Aside0.mk (blk_below (g:=gb365) (o:=.cells #[.bool false,.slice none 0 0,.slice Ao124 x366002_1.length co124,.slice Ao125 x366003_1.length co125] 27 (0,0)) (by (with_reducible repeat (first|apply zb1|apply zb2|apply zb3));exact BK365.out) hb);replace HB:=Aside0.mk (below_step (by repeat (first|(with_reducible first|exact HB.out|apply zl1|apply zl2|apply zl3|refine below_set ?_ (IsS51.ge HI356.out)|refine below_set ?_ GE355.out|refine below_set ?_ GE365.out)|exact HB.out)) hb);replace HI356:=Aside0.mk (IsS51.below (by repeat (first|(with_reducible first|exact HI356.out|apply IsS51.alloc|apply IsS51.drewN|apply IsS51.drew|apply IsS51.set_0|apply IsS51.set_1|apply IsS51.set_2|refine IsS51.far ?_ NB356_355.out _|refine IsS51.far ?_ NB356_365.out _)|exact HI356.out)) hb);(try clear hb);obtain ⟨HGz127,hgz127⟩:=HI356.out;have hcz127_0:=cellS51_0 HGz127;have hcz127_1:=cellS51_1 HGz127;have hcz127_2:=cellS51_2 HGz127;have hfz127_0:=blk_frozen HGz127 0;have hfz127_1:=blk_frozen HGz127 1;have hfz127_2:=blk_frozen HGz127 2;clear HGz127 hgz127;have hnb128:=NB355_356.out;have hnc128:=NB356_355.out;have hcz129_0:w126.cell? ⟨gb355,0,none⟩=some (.bool false):=(blk_cell BK355.out 0).trans rfl;have hcz129_1:w126.cell? ⟨gb355,1,none⟩=some (.slice none 0 0):=(blk_cell BK355.out 1).trans rfl;have hcz129_2:w126.cell? ⟨gb355,2,none⟩=some (.slice none 0 0):=(blk_cell BK355.out 2).trans rfl;have hcz129_3:w126.cell? ⟨gb355,3,none⟩=some (.slice none 0 0):=(blk_cell BK355.out 3).trans rfl;have hfz129_0:=blk_frozen BK355.out 0;have hfz129_1:=blk_frozen BK355.out 1;have hfz129_2:=blk_frozen BK355.out 2;have hfz129_3:=blk_frozen BK355.out 3))
          refine bodyPost_ret (results_ct rfl _ _ gb355 27 #[.bool false,.slice none 0 0,.slice none 0 0,.slice none 0 0] (0,0) _ rfl (by (with_reducible repeat (first|apply zb1|apply zb2|apply zb3));refine blk_put (cs:=#[.bool false,.slice none 0 0,.slice none 0 0,.slice none 0 0]) ?_ 3 _ rfl;(with_reducible repeat (first|apply zb1|apply zb2|apply zb3));refine blk_put (cs:=#[.bool false,.slice none 0 0,.slice none 0 0,.slice none 0 0]) ?_ 2 _ rfl;(with_reducible repeat (first|apply zb1|apply zb2|apply zb3));refine blk_put (cs:=#[.bool false,.slice none 0 0,.slice none 0 0,.slice none 0 0]) ?_ 1 _ rfl;(with_reducible repeat (first|apply zb1|apply zb2|apply zb3));refine blk_put (cs:=#[.bool false,.slice none 0 0,.slice none 0 0,.slice none 0 0]) ?_ 0 _ rfl;(with_reducible repeat (first|apply zb1|apply zb2|apply zb3));exact BK355.out) Tryd.underlying27 rfl (by kernel_rfl)) rfl ?_
          exact ⟨_,_,_,by first|(with_reducible rfl)|(simp only [isEmpty_bne,Bool.not_not] <;> rfl)|rfl|(simp [*,errW_none,errW_some] <;> rfl),by first|exact Kd.R_nil _ _ _ _ _|exact Kd.N_nil _ _ _ _ _|exact Kd.V_nil _ _ _ _ _|exact Kd.Q_nil _ _ _ _ _|exact Kd.S_nil _ _ _ _ _,by first|exact Kd.R_nil _ _ _ _ _|exact Kd.N_nil _ _ _ _ _|exact Kd.V_nil _ _ _ _ _|exact Kd.Q_nil _ _ _ _ _|exact Kd.S_nil _ _ _ _ _,by first|exact Kd.R_nil _ _ _ _ _|exact Kd.N_nil _ _ _ _ _|exact Kd.V_nil _ _ _ _ _|exact Kd.Q_nil _ _ _ _ _|exact Kd.S_nil _ _ _ _ _,by repeat (first|(with_reducible first|exact HB.out|apply zl1|apply zl2|apply zl3|refine below_set ?_ (IsS51.ge HI356.out)|refine below_set ?_ GE355.out|refine below_set ?_ GE365.out)|exact HB.out)⟩
        ·rw [if_neg c99] at H
         have c99b0:(x357002_1 == 0)=false:=beq_eq_false_iff_ne.mpr c99
         have c99b1:(x357002_1 != 0)=true:=bne_iff_ne.mpr c99
         simp only [Option.some.injEq,Prod.mk.injEq] at H
         obtain ⟨rfl,rfl,rfl,rfl,rfl⟩:=H
         have hnb130:=NB365_355.out
         have hnc130:=NB355_365.out
         have hnb131:=NB365_356.out
         have hnc131:=NB356_365.out
         have hcz132_0:wc.cell? ⟨gb365,0,none⟩=some (.bool false):=(blk_cell BK365.out 0).trans rfl
         have hcz132_1:wc.cell? ⟨gb365,1,none⟩=some (.slice none 0 0):=(blk_cell BK365.out 1).trans rfl
         have hcz132_2:wc.cell? ⟨gb365,2,none⟩=some (u366002):=(blk_cell BK365.out 2).trans rfl
         have hcz132_3:wc.cell? ⟨gb365,3,none⟩=some (u366003):=(blk_cell BK365.out 3).trans rfl
         have hfz132_0:=blk_frozen BK365.out 0
         have hfz132_1:=blk_frozen BK365.out 1
         have hfz132_2:=blk_frozen BK365.out 2
         have hfz132_3:=blk_frozen BK365.out 3
         obtain ⟨Ao133,co133,eo133⟩:=Kd.R_slice HO_366002.out
         subst eo133
         obtain ⟨Ao134,co134,eo134⟩:=Kd.R_slice HO_366003.out
         subst eo134
         go_wp2_with (first|((with_reducible refine gate_callee (f:=22) rfl ?_);refine goesL_ (some 90) rfl rfl Tryd.func22 (by kernel_rfl) rfl #[.agg #[.bool false,.slice none 0 0,.slice Ao133 x366002_1.length co133,.slice Ao134 x366003_1.length co134]] rfl (by (try simp only [List.map_toArray,List.map_cons,List.map_nil]);first|done|rfl|(simp only [List.length_drop,List.length_take];rfl)|(simp (disch:=omega) only [u64_in];rfl)) ?_;(refine (factotumref09_Write.calls kj78 false _ _ ([]:List (S44)) _ _ x366002_1 _ _ x366003_1 t400 t401 _ ?side1 ?side2 ?side3 ?side4 ?side5 ?side6 A98.out).mono ?_);(case side1=>exact Kd.C_nil _ _);(case side2=>exact Nat.le_refl _);(case side3=>repeat (first|exact (Kd.R_reads' HO_366002.out).2.2|(with_reducible refine Kd.C_alloc ?_ _)|(with_reducible refine Kd.C_drewN ?_ _)|(with_reducible refine Kd.C_drew ?_)));(case side4=>exact (Kd.R_reads' HO_366002.out).2.1);(case side5=>repeat (first|exact (Kd.R_reads' HO_366003.out).2.2|(with_reducible refine Kd.C_alloc ?_ _)|(with_reducible refine Kd.C_drewN ?_ _)|(with_reducible refine Kd.C_drew ?_)));(case side6=>exact (Kd.R_reads' HO_366003.out).2.1);rintro e w135 ⟨rfl,hb⟩;refine ⟨_,rfl,?_⟩;replace HO_366002:=Aside0.mk (Kd.R_below (by (with_reducible repeat (first|apply zk1|apply zk2|apply zk3));exact HO_366002.out) hb);replace HO_366003:=Aside0.mk (Kd.R_below (by (with_reducible repeat (first|apply zk1|apply zk2|apply zk3));exact HO_366003.out) hb);replace BK355:=Aside0.mk (blk_below (g:=gb355) (o:=.cells #[.bool false,.slice none 0 0,.slice none 0 0,.slice none 0 0] 27 (0,0)) (by (with_reducible repeat (first|apply zb1|apply zb2|apply zb3));exact BK355.out) hb);replace BK365:=Aside0.mk (blk_below (g:=gb365) (o:=.cells #[.bool false,.slice none 0 0,.slice Ao133 x366002_1.length co133,.slice Ao134 x366003_1.length co134] 27 (0,0)) (by (with_reducible repeat (first|apply zb1|apply zb2|apply zb3));exact BK365.out) hb);replace HB:=Aside0.mk (below_step (by repeat (first|(with_reducible first|exact HB.out|apply zl1|apply zl2|apply zl3|refine below_set ?_ (IsS51.ge HI356.out)|refine below_set ?_ GE355.out|refine below_set ?_ GE365.out)|exact HB.out)) hb);replace HI356:=Aside0.mk (IsS51.below (by repeat (first|(with_reducible first|exact HI356.out|apply IsS51.alloc|apply IsS51.drewN|apply IsS51.drew|apply IsS51.set_0|apply IsS51.set_1|apply IsS51.set_2|refine IsS51.far ?_ NB356_355.out _|refine IsS51.far ?_ NB356_365.out _)|exact HI356.out)) hb);(try clear hb);obtain ⟨HGz136,hgz136⟩:=HI356.out;have hcz136_0:=cellS51_0 HGz136;have hcz136_1:=cellS51_1 HGz136;have hcz136_2:=cellS51_2 HGz136;have hfz136_0:=blk_frozen HGz136 0;have hfz136_1:=blk_frozen HGz136 1;have hfz136_2:=blk_frozen HGz136 2;clear HGz136 hgz136;have hnb137:=NB355_356.out;have hnc137:=NB356_355.out;have hcz138_0:w135.cell? ⟨gb355,0,none⟩=some (.bool false):=(blk_cell BK355.out 0).trans rfl;have hcz138_1:w135.cell? ⟨gb355,1,none⟩=some (.slice none 0 0):=(blk_cell BK355.out 1).trans rfl;have hcz138_2:w135.cell? ⟨gb355,2,none⟩=some (.slice none 0 0):=(blk_cell BK355.out 2).trans rfl;have hcz138_3:w135.cell? ⟨gb355,3,none⟩=some (.slice none 0 0):=(blk_cell BK355.out 3).trans rfl;have hfz138_0:=blk_frozen BK355.out 0;have hfz138_1:=blk_frozen BK355.out 1;have hfz138_2:=blk_frozen BK355.out 2;have hfz138_3:=blk_frozen BK355.out 3))
         refine bodyPost_ret (results_ct rfl _ _ gb355 27 #[.bool false,.slice none 0 0,.slice none 0 0,.slice none 0 0] (0,0) _ rfl (by (with_reducible repeat (first|apply zb1|apply zb2|apply zb3));refine blk_put (cs:=#[.bool false,.slice none 0 0,.slice none 0 0,.slice none 0 0]) ?_ 3 _ rfl;(with_reducible repeat (first|apply zb1|apply zb2|apply zb3));refine blk_put (cs:=#[.bool false,.slice none 0 0,.slice none 0 0,.slice none 0 0]) ?_ 2 _ rfl;(with_reducible repeat (first|apply zb1|apply zb2|apply zb3));refine blk_put (cs:=#[.bool false,.slice none 0 0,.slice none 0 0,.slice none 0 0]) ?_ 1 _ rfl;(with_reducible repeat (first|apply zb1|apply zb2|apply zb3));refine blk_put (cs:=#[.bool false,.slice none 0 0,.slice none 0 0,.slice none 0 0]) ?_ 0 _ rfl;(with_reducible repeat (first|apply zb1|apply zb2|apply zb3));exact BK355.out) Tryd.underlying27 rfl (by kernel_rfl)) rfl ?_
         exact ⟨_,_,_,by first|(with_reducible rfl)|(simp only [isEmpty_bne,Bool.not_not] <;> rfl)|rfl|(simp [*,errW_none,errW_some] <;> rfl),by first|exact Kd.R_nil _ _ _ _ _|exact Kd.N_nil _ _ _ _ _|exact Kd.V_nil _ _ _ _ _|exact Kd.Q_nil _ _ _ _ _|exact Kd.S_nil _ _ _ _ _,by first|exact Kd.R_nil _ _ _ _ _|exact Kd.N_nil _ _ _ _ _|exact Kd.V_nil _ _ _ _ _|exact Kd.Q_nil _ _ _ _ _|exact Kd.S_nil _ _ _ _ _,by first|exact Kd.R_nil _ _ _ _ _|exact Kd.N_nil _ _ _ _ _|exact Kd.V_nil _ _ _ _ _|exact Kd.Q_nil _ _ _ _ _|exact Kd.S_nil _ _ _ _ _,by repeat (first|(with_reducible first|exact HB.out|apply zl1|apply zl2|apply zl3|refine below_set ?_ (IsS51.ge HI356.out)|refine below_set ?_ GE355.out|refine below_set ?_ GE365.out)|exact HB.out)⟩
  ·rw [if_neg c66] at H
   exact absurd H (by simp)

end Go.Proofs.YtokjbncjapndgaaDoor.PAll
