/- Printed walks of the functions that the laws reach: each function, what it computes, and that it does. No conditions. -/
import Derived.Test.YtokjbncjapndgaaDoorPAllx0
import Derived.Test.YtokjbncjapndgaaDoorPAllx8
import Derived.Test.YtokjbncjapndgaaDoorPAllx12
import Derived.Test.YtokjbncjapndgaaDoorPAllx13
import Derived.Test.YtokjbncjapndgaaDoorPAllx14
namespace Go.Proofs.YtokjbncjapndgaaDoor.PAll
open Go.RowKit Go.Proofs.YtokjbncjapndgaaDoor.XW Go.Proofs.YtokjbncjapndgaaDoor.XLib Go.Proofs.YtokjbncjapndgaaDoorW.PrintWords Go.Proofs.YtokjbncjapndgaaDoorW.PrintLast Go.Proofs.YtokjbncjapndgaaDoorW.PrintMore
attribute [local go_sem] max2_int min2_int max_two min_two max_three min_three max_four min_four   -- for this text's walks alone
set_option linter.unusedVariables false
set_option linter.unusedSimpArgs false

/-! ### node_Read: function 6 -/
mutual
def node_Read.j0:Nat→ByteArray→Int→Int→ByteArray→Int→Bool→List Int→Option (Bool × (List (S44)) × List ByteArray × List Int × Int)
 | 0,_,_,_,_,_,_,_=>none
 | k + 1,x0,x5,x6,x242000,x242001,x249000,x249003=>node_Read.l0 k x0 x5 x6 0 x242000 x242001 x249000 ([]:List (S44)) ([]:List ByteArray) x249003
def node_Read.l0:Nat→ByteArray→Int→Int→Int→ByteArray→Int→Bool→List (S44)→List ByteArray→List Int→Option (Bool × (List (S44)) × List ByteArray × List Int × Int)
 | 0,_,_,_,_,_,_,_,_,_,_=>none
 | k + 1,x0,x5,x29,x30,x242000,x242001,x249000,x249001,x249002,x249003=>if x30 < x29 then ((pack_Reader_Str.f x242000 x242001 32).bind fun bt255=>(if x249000=true then ((pack_Reader_Str.f bt255.2.1 bt255.2.2 40).bind fun bt258=>(if x249001.length < 4398046511104 then (node_Read.l0 k x0 x5 x29 (IntKind.u64.wrap (x30 + 1)) bt258.2.1 bt258.2.2 x249000 (x249001 ++ [(⟨bt255.1,bt258.1⟩:S44)]) x249002 x249003) else (none))) else (if x249002.length < 8796093022208 then ((pack_Reader_Num.f bt255.2.1 bt255.2.2 2).bind fun bt267=>(if x249003.length < 17592186044416 then (node_Read.l0 k x0 x5 x29 (IntKind.u64.wrap (x30 + 1)) bt267.2.1 bt267.2.2 x249000 x249001 (x249002 ++ [bt255.1]) (x249003 ++ [wrap64 (bt267.1)])) else (none))) else (none)))) else ((pack_Reader_Left.f x242000 x242001).bind fun bt273=>((pack_Reader_Raw.f bt273.2.1 bt273.2.2 bt273.1).bind fun bt276=>(if x5=1 then ((pack_Reader_Err.f bt276.2.1 bt276.2.2).bind fun bt279=>(if bt279.1=0 then (if (x0.size:Int)=256 then ((node_right.f k x249000 x249001 x249002 x249003).bind fun t282=>(if t282=true then ((strings_Trim.f bt276.1 (⟨#[0]⟩:ByteArray)).bind fun t283=>(node_Read.j2 k (t283.toList != ([]:List UInt8)) x249000 x249001 x249002 x249003)) else (node_Read.j2 k true x249000 x249001 x249002 x249003))) else (node_Read.j2 k true x249000 x249001 x249002 x249003)) else (node_Read.j2 k true x249000 x249001 x249002 x249003))) else (if x5=2 then ((pack_Reader_Err.f bt276.2.1 bt276.2.2).bind fun bt284=>(if bt284.1=0 then (if (x0.size:Int)=256 then ((node_right.f k x249000 x249001 x249002 x249003).bind fun t287=>(if t287=true then ((strings_Trim.f bt276.1 (⟨#[0]⟩:ByteArray)).bind fun t288=>(node_Read.j2 k (t288.toList != ([]:List UInt8)) x249000 x249001 x249002 x249003)) else (node_Read.j2 k true x249000 x249001 x249002 x249003))) else (node_Read.j2 k true x249000 x249001 x249002 x249003)) else (node_Read.j2 k true x249000 x249001 x249002 x249003))) else (node_Read.j2 k true x249000 x249001 x249002 x249003)))))
def node_Read.j2:Nat→Bool→Bool→List (S44)→List ByteArray→List Int→Option (Bool × (List (S44)) × List ByteArray × List Int × Int)
 | 0,_,_,_,_,_=>none
 | k + 1,x89,x249000,x249001,x249002,x249003=>if x89=true then (some (false,([]:List (S44)),([]:List ByteArray),([]:List Int),10)) else (some (x249000,x249001,x249002,x249003,0))
end
def node_Read.f (k:Nat) (a0:ByteArray):Option (Bool × (List (S44)) × List ByteArray × List Int × Int):=(pack_From.f a0).bind fun bt239=>((pack_Reader_Num.f bt239.1 bt239.2 1).bind fun bt242=>((pack_Reader_Num.f bt242.2.1 bt242.2.2 1).bind fun bt245=>(if bt242.1=2 then ((pack_Reader_Num.f bt245.2.1 bt245.2.2 2).bind fun bt249=>(if ([]:List Int).length < 17592186044416 then (node_Read.j0 k a0 bt242.1 bt245.1 bt249.2.1 bt249.2.2 (bt242.1 == 1) (([]:List Int) ++ [wrap64 (bt249.1)])) else (none))) else (node_Read.j0 k a0 bt242.1 bt245.1 bt245.2.1 bt245.2.2 (bt242.1 == 1) ([]:List Int)))))
theorem node_Read.mono_l:∀ k,(∀ y0 y1 y2 y3 y4 y5 y6,LeO (node_Read.j0 k y0 y1 y2 y3 y4 y5 y6) (node_Read.j0 (k + 1) y0 y1 y2 y3 y4 y5 y6))∧(∀ y0 y1 y2 y3 y4 y5 y6 y7 y8 y9,LeO (node_Read.l0 k y0 y1 y2 y3 y4 y5 y6 y7 y8 y9) (node_Read.l0 (k + 1) y0 y1 y2 y3 y4 y5 y6 y7 y8 y9))∧(∀ y0 y1 y2 y3 y4,LeO (node_Read.j2 k y0 y1 y2 y3 y4) (node_Read.j2 (k + 1) y0 y1 y2 y3 y4))
 | 0=>⟨fun _ _ _ _ _ _ _ r h=>by simp [node_Read.j0] at h,fun _ _ _ _ _ _ _ _ _ _ r h=>by simp [node_Read.l0] at h,fun _ _ _ _ _ r h=>by simp [node_Read.j2] at h⟩
 | k + 1=>by
  obtain ⟨ih0,ih1,ih2⟩:=node_Read.mono_l k
  refine ⟨?_,?_,?_⟩
  ·intro y0 y1 y2 y3 y4 y5 y6
   unfold node_Read.j0
   repeat' first
   | (with_reducible exact ih0 _ _ _ _ _ _ _)
   | (with_reducible exact ih1 _ _ _ _ _ _ _ _ _ _)
   | (with_reducible exact ih2 _ _ _ _ _)
   | (with_reducible exact node_right.mono _ _ _ _ _)
   | (with_reducible exact LeO.refl _)
   | (with_reducible exact LeO.none _)
   | (with_reducible refine LeO.ite ?_ ?_)
   | (with_reducible refine LeO.bind ?_ (fun _=>?_))
   | exact ih0 _ _ _ _ _ _ _
   | exact ih1 _ _ _ _ _ _ _ _ _ _
   | exact ih2 _ _ _ _ _
   | exact node_right.mono _ _ _ _ _
   | exact LeO.none _
   | refine LeO.ite ?_ ?_
   | refine LeO.bind ?_ (fun _=>?_)
  ·intro y0 y1 y2 y3 y4 y5 y6 y7 y8 y9
   unfold node_Read.l0
   repeat' first
   | (with_reducible exact ih0 _ _ _ _ _ _ _)
   | (with_reducible exact ih1 _ _ _ _ _ _ _ _ _ _)
   | (with_reducible exact ih2 _ _ _ _ _)
   | (with_reducible exact node_right.mono _ _ _ _ _)
   | (with_reducible exact LeO.refl _)
   | (with_reducible exact LeO.none _)
   | (with_reducible refine LeO.ite ?_ ?_)
   | (with_reducible refine LeO.bind ?_ (fun _=>?_))
   | exact ih0 _ _ _ _ _ _ _
   | exact ih1 _ _ _ _ _ _ _ _ _ _
   | exact ih2 _ _ _ _ _
   | exact node_right.mono _ _ _ _ _
   | exact LeO.none _
   | refine LeO.ite ?_ ?_
   | refine LeO.bind ?_ (fun _=>?_)
  ·intro y0 y1 y2 y3 y4
   unfold node_Read.j2
   repeat' first
   | (with_reducible exact ih0 _ _ _ _ _ _ _)
   | (with_reducible exact ih1 _ _ _ _ _ _ _ _ _ _)
   | (with_reducible exact ih2 _ _ _ _ _)
   | (with_reducible exact node_right.mono _ _ _ _ _)
   | (with_reducible exact LeO.refl _)
   | (with_reducible exact LeO.none _)
   | (with_reducible refine LeO.ite ?_ ?_)
   | (with_reducible refine LeO.bind ?_ (fun _=>?_))
   | exact ih0 _ _ _ _ _ _ _
   | exact ih1 _ _ _ _ _ _ _ _ _ _
   | exact ih2 _ _ _ _ _
   | exact node_right.mono _ _ _ _ _
   | exact LeO.none _
   | refine LeO.ite ?_ ?_
   | refine LeO.bind ?_ (fun _=>?_)
theorem node_Read.mono:∀ a0 k,LeO (node_Read.f k a0) (node_Read.f (k + 1) a0):=by
 intro a0 k
 obtain ⟨ih0,ih1,ih2⟩:=node_Read.mono_l k
 unfold node_Read.f
 repeat' first
   | (with_reducible exact ih0 _ _ _ _ _ _ _)
   | (with_reducible exact ih1 _ _ _ _ _ _ _ _ _ _)
   | (with_reducible exact ih2 _ _ _ _ _)
   | (with_reducible exact node_right.mono _ _ _ _ _)
   | (with_reducible exact LeO.refl _)
   | (with_reducible exact LeO.none _)
   | (with_reducible refine LeO.ite ?_ ?_)
   | (with_reducible refine LeO.bind ?_ (fun _=>?_))
   | exact ih0 _ _ _ _ _ _ _
   | exact ih1 _ _ _ _ _ _ _ _ _ _
   | exact ih2 _ _ _ _ _
   | exact node_right.mono _ _ _ _ _
   | exact LeO.none _
   | refine LeO.ite ?_ ?_
   | refine LeO.bind ?_ (fun _=>?_)
def node_Read.T5:Bool × List (List Nat × List Nat):=(true,[([],[]),([0],[0]),([],[]),([2],[2]),([3],[3]),([4],[4]),([1,5,3],[1,5]),([0,1,2,3,4,5,6],[]),([7,6,6,0,1,2,3,4,5,6],[6,7])])
def node_Read.B5:List Nat:=[0,1,0,4,12,28,63,127,255]
theorem node_Read.tab5:rtab .any (opsOf Tryd.f6 5)=node_Read.T5:=by kernel_rfl
theorem node_Read.bits5:waitsOk node_Read.T5.2 node_Read.B5=true:=by kernel_rfl
def node_Read.T10:Bool × List (List Nat × List Nat):=(true,[([],[]),([0],[0]),([],[]),([],[]),([3],[3]),([2,4],[2,4]),([5],[5]),([1,6,4],[1,6]),([0,1,2,3,4,5,6,7],[]),([8,7,7,0,1,2,3,4,5,6,7],[7,8])])
def node_Read.B10:List Nat:=[0,1,0,0,8,28,60,127,255,511]
theorem node_Read.tab10:rtab .any (opsOf Tryd.f6 10)=node_Read.T10:=by kernel_rfl
theorem node_Read.bits10:waitsOk node_Read.T10.2 node_Read.B10=true:=by kernel_rfl
def node_Read.T12:Bool × List (List Nat × List Nat):=(true,[([],[]),([0],[0]),([],[]),([2],[2]),([3],[3]),([4],[4]),([1,5,3],[1,5]),([0,1,2,3,4,5,6],[]),([7,6,6,0,1,2,3,4,5,6],[6,7])])
def node_Read.B12:List Nat:=[0,1,0,4,12,28,63,127,255]
theorem node_Read.tab12:rtab .any (opsOf Tryd.f6 12)=node_Read.T12:=by kernel_rfl
theorem node_Read.bits12:waitsOk node_Read.T12.2 node_Read.B12=true:=by kernel_rfl
set_option maxHeartbeats 64000000 in
set_option maxRecDepth 100000 in
theorem node_Read.calls (k:Nat) (a0:ByteArray) (r1:Bool) (r2:List (S44)) (r3:List ByteArray) (r4:List Int) (r5:Int) (w:World) (h:node_Read.f k a0=some (r1,r2,r3,r4,r5)) :
  Calls Tryd.prog 6 #[.string a0] w fun e w'=>∃ v1_ v2_ v3_:Value,e=.returned (.tuple #[.agg #[.bool r1,v1_,v2_,v3_],.int .i64 r5])∧Kd.R k44 44 w' w.heap.size (fun _=>True) v1_ r2∧Kd.R Kd.string 9 w' w.heap.size (fun _=>True) v2_ r3∧Kd.R (Kd.int .i64) 3 w' w.heap.size (fun _=>True) v3_ r4∧Below w.heap.size w w':=by
 have hu27:=Tryd.underlying27
 have hu44:=Tryd.underlying44
 have HB:=Aside0.mk (Below.refl w.heap.size w)
 have H:((pack_From.f a0).bind fun bt239=>((pack_Reader_Num.f bt239.1 bt239.2 1).bind fun bt242=>((pack_Reader_Num.f bt242.2.1 bt242.2.2 1).bind fun bt245=>(if bt242.1=2 then ((pack_Reader_Num.f bt245.2.1 bt245.2.2 2).bind fun bt249=>(if ([]:List Int).length < 17592186044416 then (node_Read.j0 k a0 bt242.1 bt245.1 bt249.2.1 bt249.2.2 (bt242.1 == 1) (([]:List Int) ++ [wrap64 (bt249.1)])) else (none))) else (node_Read.j0 k a0 bt242.1 bt245.1 bt245.2.1 bt245.2.2 (bt242.1 == 1) ([]:List Int))))))=some (r1,r2,r3,r4,r5):=h
 clear h
 replace H:=Option.bind_eq_some_iff.mp H
 obtain ⟨⟨t239,t240⟩,A20,H⟩:=H
 replace H:((pack_Reader_Num.f t239 t240 1).bind fun bt242=>((pack_Reader_Num.f bt242.2.1 bt242.2.2 1).bind fun bt245=>(if bt242.1=2 then ((pack_Reader_Num.f bt245.2.1 bt245.2.2 2).bind fun bt249=>(if ([]:List Int).length < 17592186044416 then (node_Read.j0 k a0 bt242.1 bt245.1 bt249.2.1 bt249.2.2 (bt242.1 == 1) (([]:List Int) ++ [wrap64 (bt249.1)])) else (none))) else (node_Read.j0 k a0 bt242.1 bt245.1 bt245.2.1 bt245.2.2 (bt242.1 == 1) ([]:List Int)))))=some (r1,r2,r3,r4,r5):=H
 have A2:=Aside0.mk A20
 clear A20
 replace H:=Option.bind_eq_some_iff.mp H
 obtain ⟨⟨t242,t243,t244⟩,A30,H⟩:=H
 replace H:((pack_Reader_Num.f t243 t244 1).bind fun bt245=>(if t242=2 then ((pack_Reader_Num.f bt245.2.1 bt245.2.2 2).bind fun bt249=>(if ([]:List Int).length < 17592186044416 then (node_Read.j0 k a0 t242 bt245.1 bt249.2.1 bt249.2.2 (t242 == 1) (([]:List Int) ++ [wrap64 (bt249.1)])) else (none))) else (node_Read.j0 k a0 t242 bt245.1 bt245.2.1 bt245.2.2 (t242 == 1) ([]:List Int))))=some (r1,r2,r3,r4,r5):=H
 have A3:=Aside0.mk A30
 clear A30
 replace H:=Option.bind_eq_some_iff.mp H
 obtain ⟨⟨t245,t246,t247⟩,A40,H⟩:=H
 replace H:(if t242=2 then ((pack_Reader_Num.f t246 t247 2).bind fun bt249=>(if ([]:List Int).length < 17592186044416 then (node_Read.j0 k a0 t242 t245 bt249.2.1 bt249.2.2 (t242 == 1) (([]:List Int) ++ [wrap64 (bt249.1)])) else (none))) else (node_Read.j0 k a0 t242 t245 t246 t247 (t242 == 1) ([]:List Int)))=some (r1,r2,r3,r4,r5):=H
 have A4:=Aside0.mk A40
 clear A40
 have HC5:=Aside0.mk H
 clear H
 go_enter Tryd.func6,Tryd.ntmps6
 go_upto_if 20 with (first|((with_reducible refine gate_dst (N:=2) rfl ?_);(try (refine gate_guard (by rfl) ?_;dsimp only));refine box_event ?hg (N:=2) ?hd (cs:=#[.bool false,.slice none 0 0,.slice none 0 0,.slice none 0 0]) (t:=27) ?hr ?_;(case hd=>rfl);(case hg=>rfl);(case hr=>first|(go_simp;done)|(go_simp;rfl));intro gb238 hg w6 hbox hb;have BK238:=Aside0.mk (hbox);have GW238:=Aside0.mk ((by rw [hg];exact (below_size (by repeat (first|(with_reducible first|exact HB.out|apply zl1|apply zl2|apply zl3)|exact HB.out))):w.heap.size≤gb238));have GE238:=Aside0.mk ((by rw [hg];exact (below_size (by repeat (first|(with_reducible first|exact HB.out|apply zl1|apply zl2|apply zl3)|exact HB.out))):w.heap.size≤gb238));replace HB:=Aside0.mk (below_step (by repeat (first|(with_reducible first|exact HB.out|apply zl1|apply zl2|apply zl3)|exact HB.out)) hb);clear hb hbox hg)|((with_reducible refine gate_callee (f:=12) rfl ?_);refine goesL_ (some 11) rfl rfl Tryd.func12 (by kernel_rfl) rfl #[.string a0] rfl (by (try simp only [List.map_toArray,List.map_cons,List.map_nil]);first|done|rfl|(simp only [List.length_drop,List.length_take];rfl)|(simp (disch:=omega) only [u64_in];rfl)) ?_;(with_reducible refine (pack_From.calls a0 t239 t240 w _ ?side1 A2.out).mono ?_);(case side1=>repeat (first|(with_reducible first|exact HB.out|apply zl1|apply zl2|apply zl3|refine below_set ?_ GE238.out)|exact HB.out));rintro e w7 ⟨g241,rfl,hi,hb,hb2⟩;refine ⟨_,rfl,?_⟩;replace HB:=Aside0.mk (hb);have HI241:=Aside0.mk (hi);have NB241_238:=Aside0.mk (IsS62.ne_blk hi (blk_below (g:=gb238) (o:=.cells #[.bool false,.slice none 0 0,.slice none 0 0,.slice none 0 0] 27 (0,0)) (by (with_reducible repeat (first|apply zb1|apply zb2|apply zb3));exact BK238.out) hb2) (by decide));have NB238_241:=Aside0.mk (Ne.symm (IsS62.ne_blk hi (blk_below (g:=gb238) (o:=.cells #[.bool false,.slice none 0 0,.slice none 0 0,.slice none 0 0] 27 (0,0)) (by (with_reducible repeat (first|apply zb1|apply zb2|apply zb3));exact BK238.out) hb2) (by decide)));replace BK238:=Aside0.mk (blk_below (g:=gb238) (o:=.cells #[.bool false,.slice none 0 0,.slice none 0 0,.slice none 0 0] 27 (0,0)) (by (with_reducible repeat (first|apply zb1|apply zb2|apply zb3));exact BK238.out) hb2);(try clear hb);(try clear hb2);(try clear hi))|((with_reducible refine gate_callee (f:=13) rfl ?_);refine goesL_ (some 13) rfl rfl Tryd.func13 (by kernel_rfl) rfl #[.pointer (some ⟨g241,0,none⟩),.int .i64 1] rfl (by (try simp only [List.map_toArray,List.map_cons,List.map_nil]);first|done|rfl|(simp only [List.length_drop,List.length_take];rfl)|(simp (disch:=omega) only [u64_in];rfl)) ?_;(with_reducible refine (pack_Reader_Num.calls g241 t239 t240 1 t242 t243 t244 w _ ?side1 ?side2 A3.out).mono ?_);(case side1=>repeat (first|(with_reducible first|exact HI241.out|apply IsS62.alloc|apply IsS62.drewN|apply IsS62.drew|apply IsS62.set_0|apply IsS62.set_1|refine IsS62.far ?_ NB241_238.out _)|exact HI241.out));(case side2=>repeat (first|(with_reducible first|exact HB.out|apply zl1|apply zl2|apply zl3|refine below_set ?_ (IsS62.ge HI241.out)|refine below_set ?_ GE238.out)|exact HB.out));rintro e w8 ⟨rfl,hi,hb,hk⟩;refine ⟨_,rfl,?_⟩;replace BK238:=Aside0.mk (KeepBut.blk hk (g':=gb238) (o:=.cells #[.bool false,.slice none 0 0,.slice none 0 0,.slice none 0 0] 27 (0,0)) (by (with_reducible repeat (first|apply zb1|apply zb2|apply zb3));exact BK238.out) NB238_241.out (by simp));replace HB:=Aside0.mk (hb);replace HI241:=Aside0.mk (hi);(try clear hb);(try clear hk);(try clear hi))|((with_reducible refine gate_callee (f:=13) rfl ?_);refine goesL_ (some 15) rfl rfl Tryd.func13 (by kernel_rfl) rfl #[.pointer (some ⟨g241,0,none⟩),.int .i64 1] rfl (by (try simp only [List.map_toArray,List.map_cons,List.map_nil]);first|done|rfl|(simp only [List.length_drop,List.length_take];rfl)|(simp (disch:=omega) only [u64_in];rfl)) ?_;(with_reducible refine (pack_Reader_Num.calls g241 t243 t244 1 t245 t246 t247 w _ ?side1 ?side2 A4.out).mono ?_);(case side1=>repeat (first|(with_reducible first|exact HI241.out|apply IsS62.alloc|apply IsS62.drewN|apply IsS62.drew|apply IsS62.set_0|apply IsS62.set_1|refine IsS62.far ?_ NB241_238.out _)|exact HI241.out));(case side2=>repeat (first|(with_reducible first|exact HB.out|apply zl1|apply zl2|apply zl3|refine below_set ?_ (IsS62.ge HI241.out)|refine below_set ?_ GE238.out)|exact HB.out));rintro e w9 ⟨rfl,hi,hb,hk⟩;refine ⟨_,rfl,?_⟩;replace BK238:=Aside0.mk (KeepBut.blk hk (g':=gb238) (o:=.cells #[.bool false,.slice none 0 0,.slice none 0 0,.slice none 0 0] 27 (0,0)) (by (with_reducible repeat (first|apply zb1|apply zb2|apply zb3));exact BK238.out) NB238_241.out (by simp));replace HB:=Aside0.mk (hb);replace HI241:=Aside0.mk (hi);(try clear hb);(try clear hk);(try clear hi))|((with_reducible refine gate_dst (N:=7) rfl ?_);(try (refine gate_guard (by rfl) ?_;dsimp only));refine box_event ?hg (N:=7) ?hd (cs:=#[.bool false,.slice none 0 0,.slice none 0 0,.slice none 0 0]) (t:=27) ?hr ?_;(case hd=>rfl);(case hg=>rfl);(case hr=>first|(go_simp;done)|(go_simp;rfl));intro gb248 hg w10 hbox hb;have BK248:=Aside0.mk (hbox);have GW248:=Aside0.mk ((by rw [hg];exact (below_size (by repeat (first|(with_reducible first|exact HB.out|apply zl1|apply zl2|apply zl3|refine below_set ?_ (IsS62.ge HI241.out)|refine below_set ?_ GE238.out)|exact HB.out))):w.heap.size≤gb248));have GE248:=Aside0.mk ((by rw [hg];exact (below_size (by repeat (first|(with_reducible first|exact HB.out|apply zl1|apply zl2|apply zl3|refine below_set ?_ (IsS62.ge HI241.out)|refine below_set ?_ GE238.out)|exact HB.out))):w.heap.size≤gb248));replace HB:=Aside0.mk (below_step (by repeat (first|(with_reducible first|exact HB.out|apply zl1|apply zl2|apply zl3|refine below_set ?_ (IsS62.ge HI241.out)|refine below_set ?_ GE238.out)|exact HB.out)) hb);have NB238_248:=Aside0.mk ((by rw [hg];exact Nat.ne_of_lt (blk_lt (g:=gb238) (o:=.cells #[.bool false,.slice none 0 0,.slice none 0 0,.slice none 0 0] 27 (0,0)) (by (with_reducible repeat (first|apply zb1|apply zb2|apply zb3));exact BK238.out)):gb238 ≠ gb248));have NB248_238:=Aside0.mk ((by rw [hg];exact Nat.ne_of_gt (blk_lt (g:=gb238) (o:=.cells #[.bool false,.slice none 0 0,.slice none 0 0,.slice none 0 0] 27 (0,0)) (by (with_reducible repeat (first|apply zb1|apply zb2|apply zb3));exact BK238.out)):gb248 ≠ gb238));replace BK238:=Aside0.mk (blk_below (g:=gb238) (o:=.cells #[.bool false,.slice none 0 0,.slice none 0 0,.slice none 0 0] 27 (0,0)) (by (with_reducible repeat (first|apply zb1|apply zb2|apply zb3));exact BK238.out) hb);have NB241_248:=Aside0.mk ((by rw [hg];exact Nat.ne_of_lt (IsS62.lt (show IsS62 w _ g241 t246 t247 from by repeat (first|(with_reducible first|exact HI241.out|apply IsS62.alloc|apply IsS62.drewN|apply IsS62.drew|apply IsS62.set_0|apply IsS62.set_1|refine IsS62.far ?_ NB241_238.out _)|exact HI241.out))):g241 ≠ gb248));have NB248_241:=Aside0.mk ((by rw [hg];exact Nat.ne_of_gt (IsS62.lt (show IsS62 w _ g241 t246 t247 from by repeat (first|(with_reducible first|exact HI241.out|apply IsS62.alloc|apply IsS62.drewN|apply IsS62.drew|apply IsS62.set_0|apply IsS62.set_1|refine IsS62.far ?_ NB241_238.out _)|exact HI241.out))):gb248 ≠ g241));replace HI241:=Aside0.mk (IsS62.below (by repeat (first|(with_reducible first|exact HI241.out|apply IsS62.alloc|apply IsS62.drewN|apply IsS62.drew|apply IsS62.set_0|apply IsS62.set_1|refine IsS62.far ?_ NB241_238.out _)|exact HI241.out)) hb);clear hb hbox hg;have hnb11:=NB248_238.out;have hnc11:=NB238_248.out;have hnb12:=NB248_241.out;have hnc12:=NB241_248.out;have hcz13_0:w10.cell? ⟨gb248,0,none⟩=some (.bool false):=(blk_cell BK248.out 0).trans rfl;have hcz13_1:w10.cell? ⟨gb248,1,none⟩=some (.slice none 0 0):=(blk_cell BK248.out 1).trans rfl;have hcz13_2:w10.cell? ⟨gb248,2,none⟩=some (.slice none 0 0):=(blk_cell BK248.out 2).trans rfl;have hcz13_3:w10.cell? ⟨gb248,3,none⟩=some (.slice none 0 0):=(blk_cell BK248.out 3).trans rfl;have hfz13_0:=blk_frozen BK248.out 0;have hfz13_1:=blk_frozen BK248.out 1;have hfz13_2:=blk_frozen BK248.out 2;have hfz13_3:=blk_frozen BK248.out 3))
 (try simp only [Act.put,List.setIfInBounds_toArray,List.set_cons_zero,List.set_cons_succ])
 go_cut [] (fun wc=>∃ (kq:Nat) (x242000_4:ByteArray) (x242001_4:Int) (x249003_4:List Int) (u249003:Value),Aside0 (node_Read.j0 kq a0 t242 t245 x242000_4 x242001_4 (t242 == 1) x249003_4=some (r1,r2,r3,r4,r5))∧Aside0 (kq≤k)∧Aside0 (Kd.R (Kd.int .i64) 3 wc w.heap.size (fun _=>True) u249003 x249003_4)∧Aside0 (wc.heap[gb238]?=some (.cells #[.bool false,(.slice none 0 0),(.slice none 0 0),(.slice none 0 0)] 27 (0,0)))∧Aside0 (wc.heap[gb248]?=some (.cells #[.bool (t242 == 1),(.slice none 0 0),(.slice none 0 0),u249003] 27 (0,0)))∧Aside0 (IsS62 w wc g241 x242000_4 x242001_4)∧Aside0 (Below w.heap.size w wc))
 case first =>
  have H:=HC5.out
  clear HC5
  by_cases c14:t242=2
  ·rw [if_pos c14] at H
   have c14b0:(t242 == 2)=true:=beq_iff_eq.mpr c14
   have c14b1:(t242 != 2)=false:=bne_eq_false_iff_eq.mpr c14
   clear c14
   (first|rw [c14b0]|(simp only [i64_w,i32_w];rw [c14b0])|skip)
   replace H:=Option.bind_eq_some_iff.mp H
   obtain ⟨⟨t249,t250,t251⟩,A150,H⟩:=H
   replace H:(if ([]:List Int).length < 17592186044416 then (node_Read.j0 k a0 t242 t245 t250 t251 (t242 == 1) (([]:List Int) ++ [wrap64 (t249)])) else (none))=some (r1,r2,r3,r4,r5):=H
   have A15:=Aside0.mk A150
   clear A150
   by_cases c16:([]:List Int).length < 17592186044416
   ·rw [if_pos c16] at H
    have LMc16:=Aside0.mk c16
    clear c16
    obtain ⟨y252,hy252⟩:∃ y_:List Int,y_=(([]:List Int) ++ [wrap64 (t249)]):=⟨_,rfl⟩
    replace H:(node_Read.j0 k a0 t242 t245 t250 t251 (t242 == 1) y252)=some (r1,r2,r3,r4,r5):=by first|(rw [hy252];with_reducible exact H)|(have H2_:=(Option.bind_some _ _).symm.trans H;rw [hy252];with_reducible exact H2_)|(have H2_:=(Option.bind_some _ _).symm.trans H;with_reducible exact H2_)|with_reducible exact H|(rw [hy252];exact H)|exact H
    have Ny252:=Aside0.mk hy252
    clear hy252
    as_aux_lemma =>
     have H':=Aside0.mk H
     clear H
     try go_wp2
     have n0_:Aside0 (((((w10.setCell ⟨gb248,0,none⟩ (.bool (t242 == 1))).setCell ⟨gb248,1,none⟩ (.slice none 0 0)).setCell ⟨gb248,2,none⟩ (.slice none 0 0)).setCell ⟨gb248,3,none⟩ (.slice none 0 0)).heap[gb238]?=some (.cells #[.bool false,.slice none 0 0,.slice none 0 0,.slice none 0 0] 27 (0,0))):=⟨by (with_reducible repeat (first|apply zb1|apply zb2|apply zb3));refine blk_far ?_ NB238_248.out _;(with_reducible repeat (first|apply zb1|apply zb2|apply zb3));refine blk_far ?_ NB238_248.out _;(with_reducible repeat (first|apply zb1|apply zb2|apply zb3));refine blk_far ?_ NB238_248.out _;(with_reducible repeat (first|apply zb1|apply zb2|apply zb3));refine blk_far ?_ NB238_248.out _;(with_reducible repeat (first|apply zb1|apply zb2|apply zb3));exact BK238.out⟩
     have n1_:Aside0 (((((w10.setCell ⟨gb248,0,none⟩ (.bool (t242 == 1))).setCell ⟨gb248,1,none⟩ (.slice none 0 0)).setCell ⟨gb248,2,none⟩ (.slice none 0 0)).setCell ⟨gb248,3,none⟩ (.slice none 0 0)).heap[gb248]?=some (.cells #[.bool (t242 == 1),.slice none 0 0,.slice none 0 0,.slice none 0 0] 27 (0,0))):=⟨by (with_reducible repeat (first|apply zb1|apply zb2|apply zb3));refine blk_put (cs:=#[.bool (t242 == 1),.slice none 0 0,.slice none 0 0,.slice none 0 0]) ?_ 3 _ rfl;(with_reducible repeat (first|apply zb1|apply zb2|apply zb3));refine blk_put (cs:=#[.bool (t242 == 1),.slice none 0 0,.slice none 0 0,.slice none 0 0]) ?_ 2 _ rfl;(with_reducible repeat (first|apply zb1|apply zb2|apply zb3));refine blk_put (cs:=#[.bool (t242 == 1),.slice none 0 0,.slice none 0 0,.slice none 0 0]) ?_ 1 _ rfl;(with_reducible repeat (first|apply zb1|apply zb2|apply zb3));refine blk_put (cs:=#[.bool false,.slice none 0 0,.slice none 0 0,.slice none 0 0]) ?_ 0 _ rfl;(with_reducible repeat (first|apply zb1|apply zb2|apply zb3));exact BK248.out⟩
     have n2_:Aside0 (IsS62 w ((((w10.setCell ⟨gb248,0,none⟩ (.bool (t242 == 1))).setCell ⟨gb248,1,none⟩ (.slice none 0 0)).setCell ⟨gb248,2,none⟩ (.slice none 0 0)).setCell ⟨gb248,3,none⟩ (.slice none 0 0)) g241 t246 t247):=⟨by repeat (first|(with_reducible first|exact HI241.out|apply IsS62.alloc|apply IsS62.drewN|apply IsS62.drew|apply IsS62.set_0|apply IsS62.set_1|refine IsS62.far ?_ NB241_238.out _|refine IsS62.far ?_ NB241_248.out _)|exact HI241.out)⟩
     have n3_:Aside0 (Below w.heap.size w ((((w10.setCell ⟨gb248,0,none⟩ (.bool (t242 == 1))).setCell ⟨gb248,1,none⟩ (.slice none 0 0)).setCell ⟨gb248,2,none⟩ (.slice none 0 0)).setCell ⟨gb248,3,none⟩ (.slice none 0 0))):=⟨by repeat (first|(with_reducible first|exact HB.out|apply zl1|apply zl2|apply zl3|refine below_set ?_ (IsS62.ge HI241.out)|refine below_set ?_ GE238.out|refine below_set ?_ GE248.out)|exact HB.out)⟩
     (try clear BK238)
     (try clear BK248)
     (try clear HI241)
     (try clear HB)
     generalize ((((w10.setCell ⟨gb248,0,none⟩ (.bool (t242 == 1))).setCell ⟨gb248,1,none⟩ (.slice none 0 0)).setCell ⟨gb248,2,none⟩ (.slice none 0 0)).setCell ⟨gb248,3,none⟩ (.slice none 0 0))=w17 at n0_ n1_ n2_ n3_ ⊢
     have BK238:=n0_
     have BK248:=n1_
     have HI241:=n2_
     have HB:=n3_
     clear n0_ n1_ n2_ n3_
     replace BK238:=Aside0.mk (blk_drew BK238.out)
     replace BK248:=Aside0.mk (blk_drew BK248.out)
     replace HI241:=Aside0.mk (IsS62.drew HI241.out)
     replace HB:=Aside0.mk (below_drew1 HB.out)
     refine start_ (n:=9) (S:=fun w'=>w'.cell? ⟨gb248,0,none⟩=some (.bool (t242 == 1))∧w'.cell? ⟨gb248,1,none⟩=some (.slice none 0 0)∧w'.cell? ⟨gb248,2,none⟩=some (.slice none 0 0)∧w'.cell? ⟨gb248,3,none⟩=some (.slice none 0 0)) (ds:=[8]) #[false,false,false,false,false,false,false,false,false] (by kernel_rfl) rfl rfl ⟨(blk_cell BK248.out 0).trans rfl,(blk_cell BK248.out 1).trans rfl,(blk_cell BK248.out 2).trans rfl,(blk_cell BK248.out 3).trans rfl⟩ (fun hHeld=>?_);refine with_tabW node_Read.tab5 node_Read.bits5 (fun HT_ HW_=>?_)
     generalize w17.drew=w18 at BK238 BK248 HI241 HB hHeld ⊢
     refine pure_ (i:=0) (N:=some 21) (v:=?_) (a':=?_) #[true,false,false,false,false,false,false,false,false] rfl rfl (any_of HT_.out (by kernel_rfl)) (fun _ _ _ h=>h) (Or.inl ⟨by rfl,?_⟩) ?_ ?_
     rotate_left
     ·intro w'
      go_simp
      with_reducible rfl
     rotate_left
     ·simp only [Act.put,List.setIfInBounds_toArray,List.set_cons_zero,List.set_cons_succ,i64_w,i32_w]
      rfl
     refine pure_ (i:=2) (N:=some 23) (v:=?_) (a':=?_) #[true,false,true,false,false,false,false,false,false] rfl rfl (any_of HT_.out (by kernel_rfl)) (fun _ _ _ h=>h) (Or.inl ⟨by rfl,?_⟩) ?_ ?_
     rotate_left
     ·intro w'
      go_simp
      with_reducible rfl
     rotate_left
     ·simp only [Act.put,List.setIfInBounds_toArray,List.set_cons_zero,List.set_cons_succ,i64_w,i32_w]
      rfl
     refine take_ (i:=1) (N:=some 22) (v:=?_) (a':=?_) #[true,true,true,false,false,false,false,false,false] rfl rfl (take_ofW HT_.out HW_.out (by kernel_rfl)) (fun _ _ _ h=>h) (Or.inl ⟨by rfl,?_⟩) hHeld ?_ ?_
     rotate_left
     ·rintro w' ⟨s0,s1,s2,s3⟩
      go_simp
      with_reducible rfl
     rotate_left
     ·simp only [Act.put,List.setIfInBounds_toArray,List.set_cons_zero,List.set_cons_succ,i64_w,i32_w]
      rfl
     refine one_ (i:=3) (N:=some 24) #[true,true,true,true,false,false,false,false,false] rfl rfl (one_of HT_.out (by kernel_rfl)) (by decide) (fun K hK=>?_)
     refine goes_ Tryd.func13 (by kernel_rfl) rfl #[.pointer (some ⟨g241,0,none⟩),.int .i64 2] (by rfl) rfl rfl (by (try simp only [List.map_toArray,List.map_cons,List.map_nil]);first|done|rfl|(simp only [List.length_drop,List.length_take];rfl)|(simp (disch:=omega) only [u64_in];rfl)) ?_
     with_reducible refine (pack_Reader_Num.calls g241 t246 t247 2 t249 t250 t251 w _ ?side1 ?side2 A15.out).mono ?_
     (case side1=>repeat (first|(with_reducible first|exact HI241.out|apply IsS62.alloc|apply IsS62.drewN|apply IsS62.drew|apply IsS62.set_0|apply IsS62.set_1|refine IsS62.far ?_ NB241_238.out _|refine IsS62.far ?_ NB241_248.out _)|exact HI241.out))
     (case side2=>repeat (first|(with_reducible first|exact HB.out|apply zl1|apply zl2|apply zl3|refine below_set ?_ (IsS62.ge HI241.out)|refine below_set ?_ GE238.out|refine below_set ?_ GE248.out)|exact HB.out))
     rintro e w19 ⟨rfl,hi,hb,hk⟩
     refine ⟨_,rfl,?_⟩
     replace BK238:=Aside0.mk (KeepBut.blk hk (g':=gb238) (o:=.cells #[.bool false,.slice none 0 0,.slice none 0 0,.slice none 0 0] 27 (0,0)) (by (with_reducible repeat (first|apply zb1|apply zb2|apply zb3));exact BK238.out) NB238_241.out (by simp))
     replace BK248:=Aside0.mk (KeepBut.blk hk (g':=gb248) (o:=.cells #[.bool (t242 == 1),.slice none 0 0,.slice none 0 0,.slice none 0 0] 27 (0,0)) (by (with_reducible repeat (first|apply zb1|apply zb2|apply zb3));exact BK248.out) NB248_241.out (by simp))
     replace HB:=Aside0.mk (hb)
     replace HI241:=Aside0.mk (hi)
     (try clear hb)
     (try clear hb2)
     (try clear hk)
     (try clear hi)
     refine hK.out _ _ ⟨(blk_cell BK248.out 0).trans rfl,(blk_cell BK248.out 1).trans rfl,(blk_cell BK248.out 2).trans rfl,(blk_cell BK248.out 3).trans rfl⟩ (fun hHeld=>?_)
     clear hK K
     refine norm_ (a':=?_) ?_ ?_
     rotate_left
     ·show Act.put _ (some 24) _=_
      simp only [Act.put,List.setIfInBounds_toArray,List.set_cons_zero,List.set_cons_succ,i64_w,i32_w]
      rfl
     refine pure_ (i:=4) (N:=some 25) (v:=?_) (a':=?_) #[true,true,true,true,true,false,false,false,false] rfl rfl (any_of HT_.out (by kernel_rfl)) (fun _ _ _ h=>h) (Or.inl ⟨by rfl,?_⟩) ?_ ?_
     rotate_left
     ·intro w'
      go_simp
      with_reducible rfl
     rotate_left
     ·simp only [Act.put,List.setIfInBounds_toArray,List.set_cons_zero,List.set_cons_succ,i64_w,i32_w]
      rfl
     refine one_ (i:=5) (N:=some 26) #[true,true,true,true,true,true,false,false,false] rfl rfl (one_of HT_.out (by kernel_rfl)) (by decide) (fun K hK=>?_)
     refine value_ (w1:=?_) (v:=?_) (by rfl) rfl ?_ ?_
     rotate_left 2
     ·go_simp
      constructor
      ·rfl
      ·rfl
     refine hK.out _ _ ⟨(blk_cell (blk_alloc BK248.out _) 0).trans rfl,(blk_cell (blk_alloc BK248.out _) 1).trans rfl,(blk_cell (blk_alloc BK248.out _) 2).trans rfl,(blk_cell (blk_alloc BK248.out _) 3).trans rfl⟩ (fun hHeld=>?_)
     clear hK K
     refine norm_ (a':=?_) ?_ ?_
     rotate_left
     ·show Act.put _ (some 26) _=_
      simp only [Act.put,List.setIfInBounds_toArray,List.set_cons_zero,List.set_cons_succ,i64_w,i32_w]
      rfl
     refine one_ (i:=6) (N:=some 27) #[true,true,true,true,true,true,true,false,false] rfl rfl (one_of HT_.out (by kernel_rfl)) (by decide) (fun K hK=>?_)
     refine Kd.R_append_step (Kd.int .i64) (w0:=w) w.heap.size (by rfl) (.tmp 22) (.tmp 26) 25 3 (.int .i64 0) 8 rfl Tryd.underlying25 info3 rfl (by decide) (by omega) (.slice none 0 0) ([]:List Int) (wrap64 (t249)) [.int .i64 (wrap64 (t249))] (fun _=>True) (fun _=>False) rfl rfl ?aP (fun _ hk=>hk.elim) ?aF ?aO ?aB ?aS ?aL ?_
     (case aP=>exact rfl)
     (case aB=>exact (by repeat (first|(with_reducible first|exact HB.out|apply zl1|apply zl2|apply zl3|refine below_set ?_ (IsS62.ge HI241.out)|refine below_set ?_ GE238.out|refine below_set ?_ GE248.out)|exact HB.out)))
     (case aF=>exact (fun _ _=>trivial))
     (case aO=>exact ((Kd.R_nil _ _ _ _ (fun _=>True))))
     (case aS=>exact (below_size (by repeat (first|(with_reducible first|exact HB.out|apply zl1|apply zl2|apply zl3|refine below_set ?_ (IsS62.ge HI241.out)|refine below_set ?_ GE238.out|refine below_set ?_ GE248.out)|exact HB.out))))
     (case aL=>have:=LMc16.out;omega)
     intro v253 w20 ho hb hg hat
     rw [← Ny252.out] at ho
     replace BK238:=Aside0.mk (blk_grown (g:=gb238) (o:=.cells #[.bool false,.slice none 0 0,.slice none 0 0,.slice none 0 0] 27 (0,0)) (by (with_reducible repeat (first|apply zb1|apply zb2|apply zb3));exact BK238.out) hg (by simp [Value.ownBlock]))
     replace HI241:=Aside0.mk (IsS62.grown (show IsS62 w _ g241 t250 t251 from by repeat (first|(with_reducible first|exact HI241.out|apply IsS62.alloc|apply IsS62.drewN|apply IsS62.drew|apply IsS62.set_0|apply IsS62.set_1|refine IsS62.far ?_ NB241_238.out _|refine IsS62.far ?_ NB241_248.out _)|exact HI241.out)) hg (by simp [Value.ownBlock]))
     replace BK248:=Aside0.mk (blk_grown (g:=gb248) (o:=.cells #[.bool (t242 == 1),.slice none 0 0,.slice none 0 0,.slice none 0 0] 27 (0,0)) (by (with_reducible repeat (first|apply zb1|apply zb2|apply zb3));exact BK248.out) hg (by simp [Value.ownBlock]))
     replace HB:=Aside0.mk (hb)
     have HO254:=Aside0.mk (ho)
     clear ho hb hg hat
     obtain ⟨Ao21,co21,eo21⟩:=Kd.R_slice HO254.out
     (first|subst eo21|(injection eo21 with f1_ f2_ f3_;have f4_:=f1_.symm;have f5_:=f3_.symm;clear f1_ f2_ f3_;subst f4_;subst f5_))
     refine hK.out _ _ ⟨(blk_cell BK248.out 0).trans rfl,(blk_cell BK248.out 1).trans rfl,(blk_cell BK248.out 2).trans rfl,(blk_cell BK248.out 3).trans rfl⟩ (fun hHeld=>?_)
     clear hK K
     refine norm_ (a':=?_) ?_ ?_
     rotate_left
     ·show Act.put _ (some 27) _=_
      simp only [Act.put,List.setIfInBounds_toArray,List.set_cons_zero,List.set_cons_succ,i64_w,i32_w]
      rfl
     refine pure_ (i:=7) (N:=some 28) (v:=?_) (a':=?_) #[true,true,true,true,true,true,true,true,false] rfl rfl (any_of HT_.out (by kernel_rfl)) (fun _ _ _ h=>h) (Or.inl ⟨by rfl,?_⟩) ?_ ?_
     rotate_left
     ·intro w'
      go_simp
      with_reducible rfl
     rotate_left
     ·simp only [Act.put,List.setIfInBounds_toArray,List.set_cons_zero,List.set_cons_succ,i64_w,i32_w]
      rfl
     refine last_ (i:=8) (N:=none) #[true,true,true,true,true,true,true,true,true] rfl rfl (one_of HT_.out (by kernel_rfl)) (by decide) (fun K hK=>?_)
     have hs22:w20.cell? ⟨gb248,3,none⟩=some (.slice none 0 0):=(blk_cell BK248.out 3).trans rfl
     have hfs22:=blk_frozen BK248.out 3
     have hns22_0:=NB238_248.out
     have hms22_0:=NB248_238.out
     refine skip_ (w1:=?_) (by rfl) rfl ?_ ?_
     rotate_left
     ·go_simp
      rfl
     refine hK.out _ _ ?_
     clear hK K
     refine done_ (done_of HT_.out (by kernel_rfl)) ?_
     try go_wp2
     go_meet
     case rel=>exact ⟨_,(t250),(t251),(y252),(.slice Ao21 y252.length co21),H',⟨by first|omega|exact Nat.le_refl _⟩,⟨by (with_reducible repeat (first|apply zk1|apply zk2|apply zk3));exact Kd.R_mono (Kd.R_far (p:=⟨gb248,3,none⟩) (Kd.R_types HO254.out BK248.out (by decide)) (fun _ hk=>hk.2) (.slice Ao21 y252.length co21)) (fun _ hk=>trivial)⟩,⟨by (with_reducible repeat (first|apply zb1|apply zb2|apply zb3));refine blk_far ?_ NB238_248.out _;(with_reducible repeat (first|apply zb1|apply zb2|apply zb3));exact BK238.out⟩,⟨by (with_reducible repeat (first|apply zb1|apply zb2|apply zb3));refine blk_put (cs:=#[.bool (t242 == 1),.slice none 0 0,.slice none 0 0,.slice none 0 0]) ?_ 3 _ rfl;(with_reducible repeat (first|apply zb1|apply zb2|apply zb3));exact BK248.out⟩,⟨by repeat (first|(with_reducible first|exact HI241.out|apply IsS62.alloc|apply IsS62.drewN|apply IsS62.drew|apply IsS62.set_0|apply IsS62.set_1|refine IsS62.far ?_ NB241_238.out _|refine IsS62.far ?_ NB241_248.out _)|exact HI241.out)⟩,⟨by repeat (first|(with_reducible first|exact HB.out|apply zl1|apply zl2|apply zl3|refine below_set ?_ (IsS62.ge HI241.out)|refine below_set ?_ GE238.out|refine below_set ?_ GE248.out)|exact HB.out)⟩⟩
   ·rw [if_neg c16] at H
    exact absurd H (by simp)
  ·rw [if_neg c14] at H
   have c14b0:(t242 == 2)=false:=beq_eq_false_iff_ne.mpr c14
   have c14b1:(t242 != 2)=true:=bne_iff_ne.mpr c14
   (first|rw [c14b0]|(simp only [i64_w,i32_w];rw [c14b0])|skip)
   as_aux_lemma =>
    have H':=Aside0.mk H
    clear H
    go_wp2
    go_meet
    case rel=>exact ⟨_,(t246),(t247),(([]:List Int)),(.slice none 0 0),H',⟨by first|omega|exact Nat.le_refl _⟩,⟨by first|exact Kd.R_nil _ _ _ _ _|exact Kd.N_nil _ _ _ _ _|exact Kd.V_nil _ _ _ _ _|exact Kd.Q_nil _ _ _ _ _|exact Kd.S_nil _ _ _ _ _⟩,⟨by (with_reducible repeat (first|apply zb1|apply zb2|apply zb3));refine blk_far ?_ NB238_248.out _;(with_reducible repeat (first|apply zb1|apply zb2|apply zb3));refine blk_far ?_ NB238_248.out _;(with_reducible repeat (first|apply zb1|apply zb2|apply zb3));refine blk_far ?_ NB238_248.out _;(with_reducible repeat (first|apply zb1|apply zb2|apply zb3));refine blk_far ?_ NB238_248.out _;(with_reducible repeat (first|apply zb1|apply zb2|apply zb3));exact BK238.out⟩,⟨by (with_reducible repeat (first|apply zb1|apply zb2|apply zb3));refine blk_put (cs:=#[.bool (t242 == 1),.slice none 0 0,.slice none 0 0,.slice none 0 0]) ?_ 3 _ rfl;(with_reducible repeat (first|apply zb1|apply zb2|apply zb3));refine blk_put (cs:=#[.bool (t242 == 1),.slice none 0 0,.slice none 0 0,.slice none 0 0]) ?_ 2 _ rfl;(with_reducible repeat (first|apply zb1|apply zb2|apply zb3));refine blk_put (cs:=#[.bool (t242 == 1),.slice none 0 0,.slice none 0 0,.slice none 0 0]) ?_ 1 _ rfl;(with_reducible repeat (first|apply zb1|apply zb2|apply zb3));refine blk_put (cs:=#[.bool false,.slice none 0 0,.slice none 0 0,.slice none 0 0]) ?_ 0 _ rfl;(with_reducible repeat (first|apply zb1|apply zb2|apply zb3));exact BK248.out⟩,⟨by repeat (first|(with_reducible first|exact HI241.out|apply IsS62.alloc|apply IsS62.drewN|apply IsS62.drew|apply IsS62.set_0|apply IsS62.set_1|refine IsS62.far ?_ NB241_238.out _|refine IsS62.far ?_ NB241_248.out _)|exact HI241.out)⟩,⟨by repeat (first|(with_reducible first|exact HB.out|apply zl1|apply zl2|apply zl3|refine below_set ?_ (IsS62.ge HI241.out)|refine below_set ?_ GE238.out|refine below_set ?_ GE248.out)|exact HB.out)⟩⟩
 case rest =>
  clear HC5
  try clear hfz13_0 hfz13_1 hfz13_2 hfz13_3
  try clear hcz13_0 hcz13_1 hcz13_2 hcz13_3
  try clear c1
  try clear p2
  try clear c6
  try clear p6
  try clear c11
  try clear c12
  try clear c13
  try clear c14
  try clear c14b0
  try clear c14b1
  try clear c16
  obtain ⟨kq,x242000_4,x242001_4,x249003_4,u249003,HA,HJ4,HO_249003,BK238,BK248,HI241,HB⟩:=hcut
  cases kq with
  | zero=>exact absurd HA.out (by simp [node_Read.j0])
  | succ kj4 =>
   have H:=HA.out
   clear HA
   simp only [node_Read.j0] at H
   have H':=Aside0.mk H
   clear H
   go_wp2
   go_loopg [30] kj4 (fun kq v30 w'=>∃ (x30_2:Int) (x242000_2:ByteArray) (x242001_2:Int) (x249001_2:List (S44)) (x249002_2:List ByteArray) (x249003_2:List Int) (u249001:Value) (u249002:Value) (u249003:Value),v30=.int .u64 x30_2∧Aside0 (node_Read.l0 kq a0 t242 t245 x30_2 x242000_2 x242001_2 (t242 == 1) x249001_2 x249002_2 x249003_2=some (r1,r2,r3,r4,r5))∧Aside0 (kq≤kj4)∧Aside0 (Kd.R k44 44 w' w.heap.size (fun _=>True) u249001 x249001_2)∧Aside0 (Kd.R Kd.string 9 w' w.heap.size (fun _=>True) u249002 x249002_2)∧Aside0 (Kd.R (Kd.int .i64) 3 w' w.heap.size (fun _=>True) u249003 x249003_2)∧Aside0 (w'.heap[gb238]?=some (.cells #[.bool false,(.slice none 0 0),(.slice none 0 0),(.slice none 0 0)] 27 (0,0)))∧Aside0 (w'.heap[gb248]?=some (.cells #[.bool (t242 == 1),u249001,u249002,u249003] 27 (0,0)))∧Aside0 (IsS62 w w' g241 x242000_2 x242001_2)∧Aside0 (Below w.heap.size w w'))
   case atStart=>exact ⟨(0),(x242000_4),(x242001_4),(([]:List (S44))),(([]:List ByteArray)),(x249003_4),(.slice none 0 0),(.slice none 0 0),(u249003),(by first|(with_reducible rfl)|(simp;done)|(simp [*];done)|rfl|(simp only [not_isEmpty_bne])),H',⟨Nat.le_refl _⟩,⟨by first|exact Kd.R_nil _ _ _ _ _|exact Kd.N_nil _ _ _ _ _|exact Kd.V_nil _ _ _ _ _|exact Kd.Q_nil _ _ _ _ _|exact Kd.S_nil _ _ _ _ _⟩,⟨by first|exact Kd.R_nil _ _ _ _ _|exact Kd.N_nil _ _ _ _ _|exact Kd.V_nil _ _ _ _ _|exact Kd.Q_nil _ _ _ _ _|exact Kd.S_nil _ _ _ _ _⟩,⟨by (with_reducible repeat (first|apply zk1|apply zk2|apply zk3));exact HO_249003.out⟩,⟨by (with_reducible repeat (first|apply zb1|apply zb2|apply zb3));exact BK238.out⟩,⟨by (with_reducible repeat (first|apply zb1|apply zb2|apply zb3));exact BK248.out⟩,⟨by repeat (first|(with_reducible first|exact HI241.out|apply IsS62.alloc|apply IsS62.drewN|apply IsS62.drew|apply IsS62.set_0|apply IsS62.set_1|refine IsS62.far ?_ NB241_238.out _|refine IsS62.far ?_ NB241_248.out _)|exact HI241.out)⟩,⟨by repeat (first|(with_reducible first|exact HB.out|apply zl1|apply zl2|apply zl3|refine below_set ?_ (IsS62.ge HI241.out)|refine below_set ?_ GE238.out|refine below_set ?_ GE248.out)|exact HB.out)⟩⟩
   case round =>
    clear H'
    try clear hfz13_0 hfz13_1 hfz13_2 hfz13_3
    try clear hcz13_0 hcz13_1 hcz13_2 hcz13_3
    try clear c1
    try clear p2
    try clear c6
    try clear p6
    try clear c11
    try clear c12
    try clear c13
    try clear c14
    try clear c14b0
    try clear c14b1
    try clear c16
    try clear p2
    try clear p6
    obtain ⟨x30_2,x242000_2,x242001_2,x249001_2,x249002_2,x249003_2,u249001,u249002,u249003,rfl,HA,HK2,HO_249001,HO_249002,HO_249003,BK238,BK248,HI241,HB⟩:=hrel
    cases gk with
    | zero=>exact absurd HA.out (by simp [node_Read.l0])
    | succ k2 =>
     have H:=HA.out
     clear HA
     simp only [node_Read.l0] at H
     by_cases c23:x30_2 < t245
     ·rw [if_pos c23] at H
      have c23b0:decide (x30_2 < t245)=true:=decide_eq_true c23
      clear c23
      replace H:=Option.bind_eq_some_iff.mp H
      obtain ⟨⟨t255,t256,t257⟩,A240,H⟩:=H
      replace H:(if (t242 == 1)=true then ((pack_Reader_Str.f t256 t257 40).bind fun bt258=>(if x249001_2.length < 4398046511104 then (node_Read.l0 k2 a0 t242 t245 (IntKind.u64.wrap (x30_2 + 1)) bt258.2.1 bt258.2.2 (t242 == 1) (x249001_2 ++ [(⟨t255,bt258.1⟩:S44)]) x249002_2 x249003_2) else (none))) else (if x249002_2.length < 8796093022208 then ((pack_Reader_Num.f t256 t257 2).bind fun bt267=>(if x249003_2.length < 17592186044416 then (node_Read.l0 k2 a0 t242 t245 (IntKind.u64.wrap (x30_2 + 1)) bt267.2.1 bt267.2.2 (t242 == 1) x249001_2 (x249002_2 ++ [t255]) (x249003_2 ++ [wrap64 (bt267.1)])) else (none))) else (none)))=some (r1,r2,r3,r4,r5):=H
      have A24:=Aside0.mk A240
      clear A240
      by_cases c25:(t242 == 1)=true
      ·rw [if_pos c25] at H
       have c25b0:(t242 == 1)=true:=c25
       (try (have c25b1:decide (t242=1)=true:=by simpa using c25))
       (try (have c25b2:(t242 == 1)=true:=by simpa using c25))
       clear c25
       replace H:=Option.bind_eq_some_iff.mp H
       obtain ⟨⟨t258,t259,t260⟩,A260,H⟩:=H
       replace H:(if x249001_2.length < 4398046511104 then (node_Read.l0 k2 a0 t242 t245 (IntKind.u64.wrap (x30_2 + 1)) t259 t260 (t242 == 1) (x249001_2 ++ [(⟨t255,t258⟩:S44)]) x249002_2 x249003_2) else (none))=some (r1,r2,r3,r4,r5):=H
       have A26:=Aside0.mk A260
       clear A260
       by_cases c27:x249001_2.length < 4398046511104
       ·rw [if_pos c27] at H
        have LMc27:=Aside0.mk c27
        clear c27
        obtain ⟨y261,hy261⟩:∃ y_:List (S44),y_=(x249001_2 ++ [(⟨t255,t258⟩:S44)]):=⟨_,rfl⟩
        replace H:(node_Read.l0 k2 a0 t242 t245 (IntKind.u64.wrap (x30_2 + 1)) t259 t260 (t242 == 1) y261 x249002_2 x249003_2)=some (r1,r2,r3,r4,r5):=by first|(rw [hy261];with_reducible exact H)|(have H2_:=(Option.bind_some _ _).symm.trans H;rw [hy261];with_reducible exact H2_)|(have H2_:=(Option.bind_some _ _).symm.trans H;with_reducible exact H2_)|with_reducible exact H|(rw [hy261];exact H)|exact H
        have Ny261:=Aside0.mk hy261
        clear hy261
        as_aux_lemma =>
         have H':=Aside0.mk H
         clear H
         try go_wp2_with (first|((with_reducible refine gate_callee (f:=14) rfl ?_);refine goesL_ (some 33) rfl rfl Tryd.func14 (by kernel_rfl) rfl #[.pointer (some ⟨g241,0,none⟩),.int .i64 32] rfl (by (try simp only [List.map_toArray,List.map_cons,List.map_nil]);first|done|rfl|(simp only [List.length_drop,List.length_take];rfl)|(simp (disch:=omega) only [u64_in];rfl)) ?_;(with_reducible refine (pack_Reader_Str.calls g241 x242000_2 x242001_2 32 t255 t256 t257 w _ ?side1 ?side2 A24.out).mono ?_);(case side1=>repeat (first|(with_reducible first|exact HI241.out|apply IsS62.alloc|apply IsS62.drewN|apply IsS62.drew|apply IsS62.set_0|apply IsS62.set_1|refine IsS62.far ?_ NB241_238.out _|refine IsS62.far ?_ NB241_248.out _)|exact HI241.out));(case side2=>repeat (first|(with_reducible first|exact HB.out|apply zl1|apply zl2|apply zl3|refine below_set ?_ (IsS62.ge HI241.out)|refine below_set ?_ GE238.out|refine below_set ?_ GE248.out)|exact HB.out));rintro e w28 ⟨rfl,hi,hb,hk⟩;refine ⟨_,rfl,?_⟩;replace HO_249001:=Aside0.mk (Kd.R_mono (Kd.R_keep (IsS62.apart (show IsS62 w _ g241 x242000_2 x242001_2 from by repeat (first|(with_reducible first|exact HI241.out|apply IsS62.alloc|apply IsS62.drewN|apply IsS62.drew|apply IsS62.set_0|apply IsS62.set_1|refine IsS62.far ?_ NB241_238.out _|refine IsS62.far ?_ NB241_248.out _)|exact HI241.out)) (by (with_reducible repeat (first|apply zk1|apply zk2|apply zk3));exact HO_249001.out) (by decide)) hk (fun _ h=>h.2)) (fun _ h=>h.1));replace HO_249002:=Aside0.mk (Kd.R_mono (Kd.R_keep (IsS62.apart (show IsS62 w _ g241 x242000_2 x242001_2 from by repeat (first|(with_reducible first|exact HI241.out|apply IsS62.alloc|apply IsS62.drewN|apply IsS62.drew|apply IsS62.set_0|apply IsS62.set_1|refine IsS62.far ?_ NB241_238.out _|refine IsS62.far ?_ NB241_248.out _)|exact HI241.out)) (by (with_reducible repeat (first|apply zk1|apply zk2|apply zk3));exact HO_249002.out) (by decide)) hk (fun _ h=>h.2)) (fun _ h=>h.1));replace HO_249003:=Aside0.mk (Kd.R_mono (Kd.R_keep (IsS62.apart (show IsS62 w _ g241 x242000_2 x242001_2 from by repeat (first|(with_reducible first|exact HI241.out|apply IsS62.alloc|apply IsS62.drewN|apply IsS62.drew|apply IsS62.set_0|apply IsS62.set_1|refine IsS62.far ?_ NB241_238.out _|refine IsS62.far ?_ NB241_248.out _)|exact HI241.out)) (by (with_reducible repeat (first|apply zk1|apply zk2|apply zk3));exact HO_249003.out) (by decide)) hk (fun _ h=>h.2)) (fun _ h=>h.1));replace BK238:=Aside0.mk (KeepBut.blk hk (g':=gb238) (o:=.cells #[.bool false,.slice none 0 0,.slice none 0 0,.slice none 0 0] 27 (0,0)) (by (with_reducible repeat (first|apply zb1|apply zb2|apply zb3));exact BK238.out) NB238_241.out (by simp));replace BK248:=Aside0.mk (KeepBut.blk hk (g':=gb248) (o:=.cells #[.bool (t242 == 1),u249001,u249002,u249003] 27 (0,0)) (by (with_reducible repeat (first|apply zb1|apply zb2|apply zb3));exact BK248.out) NB248_241.out (by simp));replace HB:=Aside0.mk (hb);replace HI241:=Aside0.mk (hi);(try clear hb);(try clear hk);(try clear hi);have hnb29:=NB248_238.out;have hnc29:=NB238_248.out;have hnb30:=NB248_241.out;have hnc30:=NB241_248.out;have hcz31_0:w28.cell? ⟨gb248,0,none⟩=some (.bool (t242 == 1)):=(blk_cell BK248.out 0).trans rfl;have hcz31_1:w28.cell? ⟨gb248,1,none⟩=some (u249001):=(blk_cell BK248.out 1).trans rfl;have hcz31_2:w28.cell? ⟨gb248,2,none⟩=some (u249002):=(blk_cell BK248.out 2).trans rfl;have hcz31_3:w28.cell? ⟨gb248,3,none⟩=some (u249003):=(blk_cell BK248.out 3).trans rfl;have hfz31_0:=blk_frozen BK248.out 0;have hfz31_1:=blk_frozen BK248.out 1;have hfz31_2:=blk_frozen BK248.out 2;have hfz31_3:=blk_frozen BK248.out 3))
         replace HO_249001:=Aside0.mk (Kd.R_drew HO_249001.out)
         replace HO_249002:=Aside0.mk (Kd.R_drew HO_249002.out)
         replace HO_249003:=Aside0.mk (Kd.R_drew HO_249003.out)
         replace BK238:=Aside0.mk (blk_drew BK238.out)
         replace BK248:=Aside0.mk (blk_drew BK248.out)
         replace HI241:=Aside0.mk (IsS62.drew HI241.out)
         replace HB:=Aside0.mk (below_drew1 HB.out)
         refine start_ (n:=10) (S:=fun w'=>w'.cell? ⟨gb248,0,none⟩=some (.bool (t242 == 1))∧w'.cell? ⟨gb248,1,none⟩=some (u249001)∧w'.cell? ⟨gb248,2,none⟩=some (u249002)∧w'.cell? ⟨gb248,3,none⟩=some (u249003)) (ds:=[9]) #[false,false,false,false,false,false,false,false,false,false] (by kernel_rfl) rfl rfl ⟨(blk_cell BK248.out 0).trans rfl,(blk_cell BK248.out 1).trans rfl,(blk_cell BK248.out 2).trans rfl,(blk_cell BK248.out 3).trans rfl⟩ (fun hHeld=>?_);refine with_tabW node_Read.tab10 node_Read.bits10 (fun HT_ HW_=>?_)
         generalize w28.drew=w32 at HO_249001 HO_249002 HO_249003 BK238 BK248 HI241 HB hHeld ⊢
         refine pure_ (i:=0) (N:=some 36) (v:=?_) (a':=?_) #[true,false,false,false,false,false,false,false,false,false] rfl rfl (any_of HT_.out (by kernel_rfl)) (fun _ _ _ h=>h) (Or.inl ⟨by rfl,?_⟩) ?_ ?_
         rotate_left
         ·intro w'
          go_simp
          with_reducible rfl
         rotate_left
         ·simp only [Act.put,List.setIfInBounds_toArray,List.set_cons_zero,List.set_cons_succ,i64_w,i32_w]
          rfl
         refine pure_ (i:=2) (N:=some 38) (v:=?_) (a':=?_) #[true,false,true,false,false,false,false,false,false,false] rfl rfl (any_of HT_.out (by kernel_rfl)) (fun _ _ _ h=>h) (Or.inl ⟨by rfl,?_⟩) ?_ ?_
         rotate_left
         ·intro w'
          go_simp
          with_reducible rfl
         rotate_left
         ·simp only [Act.put,List.setIfInBounds_toArray,List.set_cons_zero,List.set_cons_succ,i64_w,i32_w]
          rfl
         refine pure_ (i:=3) (N:=some 39) (v:=?_) (a':=?_) #[true,false,true,true,false,false,false,false,false,false] rfl rfl (any_of HT_.out (by kernel_rfl)) (fun _ _ _ h=>h) (Or.inl ⟨by rfl,?_⟩) ?_ ?_
         rotate_left
         ·intro w'
          go_simp
          with_reducible rfl
         rotate_left
         ·simp only [Act.put,List.setIfInBounds_toArray,List.set_cons_zero,List.set_cons_succ,i64_w,i32_w]
          rfl
         refine take_ (i:=1) (N:=some 37) (v:=?_) (a':=?_) #[true,true,true,true,false,false,false,false,false,false] rfl rfl (take_ofW HT_.out HW_.out (by kernel_rfl)) (fun _ _ _ h=>h) (Or.inl ⟨by rfl,?_⟩) hHeld ?_ ?_
         rotate_left
         ·rintro w' ⟨s0,s1,s2,s3⟩
          go_simp
          with_reducible rfl
         rotate_left
         ·simp only [Act.put,List.setIfInBounds_toArray,List.set_cons_zero,List.set_cons_succ,i64_w,i32_w]
          rfl
         refine one_ (i:=4) (N:=some 40) #[true,true,true,true,true,false,false,false,false,false] rfl rfl (one_of HT_.out (by kernel_rfl)) (by decide) (fun K hK=>?_)
         refine goes_ Tryd.func14 (by kernel_rfl) rfl #[.pointer (some ⟨g241,0,none⟩),.int .i64 40] (by rfl) rfl rfl (by (try simp only [List.map_toArray,List.map_cons,List.map_nil]);first|done|rfl|(simp only [List.length_drop,List.length_take];rfl)|(simp (disch:=omega) only [u64_in];rfl)) ?_
         with_reducible refine (pack_Reader_Str.calls g241 t256 t257 40 t258 t259 t260 w _ ?side1 ?side2 A26.out).mono ?_
         (case side1=>repeat (first|(with_reducible first|exact HI241.out|apply IsS62.alloc|apply IsS62.drewN|apply IsS62.drew|apply IsS62.set_0|apply IsS62.set_1|refine IsS62.far ?_ NB241_238.out _|refine IsS62.far ?_ NB241_248.out _)|exact HI241.out))
         (case side2=>repeat (first|(with_reducible first|exact HB.out|apply zl1|apply zl2|apply zl3|refine below_set ?_ (IsS62.ge HI241.out)|refine below_set ?_ GE238.out|refine below_set ?_ GE248.out)|exact HB.out))
         rintro e w33 ⟨rfl,hi,hb,hk⟩
         refine ⟨_,rfl,?_⟩
         replace HO_249001:=Aside0.mk (Kd.R_mono (Kd.R_keep (IsS62.apart (show IsS62 w _ g241 t256 t257 from by repeat (first|(with_reducible first|exact HI241.out|apply IsS62.alloc|apply IsS62.drewN|apply IsS62.drew|apply IsS62.set_0|apply IsS62.set_1|refine IsS62.far ?_ NB241_238.out _|refine IsS62.far ?_ NB241_248.out _)|exact HI241.out)) (by (with_reducible repeat (first|apply zk1|apply zk2|apply zk3));exact HO_249001.out) (by decide)) hk (fun _ h=>h.2)) (fun _ h=>h.1))
         replace HO_249002:=Aside0.mk (Kd.R_mono (Kd.R_keep (IsS62.apart (show IsS62 w _ g241 t256 t257 from by repeat (first|(with_reducible first|exact HI241.out|apply IsS62.alloc|apply IsS62.drewN|apply IsS62.drew|apply IsS62.set_0|apply IsS62.set_1|refine IsS62.far ?_ NB241_238.out _|refine IsS62.far ?_ NB241_248.out _)|exact HI241.out)) (by (with_reducible repeat (first|apply zk1|apply zk2|apply zk3));exact HO_249002.out) (by decide)) hk (fun _ h=>h.2)) (fun _ h=>h.1))
         replace HO_249003:=Aside0.mk (Kd.R_mono (Kd.R_keep (IsS62.apart (show IsS62 w _ g241 t256 t257 from by repeat (first|(with_reducible first|exact HI241.out|apply IsS62.alloc|apply IsS62.drewN|apply IsS62.drew|apply IsS62.set_0|apply IsS62.set_1|refine IsS62.far ?_ NB241_238.out _|refine IsS62.far ?_ NB241_248.out _)|exact HI241.out)) (by (with_reducible repeat (first|apply zk1|apply zk2|apply zk3));exact HO_249003.out) (by decide)) hk (fun _ h=>h.2)) (fun _ h=>h.1))
         replace BK238:=Aside0.mk (KeepBut.blk hk (g':=gb238) (o:=.cells #[.bool false,.slice none 0 0,.slice none 0 0,.slice none 0 0] 27 (0,0)) (by (with_reducible repeat (first|apply zb1|apply zb2|apply zb3));exact BK238.out) NB238_241.out (by simp))
         replace BK248:=Aside0.mk (KeepBut.blk hk (g':=gb248) (o:=.cells #[.bool (t242 == 1),u249001,u249002,u249003] 27 (0,0)) (by (with_reducible repeat (first|apply zb1|apply zb2|apply zb3));exact BK248.out) NB248_241.out (by simp))
         replace HB:=Aside0.mk (hb)
         replace HI241:=Aside0.mk (hi)
         (try clear hb)
         (try clear hb2)
         (try clear hk)
         (try clear hi)
         refine hK.out _ _ ⟨(blk_cell BK248.out 0).trans rfl,(blk_cell BK248.out 1).trans rfl,(blk_cell BK248.out 2).trans rfl,(blk_cell BK248.out 3).trans rfl⟩ (fun hHeld=>?_)
         clear hK K
         refine norm_ (a':=?_) ?_ ?_
         rotate_left
         ·show Act.put _ (some 40) _=_
          simp only [Act.put,List.setIfInBounds_toArray,List.set_cons_zero,List.set_cons_succ,i64_w,i32_w]
          rfl
         refine pure_ (i:=5) (N:=some 41) (v:=?_) (a':=?_) #[true,true,true,true,true,true,false,false,false,false] rfl rfl (any_of HT_.out (by kernel_rfl)) (fun _ _ _ h=>h) (Or.inl ⟨by rfl,?_⟩) ?_ ?_
         rotate_left
         ·intro w'
          go_simp
          with_reducible rfl
         rotate_left
         ·simp only [Act.put,List.setIfInBounds_toArray,List.set_cons_zero,List.set_cons_succ,i64_w,i32_w]
          rfl
         refine one_ (i:=6) (N:=some 42) #[true,true,true,true,true,true,true,false,false,false] rfl rfl (one_of HT_.out (by kernel_rfl)) (by decide) (fun K hK=>?_)
         refine value_ (w1:=?_) (v:=?_) (by rfl) rfl ?_ ?_
         rotate_left 2
         ·go_simp
          constructor
          ·rfl
          ·rfl
         refine hK.out _ _ ⟨(blk_cell (blk_alloc BK248.out _) 0).trans rfl,(blk_cell (blk_alloc BK248.out _) 1).trans rfl,(blk_cell (blk_alloc BK248.out _) 2).trans rfl,(blk_cell (blk_alloc BK248.out _) 3).trans rfl⟩ (fun hHeld=>?_)
         clear hK K
         refine norm_ (a':=?_) ?_ ?_
         rotate_left
         ·show Act.put _ (some 42) _=_
          simp only [Act.put,List.setIfInBounds_toArray,List.set_cons_zero,List.set_cons_succ,i64_w,i32_w]
          rfl
         refine one_ (i:=7) (N:=some 43) #[true,true,true,true,true,true,true,true,false,false] rfl rfl (one_of HT_.out (by kernel_rfl)) (by decide) (fun K hK=>?_)
         refine Kd.R_append_step k44 (w0:=w) w.heap.size (by rfl) (.tmp 37) (.tmp 42) 23 44 (.agg #[(.string ⟨#[]⟩),(.string ⟨#[]⟩)]) 32 rfl Tryd.underlying23 info44 rfl (by decide) (by omega) u249001 x249001_2 (⟨t255,t258⟩:S44) [.string t255,.string t258] (fun _=>True) (fun _=>False) rfl rfl ?aP (fun _ hk=>hk.elim) ?aF ?aO ?aB ?aS ?aL ?_
         (case aP=>exact k44_mkM _ _ _ (⟨t255,t258⟩:S44))
         (case aB=>exact (by repeat (first|(with_reducible first|exact HB.out|apply zl1|apply zl2|apply zl3|refine below_set ?_ (IsS62.ge HI241.out)|refine below_set ?_ GE238.out|refine below_set ?_ GE248.out)|exact HB.out)))
         (case aF=>exact (fun _ _=>trivial))
         (case aO=>exact (by (with_reducible repeat (first|apply zk1|apply zk2|apply zk3));exact HO_249001.out))
         (case aS=>exact (below_size (by repeat (first|(with_reducible first|exact HB.out|apply zl1|apply zl2|apply zl3|refine below_set ?_ (IsS62.ge HI241.out)|refine below_set ?_ GE238.out|refine below_set ?_ GE248.out)|exact HB.out))))
         (case aL=>have:=LMc27.out;omega)
         intro v262 w34 ho hb hg hat
         rw [← Ny261.out] at ho
         have n0_:=Aside0.mk (Kd.R_over' (by (with_reducible repeat (first|apply zk1|apply zk2|apply zk3));exact HO_249002.out) (Kd.R_typed (by (with_reducible repeat (first|apply zk1|apply zk2|apply zk3));exact HO_249001.out)) (by decide) hg)
         have n1_:=Aside0.mk (Kd.R_over' (by (with_reducible repeat (first|apply zk1|apply zk2|apply zk3));exact HO_249003.out) (Kd.R_typed (by (with_reducible repeat (first|apply zk1|apply zk2|apply zk3));exact HO_249001.out)) (by decide) hg)
         have n2_:=Aside0.mk (blk_grown (g:=gb238) (o:=.cells #[.bool false,.slice none 0 0,.slice none 0 0,.slice none 0 0] 27 (0,0)) (by (with_reducible repeat (first|apply zb1|apply zb2|apply zb3));exact BK238.out) hg (Kd.R_ne HO_249001.out BK238.out (by decide)))
         have n3_:=Aside0.mk (blk_grown (g:=gb248) (o:=.cells #[.bool (t242 == 1),u249001,u249002,u249003] 27 (0,0)) (by (with_reducible repeat (first|apply zb1|apply zb2|apply zb3));exact BK248.out) hg (Kd.R_ne HO_249001.out BK248.out (by decide)))
         have n4_:=Aside0.mk (IsS62.grown (show IsS62 w _ g241 t259 t260 from by repeat (first|(with_reducible first|exact HI241.out|apply IsS62.alloc|apply IsS62.drewN|apply IsS62.drew|apply IsS62.set_0|apply IsS62.set_1|refine IsS62.far ?_ NB241_238.out _|refine IsS62.far ?_ NB241_248.out _)|exact HI241.out)) hg (IsS62.own_ne HI241.out HO_249001.out (by decide)))
         have n5_:=Aside0.mk (hb)
         have n6_:=Aside0.mk (ho)
         clear HO_249002
         clear HO_249003
         clear BK238
         clear BK248
         clear HI241
         clear HB
         clear HO_249001
         have HO_249002:=n0_
         have HO_249003:=n1_
         have BK238:=n2_
         have BK248:=n3_
         have HI241:=n4_
         have HB:=n5_
         have HO263:=n6_
         clear n0_ n1_ n2_ n3_ n4_ n5_ n6_
         clear ho hb hg hat
         obtain ⟨Ao35,co35,eo35⟩:=Kd.R_slice HO263.out
         (first|subst eo35|(injection eo35 with f1_ f2_ f3_;have f4_:=f1_.symm;have f5_:=f3_.symm;clear f1_ f2_ f3_;subst f4_;subst f5_))
         refine hK.out _ _ ⟨(blk_cell BK248.out 0).trans rfl,(blk_cell BK248.out 1).trans rfl,(blk_cell BK248.out 2).trans rfl,(blk_cell BK248.out 3).trans rfl⟩ (fun hHeld=>?_)
         clear hK K
         refine norm_ (a':=?_) ?_ ?_
         rotate_left
         ·show Act.put _ (some 43) _=_
          simp only [Act.put,List.setIfInBounds_toArray,List.set_cons_zero,List.set_cons_succ,i64_w,i32_w]
          rfl
         refine pure_ (i:=8) (N:=some 44) (v:=?_) (a':=?_) #[true,true,true,true,true,true,true,true,true,false] rfl rfl (any_of HT_.out (by kernel_rfl)) (fun _ _ _ h=>h) (Or.inl ⟨by rfl,?_⟩) ?_ ?_
         rotate_left
         ·intro w'
          go_simp
          with_reducible rfl
         rotate_left
         ·simp only [Act.put,List.setIfInBounds_toArray,List.set_cons_zero,List.set_cons_succ,i64_w,i32_w]
          rfl
         refine last_ (i:=9) (N:=none) #[true,true,true,true,true,true,true,true,true,true] rfl rfl (one_of HT_.out (by kernel_rfl)) (by decide) (fun K hK=>?_)
         have hs36:w34.cell? ⟨gb248,1,none⟩=some (u249001):=(blk_cell BK248.out 1).trans rfl
         have hfs36:=blk_frozen BK248.out 1
         have hns36_0:=NB238_248.out
         have hms36_0:=NB248_238.out
         refine skip_ (w1:=?_) (by rfl) rfl ?_ ?_
         rotate_left
         ·go_simp
          rfl
         refine hK.out _ _ ?_
         clear hK K
         refine done_ (done_of HT_.out (by kernel_rfl)) ?_
         try go_wp2
         go_roundg k2
         case measure=>have:=HJ4.out;have:=HK2.out;omega
         case rel=>exact ⟨(IntKind.u64.wrap (x30_2 + 1)),(t259),(t260),(y261),(x249002_2),(x249003_2),(.slice Ao35 y261.length co35),(u249002),(u249003),(by first|(with_reducible rfl)|(simp;done)|(simp [*];done)|rfl|(simp only [not_isEmpty_bne])),H',⟨by have:=HJ4.out;have:=HK2.out;omega⟩,⟨by (with_reducible repeat (first|apply zk1|apply zk2|apply zk3));exact Kd.R_mono (Kd.R_far (p:=⟨gb248,1,none⟩) (Kd.R_types HO263.out BK248.out (by decide)) (fun _ hk=>hk.2) (.slice Ao35 y261.length co35)) (fun _ hk=>trivial)⟩,⟨by (with_reducible repeat (first|apply zk1|apply zk2|apply zk3));exact Kd.R_mono (Kd.R_far (p:=⟨gb248,1,none⟩) (Kd.R_types HO_249002.out BK248.out (by decide)) (fun _ hk=>hk.2) (.slice Ao35 y261.length co35)) (fun _ hk=>trivial)⟩,⟨by (with_reducible repeat (first|apply zk1|apply zk2|apply zk3));exact Kd.R_mono (Kd.R_far (p:=⟨gb248,1,none⟩) (Kd.R_types HO_249003.out BK248.out (by decide)) (fun _ hk=>hk.2) (.slice Ao35 y261.length co35)) (fun _ hk=>trivial)⟩,⟨by (with_reducible repeat (first|apply zb1|apply zb2|apply zb3));refine blk_far ?_ NB238_248.out _;(with_reducible repeat (first|apply zb1|apply zb2|apply zb3));exact BK238.out⟩,⟨by (with_reducible repeat (first|apply zb1|apply zb2|apply zb3));refine blk_put (cs:=#[.bool (t242 == 1),u249001,u249002,u249003]) ?_ 1 _ rfl;(with_reducible repeat (first|apply zb1|apply zb2|apply zb3));exact BK248.out⟩,⟨by repeat (first|(with_reducible first|exact HI241.out|apply IsS62.alloc|apply IsS62.drewN|apply IsS62.drew|apply IsS62.set_0|apply IsS62.set_1|refine IsS62.far ?_ NB241_238.out _|refine IsS62.far ?_ NB241_248.out _)|exact HI241.out)⟩,⟨by repeat (first|(with_reducible first|exact HB.out|apply zl1|apply zl2|apply zl3|refine below_set ?_ (IsS62.ge HI241.out)|refine below_set ?_ GE238.out|refine below_set ?_ GE248.out)|exact HB.out)⟩⟩
       ·rw [if_neg c27] at H
        exact absurd H (by simp)
      ·rw [if_neg c25] at H
       have c25b0:(t242 == 1)=false:=by simpa using c25
       (try (have c25b1:decide (t242=1)=false:=by simpa using c25))
       (try (have c25b2:(t242 == 1)=false:=by simpa using c25))
       (try (have c25b3:¬ (t242=1):=by simpa using c25))
       clear c25
       by_cases c37:x249002_2.length < 8796093022208
       ·rw [if_pos c37] at H
        have LMc37:=Aside0.mk c37
        clear c37
        obtain ⟨y264,hy264⟩:∃ y_:List ByteArray,y_=(x249002_2 ++ [t255]):=⟨_,rfl⟩
        replace H:((pack_Reader_Num.f t256 t257 2).bind fun bt267=>(if x249003_2.length < 17592186044416 then (node_Read.l0 k2 a0 t242 t245 (IntKind.u64.wrap (x30_2 + 1)) bt267.2.1 bt267.2.2 (t242 == 1) x249001_2 y264 (x249003_2 ++ [wrap64 (bt267.1)])) else (none)))=some (r1,r2,r3,r4,r5):=by first|(rw [hy264];with_reducible exact H)|(have H2_:=(Option.bind_some _ _).symm.trans H;rw [hy264];with_reducible exact H2_)|(have H2_:=(Option.bind_some _ _).symm.trans H;with_reducible exact H2_)|with_reducible exact H|(rw [hy264];exact H)|exact H
        have Ny264:=Aside0.mk hy264
        clear hy264
        replace H:=Option.bind_eq_some_iff.mp H
        obtain ⟨⟨t267,t268,t269⟩,A380,H⟩:=H
        replace H:(if x249003_2.length < 17592186044416 then (node_Read.l0 k2 a0 t242 t245 (IntKind.u64.wrap (x30_2 + 1)) t268 t269 (t242 == 1) x249001_2 y264 (x249003_2 ++ [wrap64 (t267)])) else (none))=some (r1,r2,r3,r4,r5):=H
        have A38:=Aside0.mk A380
        clear A380
        by_cases c39:x249003_2.length < 17592186044416
        ·rw [if_pos c39] at H
         have LMc39:=Aside0.mk c39
         clear c39
         obtain ⟨y270,hy270⟩:∃ y_:List Int,y_=(x249003_2 ++ [wrap64 (t267)]):=⟨_,rfl⟩
         replace H:(node_Read.l0 k2 a0 t242 t245 (IntKind.u64.wrap (x30_2 + 1)) t268 t269 (t242 == 1) x249001_2 y264 y270)=some (r1,r2,r3,r4,r5):=by first|(rw [hy270];with_reducible exact H)|(have H2_:=(Option.bind_some _ _).symm.trans H;rw [hy270];with_reducible exact H2_)|(have H2_:=(Option.bind_some _ _).symm.trans H;with_reducible exact H2_)|with_reducible exact H|(rw [hy270];exact H)|exact H
         have Ny270:=Aside0.mk hy270
         clear hy270
         as_aux_lemma =>
          have H':=Aside0.mk H
          clear H
          try go_wp2_with (first|((with_reducible refine gate_callee (f:=14) rfl ?_);refine goesL_ (some 33) rfl rfl Tryd.func14 (by kernel_rfl) rfl #[.pointer (some ⟨g241,0,none⟩),.int .i64 32] rfl (by (try simp only [List.map_toArray,List.map_cons,List.map_nil]);first|done|rfl|(simp only [List.length_drop,List.length_take];rfl)|(simp (disch:=omega) only [u64_in];rfl)) ?_;(with_reducible refine (pack_Reader_Str.calls g241 x242000_2 x242001_2 32 t255 t256 t257 w _ ?side1 ?side2 A24.out).mono ?_);(case side1=>repeat (first|(with_reducible first|exact HI241.out|apply IsS62.alloc|apply IsS62.drewN|apply IsS62.drew|apply IsS62.set_0|apply IsS62.set_1|refine IsS62.far ?_ NB241_238.out _|refine IsS62.far ?_ NB241_248.out _)|exact HI241.out));(case side2=>repeat (first|(with_reducible first|exact HB.out|apply zl1|apply zl2|apply zl3|refine below_set ?_ (IsS62.ge HI241.out)|refine below_set ?_ GE238.out|refine below_set ?_ GE248.out)|exact HB.out));rintro e w40 ⟨rfl,hi,hb,hk⟩;refine ⟨_,rfl,?_⟩;replace HO_249001:=Aside0.mk (Kd.R_mono (Kd.R_keep (IsS62.apart (show IsS62 w _ g241 x242000_2 x242001_2 from by repeat (first|(with_reducible first|exact HI241.out|apply IsS62.alloc|apply IsS62.drewN|apply IsS62.drew|apply IsS62.set_0|apply IsS62.set_1|refine IsS62.far ?_ NB241_238.out _|refine IsS62.far ?_ NB241_248.out _)|exact HI241.out)) (by (with_reducible repeat (first|apply zk1|apply zk2|apply zk3));exact HO_249001.out) (by decide)) hk (fun _ h=>h.2)) (fun _ h=>h.1));replace HO_249002:=Aside0.mk (Kd.R_mono (Kd.R_keep (IsS62.apart (show IsS62 w _ g241 x242000_2 x242001_2 from by repeat (first|(with_reducible first|exact HI241.out|apply IsS62.alloc|apply IsS62.drewN|apply IsS62.drew|apply IsS62.set_0|apply IsS62.set_1|refine IsS62.far ?_ NB241_238.out _|refine IsS62.far ?_ NB241_248.out _)|exact HI241.out)) (by (with_reducible repeat (first|apply zk1|apply zk2|apply zk3));exact HO_249002.out) (by decide)) hk (fun _ h=>h.2)) (fun _ h=>h.1));replace HO_249003:=Aside0.mk (Kd.R_mono (Kd.R_keep (IsS62.apart (show IsS62 w _ g241 x242000_2 x242001_2 from by repeat (first|(with_reducible first|exact HI241.out|apply IsS62.alloc|apply IsS62.drewN|apply IsS62.drew|apply IsS62.set_0|apply IsS62.set_1|refine IsS62.far ?_ NB241_238.out _|refine IsS62.far ?_ NB241_248.out _)|exact HI241.out)) (by (with_reducible repeat (first|apply zk1|apply zk2|apply zk3));exact HO_249003.out) (by decide)) hk (fun _ h=>h.2)) (fun _ h=>h.1));replace BK238:=Aside0.mk (KeepBut.blk hk (g':=gb238) (o:=.cells #[.bool false,.slice none 0 0,.slice none 0 0,.slice none 0 0] 27 (0,0)) (by (with_reducible repeat (first|apply zb1|apply zb2|apply zb3));exact BK238.out) NB238_241.out (by simp));replace BK248:=Aside0.mk (KeepBut.blk hk (g':=gb248) (o:=.cells #[.bool (t242 == 1),u249001,u249002,u249003] 27 (0,0)) (by (with_reducible repeat (first|apply zb1|apply zb2|apply zb3));exact BK248.out) NB248_241.out (by simp));replace HB:=Aside0.mk (hb);replace HI241:=Aside0.mk (hi);(try clear hb);(try clear hk);(try clear hi);have hnb41:=NB248_238.out;have hnc41:=NB238_248.out;have hnb42:=NB248_241.out;have hnc42:=NB241_248.out;have hcz43_0:w40.cell? ⟨gb248,0,none⟩=some (.bool (t242 == 1)):=(blk_cell BK248.out 0).trans rfl;have hcz43_1:w40.cell? ⟨gb248,1,none⟩=some (u249001):=(blk_cell BK248.out 1).trans rfl;have hcz43_2:w40.cell? ⟨gb248,2,none⟩=some (u249002):=(blk_cell BK248.out 2).trans rfl;have hcz43_3:w40.cell? ⟨gb248,3,none⟩=some (u249003):=(blk_cell BK248.out 3).trans rfl;have hfz43_0:=blk_frozen BK248.out 0;have hfz43_1:=blk_frozen BK248.out 1;have hfz43_2:=blk_frozen BK248.out 2;have hfz43_3:=blk_frozen BK248.out 3)|((with_reducible refine gate_builtin (b:=.append) (xs:=#[.tmp 46,.tmp 48]) rfl ?_);(try (refine gate_guard (by rfl) ?_;dsimp only));at_builtin;refine Kd.R_append Kd.string (w0:=w) w.heap.size rfl (.tmp 46) (.tmp 48) 24 9 (.string ⟨#[]⟩) 16 rfl Tryd.underlying24 info9 rfl (by decide) (by omega) u249002 x249002_2 t255 [.string t255] (fun _=>True) (fun _=>False) rfl rfl ?aP (fun _ hk=>hk.elim) ?aF ?aO ?aB ?aS ?aL ?_;(case aP=>exact rfl);(case aB=>exact (by repeat (first|(with_reducible first|exact HB.out|apply zl1|apply zl2|apply zl3|refine below_set ?_ (IsS62.ge HI241.out)|refine below_set ?_ GE238.out|refine below_set ?_ GE248.out)|exact HB.out)));(case aF=>exact (fun _ _=>trivial));(case aO=>exact (by (with_reducible repeat (first|apply zk1|apply zk2|apply zk3));exact HO_249002.out));(case aS=>exact (below_size (by repeat (first|(with_reducible first|exact HB.out|apply zl1|apply zl2|apply zl3|refine below_set ?_ (IsS62.ge HI241.out)|refine below_set ?_ GE238.out|refine below_set ?_ GE248.out)|exact HB.out))));(case aL=>have:=LMc37.out;omega);intro v265 w44 ho hb hg hat;rw [← Ny264.out] at ho;have n0_:=Aside0.mk (Kd.R_over' (by (with_reducible repeat (first|apply zk1|apply zk2|apply zk3));exact HO_249001.out) (Kd.R_typed (by (with_reducible repeat (first|apply zk1|apply zk2|apply zk3));exact HO_249002.out)) (by decide) hg);have n1_:=Aside0.mk (Kd.R_over' (by (with_reducible repeat (first|apply zk1|apply zk2|apply zk3));exact HO_249003.out) (Kd.R_typed (by (with_reducible repeat (first|apply zk1|apply zk2|apply zk3));exact HO_249002.out)) (by decide) hg);have n2_:=Aside0.mk (blk_grown (g:=gb238) (o:=.cells #[.bool false,.slice none 0 0,.slice none 0 0,.slice none 0 0] 27 (0,0)) (by (with_reducible repeat (first|apply zb1|apply zb2|apply zb3));exact BK238.out) hg (Kd.R_ne HO_249002.out BK238.out (by decide)));have n3_:=Aside0.mk (blk_grown (g:=gb248) (o:=.cells #[.bool (t242 == 1),u249001,u249002,u249003] 27 (0,0)) (by (with_reducible repeat (first|apply zb1|apply zb2|apply zb3));exact BK248.out) hg (Kd.R_ne HO_249002.out BK248.out (by decide)));have n4_:=Aside0.mk (IsS62.grown (show IsS62 w _ g241 t256 t257 from by repeat (first|(with_reducible first|exact HI241.out|apply IsS62.alloc|apply IsS62.drewN|apply IsS62.drew|apply IsS62.set_0|apply IsS62.set_1|refine IsS62.far ?_ NB241_238.out _|refine IsS62.far ?_ NB241_248.out _)|exact HI241.out)) hg (IsS62.own_ne HI241.out HO_249002.out (by decide)));have n5_:=Aside0.mk (hb);have n6_:=Aside0.mk (ho);clear HO_249001;clear HO_249003;clear BK238;clear BK248;clear HI241;clear HB;clear HO_249002;have HO_249001:=n0_;have HO_249003:=n1_;have BK238:=n2_;have BK248:=n3_;have HI241:=n4_;have HB:=n5_;have HO266:=n6_;clear n0_ n1_ n2_ n3_ n4_ n5_ n6_;clear ho hb hg hat;obtain ⟨Ao45,co45,eo45⟩:=Kd.R_slice HO266.out;subst eo45;have hcz46_0:w44.cell? ⟨gb248,0,none⟩=some (.bool (t242 == 1)):=(blk_cell BK248.out 0).trans rfl;have hcz46_1:w44.cell? ⟨gb248,1,none⟩=some (u249001):=(blk_cell BK248.out 1).trans rfl;have hcz46_2:w44.cell? ⟨gb248,2,none⟩=some (u249002):=(blk_cell BK248.out 2).trans rfl;have hcz46_3:w44.cell? ⟨gb248,3,none⟩=some (u249003):=(blk_cell BK248.out 3).trans rfl;have hfz46_0:=blk_frozen BK248.out 0;have hfz46_1:=blk_frozen BK248.out 1;have hfz46_2:=blk_frozen BK248.out 2;have hfz46_3:=blk_frozen BK248.out 3))
          have n0_:Aside0 (Kd.R k44 44 (w44.setCell ⟨gb248,2,none⟩ (.slice Ao45 y264.length co45)) w.heap.size (fun _=>True) u249001 x249001_2):=⟨by (with_reducible repeat (first|apply zk1|apply zk2|apply zk3));exact Kd.R_mono (Kd.R_far (p:=⟨gb248,2,none⟩) (Kd.R_types HO_249001.out BK248.out (by decide)) (fun _ hk=>hk.2) (.slice Ao45 y264.length co45)) (fun _ hk=>trivial)⟩
          have n1_:Aside0 (Kd.R (Kd.int .i64) 3 (w44.setCell ⟨gb248,2,none⟩ (.slice Ao45 y264.length co45)) w.heap.size (fun _=>True) u249003 x249003_2):=⟨by (with_reducible repeat (first|apply zk1|apply zk2|apply zk3));exact Kd.R_mono (Kd.R_far (p:=⟨gb248,2,none⟩) (Kd.R_types HO_249003.out BK248.out (by decide)) (fun _ hk=>hk.2) (.slice Ao45 y264.length co45)) (fun _ hk=>trivial)⟩
          have n2_:Aside0 (Kd.R Kd.string 9 (w44.setCell ⟨gb248,2,none⟩ (.slice Ao45 y264.length co45)) w.heap.size (fun _=>True) (.slice Ao45 y264.length co45) y264):=⟨by (with_reducible repeat (first|apply zk1|apply zk2|apply zk3));exact Kd.R_mono (Kd.R_far (p:=⟨gb248,2,none⟩) (Kd.R_types HO266.out BK248.out (by decide)) (fun _ hk=>hk.2) (.slice Ao45 y264.length co45)) (fun _ hk=>trivial)⟩
          have n3_:Aside0 ((w44.setCell ⟨gb248,2,none⟩ (.slice Ao45 y264.length co45)).heap[gb238]?=some (.cells #[.bool false,.slice none 0 0,.slice none 0 0,.slice none 0 0] 27 (0,0))):=⟨by (with_reducible repeat (first|apply zb1|apply zb2|apply zb3));refine blk_far ?_ NB238_248.out _;(with_reducible repeat (first|apply zb1|apply zb2|apply zb3));exact BK238.out⟩
          have n4_:Aside0 ((w44.setCell ⟨gb248,2,none⟩ (.slice Ao45 y264.length co45)).heap[gb248]?=some (.cells #[.bool (t242 == 1),u249001,.slice Ao45 y264.length co45,u249003] 27 (0,0))):=⟨by (with_reducible repeat (first|apply zb1|apply zb2|apply zb3));refine blk_put (cs:=#[.bool (t242 == 1),u249001,u249002,u249003]) ?_ 2 _ rfl;(with_reducible repeat (first|apply zb1|apply zb2|apply zb3));exact BK248.out⟩
          have n5_:Aside0 (IsS62 w (w44.setCell ⟨gb248,2,none⟩ (.slice Ao45 y264.length co45)) g241 t256 t257):=⟨by repeat (first|(with_reducible first|exact HI241.out|apply IsS62.alloc|apply IsS62.drewN|apply IsS62.drew|apply IsS62.set_0|apply IsS62.set_1|refine IsS62.far ?_ NB241_238.out _|refine IsS62.far ?_ NB241_248.out _)|exact HI241.out)⟩
          have n6_:Aside0 (Below w.heap.size w (w44.setCell ⟨gb248,2,none⟩ (.slice Ao45 y264.length co45))):=⟨by repeat (first|(with_reducible first|exact HB.out|apply zl1|apply zl2|apply zl3|refine below_set ?_ (IsS62.ge HI241.out)|refine below_set ?_ GE238.out|refine below_set ?_ GE248.out)|exact HB.out)⟩
          (try clear HO_249001)
          (try clear HO_249003)
          (try clear HO266)
          (try clear BK238)
          (try clear BK248)
          (try clear HI241)
          (try clear HB)
          generalize (w44.setCell ⟨gb248,2,none⟩ (.slice Ao45 y264.length co45))=w47 at n0_ n1_ n2_ n3_ n4_ n5_ n6_ ⊢
          have HO_249001:=n0_
          have HO_249003:=n1_
          have HO266:=n2_
          have BK238:=n3_
          have BK248:=n4_
          have HI241:=n5_
          have HB:=n6_
          clear n0_ n1_ n2_ n3_ n4_ n5_ n6_
          replace HO_249001:=Aside0.mk (Kd.R_drew HO_249001.out)
          replace HO_249003:=Aside0.mk (Kd.R_drew HO_249003.out)
          replace HO266:=Aside0.mk (Kd.R_drew HO266.out)
          replace BK238:=Aside0.mk (blk_drew BK238.out)
          replace BK248:=Aside0.mk (blk_drew BK248.out)
          replace HI241:=Aside0.mk (IsS62.drew HI241.out)
          replace HB:=Aside0.mk (below_drew1 HB.out)
          refine start_ (n:=9) (S:=fun w'=>w'.cell? ⟨gb248,0,none⟩=some (.bool (t242 == 1))∧w'.cell? ⟨gb248,1,none⟩=some (u249001)∧w'.cell? ⟨gb248,2,none⟩=some (.slice Ao45 y264.length co45)∧w'.cell? ⟨gb248,3,none⟩=some (u249003)) (ds:=[8]) #[false,false,false,false,false,false,false,false,false] (by kernel_rfl) rfl rfl ⟨(blk_cell BK248.out 0).trans rfl,(blk_cell BK248.out 1).trans rfl,(blk_cell BK248.out 2).trans rfl,(blk_cell BK248.out 3).trans rfl⟩ (fun hHeld=>?_);refine with_tabW node_Read.tab12 node_Read.bits12 (fun HT_ HW_=>?_)
          generalize w47.drew=w48 at HO_249001 HO_249003 HO266 BK238 BK248 HI241 HB hHeld ⊢
          refine pure_ (i:=0) (N:=some 51) (v:=?_) (a':=?_) #[true,false,false,false,false,false,false,false,false] rfl rfl (any_of HT_.out (by kernel_rfl)) (fun _ _ _ h=>h) (Or.inl ⟨by rfl,?_⟩) ?_ ?_
          rotate_left
          ·intro w'
           go_simp
           with_reducible rfl
          rotate_left
          ·simp only [Act.put,List.setIfInBounds_toArray,List.set_cons_zero,List.set_cons_succ,i64_w,i32_w]
           rfl
          refine pure_ (i:=2) (N:=some 53) (v:=?_) (a':=?_) #[true,false,true,false,false,false,false,false,false] rfl rfl (any_of HT_.out (by kernel_rfl)) (fun _ _ _ h=>h) (Or.inl ⟨by rfl,?_⟩) ?_ ?_
          rotate_left
          ·intro w'
           go_simp
           with_reducible rfl
          rotate_left
          ·simp only [Act.put,List.setIfInBounds_toArray,List.set_cons_zero,List.set_cons_succ,i64_w,i32_w]
           rfl
          refine take_ (i:=1) (N:=some 52) (v:=?_) (a':=?_) #[true,true,true,false,false,false,false,false,false] rfl rfl (take_ofW HT_.out HW_.out (by kernel_rfl)) (fun _ _ _ h=>h) (Or.inl ⟨by rfl,?_⟩) hHeld ?_ ?_
          rotate_left
          ·rintro w' ⟨s0,s1,s2,s3⟩
           go_simp
           with_reducible rfl
          rotate_left
          ·simp only [Act.put,List.setIfInBounds_toArray,List.set_cons_zero,List.set_cons_succ,i64_w,i32_w]
           rfl
          refine one_ (i:=3) (N:=some 54) #[true,true,true,true,false,false,false,false,false] rfl rfl (one_of HT_.out (by kernel_rfl)) (by decide) (fun K hK=>?_)
          refine goes_ Tryd.func13 (by kernel_rfl) rfl #[.pointer (some ⟨g241,0,none⟩),.int .i64 2] (by rfl) rfl rfl (by (try simp only [List.map_toArray,List.map_cons,List.map_nil]);first|done|rfl|(simp only [List.length_drop,List.length_take];rfl)|(simp (disch:=omega) only [u64_in];rfl)) ?_
          with_reducible refine (pack_Reader_Num.calls g241 t256 t257 2 t267 t268 t269 w _ ?side1 ?side2 A38.out).mono ?_
          (case side1=>repeat (first|(with_reducible first|exact HI241.out|apply IsS62.alloc|apply IsS62.drewN|apply IsS62.drew|apply IsS62.set_0|apply IsS62.set_1|refine IsS62.far ?_ NB241_238.out _|refine IsS62.far ?_ NB241_248.out _)|exact HI241.out))
          (case side2=>repeat (first|(with_reducible first|exact HB.out|apply zl1|apply zl2|apply zl3|refine below_set ?_ (IsS62.ge HI241.out)|refine below_set ?_ GE238.out|refine below_set ?_ GE248.out)|exact HB.out))
          rintro e w49 ⟨rfl,hi,hb,hk⟩
          refine ⟨_,rfl,?_⟩
          replace HO_249001:=Aside0.mk (Kd.R_mono (Kd.R_keep (IsS62.apart (show IsS62 w _ g241 t256 t257 from by repeat (first|(with_reducible first|exact HI241.out|apply IsS62.alloc|apply IsS62.drewN|apply IsS62.drew|apply IsS62.set_0|apply IsS62.set_1|refine IsS62.far ?_ NB241_238.out _|refine IsS62.far ?_ NB241_248.out _)|exact HI241.out)) (by (with_reducible repeat (first|apply zk1|apply zk2|apply zk3));exact HO_249001.out) (by decide)) hk (fun _ h=>h.2)) (fun _ h=>h.1))
          replace HO_249003:=Aside0.mk (Kd.R_mono (Kd.R_keep (IsS62.apart (show IsS62 w _ g241 t256 t257 from by repeat (first|(with_reducible first|exact HI241.out|apply IsS62.alloc|apply IsS62.drewN|apply IsS62.drew|apply IsS62.set_0|apply IsS62.set_1|refine IsS62.far ?_ NB241_238.out _|refine IsS62.far ?_ NB241_248.out _)|exact HI241.out)) (by (with_reducible repeat (first|apply zk1|apply zk2|apply zk3));exact HO_249003.out) (by decide)) hk (fun _ h=>h.2)) (fun _ h=>h.1))
          replace BK238:=Aside0.mk (KeepBut.blk hk (g':=gb238) (o:=.cells #[.bool false,.slice none 0 0,.slice none 0 0,.slice none 0 0] 27 (0,0)) (by (with_reducible repeat (first|apply zb1|apply zb2|apply zb3));exact BK238.out) NB238_241.out (by simp))
          replace BK248:=Aside0.mk (KeepBut.blk hk (g':=gb248) (o:=.cells #[.bool (t242 == 1),u249001,.slice Ao45 y264.length co45,u249003] 27 (0,0)) (by (with_reducible repeat (first|apply zb1|apply zb2|apply zb3));exact BK248.out) NB248_241.out (by simp))
          replace HO266:=Aside0.mk (Kd.R_mono (Kd.R_keep (IsS62.apart (show IsS62 w _ g241 t256 t257 from by repeat (first|(with_reducible first|exact HI241.out|apply IsS62.alloc|apply IsS62.drewN|apply IsS62.drew|apply IsS62.set_0|apply IsS62.set_1|refine IsS62.far ?_ NB241_238.out _|refine IsS62.far ?_ NB241_248.out _)|exact HI241.out)) (by (with_reducible repeat (first|apply zk1|apply zk2|apply zk3));exact HO266.out) (by decide)) hk (fun _ h=>h.2)) (fun _ h=>h.1))
          replace HB:=Aside0.mk (hb)
          replace HI241:=Aside0.mk (hi)
          (try clear hb)
          (try clear hb2)
          (try clear hk)
          (try clear hi)
          refine hK.out _ _ ⟨(blk_cell BK248.out 0).trans rfl,(blk_cell BK248.out 1).trans rfl,(blk_cell BK248.out 2).trans rfl,(blk_cell BK248.out 3).trans rfl⟩ (fun hHeld=>?_)
          clear hK K
          refine norm_ (a':=?_) ?_ ?_
          rotate_left
          ·show Act.put _ (some 54) _=_
           simp only [Act.put,List.setIfInBounds_toArray,List.set_cons_zero,List.set_cons_succ,i64_w,i32_w]
           rfl
          refine pure_ (i:=4) (N:=some 55) (v:=?_) (a':=?_) #[true,true,true,true,true,false,false,false,false] rfl rfl (any_of HT_.out (by kernel_rfl)) (fun _ _ _ h=>h) (Or.inl ⟨by rfl,?_⟩) ?_ ?_
          rotate_left
          ·intro w'
           go_simp
           with_reducible rfl
          rotate_left
          ·simp only [Act.put,List.setIfInBounds_toArray,List.set_cons_zero,List.set_cons_succ,i64_w,i32_w]
           rfl
          refine one_ (i:=5) (N:=some 56) #[true,true,true,true,true,true,false,false,false] rfl rfl (one_of HT_.out (by kernel_rfl)) (by decide) (fun K hK=>?_)
          refine value_ (w1:=?_) (v:=?_) (by rfl) rfl ?_ ?_
          rotate_left 2
          ·go_simp
           constructor
           ·rfl
           ·rfl
          refine hK.out _ _ ⟨(blk_cell (blk_alloc BK248.out _) 0).trans rfl,(blk_cell (blk_alloc BK248.out _) 1).trans rfl,(blk_cell (blk_alloc BK248.out _) 2).trans rfl,(blk_cell (blk_alloc BK248.out _) 3).trans rfl⟩ (fun hHeld=>?_)
          clear hK K
          refine norm_ (a':=?_) ?_ ?_
          rotate_left
          ·show Act.put _ (some 56) _=_
           simp only [Act.put,List.setIfInBounds_toArray,List.set_cons_zero,List.set_cons_succ,i64_w,i32_w]
           rfl
          refine one_ (i:=6) (N:=some 57) #[true,true,true,true,true,true,true,false,false] rfl rfl (one_of HT_.out (by kernel_rfl)) (by decide) (fun K hK=>?_)
          refine Kd.R_append_step (Kd.int .i64) (w0:=w) w.heap.size (by rfl) (.tmp 52) (.tmp 56) 25 3 (.int .i64 0) 8 rfl Tryd.underlying25 info3 rfl (by decide) (by omega) u249003 x249003_2 (wrap64 (t267)) [.int .i64 (wrap64 (t267))] (fun _=>True) (fun _=>False) rfl rfl ?aP (fun _ hk=>hk.elim) ?aF ?aO ?aB ?aS ?aL ?_
          (case aP=>exact rfl)
          (case aB=>exact (by repeat (first|(with_reducible first|exact HB.out|apply zl1|apply zl2|apply zl3|refine below_set ?_ (IsS62.ge HI241.out)|refine below_set ?_ GE238.out|refine below_set ?_ GE248.out)|exact HB.out)))
          (case aF=>exact (fun _ _=>trivial))
          (case aO=>exact (by (with_reducible repeat (first|apply zk1|apply zk2|apply zk3));exact HO_249003.out))
          (case aS=>exact (below_size (by repeat (first|(with_reducible first|exact HB.out|apply zl1|apply zl2|apply zl3|refine below_set ?_ (IsS62.ge HI241.out)|refine below_set ?_ GE238.out|refine below_set ?_ GE248.out)|exact HB.out))))
          (case aL=>have:=LMc39.out;omega)
          intro v271 w50 ho hb hg hat
          rw [← Ny270.out] at ho
          have n0_:=Aside0.mk (Kd.R_over' (by (with_reducible repeat (first|apply zk1|apply zk2|apply zk3));exact HO_249001.out) (Kd.R_typed (by (with_reducible repeat (first|apply zk1|apply zk2|apply zk3));exact HO_249003.out)) (by decide) hg)
          have n1_:=Aside0.mk (blk_grown (g:=gb238) (o:=.cells #[.bool false,.slice none 0 0,.slice none 0 0,.slice none 0 0] 27 (0,0)) (by (with_reducible repeat (first|apply zb1|apply zb2|apply zb3));exact BK238.out) hg (Kd.R_ne HO_249003.out BK238.out (by decide)))
          have n2_:=Aside0.mk (blk_grown (g:=gb248) (o:=.cells #[.bool (t242 == 1),u249001,.slice Ao45 y264.length co45,u249003] 27 (0,0)) (by (with_reducible repeat (first|apply zb1|apply zb2|apply zb3));exact BK248.out) hg (Kd.R_ne HO_249003.out BK248.out (by decide)))
          have n3_:=Aside0.mk (IsS62.grown (show IsS62 w _ g241 t268 t269 from by repeat (first|(with_reducible first|exact HI241.out|apply IsS62.alloc|apply IsS62.drewN|apply IsS62.drew|apply IsS62.set_0|apply IsS62.set_1|refine IsS62.far ?_ NB241_238.out _|refine IsS62.far ?_ NB241_248.out _)|exact HI241.out)) hg (IsS62.own_ne HI241.out HO_249003.out (by decide)))
          have n4_:=Aside0.mk (Kd.R_over' (by (with_reducible repeat (first|apply zk1|apply zk2|apply zk3));exact HO266.out) (Kd.R_typed (by (with_reducible repeat (first|apply zk1|apply zk2|apply zk3));exact HO_249003.out)) (by decide) hg)
          have n5_:=Aside0.mk (hb)
          have n6_:=Aside0.mk (ho)
          clear HO_249001
          clear BK238
          clear BK248
          clear HI241
          clear HO266
          clear HB
          clear HO_249003
          have HO_249001:=n0_
          have BK238:=n1_
          have BK248:=n2_
          have HI241:=n3_
          have HO266:=n4_
          have HB:=n5_
          have HO272:=n6_
          clear n0_ n1_ n2_ n3_ n4_ n5_ n6_
          clear ho hb hg hat
          obtain ⟨Ao51,co51,eo51⟩:=Kd.R_slice HO272.out
          (first|subst eo51|(injection eo51 with f1_ f2_ f3_;have f4_:=f1_.symm;have f5_:=f3_.symm;clear f1_ f2_ f3_;subst f4_;subst f5_))
          refine hK.out _ _ ⟨(blk_cell BK248.out 0).trans rfl,(blk_cell BK248.out 1).trans rfl,(blk_cell BK248.out 2).trans rfl,(blk_cell BK248.out 3).trans rfl⟩ (fun hHeld=>?_)
          clear hK K
          refine norm_ (a':=?_) ?_ ?_
          rotate_left
          ·show Act.put _ (some 57) _=_
           simp only [Act.put,List.setIfInBounds_toArray,List.set_cons_zero,List.set_cons_succ,i64_w,i32_w]
           rfl
          refine pure_ (i:=7) (N:=some 58) (v:=?_) (a':=?_) #[true,true,true,true,true,true,true,true,false] rfl rfl (any_of HT_.out (by kernel_rfl)) (fun _ _ _ h=>h) (Or.inl ⟨by rfl,?_⟩) ?_ ?_
          rotate_left
          ·intro w'
           go_simp
           with_reducible rfl
          rotate_left
          ·simp only [Act.put,List.setIfInBounds_toArray,List.set_cons_zero,List.set_cons_succ,i64_w,i32_w]
           rfl
          refine last_ (i:=8) (N:=none) #[true,true,true,true,true,true,true,true,true] rfl rfl (one_of HT_.out (by kernel_rfl)) (by decide) (fun K hK=>?_)
          have hs52:w50.cell? ⟨gb248,3,none⟩=some (u249003):=(blk_cell BK248.out 3).trans rfl
          have hfs52:=blk_frozen BK248.out 3
          have hns52_0:=NB238_248.out
          have hms52_0:=NB248_238.out
          refine skip_ (w1:=?_) (by rfl) rfl ?_ ?_
          rotate_left
          ·go_simp
           rfl
          refine hK.out _ _ ?_
          clear hK K
          refine done_ (done_of HT_.out (by kernel_rfl)) ?_
          try go_wp2
          go_roundg k2
          case measure=>have:=HJ4.out;have:=HK2.out;omega
          case rel=>exact ⟨(IntKind.u64.wrap (x30_2 + 1)),(t268),(t269),(x249001_2),(y264),(y270),(u249001),(.slice Ao45 y264.length co45),(.slice Ao51 y270.length co51),(by first|(with_reducible rfl)|(simp;done)|(simp [*];done)|rfl|(simp only [not_isEmpty_bne])),H',⟨by have:=HJ4.out;have:=HK2.out;omega⟩,⟨by (with_reducible repeat (first|apply zk1|apply zk2|apply zk3));exact Kd.R_mono (Kd.R_far (p:=⟨gb248,3,none⟩) (Kd.R_types HO_249001.out BK248.out (by decide)) (fun _ hk=>hk.2) (.slice Ao51 y270.length co51)) (fun _ hk=>trivial)⟩,⟨by (with_reducible repeat (first|apply zk1|apply zk2|apply zk3));exact Kd.R_mono (Kd.R_far (p:=⟨gb248,3,none⟩) (Kd.R_types HO266.out BK248.out (by decide)) (fun _ hk=>hk.2) (.slice Ao51 y270.length co51)) (fun _ hk=>trivial)⟩,⟨by (with_reducible repeat (first|apply zk1|apply zk2|apply zk3));exact Kd.R_mono (Kd.R_far (p:=⟨gb248,3,none⟩) (Kd.R_types HO272.out BK248.out (by decide)) (fun _ hk=>hk.2) (.slice Ao51 y270.length co51)) (fun _ hk=>trivial)⟩,⟨by (with_reducible repeat (first|apply zb1|apply zb2|apply zb3));refine blk_far ?_ NB238_248.out _;(with_reducible repeat (first|apply zb1|apply zb2|apply zb3));exact BK238.out⟩,⟨by (with_reducible repeat (first|apply zb1|apply zb2|apply zb3));refine blk_put (cs:=#[.bool (t242 == 1),u249001,.slice Ao45 y264.length co45,u249003]) ?_ 3 _ rfl;(with_reducible repeat (first|apply zb1|apply zb2|apply zb3));exact BK248.out⟩,⟨by repeat (first|(with_reducible first|exact HI241.out|apply IsS62.alloc|apply IsS62.drewN|apply IsS62.drew|apply IsS62.set_0|apply IsS62.set_1|refine IsS62.far ?_ NB241_238.out _|refine IsS62.far ?_ NB241_248.out _)|exact HI241.out)⟩,⟨by repeat (first|(with_reducible first|exact HB.out|apply zl1|apply zl2|apply zl3|refine below_set ?_ (IsS62.ge HI241.out)|refine below_set ?_ GE238.out|refine below_set ?_ GE248.out)|exact HB.out)⟩⟩
        ·rw [if_neg c39] at H
         exact absurd H (by simp)
       ·rw [if_neg c37] at H
        exact absurd H (by simp)
     ·rw [if_neg c23] at H
      have c23b0:decide (x30_2 < t245)=false:=decide_eq_false c23
      clear c23
      replace H:=Option.bind_eq_some_iff.mp H
      obtain ⟨⟨t273,t274,t275⟩,A530,H⟩:=H
      replace H:((pack_Reader_Raw.f t274 t275 t273).bind fun bt276=>(if t242=1 then ((pack_Reader_Err.f bt276.2.1 bt276.2.2).bind fun bt279=>(if bt279.1=0 then (if (a0.size:Int)=256 then ((node_right.f k2 (t242 == 1) x249001_2 x249002_2 x249003_2).bind fun t282=>(if t282=true then ((strings_Trim.f bt276.1 (⟨#[0]⟩:ByteArray)).bind fun t283=>(node_Read.j2 k2 (t283.toList != ([]:List UInt8)) (t242 == 1) x249001_2 x249002_2 x249003_2)) else (node_Read.j2 k2 true (t242 == 1) x249001_2 x249002_2 x249003_2))) else (node_Read.j2 k2 true (t242 == 1) x249001_2 x249002_2 x249003_2)) else (node_Read.j2 k2 true (t242 == 1) x249001_2 x249002_2 x249003_2))) else (if t242=2 then ((pack_Reader_Err.f bt276.2.1 bt276.2.2).bind fun bt284=>(if bt284.1=0 then (if (a0.size:Int)=256 then ((node_right.f k2 (t242 == 1) x249001_2 x249002_2 x249003_2).bind fun t287=>(if t287=true then ((strings_Trim.f bt276.1 (⟨#[0]⟩:ByteArray)).bind fun t288=>(node_Read.j2 k2 (t288.toList != ([]:List UInt8)) (t242 == 1) x249001_2 x249002_2 x249003_2)) else (node_Read.j2 k2 true (t242 == 1) x249001_2 x249002_2 x249003_2))) else (node_Read.j2 k2 true (t242 == 1) x249001_2 x249002_2 x249003_2)) else (node_Read.j2 k2 true (t242 == 1) x249001_2 x249002_2 x249003_2))) else (node_Read.j2 k2 true (t242 == 1) x249001_2 x249002_2 x249003_2))))=some (r1,r2,r3,r4,r5):=H
      have A53:=Aside0.mk A530
      clear A530
      replace H:=Option.bind_eq_some_iff.mp H
      obtain ⟨⟨t276,t277,t278⟩,A540,H⟩:=H
      replace H:(if t242=1 then ((pack_Reader_Err.f t277 t278).bind fun bt279=>(if bt279.1=0 then (if (a0.size:Int)=256 then ((node_right.f k2 (t242 == 1) x249001_2 x249002_2 x249003_2).bind fun t282=>(if t282=true then ((strings_Trim.f t276 (⟨#[0]⟩:ByteArray)).bind fun t283=>(node_Read.j2 k2 (t283.toList != ([]:List UInt8)) (t242 == 1) x249001_2 x249002_2 x249003_2)) else (node_Read.j2 k2 true (t242 == 1) x249001_2 x249002_2 x249003_2))) else (node_Read.j2 k2 true (t242 == 1) x249001_2 x249002_2 x249003_2)) else (node_Read.j2 k2 true (t242 == 1) x249001_2 x249002_2 x249003_2))) else (if t242=2 then ((pack_Reader_Err.f t277 t278).bind fun bt284=>(if bt284.1=0 then (if (a0.size:Int)=256 then ((node_right.f k2 (t242 == 1) x249001_2 x249002_2 x249003_2).bind fun t287=>(if t287=true then ((strings_Trim.f t276 (⟨#[0]⟩:ByteArray)).bind fun t288=>(node_Read.j2 k2 (t288.toList != ([]:List UInt8)) (t242 == 1) x249001_2 x249002_2 x249003_2)) else (node_Read.j2 k2 true (t242 == 1) x249001_2 x249002_2 x249003_2))) else (node_Read.j2 k2 true (t242 == 1) x249001_2 x249002_2 x249003_2)) else (node_Read.j2 k2 true (t242 == 1) x249001_2 x249002_2 x249003_2))) else (node_Read.j2 k2 true (t242 == 1) x249001_2 x249002_2 x249003_2)))=some (r1,r2,r3,r4,r5):=H
      have A54:=Aside0.mk A540
      clear A540
      have HC55:=Aside0.mk H
      clear H
      go_upto_region 15 with (first|((with_reducible refine gate_callee (f:=16) rfl ?_);refine goesL_ (some 62) rfl rfl Tryd.func16 (by kernel_rfl) rfl #[.pointer (some ⟨g241,0,none⟩)] rfl (by (try simp only [List.map_toArray,List.map_cons,List.map_nil]);first|done|rfl|(simp only [List.length_drop,List.length_take];rfl)|(simp (disch:=omega) only [u64_in];rfl)) ?_;(with_reducible refine (pack_Reader_Left.calls g241 x242000_2 x242001_2 t273 t274 t275 w _ ?side1 ?side2 A53.out).mono ?_);(case side1=>repeat (first|(with_reducible first|exact HI241.out|apply IsS62.alloc|apply IsS62.drewN|apply IsS62.drew|apply IsS62.set_0|apply IsS62.set_1|refine IsS62.far ?_ NB241_238.out _|refine IsS62.far ?_ NB241_248.out _)|exact HI241.out));(case side2=>repeat (first|(with_reducible first|exact HB.out|apply zl1|apply zl2|apply zl3|refine below_set ?_ (IsS62.ge HI241.out)|refine below_set ?_ GE238.out|refine below_set ?_ GE248.out)|exact HB.out));rintro e w56 ⟨rfl,hi,hb,hk⟩;refine ⟨_,rfl,?_⟩;replace HO_249001:=Aside0.mk (Kd.R_mono (Kd.R_keep (IsS62.apart (show IsS62 w _ g241 x242000_2 x242001_2 from by repeat (first|(with_reducible first|exact HI241.out|apply IsS62.alloc|apply IsS62.drewN|apply IsS62.drew|apply IsS62.set_0|apply IsS62.set_1|refine IsS62.far ?_ NB241_238.out _|refine IsS62.far ?_ NB241_248.out _)|exact HI241.out)) (by (with_reducible repeat (first|apply zk1|apply zk2|apply zk3));exact HO_249001.out) (by decide)) hk (fun _ h=>h.2)) (fun _ h=>h.1));replace HO_249002:=Aside0.mk (Kd.R_mono (Kd.R_keep (IsS62.apart (show IsS62 w _ g241 x242000_2 x242001_2 from by repeat (first|(with_reducible first|exact HI241.out|apply IsS62.alloc|apply IsS62.drewN|apply IsS62.drew|apply IsS62.set_0|apply IsS62.set_1|refine IsS62.far ?_ NB241_238.out _|refine IsS62.far ?_ NB241_248.out _)|exact HI241.out)) (by (with_reducible repeat (first|apply zk1|apply zk2|apply zk3));exact HO_249002.out) (by decide)) hk (fun _ h=>h.2)) (fun _ h=>h.1));replace HO_249003:=Aside0.mk (Kd.R_mono (Kd.R_keep (IsS62.apart (show IsS62 w _ g241 x242000_2 x242001_2 from by repeat (first|(with_reducible first|exact HI241.out|apply IsS62.alloc|apply IsS62.drewN|apply IsS62.drew|apply IsS62.set_0|apply IsS62.set_1|refine IsS62.far ?_ NB241_238.out _|refine IsS62.far ?_ NB241_248.out _)|exact HI241.out)) (by (with_reducible repeat (first|apply zk1|apply zk2|apply zk3));exact HO_249003.out) (by decide)) hk (fun _ h=>h.2)) (fun _ h=>h.1));replace BK238:=Aside0.mk (KeepBut.blk hk (g':=gb238) (o:=.cells #[.bool false,.slice none 0 0,.slice none 0 0,.slice none 0 0] 27 (0,0)) (by (with_reducible repeat (first|apply zb1|apply zb2|apply zb3));exact BK238.out) NB238_241.out (by simp));replace BK248:=Aside0.mk (KeepBut.blk hk (g':=gb248) (o:=.cells #[.bool (t242 == 1),u249001,u249002,u249003] 27 (0,0)) (by (with_reducible repeat (first|apply zb1|apply zb2|apply zb3));exact BK248.out) NB248_241.out (by simp));replace HB:=Aside0.mk (hb);replace HI241:=Aside0.mk (hi);(try clear hb);(try clear hk);(try clear hi))|((with_reducible refine gate_callee (f:=15) rfl ?_);refine goesL_ (some 63) rfl rfl Tryd.func15 (by kernel_rfl) rfl #[.pointer (some ⟨g241,0,none⟩),.int .i64 t273] rfl (by (try simp only [List.map_toArray,List.map_cons,List.map_nil]);first|done|rfl|(simp only [List.length_drop,List.length_take];rfl)|(simp (disch:=omega) only [u64_in];rfl)) ?_;(with_reducible refine (pack_Reader_Raw.calls g241 t274 t275 t273 t276 t277 t278 w _ ?side1 ?side2 A54.out).mono ?_);(case side1=>repeat (first|(with_reducible first|exact HI241.out|apply IsS62.alloc|apply IsS62.drewN|apply IsS62.drew|apply IsS62.set_0|apply IsS62.set_1|refine IsS62.far ?_ NB241_238.out _|refine IsS62.far ?_ NB241_248.out _)|exact HI241.out));(case side2=>repeat (first|(with_reducible first|exact HB.out|apply zl1|apply zl2|apply zl3|refine below_set ?_ (IsS62.ge HI241.out)|refine below_set ?_ GE238.out|refine below_set ?_ GE248.out)|exact HB.out));rintro e w57 ⟨rfl,hi,hb,hk⟩;refine ⟨_,rfl,?_⟩;replace HO_249001:=Aside0.mk (Kd.R_mono (Kd.R_keep (IsS62.apart (show IsS62 w _ g241 t274 t275 from by repeat (first|(with_reducible first|exact HI241.out|apply IsS62.alloc|apply IsS62.drewN|apply IsS62.drew|apply IsS62.set_0|apply IsS62.set_1|refine IsS62.far ?_ NB241_238.out _|refine IsS62.far ?_ NB241_248.out _)|exact HI241.out)) (by (with_reducible repeat (first|apply zk1|apply zk2|apply zk3));exact HO_249001.out) (by decide)) hk (fun _ h=>h.2)) (fun _ h=>h.1));replace HO_249002:=Aside0.mk (Kd.R_mono (Kd.R_keep (IsS62.apart (show IsS62 w _ g241 t274 t275 from by repeat (first|(with_reducible first|exact HI241.out|apply IsS62.alloc|apply IsS62.drewN|apply IsS62.drew|apply IsS62.set_0|apply IsS62.set_1|refine IsS62.far ?_ NB241_238.out _|refine IsS62.far ?_ NB241_248.out _)|exact HI241.out)) (by (with_reducible repeat (first|apply zk1|apply zk2|apply zk3));exact HO_249002.out) (by decide)) hk (fun _ h=>h.2)) (fun _ h=>h.1));replace HO_249003:=Aside0.mk (Kd.R_mono (Kd.R_keep (IsS62.apart (show IsS62 w _ g241 t274 t275 from by repeat (first|(with_reducible first|exact HI241.out|apply IsS62.alloc|apply IsS62.drewN|apply IsS62.drew|apply IsS62.set_0|apply IsS62.set_1|refine IsS62.far ?_ NB241_238.out _|refine IsS62.far ?_ NB241_248.out _)|exact HI241.out)) (by (with_reducible repeat (first|apply zk1|apply zk2|apply zk3));exact HO_249003.out) (by decide)) hk (fun _ h=>h.2)) (fun _ h=>h.1));replace BK238:=Aside0.mk (KeepBut.blk hk (g':=gb238) (o:=.cells #[.bool false,.slice none 0 0,.slice none 0 0,.slice none 0 0] 27 (0,0)) (by (with_reducible repeat (first|apply zb1|apply zb2|apply zb3));exact BK238.out) NB238_241.out (by simp));replace BK248:=Aside0.mk (KeepBut.blk hk (g':=gb248) (o:=.cells #[.bool (t242 == 1),u249001,u249002,u249003] 27 (0,0)) (by (with_reducible repeat (first|apply zb1|apply zb2|apply zb3));exact BK248.out) NB248_241.out (by simp));replace HB:=Aside0.mk (hb);replace HI241:=Aside0.mk (hi);(try clear hb);(try clear hk);(try clear hi)))
      (try simp only [Act.put,List.setIfInBounds_toArray,List.set_cons_zero,List.set_cons_succ])
      go_cut [89] (fun v89 wc=>∃ (kq:Nat) (x89_54:Bool),v89=.bool x89_54∧Aside0 (node_Read.j2 kq x89_54 (t242 == 1) x249001_2 x249002_2 x249003_2=some (r1,r2,r3,r4,r5))∧Aside0 (kq≤k2)∧Aside0 (Kd.R k44 44 wc w.heap.size (fun _=>True) u249001 x249001_2)∧Aside0 (Kd.R Kd.string 9 wc w.heap.size (fun _=>True) u249002 x249002_2)∧Aside0 (Kd.R (Kd.int .i64) 3 wc w.heap.size (fun _=>True) u249003 x249003_2)∧Aside0 (wc.heap[gb238]?=some (.cells #[.bool false,(.slice none 0 0),(.slice none 0 0),(.slice none 0 0)] 27 (0,0)))∧Aside0 (wc.heap[gb248]?=some (.cells #[.bool (t242 == 1),u249001,u249002,u249003] 27 (0,0)))∧Aside0 (Below w.heap.size w wc))
      case first =>
       have H:=HC55.out
       clear HC55
       by_cases c58:t242=1
       ·rw [if_pos c58] at H
        have c58b0:(t242 == 1)=true:=beq_iff_eq.mpr c58
        have c58b1:(t242 != 1)=false:=bne_eq_false_iff_eq.mpr c58
        clear c58
        (try rw [c58b0] at H);(try rw [c58b0] at BK248)
        (first|rw [c58b0]|(simp only [i64_w,i32_w];rw [c58b0])|skip)
        replace H:=Option.bind_eq_some_iff.mp H
        obtain ⟨⟨t279,t280,t281⟩,A590,H⟩:=H
        replace H:(if t279=0 then (if (a0.size:Int)=256 then ((node_right.f k2 true x249001_2 x249002_2 x249003_2).bind fun t282=>(if t282=true then ((strings_Trim.f t276 (⟨#[0]⟩:ByteArray)).bind fun t283=>(node_Read.j2 k2 (t283.toList != ([]:List UInt8)) true x249001_2 x249002_2 x249003_2)) else (node_Read.j2 k2 true true x249001_2 x249002_2 x249003_2))) else (node_Read.j2 k2 true true x249001_2 x249002_2 x249003_2)) else (node_Read.j2 k2 true true x249001_2 x249002_2 x249003_2))=some (r1,r2,r3,r4,r5):=H
        have A59:=Aside0.mk A590
        clear A590
        by_cases c60:t279=0
        ·rw [if_pos c60] at H
         have c60b0:(t279 == 0)=true:=beq_iff_eq.mpr c60
         have c60b1:(t279 != 0)=false:=bne_eq_false_iff_eq.mpr c60
         clear c60
         by_cases c61:(a0.size:Int)=256
         ·rw [if_pos c61] at H
          have c61b0:((a0.size:Int) == 256)=true:=beq_iff_eq.mpr c61
          have c61b1:((a0.size:Int) != 256)=false:=bne_eq_false_iff_eq.mpr c61
          clear c61
          replace H:=Option.bind_eq_some_iff.mp H
          obtain ⟨t282,A620,H⟩:=H
          replace H:(if t282=true then ((strings_Trim.f t276 (⟨#[0]⟩:ByteArray)).bind fun t283=>(node_Read.j2 k2 (t283.toList != ([]:List UInt8)) true x249001_2 x249002_2 x249003_2)) else (node_Read.j2 k2 true true x249001_2 x249002_2 x249003_2))=some (r1,r2,r3,r4,r5):=H
          have A62:=Aside0.mk A620
          clear A620
          by_cases c63:t282=true
          ·subst c63
           have H1:((strings_Trim.f t276 (⟨#[0]⟩:ByteArray)).bind fun t283=>(node_Read.j2 k2 (t283.toList != ([]:List UInt8)) true x249001_2 x249002_2 x249003_2))=some (r1,r2,r3,r4,r5):=by rw [if_pos rfl] at H;exact H
           clear H
           have H:=H1
           clear H1
           replace H:=Option.bind_eq_some_iff.mp H
           obtain ⟨t283,A640,H⟩:=H
           replace H:(node_Read.j2 k2 (t283.toList != ([]:List UInt8)) true x249001_2 x249002_2 x249003_2)=some (r1,r2,r3,r4,r5):=H
           have A64:=Aside0.mk A640
           clear A640
           as_aux_lemma =>
            have H':=Aside0.mk H
            clear H
            go_wp2_with (first|(go_at_call 17;(with_reducible refine (pack_Reader_Err.calls g241 t277 t278 t279 t280 t281 w _ ?side1 ?side2 A59.out).mono ?_);(case side1=>repeat (first|(with_reducible first|exact HI241.out|apply IsS62.alloc|apply IsS62.drewN|apply IsS62.drew|apply IsS62.set_0|apply IsS62.set_1|refine IsS62.far ?_ NB241_238.out _|refine IsS62.far ?_ NB241_248.out _)|exact HI241.out));(case side2=>repeat (first|(with_reducible first|exact HB.out|apply zl1|apply zl2|apply zl3|refine below_set ?_ (IsS62.ge HI241.out)|refine below_set ?_ GE238.out|refine below_set ?_ GE248.out)|exact HB.out));rintro e w65 ⟨rfl,hi,hb,hk⟩;replace HO_249001:=Aside0.mk (Kd.R_mono (Kd.R_keep (IsS62.apart (show IsS62 w _ g241 t277 t278 from by repeat (first|(with_reducible first|exact HI241.out|apply IsS62.alloc|apply IsS62.drewN|apply IsS62.drew|apply IsS62.set_0|apply IsS62.set_1|refine IsS62.far ?_ NB241_238.out _|refine IsS62.far ?_ NB241_248.out _)|exact HI241.out)) (by (with_reducible repeat (first|apply zk1|apply zk2|apply zk3));exact HO_249001.out) (by decide)) hk (fun _ h=>h.2)) (fun _ h=>h.1));replace HO_249002:=Aside0.mk (Kd.R_mono (Kd.R_keep (IsS62.apart (show IsS62 w _ g241 t277 t278 from by repeat (first|(with_reducible first|exact HI241.out|apply IsS62.alloc|apply IsS62.drewN|apply IsS62.drew|apply IsS62.set_0|apply IsS62.set_1|refine IsS62.far ?_ NB241_238.out _|refine IsS62.far ?_ NB241_248.out _)|exact HI241.out)) (by (with_reducible repeat (first|apply zk1|apply zk2|apply zk3));exact HO_249002.out) (by decide)) hk (fun _ h=>h.2)) (fun _ h=>h.1));replace HO_249003:=Aside0.mk (Kd.R_mono (Kd.R_keep (IsS62.apart (show IsS62 w _ g241 t277 t278 from by repeat (first|(with_reducible first|exact HI241.out|apply IsS62.alloc|apply IsS62.drewN|apply IsS62.drew|apply IsS62.set_0|apply IsS62.set_1|refine IsS62.far ?_ NB241_238.out _|refine IsS62.far ?_ NB241_248.out _)|exact HI241.out)) (by (with_reducible repeat (first|apply zk1|apply zk2|apply zk3));exact HO_249003.out) (by decide)) hk (fun _ h=>h.2)) (fun _ h=>h.1));replace BK238:=Aside0.mk (KeepBut.blk hk (g':=gb238) (o:=.cells #[.bool false,.slice none 0 0,.slice none 0 0,.slice none 0 0] 27 (0,0)) (by (with_reducible repeat (first|apply zb1|apply zb2|apply zb3));exact BK238.out) NB238_241.out (by simp));replace BK248:=Aside0.mk (KeepBut.blk hk (g':=gb248) (o:=.cells #[.bool true,u249001,u249002,u249003] 27 (0,0)) (by (with_reducible repeat (first|apply zb1|apply zb2|apply zb3));exact BK248.out) NB248_241.out (by simp));replace HB:=Aside0.mk (hb);replace HI241:=Aside0.mk (hi);(try clear hb);(try clear hk);(try clear hi);have hnb66:=NB248_238.out;have hnc66:=NB238_248.out;have hnb67:=NB248_241.out;have hnc67:=NB241_248.out;have hcz68_0:w65.cell? ⟨gb248,0,none⟩=some (.bool true):=(blk_cell BK248.out 0).trans rfl;have hcz68_1:w65.cell? ⟨gb248,1,none⟩=some (u249001):=(blk_cell BK248.out 1).trans rfl;have hcz68_2:w65.cell? ⟨gb248,2,none⟩=some (u249002):=(blk_cell BK248.out 2).trans rfl;have hcz68_3:w65.cell? ⟨gb248,3,none⟩=some (u249003):=(blk_cell BK248.out 3).trans rfl;have hfz68_0:=blk_frozen BK248.out 0;have hfz68_1:=blk_frozen BK248.out 1;have hfz68_2:=blk_frozen BK248.out 2;have hfz68_3:=blk_frozen BK248.out 3;obtain ⟨Ao69,co69,eo69⟩:=Kd.R_slice HO_249001.out;subst eo69;obtain ⟨Ao70,co70,eo70⟩:=Kd.R_slice HO_249002.out;subst eo70;obtain ⟨Ao71,co71,eo71⟩:=Kd.R_slice HO_249003.out;subst eo71)|(go_at_call 18;(with_reducible refine (node_right.calls k2 true _ _ x249001_2 _ _ x249002_2 _ _ x249003_2 true _ ?side1 ?side2 ?side3 ?side4 ?side5 ?side6 A62.out).mono ?_);(case side1=>repeat (first|exact (Kd.R_reads' HO_249001.out).2.2|(with_reducible refine Kd.C_alloc ?_ _)|(with_reducible refine Kd.C_drewN ?_ _)|(with_reducible refine Kd.C_drew ?_)));(case side2=>exact (Kd.R_reads' HO_249001.out).2.1);(case side3=>repeat (first|exact (Kd.R_reads' HO_249002.out).2.2|(with_reducible refine Kd.C_alloc ?_ _)|(with_reducible refine Kd.C_drewN ?_ _)|(with_reducible refine Kd.C_drew ?_)));(case side4=>exact (Kd.R_reads' HO_249002.out).2.1);(case side5=>repeat (first|exact (Kd.R_reads' HO_249003.out).2.2|(with_reducible refine Kd.C_alloc ?_ _)|(with_reducible refine Kd.C_drewN ?_ _)|(with_reducible refine Kd.C_drew ?_)));(case side6=>exact (Kd.R_reads' HO_249003.out).2.1);rintro e w72 ⟨rfl,hb⟩;replace HO_249001:=Aside0.mk (Kd.R_below (by (with_reducible repeat (first|apply zk1|apply zk2|apply zk3));exact HO_249001.out) hb);replace HO_249002:=Aside0.mk (Kd.R_below (by (with_reducible repeat (first|apply zk1|apply zk2|apply zk3));exact HO_249002.out) hb);replace HO_249003:=Aside0.mk (Kd.R_below (by (with_reducible repeat (first|apply zk1|apply zk2|apply zk3));exact HO_249003.out) hb);replace BK238:=Aside0.mk (blk_below (g:=gb238) (o:=.cells #[.bool false,.slice none 0 0,.slice none 0 0,.slice none 0 0] 27 (0,0)) (by (with_reducible repeat (first|apply zb1|apply zb2|apply zb3));exact BK238.out) hb);replace BK248:=Aside0.mk (blk_below (g:=gb248) (o:=.cells #[.bool true,.slice Ao69 x249001_2.length co69,.slice Ao70 x249002_2.length co70,.slice Ao71 x249003_2.length co71] 27 (0,0)) (by (with_reducible repeat (first|apply zb1|apply zb2|apply zb3));exact BK248.out) hb);replace HB:=Aside0.mk (below_step (by repeat (first|(with_reducible first|exact HB.out|apply zl1|apply zl2|apply zl3|refine below_set ?_ (IsS62.ge HI241.out)|refine below_set ?_ GE238.out|refine below_set ?_ GE248.out)|exact HB.out)) hb);replace HI241:=Aside0.mk (IsS62.below (by repeat (first|(with_reducible first|exact HI241.out|apply IsS62.alloc|apply IsS62.drewN|apply IsS62.drew|apply IsS62.set_0|apply IsS62.set_1|refine IsS62.far ?_ NB241_238.out _|refine IsS62.far ?_ NB241_248.out _)|exact HI241.out)) hb);(try clear hb))|(go_at_call 19;(with_reducible refine (strings_Trim.calls t276 (⟨#[0]⟩:ByteArray) t283 _ A64.out).mono ?_);rintro e w73 ⟨rfl,hb⟩;replace HO_249001:=Aside0.mk (Kd.R_below (by (with_reducible repeat (first|apply zk1|apply zk2|apply zk3));exact HO_249001.out) hb);replace HO_249002:=Aside0.mk (Kd.R_below (by (with_reducible repeat (first|apply zk1|apply zk2|apply zk3));exact HO_249002.out) hb);replace HO_249003:=Aside0.mk (Kd.R_below (by (with_reducible repeat (first|apply zk1|apply zk2|apply zk3));exact HO_249003.out) hb);replace BK238:=Aside0.mk (blk_below (g:=gb238) (o:=.cells #[.bool false,.slice none 0 0,.slice none 0 0,.slice none 0 0] 27 (0,0)) (by (with_reducible repeat (first|apply zb1|apply zb2|apply zb3));exact BK238.out) hb);replace BK248:=Aside0.mk (blk_below (g:=gb248) (o:=.cells #[.bool true,.slice Ao69 x249001_2.length co69,.slice Ao70 x249002_2.length co70,.slice Ao71 x249003_2.length co71] 27 (0,0)) (by (with_reducible repeat (first|apply zb1|apply zb2|apply zb3));exact BK248.out) hb);replace HB:=Aside0.mk (below_step (by repeat (first|(with_reducible first|exact HB.out|apply zl1|apply zl2|apply zl3|refine below_set ?_ (IsS62.ge HI241.out)|refine below_set ?_ GE238.out|refine below_set ?_ GE248.out)|exact HB.out)) hb);replace HI241:=Aside0.mk (IsS62.below (by repeat (first|(with_reducible first|exact HI241.out|apply IsS62.alloc|apply IsS62.drewN|apply IsS62.drew|apply IsS62.set_0|apply IsS62.set_1|refine IsS62.far ?_ NB241_238.out _|refine IsS62.far ?_ NB241_248.out _)|exact HI241.out)) hb);(try clear hb)))
            go_meet
            case rel=>exact ⟨_,((t283.toList != ([]:List UInt8))),(by first|(with_reducible rfl)|(simp;done)|(simp [*];done)|rfl|(simp only [not_isEmpty_bne])),(by first|exact H'|(rw [c58b0];exact H')),⟨by have:=HJ4.out;have:=HK2.out;first|omega|exact Nat.le_refl _⟩,⟨by (with_reducible repeat (first|apply zk1|apply zk2|apply zk3));exact HO_249001.out⟩,⟨by (with_reducible repeat (first|apply zk1|apply zk2|apply zk3));exact HO_249002.out⟩,⟨by (with_reducible repeat (first|apply zk1|apply zk2|apply zk3));exact HO_249003.out⟩,⟨by (with_reducible repeat (first|apply zb1|apply zb2|apply zb3));exact BK238.out⟩,⟨by (with_reducible repeat (first|apply zb1|apply zb2|apply zb3));(first|exact BK248.out|(rw [c58b0];exact BK248.out))⟩,⟨by repeat (first|(with_reducible first|exact HB.out|apply zl1|apply zl2|apply zl3|refine below_set ?_ (IsS62.ge HI241.out)|refine below_set ?_ GE238.out|refine below_set ?_ GE248.out)|exact HB.out)⟩⟩
          ·replace c63:=Bool.eq_false_iff.mpr c63
           subst c63
           have H1:(node_Read.j2 k2 true true x249001_2 x249002_2 x249003_2)=some (r1,r2,r3,r4,r5):=by rw [if_neg (show ¬ (false=true) by decide)] at H;exact H
           clear H
           have H:=H1
           clear H1
           as_aux_lemma =>
            have H':=Aside0.mk H
            clear H
            go_wp2_with (first|(go_at_call 17;(with_reducible refine (pack_Reader_Err.calls g241 t277 t278 t279 t280 t281 w _ ?side1 ?side2 A59.out).mono ?_);(case side1=>repeat (first|(with_reducible first|exact HI241.out|apply IsS62.alloc|apply IsS62.drewN|apply IsS62.drew|apply IsS62.set_0|apply IsS62.set_1|refine IsS62.far ?_ NB241_238.out _|refine IsS62.far ?_ NB241_248.out _)|exact HI241.out));(case side2=>repeat (first|(with_reducible first|exact HB.out|apply zl1|apply zl2|apply zl3|refine below_set ?_ (IsS62.ge HI241.out)|refine below_set ?_ GE238.out|refine below_set ?_ GE248.out)|exact HB.out));rintro e w74 ⟨rfl,hi,hb,hk⟩;replace HO_249001:=Aside0.mk (Kd.R_mono (Kd.R_keep (IsS62.apart (show IsS62 w _ g241 t277 t278 from by repeat (first|(with_reducible first|exact HI241.out|apply IsS62.alloc|apply IsS62.drewN|apply IsS62.drew|apply IsS62.set_0|apply IsS62.set_1|refine IsS62.far ?_ NB241_238.out _|refine IsS62.far ?_ NB241_248.out _)|exact HI241.out)) (by (with_reducible repeat (first|apply zk1|apply zk2|apply zk3));exact HO_249001.out) (by decide)) hk (fun _ h=>h.2)) (fun _ h=>h.1));replace HO_249002:=Aside0.mk (Kd.R_mono (Kd.R_keep (IsS62.apart (show IsS62 w _ g241 t277 t278 from by repeat (first|(with_reducible first|exact HI241.out|apply IsS62.alloc|apply IsS62.drewN|apply IsS62.drew|apply IsS62.set_0|apply IsS62.set_1|refine IsS62.far ?_ NB241_238.out _|refine IsS62.far ?_ NB241_248.out _)|exact HI241.out)) (by (with_reducible repeat (first|apply zk1|apply zk2|apply zk3));exact HO_249002.out) (by decide)) hk (fun _ h=>h.2)) (fun _ h=>h.1));replace HO_249003:=Aside0.mk (Kd.R_mono (Kd.R_keep (IsS62.apart (show IsS62 w _ g241 t277 t278 from by repeat (first|(with_reducible first|exact HI241.out|apply IsS62.alloc|apply IsS62.drewN|apply IsS62.drew|apply IsS62.set_0|apply IsS62.set_1|refine IsS62.far ?_ NB241_238.out _|refine IsS62.far ?_ NB241_248.out _)|exact HI241.out)) (by (with_reducible repeat (first|apply zk1|apply zk2|apply zk3));exact HO_249003.out) (by decide)) hk (fun _ h=>h.2)) (fun _ h=>h.1));replace BK238:=Aside0.mk (KeepBut.blk hk (g':=gb238) (o:=.cells #[.bool false,.slice none 0 0,.slice none 0 0,.slice none 0 0] 27 (0,0)) (by (with_reducible repeat (first|apply zb1|apply zb2|apply zb3));exact BK238.out) NB238_241.out (by simp));replace BK248:=Aside0.mk (KeepBut.blk hk (g':=gb248) (o:=.cells #[.bool true,u249001,u249002,u249003] 27 (0,0)) (by (with_reducible repeat (first|apply zb1|apply zb2|apply zb3));exact BK248.out) NB248_241.out (by simp));replace HB:=Aside0.mk (hb);replace HI241:=Aside0.mk (hi);(try clear hb);(try clear hk);(try clear hi);have hnb75:=NB248_238.out;have hnc75:=NB238_248.out;have hnb76:=NB248_241.out;have hnc76:=NB241_248.out;have hcz77_0:w74.cell? ⟨gb248,0,none⟩=some (.bool true):=(blk_cell BK248.out 0).trans rfl;have hcz77_1:w74.cell? ⟨gb248,1,none⟩=some (u249001):=(blk_cell BK248.out 1).trans rfl;have hcz77_2:w74.cell? ⟨gb248,2,none⟩=some (u249002):=(blk_cell BK248.out 2).trans rfl;have hcz77_3:w74.cell? ⟨gb248,3,none⟩=some (u249003):=(blk_cell BK248.out 3).trans rfl;have hfz77_0:=blk_frozen BK248.out 0;have hfz77_1:=blk_frozen BK248.out 1;have hfz77_2:=blk_frozen BK248.out 2;have hfz77_3:=blk_frozen BK248.out 3;obtain ⟨Ao78,co78,eo78⟩:=Kd.R_slice HO_249001.out;subst eo78;obtain ⟨Ao79,co79,eo79⟩:=Kd.R_slice HO_249002.out;subst eo79;obtain ⟨Ao80,co80,eo80⟩:=Kd.R_slice HO_249003.out;subst eo80)|(go_at_call 18;(with_reducible refine (node_right.calls k2 true _ _ x249001_2 _ _ x249002_2 _ _ x249003_2 false _ ?side1 ?side2 ?side3 ?side4 ?side5 ?side6 A62.out).mono ?_);(case side1=>repeat (first|exact (Kd.R_reads' HO_249001.out).2.2|(with_reducible refine Kd.C_alloc ?_ _)|(with_reducible refine Kd.C_drewN ?_ _)|(with_reducible refine Kd.C_drew ?_)));(case side2=>exact (Kd.R_reads' HO_249001.out).2.1);(case side3=>repeat (first|exact (Kd.R_reads' HO_249002.out).2.2|(with_reducible refine Kd.C_alloc ?_ _)|(with_reducible refine Kd.C_drewN ?_ _)|(with_reducible refine Kd.C_drew ?_)));(case side4=>exact (Kd.R_reads' HO_249002.out).2.1);(case side5=>repeat (first|exact (Kd.R_reads' HO_249003.out).2.2|(with_reducible refine Kd.C_alloc ?_ _)|(with_reducible refine Kd.C_drewN ?_ _)|(with_reducible refine Kd.C_drew ?_)));(case side6=>exact (Kd.R_reads' HO_249003.out).2.1);rintro e w81 ⟨rfl,hb⟩;replace HO_249001:=Aside0.mk (Kd.R_below (by (with_reducible repeat (first|apply zk1|apply zk2|apply zk3));exact HO_249001.out) hb);replace HO_249002:=Aside0.mk (Kd.R_below (by (with_reducible repeat (first|apply zk1|apply zk2|apply zk3));exact HO_249002.out) hb);replace HO_249003:=Aside0.mk (Kd.R_below (by (with_reducible repeat (first|apply zk1|apply zk2|apply zk3));exact HO_249003.out) hb);replace BK238:=Aside0.mk (blk_below (g:=gb238) (o:=.cells #[.bool false,.slice none 0 0,.slice none 0 0,.slice none 0 0] 27 (0,0)) (by (with_reducible repeat (first|apply zb1|apply zb2|apply zb3));exact BK238.out) hb);replace BK248:=Aside0.mk (blk_below (g:=gb248) (o:=.cells #[.bool true,.slice Ao78 x249001_2.length co78,.slice Ao79 x249002_2.length co79,.slice Ao80 x249003_2.length co80] 27 (0,0)) (by (with_reducible repeat (first|apply zb1|apply zb2|apply zb3));exact BK248.out) hb);replace HB:=Aside0.mk (below_step (by repeat (first|(with_reducible first|exact HB.out|apply zl1|apply zl2|apply zl3|refine below_set ?_ (IsS62.ge HI241.out)|refine below_set ?_ GE238.out|refine below_set ?_ GE248.out)|exact HB.out)) hb);replace HI241:=Aside0.mk (IsS62.below (by repeat (first|(with_reducible first|exact HI241.out|apply IsS62.alloc|apply IsS62.drewN|apply IsS62.drew|apply IsS62.set_0|apply IsS62.set_1|refine IsS62.far ?_ NB241_238.out _|refine IsS62.far ?_ NB241_248.out _)|exact HI241.out)) hb);(try clear hb)))
            go_meet
            case rel=>exact ⟨_,(true),(by first|(with_reducible rfl)|(simp;done)|(simp [*];done)|rfl|(simp only [not_isEmpty_bne])),(by first|exact H'|(rw [c58b0];exact H')),⟨by have:=HJ4.out;have:=HK2.out;first|omega|exact Nat.le_refl _⟩,⟨by (with_reducible repeat (first|apply zk1|apply zk2|apply zk3));exact HO_249001.out⟩,⟨by (with_reducible repeat (first|apply zk1|apply zk2|apply zk3));exact HO_249002.out⟩,⟨by (with_reducible repeat (first|apply zk1|apply zk2|apply zk3));exact HO_249003.out⟩,⟨by (with_reducible repeat (first|apply zb1|apply zb2|apply zb3));exact BK238.out⟩,⟨by (with_reducible repeat (first|apply zb1|apply zb2|apply zb3));(first|exact BK248.out|(rw [c58b0];exact BK248.out))⟩,⟨by repeat (first|(with_reducible first|exact HB.out|apply zl1|apply zl2|apply zl3|refine below_set ?_ (IsS62.ge HI241.out)|refine below_set ?_ GE238.out|refine below_set ?_ GE248.out)|exact HB.out)⟩⟩
         ·rw [if_neg c61] at H
          have c61b0:((a0.size:Int) == 256)=false:=beq_eq_false_iff_ne.mpr c61
          have c61b1:((a0.size:Int) != 256)=true:=bne_iff_ne.mpr c61
          as_aux_lemma =>
           have H':=Aside0.mk H
           clear H
           go_wp2_with (first|(go_at_call 17;(with_reducible refine (pack_Reader_Err.calls g241 t277 t278 t279 t280 t281 w _ ?side1 ?side2 A59.out).mono ?_);(case side1=>repeat (first|(with_reducible first|exact HI241.out|apply IsS62.alloc|apply IsS62.drewN|apply IsS62.drew|apply IsS62.set_0|apply IsS62.set_1|refine IsS62.far ?_ NB241_238.out _|refine IsS62.far ?_ NB241_248.out _)|exact HI241.out));(case side2=>repeat (first|(with_reducible first|exact HB.out|apply zl1|apply zl2|apply zl3|refine below_set ?_ (IsS62.ge HI241.out)|refine below_set ?_ GE238.out|refine below_set ?_ GE248.out)|exact HB.out));rintro e w82 ⟨rfl,hi,hb,hk⟩;replace HO_249001:=Aside0.mk (Kd.R_mono (Kd.R_keep (IsS62.apart (show IsS62 w _ g241 t277 t278 from by repeat (first|(with_reducible first|exact HI241.out|apply IsS62.alloc|apply IsS62.drewN|apply IsS62.drew|apply IsS62.set_0|apply IsS62.set_1|refine IsS62.far ?_ NB241_238.out _|refine IsS62.far ?_ NB241_248.out _)|exact HI241.out)) (by (with_reducible repeat (first|apply zk1|apply zk2|apply zk3));exact HO_249001.out) (by decide)) hk (fun _ h=>h.2)) (fun _ h=>h.1));replace HO_249002:=Aside0.mk (Kd.R_mono (Kd.R_keep (IsS62.apart (show IsS62 w _ g241 t277 t278 from by repeat (first|(with_reducible first|exact HI241.out|apply IsS62.alloc|apply IsS62.drewN|apply IsS62.drew|apply IsS62.set_0|apply IsS62.set_1|refine IsS62.far ?_ NB241_238.out _|refine IsS62.far ?_ NB241_248.out _)|exact HI241.out)) (by (with_reducible repeat (first|apply zk1|apply zk2|apply zk3));exact HO_249002.out) (by decide)) hk (fun _ h=>h.2)) (fun _ h=>h.1));replace HO_249003:=Aside0.mk (Kd.R_mono (Kd.R_keep (IsS62.apart (show IsS62 w _ g241 t277 t278 from by repeat (first|(with_reducible first|exact HI241.out|apply IsS62.alloc|apply IsS62.drewN|apply IsS62.drew|apply IsS62.set_0|apply IsS62.set_1|refine IsS62.far ?_ NB241_238.out _|refine IsS62.far ?_ NB241_248.out _)|exact HI241.out)) (by (with_reducible repeat (first|apply zk1|apply zk2|apply zk3));exact HO_249003.out) (by decide)) hk (fun _ h=>h.2)) (fun _ h=>h.1));replace BK238:=Aside0.mk (KeepBut.blk hk (g':=gb238) (o:=.cells #[.bool false,.slice none 0 0,.slice none 0 0,.slice none 0 0] 27 (0,0)) (by (with_reducible repeat (first|apply zb1|apply zb2|apply zb3));exact BK238.out) NB238_241.out (by simp));replace BK248:=Aside0.mk (KeepBut.blk hk (g':=gb248) (o:=.cells #[.bool true,u249001,u249002,u249003] 27 (0,0)) (by (with_reducible repeat (first|apply zb1|apply zb2|apply zb3));exact BK248.out) NB248_241.out (by simp));replace HB:=Aside0.mk (hb);replace HI241:=Aside0.mk (hi);(try clear hb);(try clear hk);(try clear hi)))
           go_meet
           case rel=>exact ⟨_,(true),(by first|(with_reducible rfl)|(simp;done)|(simp [*];done)|rfl|(simp only [not_isEmpty_bne])),(by first|exact H'|(rw [c58b0];exact H')),⟨by have:=HJ4.out;have:=HK2.out;first|omega|exact Nat.le_refl _⟩,⟨by (with_reducible repeat (first|apply zk1|apply zk2|apply zk3));exact HO_249001.out⟩,⟨by (with_reducible repeat (first|apply zk1|apply zk2|apply zk3));exact HO_249002.out⟩,⟨by (with_reducible repeat (first|apply zk1|apply zk2|apply zk3));exact HO_249003.out⟩,⟨by (with_reducible repeat (first|apply zb1|apply zb2|apply zb3));exact BK238.out⟩,⟨by (with_reducible repeat (first|apply zb1|apply zb2|apply zb3));(first|exact BK248.out|(rw [c58b0];exact BK248.out))⟩,⟨by repeat (first|(with_reducible first|exact HB.out|apply zl1|apply zl2|apply zl3|refine below_set ?_ (IsS62.ge HI241.out)|refine below_set ?_ GE238.out|refine below_set ?_ GE248.out)|exact HB.out)⟩⟩
        ·rw [if_neg c60] at H
         have c60b0:(t279 == 0)=false:=beq_eq_false_iff_ne.mpr c60
         have c60b1:(t279 != 0)=true:=bne_iff_ne.mpr c60
         as_aux_lemma =>
          have H':=Aside0.mk H
          clear H
          go_wp2_with (first|(go_at_call 17;(with_reducible refine (pack_Reader_Err.calls g241 t277 t278 t279 t280 t281 w _ ?side1 ?side2 A59.out).mono ?_);(case side1=>repeat (first|(with_reducible first|exact HI241.out|apply IsS62.alloc|apply IsS62.drewN|apply IsS62.drew|apply IsS62.set_0|apply IsS62.set_1|refine IsS62.far ?_ NB241_238.out _|refine IsS62.far ?_ NB241_248.out _)|exact HI241.out));(case side2=>repeat (first|(with_reducible first|exact HB.out|apply zl1|apply zl2|apply zl3|refine below_set ?_ (IsS62.ge HI241.out)|refine below_set ?_ GE238.out|refine below_set ?_ GE248.out)|exact HB.out));rintro e w83 ⟨rfl,hi,hb,hk⟩;replace HO_249001:=Aside0.mk (Kd.R_mono (Kd.R_keep (IsS62.apart (show IsS62 w _ g241 t277 t278 from by repeat (first|(with_reducible first|exact HI241.out|apply IsS62.alloc|apply IsS62.drewN|apply IsS62.drew|apply IsS62.set_0|apply IsS62.set_1|refine IsS62.far ?_ NB241_238.out _|refine IsS62.far ?_ NB241_248.out _)|exact HI241.out)) (by (with_reducible repeat (first|apply zk1|apply zk2|apply zk3));exact HO_249001.out) (by decide)) hk (fun _ h=>h.2)) (fun _ h=>h.1));replace HO_249002:=Aside0.mk (Kd.R_mono (Kd.R_keep (IsS62.apart (show IsS62 w _ g241 t277 t278 from by repeat (first|(with_reducible first|exact HI241.out|apply IsS62.alloc|apply IsS62.drewN|apply IsS62.drew|apply IsS62.set_0|apply IsS62.set_1|refine IsS62.far ?_ NB241_238.out _|refine IsS62.far ?_ NB241_248.out _)|exact HI241.out)) (by (with_reducible repeat (first|apply zk1|apply zk2|apply zk3));exact HO_249002.out) (by decide)) hk (fun _ h=>h.2)) (fun _ h=>h.1));replace HO_249003:=Aside0.mk (Kd.R_mono (Kd.R_keep (IsS62.apart (show IsS62 w _ g241 t277 t278 from by repeat (first|(with_reducible first|exact HI241.out|apply IsS62.alloc|apply IsS62.drewN|apply IsS62.drew|apply IsS62.set_0|apply IsS62.set_1|refine IsS62.far ?_ NB241_238.out _|refine IsS62.far ?_ NB241_248.out _)|exact HI241.out)) (by (with_reducible repeat (first|apply zk1|apply zk2|apply zk3));exact HO_249003.out) (by decide)) hk (fun _ h=>h.2)) (fun _ h=>h.1));replace BK238:=Aside0.mk (KeepBut.blk hk (g':=gb238) (o:=.cells #[.bool false,.slice none 0 0,.slice none 0 0,.slice none 0 0] 27 (0,0)) (by (with_reducible repeat (first|apply zb1|apply zb2|apply zb3));exact BK238.out) NB238_241.out (by simp));replace BK248:=Aside0.mk (KeepBut.blk hk (g':=gb248) (o:=.cells #[.bool true,u249001,u249002,u249003] 27 (0,0)) (by (with_reducible repeat (first|apply zb1|apply zb2|apply zb3));exact BK248.out) NB248_241.out (by simp));replace HB:=Aside0.mk (hb);replace HI241:=Aside0.mk (hi);(try clear hb);(try clear hk);(try clear hi)))
          go_meet
          case rel=>exact ⟨_,(true),(by first|(with_reducible rfl)|(simp;done)|(simp [*];done)|rfl|(simp only [not_isEmpty_bne])),(by first|exact H'|(rw [c58b0];exact H')),⟨by have:=HJ4.out;have:=HK2.out;first|omega|exact Nat.le_refl _⟩,⟨by (with_reducible repeat (first|apply zk1|apply zk2|apply zk3));exact HO_249001.out⟩,⟨by (with_reducible repeat (first|apply zk1|apply zk2|apply zk3));exact HO_249002.out⟩,⟨by (with_reducible repeat (first|apply zk1|apply zk2|apply zk3));exact HO_249003.out⟩,⟨by (with_reducible repeat (first|apply zb1|apply zb2|apply zb3));exact BK238.out⟩,⟨by (with_reducible repeat (first|apply zb1|apply zb2|apply zb3));(first|exact BK248.out|(rw [c58b0];exact BK248.out))⟩,⟨by repeat (first|(with_reducible first|exact HB.out|apply zl1|apply zl2|apply zl3|refine below_set ?_ (IsS62.ge HI241.out)|refine below_set ?_ GE238.out|refine below_set ?_ GE248.out)|exact HB.out)⟩⟩
       ·rw [if_neg c58] at H
        have c58b0:(t242 == 1)=false:=beq_eq_false_iff_ne.mpr c58
        (try rw [c58b0] at H);(try rw [c58b0] at BK248)
        have c58b1:(t242 != 1)=true:=bne_iff_ne.mpr c58
        (first|rw [c58b0]|(simp only [i64_w,i32_w];rw [c58b0])|skip)
        by_cases c84:t242=2
        ·rw [if_pos c84] at H
         have c84b0:(t242 == 2)=true:=beq_iff_eq.mpr c84
         have c84b1:(t242 != 2)=false:=bne_eq_false_iff_eq.mpr c84
         clear c84
         replace H:=Option.bind_eq_some_iff.mp H
         obtain ⟨⟨t284,t285,t286⟩,A850,H⟩:=H
         replace H:(if t284=0 then (if (a0.size:Int)=256 then ((node_right.f k2 false x249001_2 x249002_2 x249003_2).bind fun t287=>(if t287=true then ((strings_Trim.f t276 (⟨#[0]⟩:ByteArray)).bind fun t288=>(node_Read.j2 k2 (t288.toList != ([]:List UInt8)) false x249001_2 x249002_2 x249003_2)) else (node_Read.j2 k2 true false x249001_2 x249002_2 x249003_2))) else (node_Read.j2 k2 true false x249001_2 x249002_2 x249003_2)) else (node_Read.j2 k2 true false x249001_2 x249002_2 x249003_2))=some (r1,r2,r3,r4,r5):=H
         have A85:=Aside0.mk A850
         clear A850
         by_cases c86:t284=0
         ·rw [if_pos c86] at H
          have c86b0:(t284 == 0)=true:=beq_iff_eq.mpr c86
          have c86b1:(t284 != 0)=false:=bne_eq_false_iff_eq.mpr c86
          clear c86
          by_cases c87:(a0.size:Int)=256
          ·rw [if_pos c87] at H
           have c87b0:((a0.size:Int) == 256)=true:=beq_iff_eq.mpr c87
           have c87b1:((a0.size:Int) != 256)=false:=bne_eq_false_iff_eq.mpr c87
           clear c87
           replace H:=Option.bind_eq_some_iff.mp H
           obtain ⟨t287,A880,H⟩:=H
           replace H:(if t287=true then ((strings_Trim.f t276 (⟨#[0]⟩:ByteArray)).bind fun t288=>(node_Read.j2 k2 (t288.toList != ([]:List UInt8)) false x249001_2 x249002_2 x249003_2)) else (node_Read.j2 k2 true false x249001_2 x249002_2 x249003_2))=some (r1,r2,r3,r4,r5):=H
           have A88:=Aside0.mk A880
           clear A880
           by_cases c89:t287=true
           ·subst c89
            have H1:((strings_Trim.f t276 (⟨#[0]⟩:ByteArray)).bind fun t288=>(node_Read.j2 k2 (t288.toList != ([]:List UInt8)) false x249001_2 x249002_2 x249003_2))=some (r1,r2,r3,r4,r5):=by rw [if_pos rfl] at H;exact H
            clear H
            have H:=H1
            clear H1
            replace H:=Option.bind_eq_some_iff.mp H
            obtain ⟨t288,A900,H⟩:=H
            replace H:(node_Read.j2 k2 (t288.toList != ([]:List UInt8)) false x249001_2 x249002_2 x249003_2)=some (r1,r2,r3,r4,r5):=H
            have A90:=Aside0.mk A900
            clear A900
            as_aux_lemma =>
             have H':=Aside0.mk H
             clear H
             go_wp2_with (first|(go_at_call 17;(with_reducible refine (pack_Reader_Err.calls g241 t277 t278 t284 t285 t286 w _ ?side1 ?side2 A85.out).mono ?_);(case side1=>repeat (first|(with_reducible first|exact HI241.out|apply IsS62.alloc|apply IsS62.drewN|apply IsS62.drew|apply IsS62.set_0|apply IsS62.set_1|refine IsS62.far ?_ NB241_238.out _|refine IsS62.far ?_ NB241_248.out _)|exact HI241.out));(case side2=>repeat (first|(with_reducible first|exact HB.out|apply zl1|apply zl2|apply zl3|refine below_set ?_ (IsS62.ge HI241.out)|refine below_set ?_ GE238.out|refine below_set ?_ GE248.out)|exact HB.out));rintro e w91 ⟨rfl,hi,hb,hk⟩;replace HO_249001:=Aside0.mk (Kd.R_mono (Kd.R_keep (IsS62.apart (show IsS62 w _ g241 t277 t278 from by repeat (first|(with_reducible first|exact HI241.out|apply IsS62.alloc|apply IsS62.drewN|apply IsS62.drew|apply IsS62.set_0|apply IsS62.set_1|refine IsS62.far ?_ NB241_238.out _|refine IsS62.far ?_ NB241_248.out _)|exact HI241.out)) (by (with_reducible repeat (first|apply zk1|apply zk2|apply zk3));exact HO_249001.out) (by decide)) hk (fun _ h=>h.2)) (fun _ h=>h.1));replace HO_249002:=Aside0.mk (Kd.R_mono (Kd.R_keep (IsS62.apart (show IsS62 w _ g241 t277 t278 from by repeat (first|(with_reducible first|exact HI241.out|apply IsS62.alloc|apply IsS62.drewN|apply IsS62.drew|apply IsS62.set_0|apply IsS62.set_1|refine IsS62.far ?_ NB241_238.out _|refine IsS62.far ?_ NB241_248.out _)|exact HI241.out)) (by (with_reducible repeat (first|apply zk1|apply zk2|apply zk3));exact HO_249002.out) (by decide)) hk (fun _ h=>h.2)) (fun _ h=>h.1));replace HO_249003:=Aside0.mk (Kd.R_mono (Kd.R_keep (IsS62.apart (show IsS62 w _ g241 t277 t278 from by repeat (first|(with_reducible first|exact HI241.out|apply IsS62.alloc|apply IsS62.drewN|apply IsS62.drew|apply IsS62.set_0|apply IsS62.set_1|refine IsS62.far ?_ NB241_238.out _|refine IsS62.far ?_ NB241_248.out _)|exact HI241.out)) (by (with_reducible repeat (first|apply zk1|apply zk2|apply zk3));exact HO_249003.out) (by decide)) hk (fun _ h=>h.2)) (fun _ h=>h.1));replace BK238:=Aside0.mk (KeepBut.blk hk (g':=gb238) (o:=.cells #[.bool false,.slice none 0 0,.slice none 0 0,.slice none 0 0] 27 (0,0)) (by (with_reducible repeat (first|apply zb1|apply zb2|apply zb3));exact BK238.out) NB238_241.out (by simp));replace BK248:=Aside0.mk (KeepBut.blk hk (g':=gb248) (o:=.cells #[.bool false,u249001,u249002,u249003] 27 (0,0)) (by (with_reducible repeat (first|apply zb1|apply zb2|apply zb3));exact BK248.out) NB248_241.out (by simp));replace HB:=Aside0.mk (hb);replace HI241:=Aside0.mk (hi);(try clear hb);(try clear hk);(try clear hi);have hnb92:=NB248_238.out;have hnc92:=NB238_248.out;have hnb93:=NB248_241.out;have hnc93:=NB241_248.out;have hcz94_0:w91.cell? ⟨gb248,0,none⟩=some (.bool false):=(blk_cell BK248.out 0).trans rfl;have hcz94_1:w91.cell? ⟨gb248,1,none⟩=some (u249001):=(blk_cell BK248.out 1).trans rfl;have hcz94_2:w91.cell? ⟨gb248,2,none⟩=some (u249002):=(blk_cell BK248.out 2).trans rfl;have hcz94_3:w91.cell? ⟨gb248,3,none⟩=some (u249003):=(blk_cell BK248.out 3).trans rfl;have hfz94_0:=blk_frozen BK248.out 0;have hfz94_1:=blk_frozen BK248.out 1;have hfz94_2:=blk_frozen BK248.out 2;have hfz94_3:=blk_frozen BK248.out 3;obtain ⟨Ao95,co95,eo95⟩:=Kd.R_slice HO_249001.out;subst eo95;obtain ⟨Ao96,co96,eo96⟩:=Kd.R_slice HO_249002.out;subst eo96;obtain ⟨Ao97,co97,eo97⟩:=Kd.R_slice HO_249003.out;subst eo97)|(go_at_call 18;(with_reducible refine (node_right.calls k2 false _ _ x249001_2 _ _ x249002_2 _ _ x249003_2 true _ ?side1 ?side2 ?side3 ?side4 ?side5 ?side6 A88.out).mono ?_);(case side1=>repeat (first|exact (Kd.R_reads' HO_249001.out).2.2|(with_reducible refine Kd.C_alloc ?_ _)|(with_reducible refine Kd.C_drewN ?_ _)|(with_reducible refine Kd.C_drew ?_)));(case side2=>exact (Kd.R_reads' HO_249001.out).2.1);(case side3=>repeat (first|exact (Kd.R_reads' HO_249002.out).2.2|(with_reducible refine Kd.C_alloc ?_ _)|(with_reducible refine Kd.C_drewN ?_ _)|(with_reducible refine Kd.C_drew ?_)));(case side4=>exact (Kd.R_reads' HO_249002.out).2.1);(case side5=>repeat (first|exact (Kd.R_reads' HO_249003.out).2.2|(with_reducible refine Kd.C_alloc ?_ _)|(with_reducible refine Kd.C_drewN ?_ _)|(with_reducible refine Kd.C_drew ?_)));(case side6=>exact (Kd.R_reads' HO_249003.out).2.1);rintro e w98 ⟨rfl,hb⟩;replace HO_249001:=Aside0.mk (Kd.R_below (by (with_reducible repeat (first|apply zk1|apply zk2|apply zk3));exact HO_249001.out) hb);replace HO_249002:=Aside0.mk (Kd.R_below (by (with_reducible repeat (first|apply zk1|apply zk2|apply zk3));exact HO_249002.out) hb);replace HO_249003:=Aside0.mk (Kd.R_below (by (with_reducible repeat (first|apply zk1|apply zk2|apply zk3));exact HO_249003.out) hb);replace BK238:=Aside0.mk (blk_below (g:=gb238) (o:=.cells #[.bool false,.slice none 0 0,.slice none 0 0,.slice none 0 0] 27 (0,0)) (by (with_reducible repeat (first|apply zb1|apply zb2|apply zb3));exact BK238.out) hb);replace BK248:=Aside0.mk (blk_below (g:=gb248) (o:=.cells #[.bool false,.slice Ao95 x249001_2.length co95,.slice Ao96 x249002_2.length co96,.slice Ao97 x249003_2.length co97] 27 (0,0)) (by (with_reducible repeat (first|apply zb1|apply zb2|apply zb3));exact BK248.out) hb);replace HB:=Aside0.mk (below_step (by repeat (first|(with_reducible first|exact HB.out|apply zl1|apply zl2|apply zl3|refine below_set ?_ (IsS62.ge HI241.out)|refine below_set ?_ GE238.out|refine below_set ?_ GE248.out)|exact HB.out)) hb);replace HI241:=Aside0.mk (IsS62.below (by repeat (first|(with_reducible first|exact HI241.out|apply IsS62.alloc|apply IsS62.drewN|apply IsS62.drew|apply IsS62.set_0|apply IsS62.set_1|refine IsS62.far ?_ NB241_238.out _|refine IsS62.far ?_ NB241_248.out _)|exact HI241.out)) hb);(try clear hb))|(go_at_call 19;(with_reducible refine (strings_Trim.calls t276 (⟨#[0]⟩:ByteArray) t288 _ A90.out).mono ?_);rintro e w99 ⟨rfl,hb⟩;replace HO_249001:=Aside0.mk (Kd.R_below (by (with_reducible repeat (first|apply zk1|apply zk2|apply zk3));exact HO_249001.out) hb);replace HO_249002:=Aside0.mk (Kd.R_below (by (with_reducible repeat (first|apply zk1|apply zk2|apply zk3));exact HO_249002.out) hb);replace HO_249003:=Aside0.mk (Kd.R_below (by (with_reducible repeat (first|apply zk1|apply zk2|apply zk3));exact HO_249003.out) hb);replace BK238:=Aside0.mk (blk_below (g:=gb238) (o:=.cells #[.bool false,.slice none 0 0,.slice none 0 0,.slice none 0 0] 27 (0,0)) (by (with_reducible repeat (first|apply zb1|apply zb2|apply zb3));exact BK238.out) hb);replace BK248:=Aside0.mk (blk_below (g:=gb248) (o:=.cells #[.bool false,.slice Ao95 x249001_2.length co95,.slice Ao96 x249002_2.length co96,.slice Ao97 x249003_2.length co97] 27 (0,0)) (by (with_reducible repeat (first|apply zb1|apply zb2|apply zb3));exact BK248.out) hb);replace HB:=Aside0.mk (below_step (by repeat (first|(with_reducible first|exact HB.out|apply zl1|apply zl2|apply zl3|refine below_set ?_ (IsS62.ge HI241.out)|refine below_set ?_ GE238.out|refine below_set ?_ GE248.out)|exact HB.out)) hb);replace HI241:=Aside0.mk (IsS62.below (by repeat (first|(with_reducible first|exact HI241.out|apply IsS62.alloc|apply IsS62.drewN|apply IsS62.drew|apply IsS62.set_0|apply IsS62.set_1|refine IsS62.far ?_ NB241_238.out _|refine IsS62.far ?_ NB241_248.out _)|exact HI241.out)) hb);(try clear hb)))
             go_meet
             case rel=>exact ⟨_,((t288.toList != ([]:List UInt8))),(by first|(with_reducible rfl)|(simp;done)|(simp [*];done)|rfl|(simp only [not_isEmpty_bne])),(by first|exact H'|(rw [c58b0];exact H')),⟨by have:=HJ4.out;have:=HK2.out;first|omega|exact Nat.le_refl _⟩,⟨by (with_reducible repeat (first|apply zk1|apply zk2|apply zk3));exact HO_249001.out⟩,⟨by (with_reducible repeat (first|apply zk1|apply zk2|apply zk3));exact HO_249002.out⟩,⟨by (with_reducible repeat (first|apply zk1|apply zk2|apply zk3));exact HO_249003.out⟩,⟨by (with_reducible repeat (first|apply zb1|apply zb2|apply zb3));exact BK238.out⟩,⟨by (with_reducible repeat (first|apply zb1|apply zb2|apply zb3));(first|exact BK248.out|(rw [c58b0];exact BK248.out))⟩,⟨by repeat (first|(with_reducible first|exact HB.out|apply zl1|apply zl2|apply zl3|refine below_set ?_ (IsS62.ge HI241.out)|refine below_set ?_ GE238.out|refine below_set ?_ GE248.out)|exact HB.out)⟩⟩
           ·replace c89:=Bool.eq_false_iff.mpr c89
            subst c89
            have H1:(node_Read.j2 k2 true false x249001_2 x249002_2 x249003_2)=some (r1,r2,r3,r4,r5):=by rw [if_neg (show ¬ (false=true) by decide)] at H;exact H
            clear H
            have H:=H1
            clear H1
            as_aux_lemma =>
             have H':=Aside0.mk H
             clear H
             go_wp2_with (first|(go_at_call 17;(with_reducible refine (pack_Reader_Err.calls g241 t277 t278 t284 t285 t286 w _ ?side1 ?side2 A85.out).mono ?_);(case side1=>repeat (first|(with_reducible first|exact HI241.out|apply IsS62.alloc|apply IsS62.drewN|apply IsS62.drew|apply IsS62.set_0|apply IsS62.set_1|refine IsS62.far ?_ NB241_238.out _|refine IsS62.far ?_ NB241_248.out _)|exact HI241.out));(case side2=>repeat (first|(with_reducible first|exact HB.out|apply zl1|apply zl2|apply zl3|refine below_set ?_ (IsS62.ge HI241.out)|refine below_set ?_ GE238.out|refine below_set ?_ GE248.out)|exact HB.out));rintro e w100 ⟨rfl,hi,hb,hk⟩;replace HO_249001:=Aside0.mk (Kd.R_mono (Kd.R_keep (IsS62.apart (show IsS62 w _ g241 t277 t278 from by repeat (first|(with_reducible first|exact HI241.out|apply IsS62.alloc|apply IsS62.drewN|apply IsS62.drew|apply IsS62.set_0|apply IsS62.set_1|refine IsS62.far ?_ NB241_238.out _|refine IsS62.far ?_ NB241_248.out _)|exact HI241.out)) (by (with_reducible repeat (first|apply zk1|apply zk2|apply zk3));exact HO_249001.out) (by decide)) hk (fun _ h=>h.2)) (fun _ h=>h.1));replace HO_249002:=Aside0.mk (Kd.R_mono (Kd.R_keep (IsS62.apart (show IsS62 w _ g241 t277 t278 from by repeat (first|(with_reducible first|exact HI241.out|apply IsS62.alloc|apply IsS62.drewN|apply IsS62.drew|apply IsS62.set_0|apply IsS62.set_1|refine IsS62.far ?_ NB241_238.out _|refine IsS62.far ?_ NB241_248.out _)|exact HI241.out)) (by (with_reducible repeat (first|apply zk1|apply zk2|apply zk3));exact HO_249002.out) (by decide)) hk (fun _ h=>h.2)) (fun _ h=>h.1));replace HO_249003:=Aside0.mk (Kd.R_mono (Kd.R_keep (IsS62.apart (show IsS62 w _ g241 t277 t278 from by repeat (first|(with_reducible first|exact HI241.out|apply IsS62.alloc|apply IsS62.drewN|apply IsS62.drew|apply IsS62.set_0|apply IsS62.set_1|refine IsS62.far ?_ NB241_238.out _|refine IsS62.far ?_ NB241_248.out _)|exact HI241.out)) (by (with_reducible repeat (first|apply zk1|apply zk2|apply zk3));exact HO_249003.out) (by decide)) hk (fun _ h=>h.2)) (fun _ h=>h.1));replace BK238:=Aside0.mk (KeepBut.blk hk (g':=gb238) (o:=.cells #[.bool false,.slice none 0 0,.slice none 0 0,.slice none 0 0] 27 (0,0)) (by (with_reducible repeat (first|apply zb1|apply zb2|apply zb3));exact BK238.out) NB238_241.out (by simp));replace BK248:=Aside0.mk (KeepBut.blk hk (g':=gb248) (o:=.cells #[.bool false,u249001,u249002,u249003] 27 (0,0)) (by (with_reducible repeat (first|apply zb1|apply zb2|apply zb3));exact BK248.out) NB248_241.out (by simp));replace HB:=Aside0.mk (hb);replace HI241:=Aside0.mk (hi);(try clear hb);(try clear hk);(try clear hi);have hnb101:=NB248_238.out;have hnc101:=NB238_248.out;have hnb102:=NB248_241.out;have hnc102:=NB241_248.out;have hcz103_0:w100.cell? ⟨gb248,0,none⟩=some (.bool false):=(blk_cell BK248.out 0).trans rfl;have hcz103_1:w100.cell? ⟨gb248,1,none⟩=some (u249001):=(blk_cell BK248.out 1).trans rfl;have hcz103_2:w100.cell? ⟨gb248,2,none⟩=some (u249002):=(blk_cell BK248.out 2).trans rfl;have hcz103_3:w100.cell? ⟨gb248,3,none⟩=some (u249003):=(blk_cell BK248.out 3).trans rfl;have hfz103_0:=blk_frozen BK248.out 0;have hfz103_1:=blk_frozen BK248.out 1;have hfz103_2:=blk_frozen BK248.out 2;have hfz103_3:=blk_frozen BK248.out 3;obtain ⟨Ao104,co104,eo104⟩:=Kd.R_slice HO_249001.out;subst eo104;obtain ⟨Ao105,co105,eo105⟩:=Kd.R_slice HO_249002.out;subst eo105;obtain ⟨Ao106,co106,eo106⟩:=Kd.R_slice HO_249003.out;subst eo106)|(go_at_call 18;(with_reducible refine (node_right.calls k2 false _ _ x249001_2 _ _ x249002_2 _ _ x249003_2 false _ ?side1 ?side2 ?side3 ?side4 ?side5 ?side6 A88.out).mono ?_);(case side1=>repeat (first|exact (Kd.R_reads' HO_249001.out).2.2|(with_reducible refine Kd.C_alloc ?_ _)|(with_reducible refine Kd.C_drewN ?_ _)|(with_reducible refine Kd.C_drew ?_)));(case side2=>exact (Kd.R_reads' HO_249001.out).2.1);(case side3=>repeat (first|exact (Kd.R_reads' HO_249002.out).2.2|(with_reducible refine Kd.C_alloc ?_ _)|(with_reducible refine Kd.C_drewN ?_ _)|(with_reducible refine Kd.C_drew ?_)));(case side4=>exact (Kd.R_reads' HO_249002.out).2.1);(case side5=>repeat (first|exact (Kd.R_reads' HO_249003.out).2.2|(with_reducible refine Kd.C_alloc ?_ _)|(with_reducible refine Kd.C_drewN ?_ _)|(with_reducible refine Kd.C_drew ?_)));(case side6=>exact (Kd.R_reads' HO_249003.out).2.1);rintro e w107 ⟨rfl,hb⟩;replace HO_249001:=Aside0.mk (Kd.R_below (by (with_reducible repeat (first|apply zk1|apply zk2|apply zk3));exact HO_249001.out) hb);replace HO_249002:=Aside0.mk (Kd.R_below (by (with_reducible repeat (first|apply zk1|apply zk2|apply zk3));exact HO_249002.out) hb);replace HO_249003:=Aside0.mk (Kd.R_below (by (with_reducible repeat (first|apply zk1|apply zk2|apply zk3));exact HO_249003.out) hb);replace BK238:=Aside0.mk (blk_below (g:=gb238) (o:=.cells #[.bool false,.slice none 0 0,.slice none 0 0,.slice none 0 0] 27 (0,0)) (by (with_reducible repeat (first|apply zb1|apply zb2|apply zb3));exact BK238.out) hb);replace BK248:=Aside0.mk (blk_below (g:=gb248) (o:=.cells #[.bool false,.slice Ao104 x249001_2.length co104,.slice Ao105 x249002_2.length co105,.slice Ao106 x249003_2.length co106] 27 (0,0)) (by (with_reducible repeat (first|apply zb1|apply zb2|apply zb3));exact BK248.out) hb);replace HB:=Aside0.mk (below_step (by repeat (first|(with_reducible first|exact HB.out|apply zl1|apply zl2|apply zl3|refine below_set ?_ (IsS62.ge HI241.out)|refine below_set ?_ GE238.out|refine below_set ?_ GE248.out)|exact HB.out)) hb);replace HI241:=Aside0.mk (IsS62.below (by repeat (first|(with_reducible first|exact HI241.out|apply IsS62.alloc|apply IsS62.drewN|apply IsS62.drew|apply IsS62.set_0|apply IsS62.set_1|refine IsS62.far ?_ NB241_238.out _|refine IsS62.far ?_ NB241_248.out _)|exact HI241.out)) hb);(try clear hb)))
             go_meet
             case rel=>exact ⟨_,(true),(by first|(with_reducible rfl)|(simp;done)|(simp [*];done)|rfl|(simp only [not_isEmpty_bne])),(by first|exact H'|(rw [c58b0];exact H')),⟨by have:=HJ4.out;have:=HK2.out;first|omega|exact Nat.le_refl _⟩,⟨by (with_reducible repeat (first|apply zk1|apply zk2|apply zk3));exact HO_249001.out⟩,⟨by (with_reducible repeat (first|apply zk1|apply zk2|apply zk3));exact HO_249002.out⟩,⟨by (with_reducible repeat (first|apply zk1|apply zk2|apply zk3));exact HO_249003.out⟩,⟨by (with_reducible repeat (first|apply zb1|apply zb2|apply zb3));exact BK238.out⟩,⟨by (with_reducible repeat (first|apply zb1|apply zb2|apply zb3));(first|exact BK248.out|(rw [c58b0];exact BK248.out))⟩,⟨by repeat (first|(with_reducible first|exact HB.out|apply zl1|apply zl2|apply zl3|refine below_set ?_ (IsS62.ge HI241.out)|refine below_set ?_ GE238.out|refine below_set ?_ GE248.out)|exact HB.out)⟩⟩
          ·rw [if_neg c87] at H
           have c87b0:((a0.size:Int) == 256)=false:=beq_eq_false_iff_ne.mpr c87
           have c87b1:((a0.size:Int) != 256)=true:=bne_iff_ne.mpr c87
           as_aux_lemma =>
            have H':=Aside0.mk H
            clear H
            go_wp2_with (first|(go_at_call 17;(with_reducible refine (pack_Reader_Err.calls g241 t277 t278 t284 t285 t286 w _ ?side1 ?side2 A85.out).mono ?_);(case side1=>repeat (first|(with_reducible first|exact HI241.out|apply IsS62.alloc|apply IsS62.drewN|apply IsS62.drew|apply IsS62.set_0|apply IsS62.set_1|refine IsS62.far ?_ NB241_238.out _|refine IsS62.far ?_ NB241_248.out _)|exact HI241.out));(case side2=>repeat (first|(with_reducible first|exact HB.out|apply zl1|apply zl2|apply zl3|refine below_set ?_ (IsS62.ge HI241.out)|refine below_set ?_ GE238.out|refine below_set ?_ GE248.out)|exact HB.out));rintro e w108 ⟨rfl,hi,hb,hk⟩;replace HO_249001:=Aside0.mk (Kd.R_mono (Kd.R_keep (IsS62.apart (show IsS62 w _ g241 t277 t278 from by repeat (first|(with_reducible first|exact HI241.out|apply IsS62.alloc|apply IsS62.drewN|apply IsS62.drew|apply IsS62.set_0|apply IsS62.set_1|refine IsS62.far ?_ NB241_238.out _|refine IsS62.far ?_ NB241_248.out _)|exact HI241.out)) (by (with_reducible repeat (first|apply zk1|apply zk2|apply zk3));exact HO_249001.out) (by decide)) hk (fun _ h=>h.2)) (fun _ h=>h.1));replace HO_249002:=Aside0.mk (Kd.R_mono (Kd.R_keep (IsS62.apart (show IsS62 w _ g241 t277 t278 from by repeat (first|(with_reducible first|exact HI241.out|apply IsS62.alloc|apply IsS62.drewN|apply IsS62.drew|apply IsS62.set_0|apply IsS62.set_1|refine IsS62.far ?_ NB241_238.out _|refine IsS62.far ?_ NB241_248.out _)|exact HI241.out)) (by (with_reducible repeat (first|apply zk1|apply zk2|apply zk3));exact HO_249002.out) (by decide)) hk (fun _ h=>h.2)) (fun _ h=>h.1));replace HO_249003:=Aside0.mk (Kd.R_mono (Kd.R_keep (IsS62.apart (show IsS62 w _ g241 t277 t278 from by repeat (first|(with_reducible first|exact HI241.out|apply IsS62.alloc|apply IsS62.drewN|apply IsS62.drew|apply IsS62.set_0|apply IsS62.set_1|refine IsS62.far ?_ NB241_238.out _|refine IsS62.far ?_ NB241_248.out _)|exact HI241.out)) (by (with_reducible repeat (first|apply zk1|apply zk2|apply zk3));exact HO_249003.out) (by decide)) hk (fun _ h=>h.2)) (fun _ h=>h.1));replace BK238:=Aside0.mk (KeepBut.blk hk (g':=gb238) (o:=.cells #[.bool false,.slice none 0 0,.slice none 0 0,.slice none 0 0] 27 (0,0)) (by (with_reducible repeat (first|apply zb1|apply zb2|apply zb3));exact BK238.out) NB238_241.out (by simp));replace BK248:=Aside0.mk (KeepBut.blk hk (g':=gb248) (o:=.cells #[.bool false,u249001,u249002,u249003] 27 (0,0)) (by (with_reducible repeat (first|apply zb1|apply zb2|apply zb3));exact BK248.out) NB248_241.out (by simp));replace HB:=Aside0.mk (hb);replace HI241:=Aside0.mk (hi);(try clear hb);(try clear hk);(try clear hi)))
            go_meet
            case rel=>exact ⟨_,(true),(by first|(with_reducible rfl)|(simp;done)|(simp [*];done)|rfl|(simp only [not_isEmpty_bne])),(by first|exact H'|(rw [c58b0];exact H')),⟨by have:=HJ4.out;have:=HK2.out;first|omega|exact Nat.le_refl _⟩,⟨by (with_reducible repeat (first|apply zk1|apply zk2|apply zk3));exact HO_249001.out⟩,⟨by (with_reducible repeat (first|apply zk1|apply zk2|apply zk3));exact HO_249002.out⟩,⟨by (with_reducible repeat (first|apply zk1|apply zk2|apply zk3));exact HO_249003.out⟩,⟨by (with_reducible repeat (first|apply zb1|apply zb2|apply zb3));exact BK238.out⟩,⟨by (with_reducible repeat (first|apply zb1|apply zb2|apply zb3));(first|exact BK248.out|(rw [c58b0];exact BK248.out))⟩,⟨by repeat (first|(with_reducible first|exact HB.out|apply zl1|apply zl2|apply zl3|refine below_set ?_ (IsS62.ge HI241.out)|refine below_set ?_ GE238.out|refine below_set ?_ GE248.out)|exact HB.out)⟩⟩
         ·rw [if_neg c86] at H
          have c86b0:(t284 == 0)=false:=beq_eq_false_iff_ne.mpr c86
          have c86b1:(t284 != 0)=true:=bne_iff_ne.mpr c86
          as_aux_lemma =>
           have H':=Aside0.mk H
           clear H
           go_wp2_with (first|(go_at_call 17;(with_reducible refine (pack_Reader_Err.calls g241 t277 t278 t284 t285 t286 w _ ?side1 ?side2 A85.out).mono ?_);(case side1=>repeat (first|(with_reducible first|exact HI241.out|apply IsS62.alloc|apply IsS62.drewN|apply IsS62.drew|apply IsS62.set_0|apply IsS62.set_1|refine IsS62.far ?_ NB241_238.out _|refine IsS62.far ?_ NB241_248.out _)|exact HI241.out));(case side2=>repeat (first|(with_reducible first|exact HB.out|apply zl1|apply zl2|apply zl3|refine below_set ?_ (IsS62.ge HI241.out)|refine below_set ?_ GE238.out|refine below_set ?_ GE248.out)|exact HB.out));rintro e w109 ⟨rfl,hi,hb,hk⟩;replace HO_249001:=Aside0.mk (Kd.R_mono (Kd.R_keep (IsS62.apart (show IsS62 w _ g241 t277 t278 from by repeat (first|(with_reducible first|exact HI241.out|apply IsS62.alloc|apply IsS62.drewN|apply IsS62.drew|apply IsS62.set_0|apply IsS62.set_1|refine IsS62.far ?_ NB241_238.out _|refine IsS62.far ?_ NB241_248.out _)|exact HI241.out)) (by (with_reducible repeat (first|apply zk1|apply zk2|apply zk3));exact HO_249001.out) (by decide)) hk (fun _ h=>h.2)) (fun _ h=>h.1));replace HO_249002:=Aside0.mk (Kd.R_mono (Kd.R_keep (IsS62.apart (show IsS62 w _ g241 t277 t278 from by repeat (first|(with_reducible first|exact HI241.out|apply IsS62.alloc|apply IsS62.drewN|apply IsS62.drew|apply IsS62.set_0|apply IsS62.set_1|refine IsS62.far ?_ NB241_238.out _|refine IsS62.far ?_ NB241_248.out _)|exact HI241.out)) (by (with_reducible repeat (first|apply zk1|apply zk2|apply zk3));exact HO_249002.out) (by decide)) hk (fun _ h=>h.2)) (fun _ h=>h.1));replace HO_249003:=Aside0.mk (Kd.R_mono (Kd.R_keep (IsS62.apart (show IsS62 w _ g241 t277 t278 from by repeat (first|(with_reducible first|exact HI241.out|apply IsS62.alloc|apply IsS62.drewN|apply IsS62.drew|apply IsS62.set_0|apply IsS62.set_1|refine IsS62.far ?_ NB241_238.out _|refine IsS62.far ?_ NB241_248.out _)|exact HI241.out)) (by (with_reducible repeat (first|apply zk1|apply zk2|apply zk3));exact HO_249003.out) (by decide)) hk (fun _ h=>h.2)) (fun _ h=>h.1));replace BK238:=Aside0.mk (KeepBut.blk hk (g':=gb238) (o:=.cells #[.bool false,.slice none 0 0,.slice none 0 0,.slice none 0 0] 27 (0,0)) (by (with_reducible repeat (first|apply zb1|apply zb2|apply zb3));exact BK238.out) NB238_241.out (by simp));replace BK248:=Aside0.mk (KeepBut.blk hk (g':=gb248) (o:=.cells #[.bool false,u249001,u249002,u249003] 27 (0,0)) (by (with_reducible repeat (first|apply zb1|apply zb2|apply zb3));exact BK248.out) NB248_241.out (by simp));replace HB:=Aside0.mk (hb);replace HI241:=Aside0.mk (hi);(try clear hb);(try clear hk);(try clear hi)))
           go_meet
           case rel=>exact ⟨_,(true),(by first|(with_reducible rfl)|(simp;done)|(simp [*];done)|rfl|(simp only [not_isEmpty_bne])),(by first|exact H'|(rw [c58b0];exact H')),⟨by have:=HJ4.out;have:=HK2.out;first|omega|exact Nat.le_refl _⟩,⟨by (with_reducible repeat (first|apply zk1|apply zk2|apply zk3));exact HO_249001.out⟩,⟨by (with_reducible repeat (first|apply zk1|apply zk2|apply zk3));exact HO_249002.out⟩,⟨by (with_reducible repeat (first|apply zk1|apply zk2|apply zk3));exact HO_249003.out⟩,⟨by (with_reducible repeat (first|apply zb1|apply zb2|apply zb3));exact BK238.out⟩,⟨by (with_reducible repeat (first|apply zb1|apply zb2|apply zb3));(first|exact BK248.out|(rw [c58b0];exact BK248.out))⟩,⟨by repeat (first|(with_reducible first|exact HB.out|apply zl1|apply zl2|apply zl3|refine below_set ?_ (IsS62.ge HI241.out)|refine below_set ?_ GE238.out|refine below_set ?_ GE248.out)|exact HB.out)⟩⟩
        ·rw [if_neg c84] at H
         have c84b0:(t242 == 2)=false:=beq_eq_false_iff_ne.mpr c84
         have c84b1:(t242 != 2)=true:=bne_iff_ne.mpr c84
         as_aux_lemma =>
          have H':=Aside0.mk H
          clear H
          go_wp2
          go_meet
          case rel=>exact ⟨_,(true),(by first|(with_reducible rfl)|(simp;done)|(simp [*];done)|rfl|(simp only [not_isEmpty_bne])),(by first|exact H'|(rw [c58b0];exact H')),⟨by have:=HJ4.out;have:=HK2.out;first|omega|exact Nat.le_refl _⟩,⟨by (with_reducible repeat (first|apply zk1|apply zk2|apply zk3));exact HO_249001.out⟩,⟨by (with_reducible repeat (first|apply zk1|apply zk2|apply zk3));exact HO_249002.out⟩,⟨by (with_reducible repeat (first|apply zk1|apply zk2|apply zk3));exact HO_249003.out⟩,⟨by (with_reducible repeat (first|apply zb1|apply zb2|apply zb3));exact BK238.out⟩,⟨by (with_reducible repeat (first|apply zb1|apply zb2|apply zb3));(first|exact BK248.out|(rw [c58b0];exact BK248.out))⟩,⟨by repeat (first|(with_reducible first|exact HB.out|apply zl1|apply zl2|apply zl3|refine below_set ?_ (IsS62.ge HI241.out)|refine below_set ?_ GE238.out|refine below_set ?_ GE248.out)|exact HB.out)⟩⟩
      case rest =>
       clear HC55
       try clear c1
       try clear c2
       try clear p2
       try clear c3
       try clear c4
       try clear c5
       try clear c6
       try clear p6
       try clear c7
       try clear c8
       try clear c9
       try clear c10
       try clear c13
       try clear c14
       try clear c15
       try clear c16
       try clear c23
       try clear c23b0
       try clear c25
       try clear c25b0
       try clear c25b1
       try clear c25b2
       try clear c27
       try clear c37
       try clear c39
       try clear c41
       try clear c42
       try clear c58
       try clear c58b0
       try clear c58b1
       try clear hcz103_0 hcz103_1 hcz103_2 hcz103_3
       try clear c60
       try clear c60b0
       try clear c60b1
       try clear c61
       try clear c61b0
       try clear c61b1
       try clear c63
       try clear p64
       try clear c66
       try clear c67
       try clear c75
       try clear c76
       try clear c84
       try clear c84b0
       try clear c84b1
       try clear c86
       try clear c86b0
       try clear c86b1
       try clear c87
       try clear c87b0
       try clear c87b1
       try clear c89
       try clear c92
       try clear c93
       try clear c101
       try clear c102
       try clear hfz103_0 hfz103_1 hfz103_2 hfz103_3 hfz43_0 hfz43_1 hfz43_2 hfz43_3 hfz46_0 hfz46_1
       try clear hcz43_0 hcz43_1 hcz43_2 hcz43_3 hcz46_0 hcz46_1 hcz46_2 hcz46_3 hcz68_0 hcz68_1 hcz68_2 hcz68_3 hcz77_0 hcz77_1 hcz77_2 hcz77_3 hcz94_0 hcz94_1 hcz94_2 hcz94_3
       try clear hfz46_2 hfz46_3 hfz68_0 hfz68_1 hfz68_2 hfz68_3 hfz77_0 hfz77_1 hfz77_2 hfz77_3 hfz94_0 hfz94_1 hfz94_2 hfz94_3
       obtain ⟨kq,x89_54,rfl,HA,HJ54,HO_249001,HO_249002,HO_249003,BK238,BK248,HB⟩:=hcut
       cases kq with
       | zero=>exact absurd HA.out (by simp [node_Read.j2])
       | succ kj54 =>
        have H:=HA.out
        clear HA
        simp only [node_Read.j2] at H
        by_cases c110:x89_54=true
        ·subst c110
         have H1:(some (false,([]:List (S44)),([]:List ByteArray),([]:List Int),10))=some (r1,r2,r3,r4,r5):=by rw [if_pos rfl] at H;exact H
         clear H
         have H:=H1
         clear H1
         as_aux_lemma =>
          simp only [Option.some.injEq,Prod.mk.injEq] at H
          obtain ⟨rfl,rfl,rfl,rfl,rfl⟩:=H
          have hnb111:=NB238_248.out
          have hnc111:=NB248_238.out
          have hcz112_0:wc.cell? ⟨gb238,0,none⟩=some (.bool false):=(blk_cell BK238.out 0).trans rfl
          have hcz112_1:wc.cell? ⟨gb238,1,none⟩=some (.slice none 0 0):=(blk_cell BK238.out 1).trans rfl
          have hcz112_2:wc.cell? ⟨gb238,2,none⟩=some (.slice none 0 0):=(blk_cell BK238.out 2).trans rfl
          have hcz112_3:wc.cell? ⟨gb238,3,none⟩=some (.slice none 0 0):=(blk_cell BK238.out 3).trans rfl
          have hfz112_0:=blk_frozen BK238.out 0
          have hfz112_1:=blk_frozen BK238.out 1
          have hfz112_2:=blk_frozen BK238.out 2
          have hfz112_3:=blk_frozen BK238.out 3
          go_wp2
          refine bodyPost_ret (results_ct rfl _ _ gb238 27 #[.bool false,.slice none 0 0,.slice none 0 0,.slice none 0 0] (0,0) _ rfl (by (with_reducible repeat (first|apply zb1|apply zb2|apply zb3));refine blk_put (cs:=#[.bool false,.slice none 0 0,.slice none 0 0,.slice none 0 0]) ?_ 3 _ rfl;(with_reducible repeat (first|apply zb1|apply zb2|apply zb3));refine blk_put (cs:=#[.bool false,.slice none 0 0,.slice none 0 0,.slice none 0 0]) ?_ 2 _ rfl;(with_reducible repeat (first|apply zb1|apply zb2|apply zb3));refine blk_put (cs:=#[.bool false,.slice none 0 0,.slice none 0 0,.slice none 0 0]) ?_ 1 _ rfl;(with_reducible repeat (first|apply zb1|apply zb2|apply zb3));refine blk_put (cs:=#[.bool false,.slice none 0 0,.slice none 0 0,.slice none 0 0]) ?_ 0 _ rfl;(with_reducible repeat (first|apply zb1|apply zb2|apply zb3));exact BK238.out) Tryd.underlying27 rfl (by kernel_rfl)) rfl ?_
          exact ⟨_,_,_,by first|(with_reducible rfl)|(simp only [isEmpty_bne,Bool.not_not] <;> rfl)|rfl|(simp [*,errW_none,errW_some] <;> rfl),by first|exact Kd.R_nil _ _ _ _ _|exact Kd.N_nil _ _ _ _ _|exact Kd.V_nil _ _ _ _ _|exact Kd.Q_nil _ _ _ _ _|exact Kd.S_nil _ _ _ _ _,by first|exact Kd.R_nil _ _ _ _ _|exact Kd.N_nil _ _ _ _ _|exact Kd.V_nil _ _ _ _ _|exact Kd.Q_nil _ _ _ _ _|exact Kd.S_nil _ _ _ _ _,by first|exact Kd.R_nil _ _ _ _ _|exact Kd.N_nil _ _ _ _ _|exact Kd.V_nil _ _ _ _ _|exact Kd.Q_nil _ _ _ _ _|exact Kd.S_nil _ _ _ _ _,by repeat (first|(with_reducible first|exact HB.out|apply zl1|apply zl2|apply zl3|refine below_set ?_ GE238.out|refine below_set ?_ GE248.out)|exact HB.out)⟩
        ·replace c110:=Bool.eq_false_iff.mpr c110
         subst c110
         have H1:(some ((t242 == 1),x249001_2,x249002_2,x249003_2,0))=some (r1,r2,r3,r4,r5):=by rw [if_neg (show ¬ (false=true) by decide)] at H;exact H
         clear H
         have H:=H1
         clear H1
         as_aux_lemma =>
          simp only [Option.some.injEq,Prod.mk.injEq] at H
          obtain ⟨rfl,rfl,rfl,rfl,rfl⟩:=H
          have hnb113:=NB248_238.out
          have hnc113:=NB238_248.out
          have hcz114_0:wc.cell? ⟨gb248,0,none⟩=some (.bool (t242 == 1)):=(blk_cell BK248.out 0).trans rfl
          have hcz114_1:wc.cell? ⟨gb248,1,none⟩=some (u249001):=(blk_cell BK248.out 1).trans rfl
          have hcz114_2:wc.cell? ⟨gb248,2,none⟩=some (u249002):=(blk_cell BK248.out 2).trans rfl
          have hcz114_3:wc.cell? ⟨gb248,3,none⟩=some (u249003):=(blk_cell BK248.out 3).trans rfl
          have hfz114_0:=blk_frozen BK248.out 0
          have hfz114_1:=blk_frozen BK248.out 1
          have hfz114_2:=blk_frozen BK248.out 2
          have hfz114_3:=blk_frozen BK248.out 3
          have hcz115_0:wc.cell? ⟨gb238,0,none⟩=some (.bool false):=(blk_cell BK238.out 0).trans rfl
          have hcz115_1:wc.cell? ⟨gb238,1,none⟩=some (.slice none 0 0):=(blk_cell BK238.out 1).trans rfl
          have hcz115_2:wc.cell? ⟨gb238,2,none⟩=some (.slice none 0 0):=(blk_cell BK238.out 2).trans rfl
          have hcz115_3:wc.cell? ⟨gb238,3,none⟩=some (.slice none 0 0):=(blk_cell BK238.out 3).trans rfl
          have hfz115_0:=blk_frozen BK238.out 0
          have hfz115_1:=blk_frozen BK238.out 1
          have hfz115_2:=blk_frozen BK238.out 2
          have hfz115_3:=blk_frozen BK238.out 3
          obtain ⟨Ao116,co116,eo116⟩:=Kd.R_slice HO_249001.out
          subst eo116
          obtain ⟨Ao117,co117,eo117⟩:=Kd.R_slice HO_249002.out
          subst eo117
          obtain ⟨Ao118,co118,eo118⟩:=Kd.R_slice HO_249003.out
          subst eo118
          go_wp2
          refine bodyPost_ret (results_ct rfl _ _ gb238 27 #[.bool (t242 == 1),.slice Ao116 x249001_2.length co116,.slice Ao117 x249002_2.length co117,.slice Ao118 x249003_2.length co118] (0,0) _ rfl (by (with_reducible repeat (first|apply zb1|apply zb2|apply zb3));refine blk_put (cs:=#[.bool (t242 == 1),.slice Ao116 x249001_2.length co116,.slice Ao117 x249002_2.length co117,.slice none 0 0]) ?_ 3 _ rfl;(with_reducible repeat (first|apply zb1|apply zb2|apply zb3));refine blk_put (cs:=#[.bool (t242 == 1),.slice Ao116 x249001_2.length co116,.slice none 0 0,.slice none 0 0]) ?_ 2 _ rfl;(with_reducible repeat (first|apply zb1|apply zb2|apply zb3));refine blk_put (cs:=#[.bool (t242 == 1),.slice none 0 0,.slice none 0 0,.slice none 0 0]) ?_ 1 _ rfl;(with_reducible repeat (first|apply zb1|apply zb2|apply zb3));refine blk_put (cs:=#[.bool false,.slice none 0 0,.slice none 0 0,.slice none 0 0]) ?_ 0 _ rfl;(with_reducible repeat (first|apply zb1|apply zb2|apply zb3));exact BK238.out) Tryd.underlying27 rfl (by kernel_rfl)) rfl ?_
          exact ⟨_,_,_,by first|(with_reducible rfl)|(simp only [isEmpty_bne,Bool.not_not] <;> rfl)|rfl|(simp [*,errW_none,errW_some] <;> rfl),by (with_reducible repeat (first|apply zk1|apply zk2|apply zk3));exact Kd.R_mono (Kd.R_far (p:=⟨gb238,3,none⟩) (Kd.R_far (p:=⟨gb238,2,none⟩) (Kd.R_far (p:=⟨gb238,1,none⟩) (Kd.R_far (p:=⟨gb238,0,none⟩) (Kd.R_types HO_249001.out BK238.out (by decide)) (fun _ hk=>hk.2) (.bool (t242 == 1))) (fun _ hk=>hk.2) (.slice Ao116 x249001_2.length co116)) (fun _ hk=>hk.2) (.slice Ao117 x249002_2.length co117)) (fun _ hk=>hk.2) (.slice Ao118 x249003_2.length co118)) (fun _ hk=>trivial),by (with_reducible repeat (first|apply zk1|apply zk2|apply zk3));exact Kd.R_mono (Kd.R_far (p:=⟨gb238,3,none⟩) (Kd.R_far (p:=⟨gb238,2,none⟩) (Kd.R_far (p:=⟨gb238,1,none⟩) (Kd.R_far (p:=⟨gb238,0,none⟩) (Kd.R_types HO_249002.out BK238.out (by decide)) (fun _ hk=>hk.2) (.bool (t242 == 1))) (fun _ hk=>hk.2) (.slice Ao116 x249001_2.length co116)) (fun _ hk=>hk.2) (.slice Ao117 x249002_2.length co117)) (fun _ hk=>hk.2) (.slice Ao118 x249003_2.length co118)) (fun _ hk=>trivial),by (with_reducible repeat (first|apply zk1|apply zk2|apply zk3));exact Kd.R_mono (Kd.R_far (p:=⟨gb238,3,none⟩) (Kd.R_far (p:=⟨gb238,2,none⟩) (Kd.R_far (p:=⟨gb238,1,none⟩) (Kd.R_far (p:=⟨gb238,0,none⟩) (Kd.R_types HO_249003.out BK238.out (by decide)) (fun _ hk=>hk.2) (.bool (t242 == 1))) (fun _ hk=>hk.2) (.slice Ao116 x249001_2.length co116)) (fun _ hk=>hk.2) (.slice Ao117 x249002_2.length co117)) (fun _ hk=>hk.2) (.slice Ao118 x249003_2.length co118)) (fun _ hk=>trivial),by repeat (first|(with_reducible first|exact HB.out|apply zl1|apply zl2|apply zl3|refine below_set ?_ GE238.out|refine below_set ?_ GE248.out)|exact HB.out)⟩

end Go.Proofs.YtokjbncjapndgaaDoor.PAll
