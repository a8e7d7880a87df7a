/- Printed walks of the functions that the laws reach: each function, what it computes, and that it does. No conditions. -/
import Derived.Test.YtokjbncjapndgaaPAllx0
import Derived.Test.YtokjbncjapndgaaPAllx13
import Derived.Test.YtokjbncjapndgaaPAllx14
import Derived.Test.YtokjbncjapndgaaPAllx15
namespace Go.Proofs.Ytokjbncjapndgaa.PAll
open Go.RowKit Go.Proofs.Ytokjbncjapndgaa.XW Go.Proofs.Ytokjbncjapndgaa.XLib Go.Proofs.YtokjbncjapndgaaW.PrintWords Go.Proofs.YtokjbncjapndgaaW.PrintLast Go.Proofs.YtokjbncjapndgaaW.PrintMore
attribute [local go_sem] max2_int min2_int max_two min_two max_three min_three max_four min_four   -- for this text's walks alone
set_option linter.unusedVariables false
set_option linter.unusedSimpArgs false

/-! ### node_Split: function 16 -/
mutual
def node_Split.j0:Nat→Bool→Bool→List (S43)→List ByteArray→List Int→Option (Bool × (List (S43)) × List ByteArray × List Int × Bool × (List (S43)) × List ByteArray × List Int × ByteArray)
 | 0,_,_,_,_,_=>none
 | k + 1,x8,x268000,x268001,x268002,x268003=>if x8=true then ((node_splitLeaf.f k x268001).bind fun bt270=>(some (bt270.1,bt270.2.1,bt270.2.2.1,bt270.2.2.2.1,bt270.2.2.2.2.1,bt270.2.2.2.2.2.1,bt270.2.2.2.2.2.2.1,bt270.2.2.2.2.2.2.2.1,bt270.2.2.2.2.2.2.2.2))) else (if x268000=true then (node_Split.j1 k false x268000 x268001 x268002 x268003) else (if (x268002.length:Int) > 2 then (node_Split.j1 k ((x268003.length:Int) == (wrap64 ((x268002.length:Int) + 1))) x268000 x268001 x268002 x268003) else (node_Split.j1 k false x268000 x268001 x268002 x268003)))
def node_Split.j1:Nat→Bool→Bool→List (S43)→List ByteArray→List Int→Option (Bool × (List (S43)) × List ByteArray × List Int × Bool × (List (S43)) × List ByteArray × List Int × ByteArray)
 | 0,_,_,_,_,_=>none
 | k + 1,x23,x268000,x268001,x268002,x268003=>if x23=true then ((node_half.f k x268002).bind fun t291=>(if 0≤t291 then (if t291≤(x268002.length:Int) then ((slices_Clone_string_string.f (x268002.take (t291:Int).toNat)).bind fun t297=>(if 0≤(wrap64 (t291 + 1)) then (if (wrap64 (t291 + 1))≤(x268003.length:Int) then ((slices_Clone_int_int.f (x268003.take ((wrap64 (t291 + 1)):Int).toNat)).bind fun t305=>(if (wrap64 (t291 + 1))≤(x268002.length:Int) then ((slices_Clone_string_string.f (x268002.drop ((wrap64 (t291 + 1)):Int).toNat)).bind fun t314=>((slices_Clone_int_int.f (x268003.drop ((wrap64 (t291 + 1)):Int).toNat)).bind fun t322=>(if t291 < (x268002.length:Int) then (some (false,([]:List (S43)),t297,t305,false,([]:List (S43)),t314,t322,rdOf ByteArray.empty x268002 t291)) else (none)))) else (none))) else (none)) else (none))) else (none)) else (none))) else (some (x268000,x268001,x268002,x268003,false,([]:List (S43)),([]:List ByteArray),([]:List Int),(⟨#[]⟩:ByteArray)))
end
def node_Split.f (k:Nat) (a0_0:Bool) (l0_1:List (S43)) (l0_2:List ByteArray) (l0_3:List Int):Option (Bool × (List (S43)) × List ByteArray × List Int × Bool × (List (S43)) × List ByteArray × List Int × ByteArray):=if a0_0=true then (node_Split.j0 k (decide ((l0_1.length:Int) > 1)) a0_0 l0_1 l0_2 l0_3) else (node_Split.j0 k false a0_0 l0_1 l0_2 l0_3)
theorem node_Split.mono_l:∀ k,(∀ y0 y1 y2 y3 y4,LeO (node_Split.j0 k y0 y1 y2 y3 y4) (node_Split.j0 (k + 1) y0 y1 y2 y3 y4))∧(∀ y0 y1 y2 y3 y4,LeO (node_Split.j1 k y0 y1 y2 y3 y4) (node_Split.j1 (k + 1) y0 y1 y2 y3 y4))
 | 0=>⟨fun _ _ _ _ _ r h=>by simp [node_Split.j0] at h,fun _ _ _ _ _ r h=>by simp [node_Split.j1] at h⟩
 | k + 1=>by
  obtain ⟨ih0,ih1⟩:=node_Split.mono_l k
  refine ⟨?_,?_⟩
  ·intro y0 y1 y2 y3 y4
   unfold node_Split.j0
   repeat' first
   | (with_reducible exact ih0 _ _ _ _ _)
   | (with_reducible exact ih1 _ _ _ _ _)
   | (with_reducible exact node_half.mono _ _)
   | (with_reducible exact node_splitLeaf.mono _ _)
   | (with_reducible exact LeO.refl _)
   | (with_reducible exact LeO.none _)
   | (with_reducible refine LeO.ite ?_ ?_)
   | (with_reducible refine LeO.bind ?_ (fun _=>?_))
   | exact ih0 _ _ _ _ _
   | exact ih1 _ _ _ _ _
   | exact node_half.mono _ _
   | exact node_splitLeaf.mono _ _
   | exact LeO.none _
   | refine LeO.ite ?_ ?_
   | refine LeO.bind ?_ (fun _=>?_)
  ·intro y0 y1 y2 y3 y4
   unfold node_Split.j1
   repeat' first
   | (with_reducible exact ih0 _ _ _ _ _)
   | (with_reducible exact ih1 _ _ _ _ _)
   | (with_reducible exact node_half.mono _ _)
   | (with_reducible exact node_splitLeaf.mono _ _)
   | (with_reducible exact LeO.refl _)
   | (with_reducible exact LeO.none _)
   | (with_reducible refine LeO.ite ?_ ?_)
   | (with_reducible refine LeO.bind ?_ (fun _=>?_))
   | exact ih0 _ _ _ _ _
   | exact ih1 _ _ _ _ _
   | exact node_half.mono _ _
   | exact node_splitLeaf.mono _ _
   | exact LeO.none _
   | refine LeO.ite ?_ ?_
   | refine LeO.bind ?_ (fun _=>?_)
theorem node_Split.mono:∀ a0 a1 a2 a3 k,LeO (node_Split.f k a0 a1 a2 a3) (node_Split.f (k + 1) a0 a1 a2 a3):=by
 intro a0 a1 a2 a3 k
 obtain ⟨ih0,ih1⟩:=node_Split.mono_l k
 unfold node_Split.f
 repeat' first
   | (with_reducible exact ih0 _ _ _ _ _)
   | (with_reducible exact ih1 _ _ _ _ _)
   | (with_reducible exact node_half.mono _ _)
   | (with_reducible exact node_splitLeaf.mono _ _)
   | (with_reducible exact LeO.refl _)
   | (with_reducible exact LeO.none _)
   | (with_reducible refine LeO.ite ?_ ?_)
   | (with_reducible refine LeO.bind ?_ (fun _=>?_))
   | exact ih0 _ _ _ _ _
   | exact ih1 _ _ _ _ _
   | exact node_half.mono _ _
   | exact node_splitLeaf.mono _ _
   | exact LeO.none _
   | refine LeO.ite ?_ ?_
   | refine LeO.bind ?_ (fun _=>?_)
def node_Split.T5:Bool × List (List Nat × List Nat):=(true,[([],[]),([0],[0]),([],[]),([1,2],[1,2]),([3],[3]),([],[]),([5],[5]),([],[]),([7],[7]),([6,8],[6,8]),([9,4],[9]),([4,10],[4,10]),([],[]),([12,11,10,0,1,2,3,4,5,6,7,8,9,10,11,12],[11,12])])
def node_Split.B5:List Nat:=[0,1,0,7,15,0,32,0,128,480,1023,2047,0,8191]
theorem node_Split.tab5:rtab .any (opsOf Try.f16 5)=node_Split.T5:=by kernel_rfl
theorem node_Split.bits5:waitsOk node_Split.T5.2 node_Split.B5=true:=by kernel_rfl
def node_Split.T6:Bool × List (List Nat × List Nat):=(true,[([],[]),([0],[0]),([],[]),([2],[2]),([1,3],[1,3]),([4],[4]),([],[]),([6],[6]),([],[]),([8],[8]),([7,9],[7,9]),([10,5],[10]),([5,11],[5,11]),([],[]),([13,12,11,0,1,2,3,4,5,6,7,8,9,10,11,12,13],[12,13])])
def node_Split.B6:List Nat:=[0,1,0,4,15,31,0,64,0,256,960,2047,4095,0,16383]
theorem node_Split.tab6:rtab .any (opsOf Try.f16 6)=node_Split.T6:=by kernel_rfl
theorem node_Split.bits6:waitsOk node_Split.T6.2 node_Split.B6=true:=by kernel_rfl
def node_Split.T7:Bool × List (List Nat × List Nat):=(true,[([],[]),([],[]),([],[]),([2],[2]),([],[]),([3,4],[3,4]),([5],[5]),([0,0],[0]),([1,7,0,1,7],[1]),([6,8,0,1,2,3,4,5,6,7,8],[6])])
def node_Split.B7:List Nat:=[0,0,0,4,0,28,60,1,131,511]
theorem node_Split.tab7:rtab .any (opsOf Try.f16 7)=node_Split.T7:=by kernel_rfl
theorem node_Split.bits7:waitsOk node_Split.T7.2 node_Split.B7=true:=by kernel_rfl
set_option maxHeartbeats 8000000 in
set_option maxRecDepth 100000 in
theorem node_Split.calls (k:Nat) (a0_0:Bool) (P0_1_:Nat→Prop) (A0_1:Option Addr) (c0_1:Nat) (l0_1:List (S43)) (P0_2_:Nat→Prop) (A0_2:Option Addr) (c0_2:Nat) (l0_2:List ByteArray) (P0_3_:Nat→Prop) (A0_3:Option Addr) (c0_3:Nat) (l0_3:List Int) (r1:Bool) (r2:List (S43)) (r3:List ByteArray) (r4:List Int) (r5:Bool) (r6:List (S43)) (r7:List ByteArray) (r8:List Int) (r9:ByteArray) (w:World) (hs0_1:Kd.V k43 43 w w.heap.size (fun k_=>P0_1_ k_) (.slice A0_1 l0_1.length c0_1) l0_1) (hs0_2:Kd.V Kd.string 9 w w.heap.size (fun k_=>P0_2_ k_) (.slice A0_2 l0_2.length c0_2) l0_2) (hs0_3:Kd.V (Kd.int .i64) 3 w w.heap.size (fun k_=>P0_3_ k_) (.slice A0_3 l0_3.length c0_3) l0_3) (h:node_Split.f k a0_0 l0_1 l0_2 l0_3=some (r1,r2,r3,r4,r5,r6,r7,r8,r9)) :
  Calls Try.prog 16 #[.agg #[.bool a0_0,.slice A0_1 l0_1.length c0_1,.slice A0_2 l0_2.length c0_2,.slice A0_3 l0_3.length c0_3]] w fun e w'=>∃ v1_ v2_ v3_ v5_ v6_ v7_:Value,e=.returned (.tuple #[.agg #[.bool r1,v1_,v2_,v3_],.agg #[.bool r5,v5_,v6_,v7_],.string r9])∧Kd.V k43 43 w' w.heap.size (fun k_=>((P0_1_ k_ ∨ P0_2_ k_ ∨ P0_3_ k_) ∨ w.heap.size≤k_)∧some k_ ≠ (v5_:Value).ownBlock∧some k_ ≠ (v6_:Value).ownBlock∧some k_ ≠ (v7_:Value).ownBlock) v1_ r2∧Kd.V Kd.string 9 w' w.heap.size (fun k_=>((P0_1_ k_ ∨ P0_2_ k_ ∨ P0_3_ k_) ∨ w.heap.size≤k_)∧some k_ ≠ (v5_:Value).ownBlock∧some k_ ≠ (v6_:Value).ownBlock∧some k_ ≠ (v7_:Value).ownBlock) v2_ r3∧Kd.V (Kd.int .i64) 3 w' w.heap.size (fun k_=>((P0_1_ k_ ∨ P0_2_ k_ ∨ P0_3_ k_) ∨ w.heap.size≤k_)∧some k_ ≠ (v5_:Value).ownBlock∧some k_ ≠ (v6_:Value).ownBlock∧some k_ ≠ (v7_:Value).ownBlock) v3_ r4∧Kd.R k43 43 w' w.heap.size (fun k_=>(w.heap.size≤k_)) v5_ r6∧Kd.R Kd.string 9 w' w.heap.size (fun k_=>(w.heap.size≤k_)) v6_ r7∧Kd.R (Kd.int .i64) 3 w' w.heap.size (fun k_=>(w.heap.size≤k_)) v7_ r8∧Below w.heap.size w w':=by
 have hu26:=Try.underlying26
 have HO0_1:=Aside0.mk (show Kd.V k43 43 w w.heap.size (fun k_=>((P0_1_ k_ ∨ P0_2_ k_ ∨ P0_3_ k_) ∨ w.heap.size≤k_)) (.slice A0_1 l0_1.length c0_1) l0_1 from Kd.V_mono hs0_1 (fun k_ hk=>.inl (.inl hk)))
 have HO0_2:=Aside0.mk (show Kd.V Kd.string 9 w w.heap.size (fun k_=>((P0_1_ k_ ∨ P0_2_ k_ ∨ P0_3_ k_) ∨ w.heap.size≤k_)) (.slice A0_2 l0_2.length c0_2) l0_2 from Kd.V_mono hs0_2 (fun k_ hk=>.inl (.inr (.inl hk))))
 have HO0_3:=Aside0.mk (show Kd.V (Kd.int .i64) 3 w w.heap.size (fun k_=>((P0_1_ k_ ∨ P0_2_ k_ ∨ P0_3_ k_) ∨ w.heap.size≤k_)) (.slice A0_3 l0_3.length c0_3) l0_3 from Kd.V_mono hs0_3 (fun k_ hk=>.inl (.inr (.inr hk))))
 have HB:=Aside0.mk (Below.refl w.heap.size w)
 have H:(if a0_0=true then (node_Split.j0 k (decide ((l0_1.length:Int) > 1)) a0_0 l0_1 l0_2 l0_3) else (node_Split.j0 k false a0_0 l0_1 l0_2 l0_3))=some (r1,r2,r3,r4,r5,r6,r7,r8,r9):=h
 clear h
 have HC2:=Aside0.mk H
 clear H
 go_enter Try.func16,Try.ntmps16
 go_upto_region 1 with (first|((with_reducible refine gate_dst (N:=1) rfl ?_);(try (refine gate_guard (by rfl) ?_;dsimp only));refine box_event ?hg (N:=1) ?hd (cs:=#[.bool a0_0,.slice A0_1 l0_1.length c0_1,.slice A0_2 l0_2.length c0_2,.slice A0_3 l0_3.length c0_3]) (t:=26) ?hr ?_;(case hd=>rfl);(case hg=>rfl);(case hr=>first|(go_simp;done)|(go_simp;rfl));intro gb267 hg w3 hbox hb;replace HO0_1:=Aside0.mk (Kd.V_below (Kd.V_elderB (by (with_reducible repeat (first|apply Kd.V_alloc|apply Kd.V_drewN|apply Kd.V_drew));exact HO0_1.out) gb267 (Nat.le_of_eq hg.symm)) hb);replace HO0_2:=Aside0.mk (Kd.V_below (Kd.V_elderB (by (with_reducible repeat (first|apply Kd.V_alloc|apply Kd.V_drewN|apply Kd.V_drew));exact HO0_2.out) gb267 (Nat.le_of_eq hg.symm)) hb);replace HO0_3:=Aside0.mk (Kd.V_below (Kd.V_elderB (by (with_reducible repeat (first|apply Kd.V_alloc|apply Kd.V_drewN|apply Kd.V_drew));exact HO0_3.out) gb267 (Nat.le_of_eq hg.symm)) hb);have BK267:=Aside0.mk (hbox);have GW267:=Aside0.mk ((by rw [hg];exact (below_size (by repeat (first|(with_reducible first|exact HB.out|apply zl1|apply zl2|apply zl3)|exact HB.out))):w.heap.size≤gb267));have GE267:=Aside0.mk ((by rw [hg];exact (below_size (by repeat (first|(with_reducible first|exact HB.out|apply zl1|apply zl2|apply zl3)|exact HB.out))):w.heap.size≤gb267));replace HB:=Aside0.mk (below_step (by repeat (first|(with_reducible first|exact HB.out|apply zl1|apply zl2|apply zl3)|exact HB.out)) hb);clear hb hbox hg)|((with_reducible refine gate_dst (N:=2) rfl ?_);(try (refine gate_guard (by rfl) ?_;dsimp only));refine box_event ?hg (N:=2) ?hd (cs:=#[.bool false,.slice none 0 0,.slice none 0 0,.slice none 0 0]) (t:=26) ?hr ?_;(case hd=>rfl);(case hg=>rfl);(case hr=>first|(go_simp;done)|(go_simp;rfl));intro gb268 hg w4 hbox hb;replace HO0_1:=Aside0.mk (Kd.V_below (Kd.V_elderB (by (with_reducible repeat (first|apply Kd.V_alloc|apply Kd.V_drewN|apply Kd.V_drew));exact HO0_1.out) gb268 (Nat.le_of_eq hg.symm)) hb);replace HO0_2:=Aside0.mk (Kd.V_below (Kd.V_elderB (by (with_reducible repeat (first|apply Kd.V_alloc|apply Kd.V_drewN|apply Kd.V_drew));exact HO0_2.out) gb268 (Nat.le_of_eq hg.symm)) hb);replace HO0_3:=Aside0.mk (Kd.V_below (Kd.V_elderB (by (with_reducible repeat (first|apply Kd.V_alloc|apply Kd.V_drewN|apply Kd.V_drew));exact HO0_3.out) gb268 (Nat.le_of_eq hg.symm)) hb);have BK268:=Aside0.mk (hbox);have GW268:=Aside0.mk ((by rw [hg];exact (below_size (by repeat (first|(with_reducible first|exact HB.out|apply zl1|apply zl2|apply zl3|refine below_set ?_ GE267.out)|exact HB.out))):w.heap.size≤gb268));have GE268:=Aside0.mk ((by rw [hg];exact (below_size (by repeat (first|(with_reducible first|exact HB.out|apply zl1|apply zl2|apply zl3|refine below_set ?_ GE267.out)|exact HB.out))):w.heap.size≤gb268));replace HB:=Aside0.mk (below_step (by repeat (first|(with_reducible first|exact HB.out|apply zl1|apply zl2|apply zl3|refine below_set ?_ GE267.out)|exact HB.out)) hb);have NB267_268:=Aside0.mk ((by rw [hg];exact Nat.ne_of_lt (blk_lt (g:=gb267) (o:=.cells #[.bool a0_0,.slice A0_1 l0_1.length c0_1,.slice A0_2 l0_2.length c0_2,.slice A0_3 l0_3.length c0_3] 26 (0,0)) (by (with_reducible repeat (first|apply zb1|apply zb2|apply zb3));exact BK267.out)):gb267 ≠ gb268));have NB268_267:=Aside0.mk ((by rw [hg];exact Nat.ne_of_gt (blk_lt (g:=gb267) (o:=.cells #[.bool a0_0,.slice A0_1 l0_1.length c0_1,.slice A0_2 l0_2.length c0_2,.slice A0_3 l0_3.length c0_3] 26 (0,0)) (by (with_reducible repeat (first|apply zb1|apply zb2|apply zb3));exact BK267.out)):gb268 ≠ gb267));replace BK267:=Aside0.mk (blk_below (g:=gb267) (o:=.cells #[.bool a0_0,.slice A0_1 l0_1.length c0_1,.slice A0_2 l0_2.length c0_2,.slice A0_3 l0_3.length c0_3] 26 (0,0)) (by (with_reducible repeat (first|apply zb1|apply zb2|apply zb3));exact BK267.out) hb);clear hb hbox hg)|((with_reducible refine gate_dst (N:=3) rfl ?_);(try (refine gate_guard (by rfl) ?_;dsimp only));refine box_event ?hg (N:=3) ?hd (cs:=#[.bool false,.slice none 0 0,.slice none 0 0,.slice none 0 0]) (t:=26) ?hr ?_;(case hd=>rfl);(case hg=>rfl);(case hr=>first|(go_simp;done)|(go_simp;rfl));intro gb269 hg w5 hbox hb;replace HO0_1:=Aside0.mk (Kd.V_below (Kd.V_elderB (by (with_reducible repeat (first|apply Kd.V_alloc|apply Kd.V_drewN|apply Kd.V_drew));exact HO0_1.out) gb269 (Nat.le_of_eq hg.symm)) hb);replace HO0_2:=Aside0.mk (Kd.V_below (Kd.V_elderB (by (with_reducible repeat (first|apply Kd.V_alloc|apply Kd.V_drewN|apply Kd.V_drew));exact HO0_2.out) gb269 (Nat.le_of_eq hg.symm)) hb);replace HO0_3:=Aside0.mk (Kd.V_below (Kd.V_elderB (by (with_reducible repeat (first|apply Kd.V_alloc|apply Kd.V_drewN|apply Kd.V_drew));exact HO0_3.out) gb269 (Nat.le_of_eq hg.symm)) hb);have BK269:=Aside0.mk (hbox);have GW269:=Aside0.mk ((by rw [hg];exact (below_size (by repeat (first|(with_reducible first|exact HB.out|apply zl1|apply zl2|apply zl3|refine below_set ?_ GE267.out|refine below_set ?_ GE268.out)|exact HB.out))):w.heap.size≤gb269));have GE269:=Aside0.mk ((by rw [hg];exact (below_size (by repeat (first|(with_reducible first|exact HB.out|apply zl1|apply zl2|apply zl3|refine below_set ?_ GE267.out|refine below_set ?_ GE268.out)|exact HB.out))):w.heap.size≤gb269));replace HB:=Aside0.mk (below_step (by repeat (first|(with_reducible first|exact HB.out|apply zl1|apply zl2|apply zl3|refine below_set ?_ GE267.out|refine below_set ?_ GE268.out)|exact HB.out)) hb);have NB267_269:=Aside0.mk ((by rw [hg];exact Nat.ne_of_lt (blk_lt (g:=gb267) (o:=.cells #[.bool a0_0,.slice A0_1 l0_1.length c0_1,.slice A0_2 l0_2.length c0_2,.slice A0_3 l0_3.length c0_3] 26 (0,0)) (by (with_reducible repeat (first|apply zb1|apply zb2|apply zb3));exact BK267.out)):gb267 ≠ gb269));have NB269_267:=Aside0.mk ((by rw [hg];exact Nat.ne_of_gt (blk_lt (g:=gb267) (o:=.cells #[.bool a0_0,.slice A0_1 l0_1.length c0_1,.slice A0_2 l0_2.length c0_2,.slice A0_3 l0_3.length c0_3] 26 (0,0)) (by (with_reducible repeat (first|apply zb1|apply zb2|apply zb3));exact BK267.out)):gb269 ≠ gb267));replace BK267:=Aside0.mk (blk_below (g:=gb267) (o:=.cells #[.bool a0_0,.slice A0_1 l0_1.length c0_1,.slice A0_2 l0_2.length c0_2,.slice A0_3 l0_3.length c0_3] 26 (0,0)) (by (with_reducible repeat (first|apply zb1|apply zb2|apply zb3));exact BK267.out) hb);have NB268_269:=Aside0.mk ((by rw [hg];exact Nat.ne_of_lt (blk_lt (g:=gb268) (o:=.cells #[.bool false,.slice none 0 0,.slice none 0 0,.slice none 0 0] 26 (0,0)) (by (with_reducible repeat (first|apply zb1|apply zb2|apply zb3));exact BK268.out)):gb268 ≠ gb269));have NB269_268:=Aside0.mk ((by rw [hg];exact Nat.ne_of_gt (blk_lt (g:=gb268) (o:=.cells #[.bool false,.slice none 0 0,.slice none 0 0,.slice none 0 0] 26 (0,0)) (by (with_reducible repeat (first|apply zb1|apply zb2|apply zb3));exact BK268.out)):gb269 ≠ gb268));replace BK268:=Aside0.mk (blk_below (g:=gb268) (o:=.cells #[.bool false,.slice none 0 0,.slice none 0 0,.slice none 0 0] 26 (0,0)) (by (with_reducible repeat (first|apply zb1|apply zb2|apply zb3));exact BK268.out) hb);clear hb hbox hg))
 (try simp only [Act.put,List.setIfInBounds_toArray,List.set_cons_zero,List.set_cons_succ])
 go_cut [8] (fun v8 wc=>∃ (kq:Nat) (x8_1:Bool),v8=.bool x8_1∧Aside0 (node_Split.j0 kq x8_1 a0_0 l0_1 l0_2 l0_3=some (r1,r2,r3,r4,r5,r6,r7,r8,r9))∧Aside0 (kq≤k)∧Aside0 (Kd.V k43 43 wc w.heap.size (fun k_=>((P0_1_ k_ ∨ P0_2_ k_ ∨ P0_3_ k_) ∨ w.heap.size≤k_)∧k_ ≠ gb267∧k_ ≠ gb268∧k_ ≠ gb269) (.slice A0_1 l0_1.length c0_1) l0_1)∧Aside0 (Kd.V Kd.string 9 wc w.heap.size (fun k_=>((P0_1_ k_ ∨ P0_2_ k_ ∨ P0_3_ k_) ∨ w.heap.size≤k_)∧k_ ≠ gb267∧k_ ≠ gb268∧k_ ≠ gb269) (.slice A0_2 l0_2.length c0_2) l0_2)∧Aside0 (Kd.V (Kd.int .i64) 3 wc w.heap.size (fun k_=>((P0_1_ k_ ∨ P0_2_ k_ ∨ P0_3_ k_) ∨ w.heap.size≤k_)∧k_ ≠ gb267∧k_ ≠ gb268∧k_ ≠ gb269) (.slice A0_3 l0_3.length c0_3) l0_3)∧Aside0 (wc.heap[gb267]?=some (.cells #[.bool a0_0,(.slice A0_1 l0_1.length c0_1),(.slice A0_2 l0_2.length c0_2),(.slice A0_3 l0_3.length c0_3)] 26 (0,0)))∧Aside0 (wc.heap[gb268]?=some (.cells #[.bool false,(.slice none 0 0),(.slice none 0 0),(.slice none 0 0)] 26 (0,0)))∧Aside0 (wc.heap[gb269]?=some (.cells #[.bool false,(.slice none 0 0),(.slice none 0 0),(.slice none 0 0)] 26 (0,0)))∧Aside0 (Below w.heap.size w wc))
 case first =>
  have H:=HC2.out
  clear HC2
  by_cases c6:a0_0=true
  ·subst c6
   have H1:(node_Split.j0 k (decide ((l0_1.length:Int) > 1)) true l0_1 l0_2 l0_3)=some (r1,r2,r3,r4,r5,r6,r7,r8,r9):=by rw [if_pos rfl] at H;exact H
   clear H
   have H:=H1
   clear H1
   have H':=Aside0.mk H
   clear H
   have hnb7:=NB267_268.out
   have hnc7:=NB268_267.out
   have hnb8:=NB267_269.out
   have hnc8:=NB269_267.out
   obtain ⟨hcz9_0,hcz9_1,hcz9_2,hcz9_3⟩:=zc4 BK267.out
   obtain ⟨hfz9_0,hfz9_1,hfz9_2,hfz9_3⟩:=zf4 BK267.out
   go_wp2
   go_meet
   case rel=>exact ⟨_,(decide ((l0_1.length:Int) > 1)),(by first|(with_reducible rfl)|(simp;done)|(simp [*];done)|rfl|(simp only [not_isEmpty_bne])),H',⟨by first|omega|exact Nat.le_refl _⟩,⟨by (with_reducible repeat (first|apply Kd.V_alloc|apply Kd.V_drewN|apply Kd.V_drew));exact Kd.V_mono HO0_1.out (fun _ hk=>⟨hk.1.1.1,⟨hk.1.1.2,⟨hk.1.2,hk.2⟩⟩⟩)⟩,⟨by (with_reducible repeat (first|apply Kd.V_alloc|apply Kd.V_drewN|apply Kd.V_drew));exact Kd.V_mono HO0_2.out (fun _ hk=>⟨hk.1.1.1,⟨hk.1.1.2,⟨hk.1.2,hk.2⟩⟩⟩)⟩,⟨by (with_reducible repeat (first|apply Kd.V_alloc|apply Kd.V_drewN|apply Kd.V_drew));exact Kd.V_mono HO0_3.out (fun _ hk=>⟨hk.1.1.1,⟨hk.1.1.2,⟨hk.1.2,hk.2⟩⟩⟩)⟩,⟨by (with_reducible repeat (first|apply zb1|apply zb2|apply zb3));exact BK267.out⟩,⟨by (with_reducible repeat (first|apply zb1|apply zb2|apply zb3));exact BK268.out⟩,⟨by (with_reducible repeat (first|apply zb1|apply zb2|apply zb3));exact BK269.out⟩,⟨by repeat (first|(with_reducible first|exact HB.out|apply zl1|apply zl2|apply zl3|refine below_set ?_ GE267.out|refine below_set ?_ GE268.out|refine below_set ?_ GE269.out)|exact HB.out)⟩⟩
  ·replace c6:=Bool.eq_false_iff.mpr c6
   subst c6
   have H1:(node_Split.j0 k false false l0_1 l0_2 l0_3)=some (r1,r2,r3,r4,r5,r6,r7,r8,r9):=by rw [if_neg (show ¬ (false=true) by decide)] at H;exact H
   clear H
   have H:=H1
   clear H1
   have H':=Aside0.mk H
   clear H
   have hnb10:=NB267_268.out
   have hnc10:=NB268_267.out
   have hnb11:=NB267_269.out
   have hnc11:=NB269_267.out
   obtain ⟨hcz12_0,hcz12_1,hcz12_2,hcz12_3⟩:=zc4 BK267.out
   obtain ⟨hfz12_0,hfz12_1,hfz12_2,hfz12_3⟩:=zf4 BK267.out
   go_wp2
   go_meet
   case rel=>exact ⟨_,(false),(by first|(with_reducible rfl)|(simp;done)|(simp [*];done)|rfl|(simp only [not_isEmpty_bne])),H',⟨by first|omega|exact Nat.le_refl _⟩,⟨by (with_reducible repeat (first|apply Kd.V_alloc|apply Kd.V_drewN|apply Kd.V_drew));exact Kd.V_mono HO0_1.out (fun _ hk=>⟨hk.1.1.1,⟨hk.1.1.2,⟨hk.1.2,hk.2⟩⟩⟩)⟩,⟨by (with_reducible repeat (first|apply Kd.V_alloc|apply Kd.V_drewN|apply Kd.V_drew));exact Kd.V_mono HO0_2.out (fun _ hk=>⟨hk.1.1.1,⟨hk.1.1.2,⟨hk.1.2,hk.2⟩⟩⟩)⟩,⟨by (with_reducible repeat (first|apply Kd.V_alloc|apply Kd.V_drewN|apply Kd.V_drew));exact Kd.V_mono HO0_3.out (fun _ hk=>⟨hk.1.1.1,⟨hk.1.1.2,⟨hk.1.2,hk.2⟩⟩⟩)⟩,⟨by (with_reducible repeat (first|apply zb1|apply zb2|apply zb3));exact BK267.out⟩,⟨by (with_reducible repeat (first|apply zb1|apply zb2|apply zb3));exact BK268.out⟩,⟨by (with_reducible repeat (first|apply zb1|apply zb2|apply zb3));exact BK269.out⟩,⟨by repeat (first|(with_reducible first|exact HB.out|apply zl1|apply zl2|apply zl3|refine below_set ?_ GE267.out|refine below_set ?_ GE268.out|refine below_set ?_ GE269.out)|exact HB.out)⟩⟩
 case rest =>
  clear HC2
  try clear hfz12_0 hfz12_1 hfz12_2 hfz12_3 hfz9_0 hfz9_1 hfz9_2 hfz9_3
  try clear hcz12_0 hcz12_1 hcz12_2 hcz12_3 hcz9_0 hcz9_1 hcz9_2 hcz9_3
  try clear c1
  try clear p2
  try clear c6
  try clear c7
  try clear c8
  try clear c10
  try clear c11
  obtain ⟨kq,x8_1,rfl,HA,HJ1,HO_268001,HO_268002,HO_268003,BK267,BK268,BK269,HB⟩:=hcut
  cases kq with
  | zero=>exact absurd HA.out (by simp [node_Split.j0])
  | succ kj1 =>
   have H:=HA.out
   clear HA
   simp only [node_Split.j0] at H
   by_cases c13:x8_1=true
   ·subst c13
    have H1:((node_splitLeaf.f kj1 l0_1).bind fun bt270=>(some (bt270.1,bt270.2.1,bt270.2.2.1,bt270.2.2.2.1,bt270.2.2.2.2.1,bt270.2.2.2.2.2.1,bt270.2.2.2.2.2.2.1,bt270.2.2.2.2.2.2.2.1,bt270.2.2.2.2.2.2.2.2)))=some (r1,r2,r3,r4,r5,r6,r7,r8,r9):=by rw [if_pos rfl] at H;exact H
    clear H
    have H:=H1
    clear H1
    replace H:=Option.bind_eq_some_iff.mp H
    obtain ⟨⟨t270,t271,t274,t277,t280,t281,t284,t287,t290⟩,A140,H⟩:=H
    replace H:(some (t270,t271,t274,t277,t280,t281,t284,t287,t290))=some (r1,r2,r3,r4,r5,r6,r7,r8,r9):=H
    have A14:=Aside0.mk A140
    clear A140
    simp only [Option.some.injEq,Prod.mk.injEq] at H
    obtain ⟨rfl,rfl,rfl,rfl,rfl,rfl,rfl,rfl,rfl⟩:=H
    have hnb15:=NB267_268.out
    have hnc15:=NB268_267.out
    have hnb16:=NB267_269.out
    have hnc16:=NB269_267.out
    obtain ⟨hcz17_0,hcz17_1,hcz17_2,hcz17_3⟩:=zc4 BK267.out
    obtain ⟨hfz17_0,hfz17_1,hfz17_2,hfz17_3⟩:=zf4 BK267.out
    go_wp2_with (first|((with_reducible refine gate_callee (f:=32) rfl ?_);refine goesL_ (some 19) rfl rfl Try.func32 (by kernel_rfl) rfl #[.slice A0_1 l0_1.length c0_1] rfl (by (try simp only [List.map_toArray,List.map_cons,List.map_nil]);first|done|rfl|(simp only [List.length_drop,List.length_take];rfl)|(simp (disch:=omega) only [u64_in];rfl)) ?_;(with_reducible refine (node_splitLeaf.calls kj1 _ _ l0_1 t270 t271 t274 t277 t280 t281 t284 t287 t290 _ ?side1 ?side2 A14.out).mono ?_);(case side1=>repeat (first|exact (Kd.V_reads' HO_268001.out).2.2|(with_reducible refine Kd.C_alloc ?_ _)|(with_reducible refine Kd.C_drewN ?_ _)|(with_reducible refine Kd.C_drew ?_)));(case side2=>exact (Kd.V_reads' HO_268001.out).2.1);rintro e w18 ⟨v272,v275,v278,v282,v285,v288,rfl,ho0,ho1,ho2,ho3,ho4,ho5,hb⟩;refine ⟨_,rfl,?_⟩;replace HO_268001:=Aside0.mk (Kd.V_mono (Kd.V_told (Kd.V_told (Kd.V_told (Kd.V_told (Kd.V_told (Kd.V_told (Kd.V_old (by (with_reducible repeat (first|apply Kd.V_alloc|apply Kd.V_drewN|apply Kd.V_drew));exact HO_268001.out) hb) (Kd.R_base ho0)) (Kd.R_base ho1)) (Kd.R_base ho2)) (Kd.R_base ho3)) (Kd.R_base ho4)) (Kd.R_base ho5)) (fun _ h_=>h_.1));replace HO_268002:=Aside0.mk (Kd.V_mono (Kd.V_told (Kd.V_told (Kd.V_told (Kd.V_told (Kd.V_told (Kd.V_told (Kd.V_old (by (with_reducible repeat (first|apply Kd.V_alloc|apply Kd.V_drewN|apply Kd.V_drew));exact HO_268002.out) hb) (Kd.R_base ho0)) (Kd.R_base ho1)) (Kd.R_base ho2)) (Kd.R_base ho3)) (Kd.R_base ho4)) (Kd.R_base ho5)) (fun _ h_=>h_.1));replace HO_268003:=Aside0.mk (Kd.V_mono (Kd.V_told (Kd.V_told (Kd.V_told (Kd.V_told (Kd.V_told (Kd.V_told (Kd.V_old (by (with_reducible repeat (first|apply Kd.V_alloc|apply Kd.V_drewN|apply Kd.V_drew));exact HO_268003.out) hb) (Kd.R_base ho0)) (Kd.R_base ho1)) (Kd.R_base ho2)) (Kd.R_base ho3)) (Kd.R_base ho4)) (Kd.R_base ho5)) (fun _ h_=>h_.1));have HO273:=Aside0.mk (Kd.R_lower (Kd.R_newM (M:=fun k_=>(w.heap.size≤k_)) ho0 (below_size (by repeat (first|(with_reducible first|exact HB.out|apply zl1|apply zl2|apply zl3|refine below_set ?_ GE267.out|refine below_set ?_ GE268.out|refine below_set ?_ GE269.out)|exact HB.out))) (fun k_ h_=>h_)) (below_size (by repeat (first|(with_reducible first|exact HB.out|apply zl1|apply zl2|apply zl3|refine below_set ?_ GE267.out|refine below_set ?_ GE268.out|refine below_set ?_ GE269.out)|exact HB.out))));have HO276:=Aside0.mk (Kd.R_lower (Kd.R_newM (M:=fun k_=>(w.heap.size≤k_)) ho1 (below_size (by repeat (first|(with_reducible first|exact HB.out|apply zl1|apply zl2|apply zl3|refine below_set ?_ GE267.out|refine below_set ?_ GE268.out|refine below_set ?_ GE269.out)|exact HB.out))) (fun k_ h_=>h_)) (below_size (by repeat (first|(with_reducible first|exact HB.out|apply zl1|apply zl2|apply zl3|refine below_set ?_ GE267.out|refine below_set ?_ GE268.out|refine below_set ?_ GE269.out)|exact HB.out))));have HO279:=Aside0.mk (Kd.R_lower (Kd.R_newM (M:=fun k_=>(w.heap.size≤k_)) ho2 (below_size (by repeat (first|(with_reducible first|exact HB.out|apply zl1|apply zl2|apply zl3|refine below_set ?_ GE267.out|refine below_set ?_ GE268.out|refine below_set ?_ GE269.out)|exact HB.out))) (fun k_ h_=>h_)) (below_size (by repeat (first|(with_reducible first|exact HB.out|apply zl1|apply zl2|apply zl3|refine below_set ?_ GE267.out|refine below_set ?_ GE268.out|refine below_set ?_ GE269.out)|exact HB.out))));have HO283:=Aside0.mk (Kd.R_lower (Kd.R_newM (M:=fun k_=>(w.heap.size≤k_)) ho3 (below_size (by repeat (first|(with_reducible first|exact HB.out|apply zl1|apply zl2|apply zl3|refine below_set ?_ GE267.out|refine below_set ?_ GE268.out|refine below_set ?_ GE269.out)|exact HB.out))) (fun k_ h_=>h_)) (below_size (by repeat (first|(with_reducible first|exact HB.out|apply zl1|apply zl2|apply zl3|refine below_set ?_ GE267.out|refine below_set ?_ GE268.out|refine below_set ?_ GE269.out)|exact HB.out))));have HO286:=Aside0.mk (Kd.R_lower (Kd.R_newM (M:=fun k_=>(w.heap.size≤k_)) ho4 (below_size (by repeat (first|(with_reducible first|exact HB.out|apply zl1|apply zl2|apply zl3|refine below_set ?_ GE267.out|refine below_set ?_ GE268.out|refine below_set ?_ GE269.out)|exact HB.out))) (fun k_ h_=>h_)) (below_size (by repeat (first|(with_reducible first|exact HB.out|apply zl1|apply zl2|apply zl3|refine below_set ?_ GE267.out|refine below_set ?_ GE268.out|refine below_set ?_ GE269.out)|exact HB.out))));have HO289:=Aside0.mk (Kd.R_lower (Kd.R_newM (M:=fun k_=>(w.heap.size≤k_)) ho5 (below_size (by repeat (first|(with_reducible first|exact HB.out|apply zl1|apply zl2|apply zl3|refine below_set ?_ GE267.out|refine below_set ?_ GE268.out|refine below_set ?_ GE269.out)|exact HB.out))) (fun k_ h_=>h_)) (below_size (by repeat (first|(with_reducible first|exact HB.out|apply zl1|apply zl2|apply zl3|refine below_set ?_ GE267.out|refine below_set ?_ GE268.out|refine below_set ?_ GE269.out)|exact HB.out))));replace BK267:=Aside0.mk (blk_below (g:=gb267) (o:=.cells #[.bool a0_0,.slice A0_1 l0_1.length c0_1,.slice A0_2 l0_2.length c0_2,.slice A0_3 l0_3.length c0_3] 26 (0,0)) (by (with_reducible repeat (first|apply zb1|apply zb2|apply zb3));exact BK267.out) hb);replace BK268:=Aside0.mk (blk_below (g:=gb268) (o:=.cells #[.bool false,.slice none 0 0,.slice none 0 0,.slice none 0 0] 26 (0,0)) (by (with_reducible repeat (first|apply zb1|apply zb2|apply zb3));exact BK268.out) hb);replace BK269:=Aside0.mk (blk_below (g:=gb269) (o:=.cells #[.bool false,.slice none 0 0,.slice none 0 0,.slice none 0 0] 26 (0,0)) (by (with_reducible repeat (first|apply zb1|apply zb2|apply zb3));exact BK269.out) hb);replace HB:=Aside0.mk (below_step (by repeat (first|(with_reducible first|exact HB.out|apply zl1|apply zl2|apply zl3|refine below_set ?_ GE267.out|refine below_set ?_ GE268.out|refine below_set ?_ GE269.out)|exact HB.out)) hb);(try clear hb);(try clear ho0);(try clear ho1);(try clear ho2);(try clear ho3);(try clear ho4);(try clear ho5);obtain ⟨Ao19,co19,eo19⟩:=Kd.R_slice HO273.out;subst eo19;obtain ⟨Ao20,co20,eo20⟩:=Kd.R_slice HO276.out;subst eo20;obtain ⟨Ao21,co21,eo21⟩:=Kd.R_slice HO279.out;subst eo21)|((with_reducible refine gate_store (t:=26) (p:=2) rfl ?_);refine store_all 26 gb268 26 #[.bool false,.slice none 0 0,.slice none 0 0,.slice none 0 0] #[.bool t270,.slice Ao19 t271.length co19,.slice Ao20 t274.length co20,.slice Ao21 t277.length co21] rfl rfl rfl (by first|rfl|(go_simp;done)) (by (with_reducible repeat (first|apply zb1|apply zb2|apply zb3));exact BK268.out) (by kernel_rfl) rfl (by kernel_rfl) ?_;intro w22 hx hg;replace HO_268001:=Aside0.mk (Kd.V_grown HO_268001.out hg (fun k_ hk_ he_=>(hk_.1.1.1.1.1.1.2.2.1) (Option.some.inj he_)));replace HO_268002:=Aside0.mk (Kd.V_grown HO_268002.out hg (fun k_ hk_ he_=>(hk_.1.1.1.1.1.1.2.2.1) (Option.some.inj he_)));replace HO_268003:=Aside0.mk (Kd.V_grown HO_268003.out hg (fun k_ hk_ he_=>(hk_.1.1.1.1.1.1.2.2.1) (Option.some.inj he_)));replace BK267:=Aside0.mk (blk_grown (g:=gb267) (o:=.cells #[.bool a0_0,.slice A0_1 l0_1.length c0_1,.slice A0_2 l0_2.length c0_2,.slice A0_3 l0_3.length c0_3] 26 (0,0)) (by (with_reducible repeat (first|apply zb1|apply zb2|apply zb3));exact BK267.out) hg (fun e_=>NB267_268.out (Option.some.inj e_)));replace BK269:=Aside0.mk (blk_grown (g:=gb269) (o:=.cells #[.bool false,.slice none 0 0,.slice none 0 0,.slice none 0 0] 26 (0,0)) (by (with_reducible repeat (first|apply zb1|apply zb2|apply zb3));exact BK269.out) hg (fun e_=>NB269_268.out (Option.some.inj e_)));replace HO273:=Aside0.mk (Kd.R_mono (Kd.R_grown (Kd.R_types HO273.out BK268.out (by decide)) hg (fun k_ hk_ he_=>(hk_.2) (Option.some.inj he_))) (fun _ h_=>h_.1));replace HO276:=Aside0.mk (Kd.R_mono (Kd.R_grown (Kd.R_types HO276.out BK268.out (by decide)) hg (fun k_ hk_ he_=>(hk_.2) (Option.some.inj he_))) (fun _ h_=>h_.1));replace HO279:=Aside0.mk (Kd.R_mono (Kd.R_grown (Kd.R_types HO279.out BK268.out (by decide)) hg (fun k_ hk_ he_=>(hk_.2) (Option.some.inj he_))) (fun _ h_=>h_.1));replace HO283:=Aside0.mk (Kd.R_mono (Kd.R_grown (Kd.R_types HO283.out BK268.out (by decide)) hg (fun k_ hk_ he_=>(hk_.2) (Option.some.inj he_))) (fun _ h_=>h_.1));replace HO286:=Aside0.mk (Kd.R_mono (Kd.R_grown (Kd.R_types HO286.out BK268.out (by decide)) hg (fun k_ hk_ he_=>(hk_.2) (Option.some.inj he_))) (fun _ h_=>h_.1));replace HO289:=Aside0.mk (Kd.R_mono (Kd.R_grown (Kd.R_types HO289.out BK268.out (by decide)) hg (fun k_ hk_ he_=>(hk_.2) (Option.some.inj he_))) (fun _ h_=>h_.1));replace HB:=Aside0.mk ((fun {W_:World} (hB_:Below w.heap.size w W_) (hg_:W_.grownBy w22 (some gb268))=>hB_.grown hg_ hB_.size (fun k_ e_=>by cases e_;exact GE268.out)) (by repeat (first|(with_reducible first|exact HB.out|apply zl1|apply zl2|apply zl3|refine below_set ?_ GE267.out|refine below_set ?_ GE268.out|refine below_set ?_ GE269.out)|exact HB.out)) hg);replace BK268:=Aside0.mk (hx);clear hx hg;obtain ⟨Ao23,co23,eo23⟩:=Kd.R_slice HO283.out;subst eo23;obtain ⟨Ao24,co24,eo24⟩:=Kd.R_slice HO286.out;subst eo24;obtain ⟨Ao25,co25,eo25⟩:=Kd.R_slice HO289.out;subst eo25)|((with_reducible refine gate_store (t:=26) (p:=3) rfl ?_);refine store_all 26 gb269 26 #[.bool false,.slice none 0 0,.slice none 0 0,.slice none 0 0] #[.bool t280,.slice Ao23 t281.length co23,.slice Ao24 t284.length co24,.slice Ao25 t287.length co25] rfl rfl rfl (by first|rfl|(go_simp;done)) (by (with_reducible repeat (first|apply zb1|apply zb2|apply zb3));exact BK269.out) (by kernel_rfl) rfl (by kernel_rfl) ?_;intro w26 hx hg;replace HO_268001:=Aside0.mk (Kd.V_grown HO_268001.out hg (fun k_ hk_ he_=>(hk_.1.1.1.1.1.1.2.2.2) (Option.some.inj he_)));replace HO_268002:=Aside0.mk (Kd.V_grown HO_268002.out hg (fun k_ hk_ he_=>(hk_.1.1.1.1.1.1.2.2.2) (Option.some.inj he_)));replace HO_268003:=Aside0.mk (Kd.V_grown HO_268003.out hg (fun k_ hk_ he_=>(hk_.1.1.1.1.1.1.2.2.2) (Option.some.inj he_)));replace BK267:=Aside0.mk (blk_grown (g:=gb267) (o:=.cells #[.bool a0_0,.slice A0_1 l0_1.length c0_1,.slice A0_2 l0_2.length c0_2,.slice A0_3 l0_3.length c0_3] 26 (0,0)) (by (with_reducible repeat (first|apply zb1|apply zb2|apply zb3));exact BK267.out) hg (fun e_=>NB267_269.out (Option.some.inj e_)));replace BK268:=Aside0.mk (blk_grown (g:=gb268) (o:=.cells #[.bool t270,.slice Ao19 t271.length co19,.slice Ao20 t274.length co20,.slice Ao21 t277.length co21] 26 (0,0)) (by (with_reducible repeat (first|apply zb1|apply zb2|apply zb3));exact BK268.out) hg (fun e_=>NB268_269.out (Option.some.inj e_)));replace HO273:=Aside0.mk (Kd.R_mono (Kd.R_grown (Kd.R_types HO273.out BK269.out (by decide)) hg (fun k_ hk_ he_=>(hk_.2) (Option.some.inj he_))) (fun _ h_=>h_.1));replace HO276:=Aside0.mk (Kd.R_mono (Kd.R_grown (Kd.R_types HO276.out BK269.out (by decide)) hg (fun k_ hk_ he_=>(hk_.2) (Option.some.inj he_))) (fun _ h_=>h_.1));replace HO279:=Aside0.mk (Kd.R_mono (Kd.R_grown (Kd.R_types HO279.out BK269.out (by decide)) hg (fun k_ hk_ he_=>(hk_.2) (Option.some.inj he_))) (fun _ h_=>h_.1));replace HO283:=Aside0.mk (Kd.R_mono (Kd.R_grown (Kd.R_types HO283.out BK269.out (by decide)) hg (fun k_ hk_ he_=>(hk_.2) (Option.some.inj he_))) (fun _ h_=>h_.1));replace HO286:=Aside0.mk (Kd.R_mono (Kd.R_grown (Kd.R_types HO286.out BK269.out (by decide)) hg (fun k_ hk_ he_=>(hk_.2) (Option.some.inj he_))) (fun _ h_=>h_.1));replace HO289:=Aside0.mk (Kd.R_mono (Kd.R_grown (Kd.R_types HO289.out BK269.out (by decide)) hg (fun k_ hk_ he_=>(hk_.2) (Option.some.inj he_))) (fun _ h_=>h_.1));replace HB:=Aside0.mk ((fun {W_:World} (hB_:Below w.heap.size w W_) (hg_:W_.grownBy w26 (some gb269))=>hB_.grown hg_ hB_.size (fun k_ e_=>by cases e_;exact GE269.out)) (by repeat (first|(with_reducible first|exact HB.out|apply zl1|apply zl2|apply zl3|refine below_set ?_ GE267.out|refine below_set ?_ GE268.out|refine below_set ?_ GE269.out)|exact HB.out)) hg);replace BK269:=Aside0.mk (hx);clear hx hg))
    refine bodyPost_ret (results_list (rs:=[.cell 2 26,.cell 3 26,.tmp 4]) rfl (by simp) (.cell gb268 26 #[.bool t270,.slice Ao19 t271.length co19,.slice Ao20 t274.length co20,.slice Ao21 t277.length co21] (0,0) _ rfl (by (with_reducible repeat (first|apply zb1|apply zb2|apply zb3));exact BK268.out) Try.underlying26 rfl (by kernel_rfl) (.cell gb269 26 #[.bool t280,.slice Ao23 t281.length co23,.slice Ao24 t284.length co24,.slice Ao25 t287.length co25] (0,0) _ rfl (by (with_reducible repeat (first|apply zb1|apply zb2|apply zb3));exact BK269.out) Try.underlying26 rfl (by kernel_rfl) (.tmp .nil)))) rfl ?_
    exact ⟨_,_,_,_,_,_,by first|(with_reducible rfl)|(simp only [isEmpty_bne,Bool.not_not] <;> rfl)|rfl|(simp [*,errW_none,errW_some] <;> rfl),(Kd.R_V (by (with_reducible repeat (first|apply zk1|apply zk2|apply zk3));exact Kd.R_mono (Kd.R_apart' (Kd.R_apart' HO273.out (Kd.R_typed HO286.out) (by decide)) (Kd.R_typed HO289.out) (by decide)) (fun _ hk=>⟨.inr (hk.1.1.1),⟨hk.1.1.2,⟨hk.1.2,hk.2⟩⟩⟩))),(Kd.R_V (by (with_reducible repeat (first|apply zk1|apply zk2|apply zk3));exact Kd.R_mono (Kd.R_apart' (Kd.R_apart' HO276.out (Kd.R_typed HO283.out) (by decide)) (Kd.R_typed HO289.out) (by decide)) (fun _ hk=>⟨.inr (hk.1.1.1),⟨hk.1.2,⟨hk.1.1.2,hk.2⟩⟩⟩))),(Kd.R_V (by (with_reducible repeat (first|apply zk1|apply zk2|apply zk3));exact Kd.R_mono (Kd.R_apart' (Kd.R_apart' HO279.out (Kd.R_typed HO283.out) (by decide)) (Kd.R_typed HO286.out) (by decide)) (fun _ hk=>⟨.inr (hk.1.1.1),⟨hk.1.2,⟨hk.2,hk.1.1.2⟩⟩⟩))),by (with_reducible repeat (first|apply zk1|apply zk2|apply zk3));exact Kd.R_mono HO283.out (fun _ hk=>hk.1),by (with_reducible repeat (first|apply zk1|apply zk2|apply zk3));exact Kd.R_mono HO286.out (fun _ hk=>hk.1),by (with_reducible repeat (first|apply zk1|apply zk2|apply zk3));exact Kd.R_mono HO289.out (fun _ hk=>hk.1),by repeat (first|(with_reducible first|exact HB.out|apply zl1|apply zl2|apply zl3|refine below_set ?_ GE267.out|refine below_set ?_ GE268.out|refine below_set ?_ GE269.out)|exact HB.out)⟩
   ·replace c13:=Bool.eq_false_iff.mpr c13
    subst c13
    have H1:(if a0_0=true then (node_Split.j1 kj1 false a0_0 l0_1 l0_2 l0_3) else (if (l0_2.length:Int) > 2 then (node_Split.j1 kj1 ((l0_3.length:Int) == (wrap64 ((l0_2.length:Int) + 1))) a0_0 l0_1 l0_2 l0_3) else (node_Split.j1 kj1 false a0_0 l0_1 l0_2 l0_3)))=some (r1,r2,r3,r4,r5,r6,r7,r8,r9):=by rw [if_neg (show ¬ (false=true) by decide)] at H;exact H
    clear H
    have H:=H1
    clear H1
    have HC27:=Aside0.mk H
    clear H
    go_upto_region 3 with (fail)
    go_cut [23] (fun v23 wc=>∃ (kq:Nat) (x23_26:Bool),v23=.bool x23_26∧Aside0 (node_Split.j1 kq x23_26 a0_0 l0_1 l0_2 l0_3=some (r1,r2,r3,r4,r5,r6,r7,r8,r9))∧Aside0 (kq≤kj1)∧Aside0 (Kd.V k43 43 wc w.heap.size (fun k_=>((P0_1_ k_ ∨ P0_2_ k_ ∨ P0_3_ k_) ∨ w.heap.size≤k_)∧k_ ≠ gb267∧k_ ≠ gb268∧k_ ≠ gb269) (.slice A0_1 l0_1.length c0_1) l0_1)∧Aside0 (Kd.V Kd.string 9 wc w.heap.size (fun k_=>((P0_1_ k_ ∨ P0_2_ k_ ∨ P0_3_ k_) ∨ w.heap.size≤k_)∧k_ ≠ gb267∧k_ ≠ gb268∧k_ ≠ gb269) (.slice A0_2 l0_2.length c0_2) l0_2)∧Aside0 (Kd.V (Kd.int .i64) 3 wc w.heap.size (fun k_=>((P0_1_ k_ ∨ P0_2_ k_ ∨ P0_3_ k_) ∨ w.heap.size≤k_)∧k_ ≠ gb267∧k_ ≠ gb268∧k_ ≠ gb269) (.slice A0_3 l0_3.length c0_3) l0_3)∧Aside0 (wc.heap[gb267]?=some (.cells #[.bool a0_0,(.slice A0_1 l0_1.length c0_1),(.slice A0_2 l0_2.length c0_2),(.slice A0_3 l0_3.length c0_3)] 26 (0,0)))∧Aside0 (wc.heap[gb268]?=some (.cells #[.bool false,(.slice none 0 0),(.slice none 0 0),(.slice none 0 0)] 26 (0,0)))∧Aside0 (wc.heap[gb269]?=some (.cells #[.bool false,(.slice none 0 0),(.slice none 0 0),(.slice none 0 0)] 26 (0,0)))∧Aside0 (Below w.heap.size w wc))
    case first =>
     have H:=HC27.out
     clear HC27
     by_cases c28:a0_0=true
     ·subst c28
      have H1:(node_Split.j1 kj1 false true l0_1 l0_2 l0_3)=some (r1,r2,r3,r4,r5,r6,r7,r8,r9):=by rw [if_pos rfl] at H;exact H
      clear H
      have H:=H1
      clear H1
      have H':=Aside0.mk H
      clear H
      have hnb29:=NB267_268.out
      have hnc29:=NB268_267.out
      have hnb30:=NB267_269.out
      have hnc30:=NB269_267.out
      obtain ⟨hcz31_0,hcz31_1,hcz31_2,hcz31_3⟩:=zc4 BK267.out
      obtain ⟨hfz31_0,hfz31_1,hfz31_2,hfz31_3⟩:=zf4 BK267.out
      go_wp2
      go_meet
      case rel=>exact ⟨_,(false),(by first|(with_reducible rfl)|(simp;done)|(simp [*];done)|rfl|(simp only [not_isEmpty_bne])),H',⟨by have:=HJ1.out;first|omega|exact Nat.le_refl _⟩,⟨by (with_reducible repeat (first|apply Kd.V_alloc|apply Kd.V_drewN|apply Kd.V_drew));exact HO_268001.out⟩,⟨by (with_reducible repeat (first|apply Kd.V_alloc|apply Kd.V_drewN|apply Kd.V_drew));exact HO_268002.out⟩,⟨by (with_reducible repeat (first|apply Kd.V_alloc|apply Kd.V_drewN|apply Kd.V_drew));exact HO_268003.out⟩,⟨by (with_reducible repeat (first|apply zb1|apply zb2|apply zb3));exact BK267.out⟩,⟨by (with_reducible repeat (first|apply zb1|apply zb2|apply zb3));exact BK268.out⟩,⟨by (with_reducible repeat (first|apply zb1|apply zb2|apply zb3));exact BK269.out⟩,⟨by repeat (first|(with_reducible first|exact HB.out|apply zl1|apply zl2|apply zl3|refine below_set ?_ GE267.out|refine below_set ?_ GE268.out|refine below_set ?_ GE269.out)|exact HB.out)⟩⟩
     ·replace c28:=Bool.eq_false_iff.mpr c28
      subst c28
      have H1:(if (l0_2.length:Int) > 2 then (node_Split.j1 kj1 ((l0_3.length:Int) == (wrap64 ((l0_2.length:Int) + 1))) false l0_1 l0_2 l0_3) else (node_Split.j1 kj1 false false l0_1 l0_2 l0_3))=some (r1,r2,r3,r4,r5,r6,r7,r8,r9):=by rw [if_neg (show ¬ (false=true) by decide)] at H;exact H
      clear H
      have H:=H1
      clear H1
      by_cases c32:(l0_2.length:Int) > 2
      ·rw [if_pos c32] at H
       have c32b0:decide (2 < (l0_2.length:Int))=true:=decide_eq_true c32
       have c32b1:decide (2 < l0_2.length)=true:=decide_eq_true (by omega)
       clear c32
       (first|rw [c32b0]|(simp only [i64_w,i32_w];rw [c32b0])|skip)
       have H':=Aside0.mk H
       clear H
       have hnb33:=NB267_268.out
       have hnc33:=NB268_267.out
       have hnb34:=NB267_269.out
       have hnc34:=NB269_267.out
       obtain ⟨hcz35_0,hcz35_1,hcz35_2,hcz35_3⟩:=zc4 BK267.out
       obtain ⟨hfz35_0,hfz35_1,hfz35_2,hfz35_3⟩:=zf4 BK267.out
       go_wp2
       go_meet
       case rel=>exact ⟨_,(((l0_3.length:Int) == (wrap64 ((l0_2.length:Int) + 1)))),(by first|(with_reducible rfl)|(simp;done)|(simp [*];done)|rfl|(simp only [not_isEmpty_bne])),H',⟨by have:=HJ1.out;first|omega|exact Nat.le_refl _⟩,⟨by (with_reducible repeat (first|apply Kd.V_alloc|apply Kd.V_drewN|apply Kd.V_drew));exact HO_268001.out⟩,⟨by (with_reducible repeat (first|apply Kd.V_alloc|apply Kd.V_drewN|apply Kd.V_drew));exact HO_268002.out⟩,⟨by (with_reducible repeat (first|apply Kd.V_alloc|apply Kd.V_drewN|apply Kd.V_drew));exact HO_268003.out⟩,⟨by (with_reducible repeat (first|apply zb1|apply zb2|apply zb3));exact BK267.out⟩,⟨by (with_reducible repeat (first|apply zb1|apply zb2|apply zb3));exact BK268.out⟩,⟨by (with_reducible repeat (first|apply zb1|apply zb2|apply zb3));exact BK269.out⟩,⟨by repeat (first|(with_reducible first|exact HB.out|apply zl1|apply zl2|apply zl3|refine below_set ?_ GE267.out|refine below_set ?_ GE268.out|refine below_set ?_ GE269.out)|exact HB.out)⟩⟩
      ·rw [if_neg c32] at H
       have c32b0:decide (2 < (l0_2.length:Int))=false:=decide_eq_false c32
       have c32b1:decide (2 < l0_2.length)=false:=decide_eq_false (by omega)
       clear c32
       (first|rw [c32b0]|(simp only [i64_w,i32_w];rw [c32b0])|skip)
       have H':=Aside0.mk H
       clear H
       have hnb36:=NB267_268.out
       have hnc36:=NB268_267.out
       have hnb37:=NB267_269.out
       have hnc37:=NB269_267.out
       obtain ⟨hcz38_0,hcz38_1,hcz38_2,hcz38_3⟩:=zc4 BK267.out
       obtain ⟨hfz38_0,hfz38_1,hfz38_2,hfz38_3⟩:=zf4 BK267.out
       go_wp2
       go_meet
       case rel=>exact ⟨_,(false),(by first|(with_reducible rfl)|(simp;done)|(simp [*];done)|rfl|(simp only [not_isEmpty_bne])),H',⟨by have:=HJ1.out;first|omega|exact Nat.le_refl _⟩,⟨by (with_reducible repeat (first|apply Kd.V_alloc|apply Kd.V_drewN|apply Kd.V_drew));exact HO_268001.out⟩,⟨by (with_reducible repeat (first|apply Kd.V_alloc|apply Kd.V_drewN|apply Kd.V_drew));exact HO_268002.out⟩,⟨by (with_reducible repeat (first|apply Kd.V_alloc|apply Kd.V_drewN|apply Kd.V_drew));exact HO_268003.out⟩,⟨by (with_reducible repeat (first|apply zb1|apply zb2|apply zb3));exact BK267.out⟩,⟨by (with_reducible repeat (first|apply zb1|apply zb2|apply zb3));exact BK268.out⟩,⟨by (with_reducible repeat (first|apply zb1|apply zb2|apply zb3));exact BK269.out⟩,⟨by repeat (first|(with_reducible first|exact HB.out|apply zl1|apply zl2|apply zl3|refine below_set ?_ GE267.out|refine below_set ?_ GE268.out|refine below_set ?_ GE269.out)|exact HB.out)⟩⟩
    case rest =>
     clear HC27
     try clear hcz12_0 hcz12_1 hcz12_2 hcz12_3 hcz17_0 hcz17_1 hcz17_2
     try clear c1
     try clear c2
     try clear p2
     try clear c3
     try clear c6
     try clear p6
     try clear c7
     try clear c8
     try clear c10
     try clear c11
     try clear c13
     try clear c15
     try clear c16
     try clear c28
     try clear c29
     try clear c30
     try clear c32
     try clear c32b0
     try clear c32b1
     try clear c33
     try clear c34
     try clear c36
     try clear c37
     try clear hfz12_0 hfz12_1 hfz12_2 hfz12_3 hfz17_0 hfz17_1 hfz17_2 hfz17_3 hfz31_0 hfz31_1 hfz31_2 hfz31_3 hfz35_0
     try clear hcz17_3 hcz31_0 hcz31_1 hcz31_2 hcz31_3 hcz35_0 hcz35_1 hcz35_2 hcz35_3 hcz38_0 hcz38_1 hcz38_2 hcz38_3 hcz9_0 hcz9_1 hcz9_2 hcz9_3
     try clear hfz35_1 hfz35_2 hfz35_3 hfz38_0 hfz38_1 hfz38_2 hfz38_3 hfz9_0 hfz9_1 hfz9_2 hfz9_3
     try clear p2
     obtain ⟨kq,x23_26,rfl,HA,HJ26,HO_268001,HO_268002,HO_268003,BK267,BK268,BK269,HB⟩:=hcut
     cases kq with
     | zero=>exact absurd HA.out (by simp [node_Split.j1])
     | succ kj26 =>
      have H:=HA.out
      clear HA
      simp only [node_Split.j1] at H
      by_cases c39:x23_26=true
      ·subst c39
       have H1:((node_half.f kj26 l0_2).bind fun t291=>(if 0≤t291 then (if t291≤(l0_2.length:Int) then ((slices_Clone_string_string.f (l0_2.take (t291:Int).toNat)).bind fun t297=>(if 0≤(wrap64 (t291 + 1)) then (if (wrap64 (t291 + 1))≤(l0_3.length:Int) then ((slices_Clone_int_int.f (l0_3.take ((wrap64 (t291 + 1)):Int).toNat)).bind fun t305=>(if (wrap64 (t291 + 1))≤(l0_2.length:Int) then ((slices_Clone_string_string.f (l0_2.drop ((wrap64 (t291 + 1)):Int).toNat)).bind fun t314=>((slices_Clone_int_int.f (l0_3.drop ((wrap64 (t291 + 1)):Int).toNat)).bind fun t322=>(if t291 < (l0_2.length:Int) then (some (false,([]:List (S43)),t297,t305,false,([]:List (S43)),t314,t322,rdOf ByteArray.empty l0_2 t291)) else (none)))) else (none))) else (none)) else (none))) else (none)) else (none)))=some (r1,r2,r3,r4,r5,r6,r7,r8,r9):=by rw [if_pos rfl] at H;exact H
       clear H
       have H:=H1
       clear H1
       replace H:=Option.bind_eq_some_iff.mp H
       obtain ⟨t291,A400,H⟩:=H
       replace H:(if 0≤t291 then (if t291≤(l0_2.length:Int) then ((slices_Clone_string_string.f (l0_2.take (t291:Int).toNat)).bind fun t297=>(if 0≤(wrap64 (t291 + 1)) then (if (wrap64 (t291 + 1))≤(l0_3.length:Int) then ((slices_Clone_int_int.f (l0_3.take ((wrap64 (t291 + 1)):Int).toNat)).bind fun t305=>(if (wrap64 (t291 + 1))≤(l0_2.length:Int) then ((slices_Clone_string_string.f (l0_2.drop ((wrap64 (t291 + 1)):Int).toNat)).bind fun t314=>((slices_Clone_int_int.f (l0_3.drop ((wrap64 (t291 + 1)):Int).toNat)).bind fun t322=>(if t291 < (l0_2.length:Int) then (some (false,([]:List (S43)),t297,t305,false,([]:List (S43)),t314,t322,rdOf ByteArray.empty l0_2 t291)) else (none)))) else (none))) else (none)) else (none))) else (none)) else (none))=some (r1,r2,r3,r4,r5,r6,r7,r8,r9):=H
       have A40:=Aside0.mk A400
       clear A400
       by_cases c41:0≤t291
       ·rw [if_pos c41] at H
        have c41b0:=eq_true c41
        have c41b1:decide (0≤t291)=true:=decide_eq_true c41
        clear c41
        by_cases c42:t291≤(l0_2.length:Int)
        ·rw [if_pos c42] at H
         have c42b0:=eq_true c42
         have c42b1:decide (t291≤(l0_2.length:Int))=true:=decide_eq_true c42
         clear c42
         obtain ⟨y292,hy292⟩:∃ y_:List ByteArray,y_=(l0_2.take (t291:Int).toNat):=⟨_,rfl⟩
         replace H:((slices_Clone_string_string.f y292).bind fun t297=>(if 0≤(wrap64 (t291 + 1)) then (if (wrap64 (t291 + 1))≤(l0_3.length:Int) then ((slices_Clone_int_int.f (l0_3.take ((wrap64 (t291 + 1)):Int).toNat)).bind fun t305=>(if (wrap64 (t291 + 1))≤(l0_2.length:Int) then ((slices_Clone_string_string.f (l0_2.drop ((wrap64 (t291 + 1)):Int).toNat)).bind fun t314=>((slices_Clone_int_int.f (l0_3.drop ((wrap64 (t291 + 1)):Int).toNat)).bind fun t322=>(if t291 < (l0_2.length:Int) then (some (false,([]:List (S43)),t297,t305,false,([]:List (S43)),t314,t322,rdOf ByteArray.empty l0_2 t291)) else (none)))) else (none))) else (none)) else (none)))=some (r1,r2,r3,r4,r5,r6,r7,r8,r9):=by first|(rw [hy292];with_reducible exact H)|(have H2_:=(Option.bind_some _ _).symm.trans H;rw [hy292];with_reducible exact H2_)|(have H2_:=(Option.bind_some _ _).symm.trans H;with_reducible exact H2_)|with_reducible exact H|(rw [hy292];exact H)|exact H
         have Ny292:=Aside0.mk hy292
         clear hy292
         replace H:=Option.bind_eq_some_iff.mp H
         obtain ⟨t297,A430,H⟩:=H
         replace H:(if 0≤(wrap64 (t291 + 1)) then (if (wrap64 (t291 + 1))≤(l0_3.length:Int) then ((slices_Clone_int_int.f (l0_3.take ((wrap64 (t291 + 1)):Int).toNat)).bind fun t305=>(if (wrap64 (t291 + 1))≤(l0_2.length:Int) then ((slices_Clone_string_string.f (l0_2.drop ((wrap64 (t291 + 1)):Int).toNat)).bind fun t314=>((slices_Clone_int_int.f (l0_3.drop ((wrap64 (t291 + 1)):Int).toNat)).bind fun t322=>(if t291 < (l0_2.length:Int) then (some (false,([]:List (S43)),t297,t305,false,([]:List (S43)),t314,t322,rdOf ByteArray.empty l0_2 t291)) else (none)))) else (none))) else (none)) else (none))=some (r1,r2,r3,r4,r5,r6,r7,r8,r9):=H
         have A43:=Aside0.mk A430
         clear A430
         obtain ⟨ji44,hji44⟩:∃ j_:Int,(wrap64 (t291 + 1))=j_:=⟨_,rfl⟩
         replace H:(if 0≤(ji44) then (if (ji44)≤(l0_3.length:Int) then ((slices_Clone_int_int.f (l0_3.take ((ji44):Int).toNat)).bind fun t305=>(if (ji44)≤(l0_2.length:Int) then ((slices_Clone_string_string.f (l0_2.drop ((ji44):Int).toNat)).bind fun t314=>((slices_Clone_int_int.f (l0_3.drop ((ji44):Int).toNat)).bind fun t322=>(if t291 < (l0_2.length:Int) then (some (false,([]:List (S43)),t297,t305,false,([]:List (S43)),t314,t322,rdOf ByteArray.empty l0_2 t291)) else (none)))) else (none))) else (none)) else (none))=some (r1,r2,r3,r4,r5,r6,r7,r8,r9):=by first|(rw [hji44] at H;exact H)|(simp only [hji44] at H ⊢;exact H)
         (try rw [hji44] at A40)
         (try rw [hji44] at A43)
         have hji44w:(IntKind.i64.wrap (t291 + 1))=ji44:=(i64_w _).trans hji44
         by_cases c45:0≤(ji44)
         ·rw [if_pos c45] at H
          have c45b0:=eq_true c45
          have c45b1:decide (0≤(ji44))=true:=decide_eq_true c45
          clear c45
          by_cases c46:(ji44)≤(l0_3.length:Int)
          ·rw [if_pos c46] at H
           have c46b0:=eq_true c46
           have c46b1:decide ((ji44)≤(l0_3.length:Int))=true:=decide_eq_true c46
           clear c46
           obtain ⟨y300,hy300⟩:∃ y_:List Int,y_=(l0_3.take ((ji44):Int).toNat):=⟨_,rfl⟩
           replace H:((slices_Clone_int_int.f y300).bind fun t305=>(if (ji44)≤(l0_2.length:Int) then ((slices_Clone_string_string.f (l0_2.drop ((ji44):Int).toNat)).bind fun t314=>((slices_Clone_int_int.f (l0_3.drop ((ji44):Int).toNat)).bind fun t322=>(if t291 < (l0_2.length:Int) then (some (false,([]:List (S43)),t297,t305,false,([]:List (S43)),t314,t322,rdOf ByteArray.empty l0_2 t291)) else (none)))) else (none)))=some (r1,r2,r3,r4,r5,r6,r7,r8,r9):=by first|(rw [hy300];with_reducible exact H)|(have H2_:=(Option.bind_some _ _).symm.trans H;rw [hy300];with_reducible exact H2_)|(have H2_:=(Option.bind_some _ _).symm.trans H;with_reducible exact H2_)|with_reducible exact H|(rw [hy300];exact H)|exact H
           have Ny300:=Aside0.mk hy300
           clear hy300
           replace H:=Option.bind_eq_some_iff.mp H
           obtain ⟨t305,A470,H⟩:=H
           replace H:(if (ji44)≤(l0_2.length:Int) then ((slices_Clone_string_string.f (l0_2.drop ((ji44):Int).toNat)).bind fun t314=>((slices_Clone_int_int.f (l0_3.drop ((ji44):Int).toNat)).bind fun t322=>(if t291 < (l0_2.length:Int) then (some (false,([]:List (S43)),t297,t305,false,([]:List (S43)),t314,t322,rdOf ByteArray.empty l0_2 t291)) else (none)))) else (none))=some (r1,r2,r3,r4,r5,r6,r7,r8,r9):=H
           have A47:=Aside0.mk A470
           clear A470
           have c48b0:=eq_true (of_decide_eq_true (by first|(with_reducible assumption)|assumption):0≤(ji44))
           by_cases c49:(ji44)≤(l0_2.length:Int)
           ·rw [if_pos c49] at H
            have c49b0:=eq_true c49
            have c49b1:decide ((ji44)≤(l0_2.length:Int))=true:=decide_eq_true c49
            clear c49
            obtain ⟨y309,hy309⟩:∃ y_:List ByteArray,y_=(l0_2.drop ((ji44):Int).toNat):=⟨_,rfl⟩
            replace H:((slices_Clone_string_string.f y309).bind fun t314=>((slices_Clone_int_int.f (l0_3.drop ((ji44):Int).toNat)).bind fun t322=>(if t291 < (l0_2.length:Int) then (some (false,([]:List (S43)),t297,t305,false,([]:List (S43)),t314,t322,rdOf ByteArray.empty l0_2 t291)) else (none))))=some (r1,r2,r3,r4,r5,r6,r7,r8,r9):=by first|(rw [hy309];with_reducible exact H)|(have H2_:=(Option.bind_some _ _).symm.trans H;rw [hy309];with_reducible exact H2_)|(have H2_:=(Option.bind_some _ _).symm.trans H;with_reducible exact H2_)|with_reducible exact H|(rw [hy309];exact H)|exact H
            have Ny309:=Aside0.mk hy309
            clear hy309
            replace H:=Option.bind_eq_some_iff.mp H
            obtain ⟨t314,A500,H⟩:=H
            replace H:((slices_Clone_int_int.f (l0_3.drop ((ji44):Int).toNat)).bind fun t322=>(if t291 < (l0_2.length:Int) then (some (false,([]:List (S43)),t297,t305,false,([]:List (S43)),t314,t322,rdOf ByteArray.empty l0_2 t291)) else (none)))=some (r1,r2,r3,r4,r5,r6,r7,r8,r9):=H
            have A50:=Aside0.mk A500
            clear A500
            have c51b0:=eq_true (of_decide_eq_true (by first|(with_reducible assumption)|assumption):0≤(ji44))
            have c52b0:=eq_true (of_decide_eq_true (by first|(with_reducible assumption)|assumption):(ji44)≤(l0_3.length:Int))
            obtain ⟨y317,hy317⟩:∃ y_:List Int,y_=(l0_3.drop ((ji44):Int).toNat):=⟨_,rfl⟩
            replace H:((slices_Clone_int_int.f y317).bind fun t322=>(if t291 < (l0_2.length:Int) then (some (false,([]:List (S43)),t297,t305,false,([]:List (S43)),t314,t322,rdOf ByteArray.empty l0_2 t291)) else (none)))=some (r1,r2,r3,r4,r5,r6,r7,r8,r9):=by first|(rw [hy317];with_reducible exact H)|(have H2_:=(Option.bind_some _ _).symm.trans H;rw [hy317];with_reducible exact H2_)|(have H2_:=(Option.bind_some _ _).symm.trans H;with_reducible exact H2_)|with_reducible exact H|(rw [hy317];exact H)|exact H
            have Ny317:=Aside0.mk hy317
            clear hy317
            replace H:=Option.bind_eq_some_iff.mp H
            obtain ⟨t322,A530,H⟩:=H
            replace H:(if t291 < (l0_2.length:Int) then (some (false,([]:List (S43)),t297,t305,false,([]:List (S43)),t314,t322,rdOf ByteArray.empty l0_2 t291)) else (none))=some (r1,r2,r3,r4,r5,r6,r7,r8,r9):=H
            have A53:=Aside0.mk A530
            clear A530
            by_cases c54:t291 < (l0_2.length:Int)
            ·rw [if_pos c54] at H
             have c54b0:decide (t291 < (l0_2.length:Int))=true:=decide_eq_true c54
             clear c54
             simp only [Option.some.injEq,Prod.mk.injEq] at H
             obtain ⟨rfl,rfl,rfl,rfl,rfl,rfl,rfl,rfl,rfl⟩:=H
             have hnb55:=NB267_268.out
             have hnc55:=NB268_267.out
             have hnb56:=NB267_269.out
             have hnc56:=NB269_267.out
             obtain ⟨hcz57_0,hcz57_1,hcz57_2,hcz57_3⟩:=zc4 BK267.out
             obtain ⟨hfz57_0,hfz57_1,hfz57_2,hfz57_3⟩:=zf4 BK267.out
             try go_wp2_with (first|((with_reducible refine gate_callee (f:=33) rfl ?_);refine goesL_ (some 45) rfl rfl Try.func33 (by kernel_rfl) rfl #[.slice A0_2 l0_2.length c0_2] rfl (by (try simp only [List.map_toArray,List.map_cons,List.map_nil]);first|done|rfl|(simp only [List.length_drop,List.length_take];rfl)|(simp (disch:=omega) only [u64_in];rfl)) ?_;(with_reducible refine (node_half.calls kj26 _ _ l0_2 t291 _ ?side1 ?side2 A40.out).mono ?_);(case side1=>repeat (first|exact (Kd.V_reads' HO_268002.out).2.2|(with_reducible refine Kd.C_alloc ?_ _)|(with_reducible refine Kd.C_drewN ?_ _)|(with_reducible refine Kd.C_drew ?_)));(case side2=>exact (Kd.V_reads' HO_268002.out).2.1);rintro e w' ⟨rfl,⟨nd,rfl⟩⟩;refine ⟨_,rfl,?_⟩;(try (rw [drewN_self wc];generalize hq_:World.drewN wc _=wc;have n0_:Aside0 (Kd.V k43 43 wc w.heap.size (fun k_=>((P0_1_ k_ ∨ P0_2_ k_ ∨ P0_3_ k_) ∨ w.heap.size≤k_)∧k_ ≠ gb267∧k_ ≠ gb268∧k_ ≠ gb269) (.slice A0_1 l0_1.length c0_1) l0_1):=⟨by rw [← hq_];exact (by (with_reducible repeat (first|apply Kd.V_alloc|apply Kd.V_drewN|apply Kd.V_drew));exact HO_268001.out)⟩;have n1_:Aside0 (Kd.V Kd.string 9 wc w.heap.size (fun k_=>((P0_1_ k_ ∨ P0_2_ k_ ∨ P0_3_ k_) ∨ w.heap.size≤k_)∧k_ ≠ gb267∧k_ ≠ gb268∧k_ ≠ gb269) (.slice A0_2 l0_2.length c0_2) l0_2):=⟨by rw [← hq_];exact (by (with_reducible repeat (first|apply Kd.V_alloc|apply Kd.V_drewN|apply Kd.V_drew));exact HO_268002.out)⟩;have n2_:Aside0 (Kd.V (Kd.int .i64) 3 wc w.heap.size (fun k_=>((P0_1_ k_ ∨ P0_2_ k_ ∨ P0_3_ k_) ∨ w.heap.size≤k_)∧k_ ≠ gb267∧k_ ≠ gb268∧k_ ≠ gb269) (.slice A0_3 l0_3.length c0_3) l0_3):=⟨by rw [← hq_];exact (by (with_reducible repeat (first|apply Kd.V_alloc|apply Kd.V_drewN|apply Kd.V_drew));exact HO_268003.out)⟩;have n3_:Aside0 (wc.heap[gb267]?=some (.cells #[.bool a0_0,.slice A0_1 l0_1.length c0_1,.slice A0_2 l0_2.length c0_2,.slice A0_3 l0_3.length c0_3] 26 (0,0))):=⟨by rw [← hq_];exact (by (with_reducible repeat (first|apply zb1|apply zb2|apply zb3));exact BK267.out)⟩;have n4_:Aside0 (wc.heap[gb268]?=some (.cells #[.bool false,.slice none 0 0,.slice none 0 0,.slice none 0 0] 26 (0,0))):=⟨by rw [← hq_];exact (by (with_reducible repeat (first|apply zb1|apply zb2|apply zb3));exact BK268.out)⟩;have n5_:Aside0 (wc.heap[gb269]?=some (.cells #[.bool false,.slice none 0 0,.slice none 0 0,.slice none 0 0] 26 (0,0))):=⟨by rw [← hq_];exact (by (with_reducible repeat (first|apply zb1|apply zb2|apply zb3));exact BK269.out)⟩;have n6_:Aside0 (Below w.heap.size w wc):=⟨by rw [← hq_];exact (by repeat (first|(with_reducible first|exact HB.out|apply zl1|apply zl2|apply zl3|refine below_set ?_ GE267.out|refine below_set ?_ GE268.out|refine below_set ?_ GE269.out)|exact HB.out))⟩;clear HO_268001 HO_268002 HO_268003 BK267 BK268 BK269 HB hq_;have HO_268001:=n0_;have HO_268002:=n1_;have HO_268003:=n2_;have BK267:=n3_;have BK268:=n4_;have BK269:=n5_;have HB:=n6_;clear n0_ n1_ n2_ n3_ n4_ n5_ n6_))))
             replace HO_268001:=Aside0.mk (Kd.V_drew HO_268001.out)
             replace HO_268002:=Aside0.mk (Kd.V_drew HO_268002.out)
             replace HO_268003:=Aside0.mk (Kd.V_drew HO_268003.out)
             replace BK267:=Aside0.mk (blk_drew BK267.out)
             replace BK268:=Aside0.mk (blk_drew BK268.out)
             replace BK269:=Aside0.mk (blk_drew BK269.out)
             replace HB:=Aside0.mk (below_drew1 HB.out)
             have q59:(t291:Int)≤((l0_2.length:Int):Int):=of_decide_eq_true (by first|(with_reducible assumption)|assumption)
             obtain ⟨i059,hi059,_,hsz59,_⟩:=info_parts info9
             have hroom59:l0_2.length≤c0_2:=(Kd.V_reads' HO_268002.out).2.1
             have hC59:Kd.F Kd.string _ _ A0_2 l0_2.length l0_2:=(Kd.V_at (base:=w.heap.size) HO_268002.out).2.2
             have hcut59:=cut_to (P:=Try.prog) 23 9 .i64 Try.underlying23 hi059 A0_2 l0_2.length c0_2 t291 (of_decide_eq_true (by first|(with_reducible assumption)|assumption)) q59 hroom59
             have hr59:=Kd.F_take (m:=(t291:Int).toNat) hC59 (by omega)
             have hy59:y292.length=(t291:Int).toNat:=(by rw [Ny292.out,List.length_take];omega)
             rw [← Ny292.out] at hr59
             rw [← hy59] at hcut59
             have HO296:=Aside0.mk (show Kd.V Kd.string 9 _ w.heap.size _ (.slice A0_2 y292.length c0_2) y292 from Kd.V_mk (by omega) hr59)
             have HC296:=Aside0.mk (show y292.length≤c0_2 from by omega)
             clear hr59 hC59 hroom59 hi059 hsz59
             have KY59:=Aside0.mk hy59
             clear hy59
             replace q59:=eq_true q59
             have q60:((ji44):Int)≤((l0_3.length:Int):Int):=of_decide_eq_true (by first|(with_reducible assumption)|assumption)
             obtain ⟨i060,hi060,_,hsz60,_⟩:=info_parts info3
             have hroom60:l0_3.length≤c0_3:=(Kd.V_reads' HO_268003.out).2.1
             have hC60:Kd.F (Kd.int .i64) _ _ A0_3 l0_3.length l0_3:=(Kd.V_at (base:=w.heap.size) HO_268003.out).2.2
             have hcut60:=cut_to (P:=Try.prog) 24 3 .i64 Try.underlying24 hi060 A0_3 l0_3.length c0_3 (ji44) (of_decide_eq_true (by first|(with_reducible assumption)|assumption)) q60 hroom60
             have hr60:=Kd.F_take (m:=((ji44):Int).toNat) hC60 (by omega)
             have hy60:y300.length=((ji44):Int).toNat:=(by rw [Ny300.out,List.length_take];omega)
             rw [← Ny300.out] at hr60
             rw [← hy60] at hcut60
             have HO304:=Aside0.mk (show Kd.V (Kd.int .i64) 3 _ w.heap.size _ (.slice A0_3 y300.length c0_3) y300 from Kd.V_mk (by omega) hr60)
             have HC304:=Aside0.mk (show y300.length≤c0_3 from by omega)
             clear hr60 hC60 hroom60 hi060 hsz60
             have KY60:=Aside0.mk hy60
             clear hy60
             replace q60:=eq_true q60
             refine start_ (n:=14) (S:=fun w'=>w'.cell? ⟨gb267,0,none⟩=some (.bool a0_0)∧w'.cell? ⟨gb267,1,none⟩=some (.slice A0_1 l0_1.length c0_1)∧w'.cell? ⟨gb267,2,none⟩=some (.slice A0_2 l0_2.length c0_2)∧w'.cell? ⟨gb267,3,none⟩=some (.slice A0_3 l0_3.length c0_3)) (ds:=[]) #[false,false,false,false,false,false,false,false,false,false,false,false,false,false] (by kernel_rfl) rfl rfl ⟨(blk_cell BK267.out 0).trans rfl,(blk_cell BK267.out 1).trans rfl,(blk_cell BK267.out 2).trans rfl,(blk_cell BK267.out 3).trans rfl⟩ (fun hHeld=>?_);refine with_tabW node_Split.tab5 node_Split.bits5 (fun HT_ HW_=>?_)
             generalize wc.drew=w58 at HO_268001 HO_268002 HO_268003 BK267 BK268 BK269 HB HO296 HO304 hHeld ⊢
             refine pure_ (i:=0) (N:=some 46) (v:=?_) (a':=?_) #[true,false,false,false,false,false,false,false,false,false,false,false,false,false] rfl rfl (any_of HT_.out (by kernel_rfl)) (fun _ _ _ h=>h) (Or.inl ⟨by rfl,?_⟩) ?_ ?_
             rotate_left
             ·intro w'
              go_simp
              with_reducible rfl
             rotate_left
             ·simp only [Act.put,List.setIfInBounds_toArray,List.set_cons_zero,List.set_cons_succ,i64_w,i32_w]
              rfl
             refine pure_ (i:=2) (N:=some 48) (v:=?_) (a':=?_) #[true,false,true,false,false,false,false,false,false,false,false,false,false,false] rfl rfl (any_of HT_.out (by kernel_rfl)) (fun _ _ _ h=>h) (Or.inl ⟨by rfl,?_⟩) ?_ ?_
             rotate_left
             ·intro w'
              go_simp
              with_reducible rfl
             rotate_left
             ·simp only [Act.put,List.setIfInBounds_toArray,List.set_cons_zero,List.set_cons_succ,i64_w,i32_w]
              rfl
             refine pure_ (i:=5) (N:=some 51) (v:=?_) (a':=?_) #[true,false,true,false,false,true,false,false,false,false,false,false,false,false] rfl rfl (any_of HT_.out (by kernel_rfl)) (fun _ _ _ h=>h) (Or.inl ⟨by rfl,?_⟩) ?_ ?_
             rotate_left
             ·intro w'
              go_simp
              with_reducible rfl
             rotate_left
             ·simp only [Act.put,List.setIfInBounds_toArray,List.set_cons_zero,List.set_cons_succ,i64_w,i32_w]
              rfl
             refine pure_ (i:=7) (N:=some 53) (v:=?_) (a':=?_) #[true,false,true,false,false,true,false,true,false,false,false,false,false,false] rfl rfl (any_of HT_.out (by kernel_rfl)) (fun _ _ _ h=>h) (Or.inl ⟨by rfl,?_⟩) ?_ ?_
             rotate_left
             ·intro w'
              go_simp
              with_reducible rfl
             rotate_left
             ·simp only [Act.put,List.setIfInBounds_toArray,List.set_cons_zero,List.set_cons_succ,i64_w,i32_w]
              rfl
             refine pure_ (i:=8) (N:=some 54) (v:=?_) (a':=?_) #[true,false,true,false,false,true,false,true,true,false,false,false,false,false] rfl rfl (any_of HT_.out (by kernel_rfl)) (fun _ _ _ h=>h) (Or.inl ⟨by rfl,?_⟩) ?_ ?_
             rotate_left
             ·intro w'
              go_simp
              with_reducible rfl
             rotate_left
             ·simp only [Act.put,List.setIfInBounds_toArray,List.set_cons_zero,List.set_cons_succ,i64_w,i32_w]
              rfl
             refine take_ (i:=1) (N:=some 47) (v:=?_) (a':=?_) #[true,true,true,false,false,true,false,true,true,false,false,false,false,false] rfl rfl (take_ofW HT_.out HW_.out (by kernel_rfl)) (fun _ _ _ h=>h) (Or.inl ⟨by rfl,?_⟩) hHeld ?_ ?_
             rotate_left
             ·rintro w' ⟨s0,s1,s2,s3⟩
              go_simp
              with_reducible rfl
             rotate_left
             ·simp only [Act.put,List.setIfInBounds_toArray,List.set_cons_zero,List.set_cons_succ,i64_w,i32_w]
              rfl
             refine pure_ (i:=3) (N:=some 49) (v:=?_) (a':=?_) #[true,true,true,true,false,true,false,true,true,false,false,false,false,false] rfl rfl (any_of HT_.out (by kernel_rfl)) (fun _ _ _ h=>h) (Or.inl ⟨by rfl,?_⟩) ?_ ?_
             rotate_left
             ·intro w'
              go_simp
              with_reducible rfl
             rotate_left
             ·simp only [Act.put,List.setIfInBounds_toArray,List.set_cons_zero,List.set_cons_succ,i64_w,i32_w]
              rfl
             refine take_ (i:=6) (N:=some 52) (v:=?_) (a':=?_) #[true,true,true,true,false,true,true,true,true,false,false,false,false,false] rfl rfl (take_ofW HT_.out HW_.out (by kernel_rfl)) (fun _ _ _ h=>h) (Or.inl ⟨by rfl,?_⟩) hHeld ?_ ?_
             rotate_left
             ·rintro w' ⟨s0,s1,s2,s3⟩
              go_simp
              with_reducible rfl
             rotate_left
             ·simp only [Act.put,List.setIfInBounds_toArray,List.set_cons_zero,List.set_cons_succ,i64_w,i32_w]
              rfl
             refine pure_ (i:=9) (N:=some 55) (v:=?_) (a':=?_) #[true,true,true,true,false,true,true,true,true,true,false,false,false,false] rfl rfl (any_of HT_.out (by kernel_rfl)) (fun _ _ _ h=>h) (Or.inl ⟨by rfl,?_⟩) ?_ ?_
             rotate_left
             ·intro w'
              go_simp
              with_reducible rfl
             rotate_left
             ·simp only [Act.put,List.setIfInBounds_toArray,List.set_cons_zero,List.set_cons_succ,i64_w,i32_w]
              rfl
             refine join_ (σ:=Value × Value × Nat) 1 #[true,true,true,true,true,true,true,true,true,true,true,true,true,false] (fun s_=>[(50,s_.1),(56,s_.2.1),(6,.pointer (some ⟨s_.2.2,0,none⟩)),(57,.agg #[.bool false,.slice none 0 0,s_.1,s_.2.1])]) (fun s_ w'=>(w'.cell? ⟨gb267,0,none⟩=some (.bool a0_0)∧w'.cell? ⟨gb267,1,none⟩=some (.slice A0_1 l0_1.length c0_1)∧w'.cell? ⟨gb267,2,none⟩=some (.slice A0_2 l0_2.length c0_2)∧w'.cell? ⟨gb267,3,none⟩=some (.slice A0_3 l0_3.length c0_3))∧(Kd.V Kd.string 9 w' w.heap.size (fun k_=>((P0_1_ k_ ∨ P0_2_ k_ ∨ P0_3_ k_) ∨ w.heap.size≤k_)∧some k_ ≠ (s_.1:Value).ownBlock∧some k_ ≠ (s_.2.1:Value).ownBlock∧k_ ≠ gb267∧k_ ≠ gb268∧k_ ≠ gb269∧k_ ≠ s_.2.2) (.slice A0_2 y292.length c0_2) y292)∧(Kd.R Kd.string 9 w' w.heap.size (fun k_=>(w.heap.size≤k_)) s_.1 t297)∧(Kd.V (Kd.int .i64) 3 w' w.heap.size (fun k_=>((P0_1_ k_ ∨ P0_2_ k_ ∨ P0_3_ k_) ∨ w.heap.size≤k_)∧some k_ ≠ (s_.1:Value).ownBlock∧some k_ ≠ (s_.2.1:Value).ownBlock∧k_ ≠ gb267∧k_ ≠ gb268∧k_ ≠ gb269∧k_ ≠ s_.2.2) (.slice A0_3 y300.length c0_3) y300)∧(Kd.R (Kd.int .i64) 3 w' w.heap.size (fun k_=>(w.heap.size≤k_)) s_.2.1 t305)∧(Kd.V k43 43 w' w.heap.size (fun k_=>((P0_1_ k_ ∨ P0_2_ k_ ∨ P0_3_ k_) ∨ w.heap.size≤k_)∧some k_ ≠ (s_.1:Value).ownBlock∧some k_ ≠ (s_.2.1:Value).ownBlock∧k_ ≠ gb267∧k_ ≠ gb268∧k_ ≠ gb269∧k_ ≠ s_.2.2) (.slice A0_1 l0_1.length c0_1) l0_1)∧(Kd.V Kd.string 9 w' w.heap.size (fun k_=>((P0_1_ k_ ∨ P0_2_ k_ ∨ P0_3_ k_) ∨ w.heap.size≤k_)∧some k_ ≠ (s_.1:Value).ownBlock∧some k_ ≠ (s_.2.1:Value).ownBlock∧k_ ≠ gb267∧k_ ≠ gb268∧k_ ≠ gb269∧k_ ≠ s_.2.2) (.slice A0_2 l0_2.length c0_2) l0_2)∧(Kd.V (Kd.int .i64) 3 w' w.heap.size (fun k_=>((P0_1_ k_ ∨ P0_2_ k_ ∨ P0_3_ k_) ∨ w.heap.size≤k_)∧some k_ ≠ (s_.1:Value).ownBlock∧some k_ ≠ (s_.2.1:Value).ownBlock∧k_ ≠ gb267∧k_ ≠ gb268∧k_ ≠ gb269∧k_ ≠ s_.2.2) (.slice A0_3 l0_3.length c0_3) l0_3)∧(w'.heap[gb267]?=some (.cells #[.bool a0_0,.slice A0_1 l0_1.length c0_1,.slice A0_2 l0_2.length c0_2,.slice A0_3 l0_3.length c0_3] 26 (0,0)))∧(w'.heap[gb268]?=some (.cells #[.bool false,.slice none 0 0,.slice none 0 0,.slice none 0 0] 26 (0,0)))∧(w'.heap[gb269]?=some (.cells #[.bool false,.slice none 0 0,.slice none 0 0,.slice none 0 0] 26 (0,0)))∧(w'.heap[s_.2.2]?=some (.cells #[.bool false,.slice none 0 0,.slice none 0 0,.slice none 0 0] 26 (0,0)))∧(w.heap.size≤s_.2.2)∧(w.heap.size≤s_.2.2)∧(gb267 ≠ s_.2.2)∧(s_.2.2 ≠ gb267)∧(gb268 ≠ s_.2.2)∧(s_.2.2 ≠ gb268)∧(gb269 ≠ s_.2.2)∧(s_.2.2 ≠ gb269)∧(Below w.heap.size w w')) ?_ ?_
             rotate_left
             ·intro hCont
              refine two_ (i:=4) (j:=12) (Ni:=some 50) (Nj:=some 6) #[true,true,true,true,true,true,true,true,true,true,false,false,false,false] #[true,true,true,true,false,true,true,true,true,true,false,false,true,false] rfl rfl rfl rfl (two_of HT_.out (by kernel_rfl)) (by decide) (by decide) (fun K hK=>?_) (fun K hK=>?_)
              ·skip
               refine goes_ Try.func34 (by kernel_rfl) rfl #[.slice A0_2 y292.length c0_2] (by rfl) rfl rfl (by (try simp only [List.map_toArray,List.map_cons,List.map_nil]);first|done|rfl|(simp only [List.length_drop,List.length_take];rfl)|(simp (disch:=omega) only [u64_in];rfl)) ?_
               with_reducible refine (slices_Clone_string_string.calls _ _ y292 t297 _ ?side1 ?side2 A43.out).mono ?_
               (case side1=>repeat (first|exact (Kd.V_reads' HO296.out).2.2|(with_reducible refine Kd.C_alloc ?_ _)|(with_reducible refine Kd.C_drewN ?_ _)|(with_reducible refine Kd.C_drew ?_)))
               (case side2=>exact (Kd.V_reads' HO296.out).2.1)
               rintro e w61 ⟨v298,rfl,ho0,hb⟩
               refine ⟨_,rfl,?_⟩
               replace HO_268001:=Aside0.mk (Kd.V_elder' (by (with_reducible repeat (first|apply Kd.V_alloc|apply Kd.V_drewN|apply Kd.V_drew));exact HO_268001.out) (Kd.R_base ho0) hb)
               replace HO_268002:=Aside0.mk (Kd.V_elder' (by (with_reducible repeat (first|apply Kd.V_alloc|apply Kd.V_drewN|apply Kd.V_drew));exact HO_268002.out) (Kd.R_base ho0) hb)
               replace HO_268003:=Aside0.mk (Kd.V_elder' (by (with_reducible repeat (first|apply Kd.V_alloc|apply Kd.V_drewN|apply Kd.V_drew));exact HO_268003.out) (Kd.R_base ho0) hb)
               replace HO296:=Aside0.mk (Kd.V_elder' (by (with_reducible repeat (first|apply Kd.V_alloc|apply Kd.V_drewN|apply Kd.V_drew));exact HO296.out) (Kd.R_base ho0) hb)
               replace HO304:=Aside0.mk (Kd.V_elder' (by (with_reducible repeat (first|apply Kd.V_alloc|apply Kd.V_drewN|apply Kd.V_drew));exact HO304.out) (Kd.R_base ho0) hb)
               have HO299:=Aside0.mk (Kd.R_lower (Kd.R_newM (M:=fun k_=>(w.heap.size≤k_)) ho0 (below_size (by repeat (first|(with_reducible first|exact HB.out|apply zl1|apply zl2|apply zl3|refine below_set ?_ GE267.out|refine below_set ?_ GE268.out|refine below_set ?_ GE269.out)|exact HB.out))) (fun k_ h_=>h_)) (below_size (by repeat (first|(with_reducible first|exact HB.out|apply zl1|apply zl2|apply zl3|refine below_set ?_ GE267.out|refine below_set ?_ GE268.out|refine below_set ?_ GE269.out)|exact HB.out))))
               replace BK267:=Aside0.mk (blk_below (g:=gb267) (o:=.cells #[.bool a0_0,.slice A0_1 l0_1.length c0_1,.slice A0_2 l0_2.length c0_2,.slice A0_3 l0_3.length c0_3] 26 (0,0)) (by (with_reducible repeat (first|apply zb1|apply zb2|apply zb3));exact BK267.out) hb)
               replace BK268:=Aside0.mk (blk_below (g:=gb268) (o:=.cells #[.bool false,.slice none 0 0,.slice none 0 0,.slice none 0 0] 26 (0,0)) (by (with_reducible repeat (first|apply zb1|apply zb2|apply zb3));exact BK268.out) hb)
               replace BK269:=Aside0.mk (blk_below (g:=gb269) (o:=.cells #[.bool false,.slice none 0 0,.slice none 0 0,.slice none 0 0] 26 (0,0)) (by (with_reducible repeat (first|apply zb1|apply zb2|apply zb3));exact BK269.out) hb)
               replace HB:=Aside0.mk (below_step (by repeat (first|(with_reducible first|exact HB.out|apply zl1|apply zl2|apply zl3|refine below_set ?_ GE267.out|refine below_set ?_ GE268.out|refine below_set ?_ GE269.out)|exact HB.out)) hb)
               (try clear hb)
               (try clear hb2)
               (try clear hk)
               (try clear hi)
               (try clear ho0)
               refine hK.out _ _ ⟨(blk_cell BK267.out 0).trans rfl,(blk_cell BK267.out 1).trans rfl,(blk_cell BK267.out 2).trans rfl,(blk_cell BK267.out 3).trans rfl⟩ (fun hHeld=>?_)
               clear hK K
               refine norm_ (a':=?_) ?_ ?_
               rotate_left
               ·show Act.put _ (some 50) _=_
                simp only [Act.put,List.setIfInBounds_toArray,List.set_cons_zero,List.set_cons_succ,i64_w,i32_w]
                rfl
               refine two_ (i:=10) (j:=12) (Ni:=some 56) (Nj:=some 6) #[true,true,true,true,true,true,true,true,true,true,true,false,false,false] #[true,true,true,true,true,true,true,true,true,true,false,false,true,false] rfl rfl rfl rfl (two_of HT_.out (by kernel_rfl)) (by decide) (by decide) (fun K hK=>?_) (fun K hK=>?_)
               ·skip
                refine goes_ Try.func35 (by kernel_rfl) rfl #[.slice A0_3 y300.length c0_3] (by rfl) rfl rfl (by (try simp only [List.map_toArray,List.map_cons,List.map_nil]);first|done|rfl|(simp only [List.length_drop,List.length_take];rfl)|(simp (disch:=omega) only [u64_in];rfl)) ?_
                with_reducible refine (slices_Clone_int_int.calls _ _ y300 t305 _ ?side1 ?side2 A47.out).mono ?_
                (case side1=>repeat (first|exact (Kd.V_reads' HO304.out).2.2|(with_reducible refine Kd.C_alloc ?_ _)|(with_reducible refine Kd.C_drewN ?_ _)|(with_reducible refine Kd.C_drew ?_)))
                (case side2=>exact (Kd.V_reads' HO304.out).2.1)
                rintro e w62 ⟨v306,rfl,ho0,hb⟩
                refine ⟨_,rfl,?_⟩
                replace HO_268001:=Aside0.mk (Kd.V_elder' (by (with_reducible repeat (first|apply Kd.V_alloc|apply Kd.V_drewN|apply Kd.V_drew));exact HO_268001.out) (Kd.R_base ho0) hb)
                replace HO_268002:=Aside0.mk (Kd.V_elder' (by (with_reducible repeat (first|apply Kd.V_alloc|apply Kd.V_drewN|apply Kd.V_drew));exact HO_268002.out) (Kd.R_base ho0) hb)
                replace HO_268003:=Aside0.mk (Kd.V_elder' (by (with_reducible repeat (first|apply Kd.V_alloc|apply Kd.V_drewN|apply Kd.V_drew));exact HO_268003.out) (Kd.R_base ho0) hb)
                replace HO296:=Aside0.mk (Kd.V_elder' (by (with_reducible repeat (first|apply Kd.V_alloc|apply Kd.V_drewN|apply Kd.V_drew));exact HO296.out) (Kd.R_base ho0) hb)
                replace HO304:=Aside0.mk (Kd.V_elder' (by (with_reducible repeat (first|apply Kd.V_alloc|apply Kd.V_drewN|apply Kd.V_drew));exact HO304.out) (Kd.R_base ho0) hb)
                replace HO299:=Aside0.mk (Kd.R_below (by (with_reducible repeat (first|apply zk1|apply zk2|apply zk3));exact HO299.out) hb)
                have HO307:=Aside0.mk (Kd.R_lower (Kd.R_newM (M:=fun k_=>(w.heap.size≤k_)) ho0 (below_size (by repeat (first|(with_reducible first|exact HB.out|apply zl1|apply zl2|apply zl3|refine below_set ?_ GE267.out|refine below_set ?_ GE268.out|refine below_set ?_ GE269.out)|exact HB.out))) (fun k_ h_=>h_)) (below_size (by repeat (first|(with_reducible first|exact HB.out|apply zl1|apply zl2|apply zl3|refine below_set ?_ GE267.out|refine below_set ?_ GE268.out|refine below_set ?_ GE269.out)|exact HB.out))))
                replace BK267:=Aside0.mk (blk_below (g:=gb267) (o:=.cells #[.bool a0_0,.slice A0_1 l0_1.length c0_1,.slice A0_2 l0_2.length c0_2,.slice A0_3 l0_3.length c0_3] 26 (0,0)) (by (with_reducible repeat (first|apply zb1|apply zb2|apply zb3));exact BK267.out) hb)
                replace BK268:=Aside0.mk (blk_below (g:=gb268) (o:=.cells #[.bool false,.slice none 0 0,.slice none 0 0,.slice none 0 0] 26 (0,0)) (by (with_reducible repeat (first|apply zb1|apply zb2|apply zb3));exact BK268.out) hb)
                replace BK269:=Aside0.mk (blk_below (g:=gb269) (o:=.cells #[.bool false,.slice none 0 0,.slice none 0 0,.slice none 0 0] 26 (0,0)) (by (with_reducible repeat (first|apply zb1|apply zb2|apply zb3));exact BK269.out) hb)
                replace HB:=Aside0.mk (below_step (by repeat (first|(with_reducible first|exact HB.out|apply zl1|apply zl2|apply zl3|refine below_set ?_ GE267.out|refine below_set ?_ GE268.out|refine below_set ?_ GE269.out)|exact HB.out)) hb)
                (try clear hb)
                (try clear hb2)
                (try clear hk)
                (try clear hi)
                (try clear ho0)
                obtain ⟨Ao63,co63,eo63⟩:=Kd.R_slice HO307.out
                (first|subst eo63|(injection eo63 with f1_ f2_ f3_;have f4_:=f1_.symm;have f5_:=f3_.symm;clear f1_ f2_ f3_;subst f4_;subst f5_))
                obtain ⟨Ao64,co64,eo64⟩:=Kd.R_slice HO299.out
                (first|subst eo64|(injection eo64 with f1_ f2_ f3_;have f4_:=f1_.symm;have f5_:=f3_.symm;clear f1_ f2_ f3_;subst f4_;subst f5_))
                refine hK.out _ _ ⟨(blk_cell BK267.out 0).trans rfl,(blk_cell BK267.out 1).trans rfl,(blk_cell BK267.out 2).trans rfl,(blk_cell BK267.out 3).trans rfl⟩ (fun hHeld=>?_)
                clear hK K
                refine norm_ (a':=?_) ?_ ?_
                rotate_left
                ·show Act.put _ (some 56) _=_
                 simp only [Act.put,List.setIfInBounds_toArray,List.set_cons_zero,List.set_cons_succ,i64_w,i32_w]
                 rfl
                refine pure_ (i:=11) (N:=some 57) (v:=?_) (a':=?_) #[true,true,true,true,true,true,true,true,true,true,true,true,false,false] rfl rfl (any_of HT_.out (by kernel_rfl)) (fun _ _ _ h=>h) (Or.inl ⟨by rfl,?_⟩) ?_ ?_
                rotate_left
                ·intro w'
                 go_simp
                 with_reducible rfl
                rotate_left
                ·simp only [Act.put,List.setIfInBounds_toArray,List.set_cons_zero,List.set_cons_succ,i64_w,i32_w]
                 rfl
                refine one_ (i:=12) (N:=some 6) #[true,true,true,true,true,true,true,true,true,true,true,true,true,false] rfl rfl (one_of HT_.out (by kernel_rfl)) (by decide) (fun K hK=>?_)
                refine box_step ?hg (N:=6) ?hd (cs:=#[.bool false,.slice none 0 0,.slice none 0 0,.slice none 0 0]) (t:=26) ?hr ?_;(case hd=>rfl);(case hg=>rfl);(case hr=>first|(go_simp;done)|(go_simp;rfl))
                intro gb308 hg w65 hbox hb
                replace HO_268001:=Aside0.mk (Kd.V_below (Kd.V_elderB (by (with_reducible repeat (first|apply Kd.V_alloc|apply Kd.V_drewN|apply Kd.V_drew));exact HO_268001.out) gb308 (Nat.le_of_eq hg.symm)) hb)
                replace HO_268002:=Aside0.mk (Kd.V_below (Kd.V_elderB (by (with_reducible repeat (first|apply Kd.V_alloc|apply Kd.V_drewN|apply Kd.V_drew));exact HO_268002.out) gb308 (Nat.le_of_eq hg.symm)) hb)
                replace HO_268003:=Aside0.mk (Kd.V_below (Kd.V_elderB (by (with_reducible repeat (first|apply Kd.V_alloc|apply Kd.V_drewN|apply Kd.V_drew));exact HO_268003.out) gb308 (Nat.le_of_eq hg.symm)) hb)
                replace HO296:=Aside0.mk (Kd.V_below (Kd.V_elderB (by (with_reducible repeat (first|apply Kd.V_alloc|apply Kd.V_drewN|apply Kd.V_drew));exact HO296.out) gb308 (Nat.le_of_eq hg.symm)) hb)
                replace HO304:=Aside0.mk (Kd.V_below (Kd.V_elderB (by (with_reducible repeat (first|apply Kd.V_alloc|apply Kd.V_drewN|apply Kd.V_drew));exact HO304.out) gb308 (Nat.le_of_eq hg.symm)) hb)
                replace HO299:=Aside0.mk (Kd.R_below (by (with_reducible repeat (first|apply zk1|apply zk2|apply zk3));exact HO299.out) hb)
                replace HO307:=Aside0.mk (Kd.R_below (by (with_reducible repeat (first|apply zk1|apply zk2|apply zk3));exact HO307.out) hb)
                have BK308:=Aside0.mk (hbox)
                have GW308:=Aside0.mk ((by rw [hg];exact (below_size (by repeat (first|(with_reducible first|exact HB.out|apply zl1|apply zl2|apply zl3|refine below_set ?_ GE267.out|refine below_set ?_ GE268.out|refine below_set ?_ GE269.out)|exact HB.out))):w.heap.size≤gb308))
                have GE308:=Aside0.mk ((by rw [hg];exact (below_size (by repeat (first|(with_reducible first|exact HB.out|apply zl1|apply zl2|apply zl3|refine below_set ?_ GE267.out|refine below_set ?_ GE268.out|refine below_set ?_ GE269.out)|exact HB.out))):w.heap.size≤gb308))
                replace HB:=Aside0.mk (below_step (by repeat (first|(with_reducible first|exact HB.out|apply zl1|apply zl2|apply zl3|refine below_set ?_ GE267.out|refine below_set ?_ GE268.out|refine below_set ?_ GE269.out)|exact HB.out)) hb)
                have NB267_308:=Aside0.mk ((by rw [hg];exact Nat.ne_of_lt (blk_lt (g:=gb267) (o:=.cells #[.bool a0_0,.slice A0_1 l0_1.length c0_1,.slice A0_2 l0_2.length c0_2,.slice A0_3 l0_3.length c0_3] 26 (0,0)) (by (with_reducible repeat (first|apply zb1|apply zb2|apply zb3));exact BK267.out)):gb267 ≠ gb308))
                have NB308_267:=Aside0.mk ((by rw [hg];exact Nat.ne_of_gt (blk_lt (g:=gb267) (o:=.cells #[.bool a0_0,.slice A0_1 l0_1.length c0_1,.slice A0_2 l0_2.length c0_2,.slice A0_3 l0_3.length c0_3] 26 (0,0)) (by (with_reducible repeat (first|apply zb1|apply zb2|apply zb3));exact BK267.out)):gb308 ≠ gb267))
                replace BK267:=Aside0.mk (blk_below (g:=gb267) (o:=.cells #[.bool a0_0,.slice A0_1 l0_1.length c0_1,.slice A0_2 l0_2.length c0_2,.slice A0_3 l0_3.length c0_3] 26 (0,0)) (by (with_reducible repeat (first|apply zb1|apply zb2|apply zb3));exact BK267.out) hb)
                have NB268_308:=Aside0.mk ((by rw [hg];exact Nat.ne_of_lt (blk_lt (g:=gb268) (o:=.cells #[.bool false,.slice none 0 0,.slice none 0 0,.slice none 0 0] 26 (0,0)) (by (with_reducible repeat (first|apply zb1|apply zb2|apply zb3));exact BK268.out)):gb268 ≠ gb308))
                have NB308_268:=Aside0.mk ((by rw [hg];exact Nat.ne_of_gt (blk_lt (g:=gb268) (o:=.cells #[.bool false,.slice none 0 0,.slice none 0 0,.slice none 0 0] 26 (0,0)) (by (with_reducible repeat (first|apply zb1|apply zb2|apply zb3));exact BK268.out)):gb308 ≠ gb268))
                replace BK268:=Aside0.mk (blk_below (g:=gb268) (o:=.cells #[.bool false,.slice none 0 0,.slice none 0 0,.slice none 0 0] 26 (0,0)) (by (with_reducible repeat (first|apply zb1|apply zb2|apply zb3));exact BK268.out) hb)
                have NB269_308:=Aside0.mk ((by rw [hg];exact Nat.ne_of_lt (blk_lt (g:=gb269) (o:=.cells #[.bool false,.slice none 0 0,.slice none 0 0,.slice none 0 0] 26 (0,0)) (by (with_reducible repeat (first|apply zb1|apply zb2|apply zb3));exact BK269.out)):gb269 ≠ gb308))
                have NB308_269:=Aside0.mk ((by rw [hg];exact Nat.ne_of_gt (blk_lt (g:=gb269) (o:=.cells #[.bool false,.slice none 0 0,.slice none 0 0,.slice none 0 0] 26 (0,0)) (by (with_reducible repeat (first|apply zb1|apply zb2|apply zb3));exact BK269.out)):gb308 ≠ gb269))
                replace BK269:=Aside0.mk (blk_below (g:=gb269) (o:=.cells #[.bool false,.slice none 0 0,.slice none 0 0,.slice none 0 0] 26 (0,0)) (by (with_reducible repeat (first|apply zb1|apply zb2|apply zb3));exact BK269.out) hb)
                clear hb hbox hg
                refine hK.out _ _ ⟨(blk_cell BK267.out 0).trans rfl,(blk_cell BK267.out 1).trans rfl,(blk_cell BK267.out 2).trans rfl,(blk_cell BK267.out 3).trans rfl⟩ (fun hHeld=>?_)
                clear hK K
                refine norm_ (a':=?_) ?_ ?_
                rotate_left
                ·show Act.put _ (some 6) _=_
                 simp only [Act.put,List.setIfInBounds_toArray,List.set_cons_zero,List.set_cons_succ,i64_w,i32_w]
                 rfl
                exact norm_ (by simp only [putAll,Act.put,List.setIfInBounds_toArray,List.set_cons_zero,List.set_cons_succ]) (hCont (.slice Ao64 t297.length co64,.slice Ao63 t305.length co63,gb308) _ ⟨hHeld,(by (with_reducible repeat (first|apply Kd.V_alloc|apply Kd.V_drewN|apply Kd.V_drew));exact Kd.V_mono HO296.out (fun _ hk=>⟨hk.1.1.1.1,⟨hk.1.1.2,⟨hk.1.2,⟨hk.1.1.1.2.1,⟨hk.1.1.1.2.2.1,⟨hk.1.1.1.2.2.2,hk.2⟩⟩⟩⟩⟩⟩)),(by (with_reducible repeat (first|apply zk1|apply zk2|apply zk3));exact Kd.R_mono HO299.out (fun _ hk=>hk.1)),(by (with_reducible repeat (first|apply Kd.V_alloc|apply Kd.V_drewN|apply Kd.V_drew));exact Kd.V_mono HO304.out (fun _ hk=>⟨hk.1.1.1.1,⟨hk.1.1.2,⟨hk.1.2,⟨hk.1.1.1.2.1,⟨hk.1.1.1.2.2.1,⟨hk.1.1.1.2.2.2,hk.2⟩⟩⟩⟩⟩⟩)),(by (with_reducible repeat (first|apply zk1|apply zk2|apply zk3));exact Kd.R_mono HO307.out (fun _ hk=>hk.1)),(by (with_reducible repeat (first|apply Kd.V_alloc|apply Kd.V_drewN|apply Kd.V_drew));exact Kd.V_mono HO_268001.out (fun _ hk=>⟨hk.1.1.1.1,⟨hk.1.1.2,⟨hk.1.2,⟨hk.1.1.1.2.1,⟨hk.1.1.1.2.2.1,⟨hk.1.1.1.2.2.2,hk.2⟩⟩⟩⟩⟩⟩)),(by (with_reducible repeat (first|apply Kd.V_alloc|apply Kd.V_drewN|apply Kd.V_drew));exact Kd.V_mono HO_268002.out (fun _ hk=>⟨hk.1.1.1.1,⟨hk.1.1.2,⟨hk.1.2,⟨hk.1.1.1.2.1,⟨hk.1.1.1.2.2.1,⟨hk.1.1.1.2.2.2,hk.2⟩⟩⟩⟩⟩⟩)),(by (with_reducible repeat (first|apply Kd.V_alloc|apply Kd.V_drewN|apply Kd.V_drew));exact Kd.V_mono HO_268003.out (fun _ hk=>⟨hk.1.1.1.1,⟨hk.1.1.2,⟨hk.1.2,⟨hk.1.1.1.2.1,⟨hk.1.1.1.2.2.1,⟨hk.1.1.1.2.2.2,hk.2⟩⟩⟩⟩⟩⟩)),(by (with_reducible repeat (first|apply zb1|apply zb2|apply zb3));exact BK267.out),(by (with_reducible repeat (first|apply zb1|apply zb2|apply zb3));exact BK268.out),(by (with_reducible repeat (first|apply zb1|apply zb2|apply zb3));exact BK269.out),(by (with_reducible repeat (first|apply zb1|apply zb2|apply zb3));exact BK308.out),GW308.out,GE308.out,NB267_308.out,NB308_267.out,NB268_308.out,NB308_268.out,NB269_308.out,NB308_269.out,(by repeat (first|(with_reducible first|exact HB.out|apply zl1|apply zl2|apply zl3|refine below_set ?_ GE267.out|refine below_set ?_ GE268.out|refine below_set ?_ GE269.out|refine below_set ?_ GE308.out)|exact HB.out))⟩)
               ·skip
                refine box_step ?hg (N:=6) ?hd (cs:=#[.bool false,.slice none 0 0,.slice none 0 0,.slice none 0 0]) (t:=26) ?hr ?_;(case hd=>rfl);(case hg=>rfl);(case hr=>first|(go_simp;done)|(go_simp;rfl))
                intro gb308 hg w62 hbox hb
                replace HO_268001:=Aside0.mk (Kd.V_below (Kd.V_elderB (by (with_reducible repeat (first|apply Kd.V_alloc|apply Kd.V_drewN|apply Kd.V_drew));exact HO_268001.out) gb308 (Nat.le_of_eq hg.symm)) hb)
                replace HO_268002:=Aside0.mk (Kd.V_below (Kd.V_elderB (by (with_reducible repeat (first|apply Kd.V_alloc|apply Kd.V_drewN|apply Kd.V_drew));exact HO_268002.out) gb308 (Nat.le_of_eq hg.symm)) hb)
                replace HO_268003:=Aside0.mk (Kd.V_below (Kd.V_elderB (by (with_reducible repeat (first|apply Kd.V_alloc|apply Kd.V_drewN|apply Kd.V_drew));exact HO_268003.out) gb308 (Nat.le_of_eq hg.symm)) hb)
                replace HO296:=Aside0.mk (Kd.V_below (Kd.V_elderB (by (with_reducible repeat (first|apply Kd.V_alloc|apply Kd.V_drewN|apply Kd.V_drew));exact HO296.out) gb308 (Nat.le_of_eq hg.symm)) hb)
                replace HO304:=Aside0.mk (Kd.V_below (Kd.V_elderB (by (with_reducible repeat (first|apply Kd.V_alloc|apply Kd.V_drewN|apply Kd.V_drew));exact HO304.out) gb308 (Nat.le_of_eq hg.symm)) hb)
                replace HO299:=Aside0.mk (Kd.R_below (by (with_reducible repeat (first|apply zk1|apply zk2|apply zk3));exact HO299.out) hb)
                have BK308:=Aside0.mk (hbox)
                have GW308:=Aside0.mk ((by rw [hg];exact (below_size (by repeat (first|(with_reducible first|exact HB.out|apply zl1|apply zl2|apply zl3|refine below_set ?_ GE267.out|refine below_set ?_ GE268.out|refine below_set ?_ GE269.out)|exact HB.out))):w.heap.size≤gb308))
                have GE308:=Aside0.mk ((by rw [hg];exact (below_size (by repeat (first|(with_reducible first|exact HB.out|apply zl1|apply zl2|apply zl3|refine below_set ?_ GE267.out|refine below_set ?_ GE268.out|refine below_set ?_ GE269.out)|exact HB.out))):w.heap.size≤gb308))
                replace HB:=Aside0.mk (below_step (by repeat (first|(with_reducible first|exact HB.out|apply zl1|apply zl2|apply zl3|refine below_set ?_ GE267.out|refine below_set ?_ GE268.out|refine below_set ?_ GE269.out)|exact HB.out)) hb)
                have NB267_308:=Aside0.mk ((by rw [hg];exact Nat.ne_of_lt (blk_lt (g:=gb267) (o:=.cells #[.bool a0_0,.slice A0_1 l0_1.length c0_1,.slice A0_2 l0_2.length c0_2,.slice A0_3 l0_3.length c0_3] 26 (0,0)) (by (with_reducible repeat (first|apply zb1|apply zb2|apply zb3));exact BK267.out)):gb267 ≠ gb308))
                have NB308_267:=Aside0.mk ((by rw [hg];exact Nat.ne_of_gt (blk_lt (g:=gb267) (o:=.cells #[.bool a0_0,.slice A0_1 l0_1.length c0_1,.slice A0_2 l0_2.length c0_2,.slice A0_3 l0_3.length c0_3] 26 (0,0)) (by (with_reducible repeat (first|apply zb1|apply zb2|apply zb3));exact BK267.out)):gb308 ≠ gb267))
                replace BK267:=Aside0.mk (blk_below (g:=gb267) (o:=.cells #[.bool a0_0,.slice A0_1 l0_1.length c0_1,.slice A0_2 l0_2.length c0_2,.slice A0_3 l0_3.length c0_3] 26 (0,0)) (by (with_reducible repeat (first|apply zb1|apply zb2|apply zb3));exact BK267.out) hb)
                have NB268_308:=Aside0.mk ((by rw [hg];exact Nat.ne_of_lt (blk_lt (g:=gb268) (o:=.cells #[.bool false,.slice none 0 0,.slice none 0 0,.slice none 0 0] 26 (0,0)) (by (with_reducible repeat (first|apply zb1|apply zb2|apply zb3));exact BK268.out)):gb268 ≠ gb308))
                have NB308_268:=Aside0.mk ((by rw [hg];exact Nat.ne_of_gt (blk_lt (g:=gb268) (o:=.cells #[.bool false,.slice none 0 0,.slice none 0 0,.slice none 0 0] 26 (0,0)) (by (with_reducible repeat (first|apply zb1|apply zb2|apply zb3));exact BK268.out)):gb308 ≠ gb268))
                replace BK268:=Aside0.mk (blk_below (g:=gb268) (o:=.cells #[.bool false,.slice none 0 0,.slice none 0 0,.slice none 0 0] 26 (0,0)) (by (with_reducible repeat (first|apply zb1|apply zb2|apply zb3));exact BK268.out) hb)
                have NB269_308:=Aside0.mk ((by rw [hg];exact Nat.ne_of_lt (blk_lt (g:=gb269) (o:=.cells #[.bool false,.slice none 0 0,.slice none 0 0,.slice none 0 0] 26 (0,0)) (by (with_reducible repeat (first|apply zb1|apply zb2|apply zb3));exact BK269.out)):gb269 ≠ gb308))
                have NB308_269:=Aside0.mk ((by rw [hg];exact Nat.ne_of_gt (blk_lt (g:=gb269) (o:=.cells #[.bool false,.slice none 0 0,.slice none 0 0,.slice none 0 0] 26 (0,0)) (by (with_reducible repeat (first|apply zb1|apply zb2|apply zb3));exact BK269.out)):gb308 ≠ gb269))
                replace BK269:=Aside0.mk (blk_below (g:=gb269) (o:=.cells #[.bool false,.slice none 0 0,.slice none 0 0,.slice none 0 0] 26 (0,0)) (by (with_reducible repeat (first|apply zb1|apply zb2|apply zb3));exact BK269.out) hb)
                clear hb hbox hg
                refine hK.out _ _ ⟨(blk_cell BK267.out 0).trans rfl,(blk_cell BK267.out 1).trans rfl,(blk_cell BK267.out 2).trans rfl,(blk_cell BK267.out 3).trans rfl⟩ (fun hHeld=>?_)
                clear hK K
                refine norm_ (a':=?_) ?_ ?_
                rotate_left
                ·show Act.put _ (some 6) _=_
                 simp only [Act.put,List.setIfInBounds_toArray,List.set_cons_zero,List.set_cons_succ,i64_w,i32_w]
                 rfl
                refine one_ (i:=10) (N:=some 56) #[true,true,true,true,true,true,true,true,true,true,true,false,true,false] rfl rfl (one_of HT_.out (by kernel_rfl)) (by decide) (fun K hK=>?_)
                refine goes_ Try.func35 (by kernel_rfl) rfl #[.slice A0_3 y300.length c0_3] (by rfl) rfl rfl (by (try simp only [List.map_toArray,List.map_cons,List.map_nil]);first|done|rfl|(simp only [List.length_drop,List.length_take];rfl)|(simp (disch:=omega) only [u64_in];rfl)) ?_
                with_reducible refine (slices_Clone_int_int.calls _ _ y300 t305 _ ?side1 ?side2 A47.out).mono ?_
                (case side1=>repeat (first|exact (Kd.V_reads' HO304.out).2.2|(with_reducible refine Kd.C_alloc ?_ _)|(with_reducible refine Kd.C_drewN ?_ _)|(with_reducible refine Kd.C_drew ?_)))
                (case side2=>exact (Kd.V_reads' HO304.out).2.1)
                rintro e w63 ⟨v306,rfl,ho0,hb⟩
                refine ⟨_,rfl,?_⟩
                replace HO_268001:=Aside0.mk (Kd.V_elder' (by (with_reducible repeat (first|apply Kd.V_alloc|apply Kd.V_drewN|apply Kd.V_drew));exact HO_268001.out) (Kd.R_base ho0) hb)
                replace HO_268002:=Aside0.mk (Kd.V_elder' (by (with_reducible repeat (first|apply Kd.V_alloc|apply Kd.V_drewN|apply Kd.V_drew));exact HO_268002.out) (Kd.R_base ho0) hb)
                replace HO_268003:=Aside0.mk (Kd.V_elder' (by (with_reducible repeat (first|apply Kd.V_alloc|apply Kd.V_drewN|apply Kd.V_drew));exact HO_268003.out) (Kd.R_base ho0) hb)
                replace HO296:=Aside0.mk (Kd.V_elder' (by (with_reducible repeat (first|apply Kd.V_alloc|apply Kd.V_drewN|apply Kd.V_drew));exact HO296.out) (Kd.R_base ho0) hb)
                replace HO304:=Aside0.mk (Kd.V_elder' (by (with_reducible repeat (first|apply Kd.V_alloc|apply Kd.V_drewN|apply Kd.V_drew));exact HO304.out) (Kd.R_base ho0) hb)
                replace HO299:=Aside0.mk (Kd.R_below (by (with_reducible repeat (first|apply zk1|apply zk2|apply zk3));exact HO299.out) hb)
                have HO307:=Aside0.mk (Kd.R_lower (Kd.R_newM (M:=fun k_=>(w.heap.size≤k_)) ho0 (below_size (by repeat (first|(with_reducible first|exact HB.out|apply zl1|apply zl2|apply zl3|refine below_set ?_ GE267.out|refine below_set ?_ GE268.out|refine below_set ?_ GE269.out|refine below_set ?_ GE308.out)|exact HB.out))) (fun k_ h_=>h_)) (below_size (by repeat (first|(with_reducible first|exact HB.out|apply zl1|apply zl2|apply zl3|refine below_set ?_ GE267.out|refine below_set ?_ GE268.out|refine below_set ?_ GE269.out|refine below_set ?_ GE308.out)|exact HB.out))))
                replace BK267:=Aside0.mk (blk_below (g:=gb267) (o:=.cells #[.bool a0_0,.slice A0_1 l0_1.length c0_1,.slice A0_2 l0_2.length c0_2,.slice A0_3 l0_3.length c0_3] 26 (0,0)) (by (with_reducible repeat (first|apply zb1|apply zb2|apply zb3));exact BK267.out) hb)
                replace BK268:=Aside0.mk (blk_below (g:=gb268) (o:=.cells #[.bool false,.slice none 0 0,.slice none 0 0,.slice none 0 0] 26 (0,0)) (by (with_reducible repeat (first|apply zb1|apply zb2|apply zb3));exact BK268.out) hb)
                replace BK269:=Aside0.mk (blk_below (g:=gb269) (o:=.cells #[.bool false,.slice none 0 0,.slice none 0 0,.slice none 0 0] 26 (0,0)) (by (with_reducible repeat (first|apply zb1|apply zb2|apply zb3));exact BK269.out) hb)
                replace BK308:=Aside0.mk (blk_below (g:=gb308) (o:=.cells #[.bool false,.slice none 0 0,.slice none 0 0,.slice none 0 0] 26 (0,0)) (by (with_reducible repeat (first|apply zb1|apply zb2|apply zb3));exact BK308.out) hb)
                replace HB:=Aside0.mk (below_step (by repeat (first|(with_reducible first|exact HB.out|apply zl1|apply zl2|apply zl3|refine below_set ?_ GE267.out|refine below_set ?_ GE268.out|refine below_set ?_ GE269.out|refine below_set ?_ GE308.out)|exact HB.out)) hb)
                (try clear hb)
                (try clear hb2)
                (try clear hk)
                (try clear hi)
                (try clear ho0)
                obtain ⟨Ao64,co64,eo64⟩:=Kd.R_slice HO307.out
                (first|subst eo64|(injection eo64 with f1_ f2_ f3_;have f4_:=f1_.symm;have f5_:=f3_.symm;clear f1_ f2_ f3_;subst f4_;subst f5_))
                obtain ⟨Ao65,co65,eo65⟩:=Kd.R_slice HO299.out
                (first|subst eo65|(injection eo65 with f1_ f2_ f3_;have f4_:=f1_.symm;have f5_:=f3_.symm;clear f1_ f2_ f3_;subst f4_;subst f5_))
                refine hK.out _ _ ⟨(blk_cell BK267.out 0).trans rfl,(blk_cell BK267.out 1).trans rfl,(blk_cell BK267.out 2).trans rfl,(blk_cell BK267.out 3).trans rfl⟩ (fun hHeld=>?_)
                clear hK K
                refine norm_ (a':=?_) ?_ ?_
                rotate_left
                ·show Act.put _ (some 56) _=_
                 simp only [Act.put,List.setIfInBounds_toArray,List.set_cons_zero,List.set_cons_succ,i64_w,i32_w]
                 rfl
                refine pure_ (i:=11) (N:=some 57) (v:=?_) (a':=?_) #[true,true,true,true,true,true,true,true,true,true,true,true,true,false] rfl rfl (any_of HT_.out (by kernel_rfl)) (fun _ _ _ h=>h) (Or.inl ⟨by rfl,?_⟩) ?_ ?_
                rotate_left
                ·intro w'
                 go_simp
                 with_reducible rfl
                rotate_left
                ·simp only [Act.put,List.setIfInBounds_toArray,List.set_cons_zero,List.set_cons_succ,i64_w,i32_w]
                 rfl
                exact norm_ (by simp only [putAll,Act.put,List.setIfInBounds_toArray,List.set_cons_zero,List.set_cons_succ]) (hCont (.slice Ao65 t297.length co65,.slice Ao64 t305.length co64,gb308) _ ⟨hHeld,(by (with_reducible repeat (first|apply Kd.V_alloc|apply Kd.V_drewN|apply Kd.V_drew));exact Kd.V_mono HO296.out (fun _ hk=>⟨hk.1.1.1.1,⟨hk.1.1.2,⟨hk.2,⟨hk.1.1.1.2.1,⟨hk.1.1.1.2.2.1,⟨hk.1.1.1.2.2.2,hk.1.2⟩⟩⟩⟩⟩⟩)),(by (with_reducible repeat (first|apply zk1|apply zk2|apply zk3));exact Kd.R_mono HO299.out (fun _ hk=>hk.1)),(by (with_reducible repeat (first|apply Kd.V_alloc|apply Kd.V_drewN|apply Kd.V_drew));exact Kd.V_mono HO304.out (fun _ hk=>⟨hk.1.1.1.1,⟨hk.1.1.2,⟨hk.2,⟨hk.1.1.1.2.1,⟨hk.1.1.1.2.2.1,⟨hk.1.1.1.2.2.2,hk.1.2⟩⟩⟩⟩⟩⟩)),(by (with_reducible repeat (first|apply zk1|apply zk2|apply zk3));exact Kd.R_mono HO307.out (fun _ hk=>hk.1)),(by (with_reducible repeat (first|apply Kd.V_alloc|apply Kd.V_drewN|apply Kd.V_drew));exact Kd.V_mono HO_268001.out (fun _ hk=>⟨hk.1.1.1.1,⟨hk.1.1.2,⟨hk.2,⟨hk.1.1.1.2.1,⟨hk.1.1.1.2.2.1,⟨hk.1.1.1.2.2.2,hk.1.2⟩⟩⟩⟩⟩⟩)),(by (with_reducible repeat (first|apply Kd.V_alloc|apply Kd.V_drewN|apply Kd.V_drew));exact Kd.V_mono HO_268002.out (fun _ hk=>⟨hk.1.1.1.1,⟨hk.1.1.2,⟨hk.2,⟨hk.1.1.1.2.1,⟨hk.1.1.1.2.2.1,⟨hk.1.1.1.2.2.2,hk.1.2⟩⟩⟩⟩⟩⟩)),(by (with_reducible repeat (first|apply Kd.V_alloc|apply Kd.V_drewN|apply Kd.V_drew));exact Kd.V_mono HO_268003.out (fun _ hk=>⟨hk.1.1.1.1,⟨hk.1.1.2,⟨hk.2,⟨hk.1.1.1.2.1,⟨hk.1.1.1.2.2.1,⟨hk.1.1.1.2.2.2,hk.1.2⟩⟩⟩⟩⟩⟩)),(by (with_reducible repeat (first|apply zb1|apply zb2|apply zb3));exact BK267.out),(by (with_reducible repeat (first|apply zb1|apply zb2|apply zb3));exact BK268.out),(by (with_reducible repeat (first|apply zb1|apply zb2|apply zb3));exact BK269.out),(by (with_reducible repeat (first|apply zb1|apply zb2|apply zb3));exact BK308.out),GW308.out,GE308.out,NB267_308.out,NB308_267.out,NB268_308.out,NB308_268.out,NB269_308.out,NB308_269.out,(by repeat (first|(with_reducible first|exact HB.out|apply zl1|apply zl2|apply zl3|refine below_set ?_ GE267.out|refine below_set ?_ GE268.out|refine below_set ?_ GE269.out|refine below_set ?_ GE308.out)|exact HB.out))⟩)
              ·skip
               refine box_step ?hg (N:=6) ?hd (cs:=#[.bool false,.slice none 0 0,.slice none 0 0,.slice none 0 0]) (t:=26) ?hr ?_;(case hd=>rfl);(case hg=>rfl);(case hr=>first|(go_simp;done)|(go_simp;rfl))
               intro gb308 hg w61 hbox hb
               replace HO_268001:=Aside0.mk (Kd.V_below (Kd.V_elderB (by (with_reducible repeat (first|apply Kd.V_alloc|apply Kd.V_drewN|apply Kd.V_drew));exact HO_268001.out) gb308 (Nat.le_of_eq hg.symm)) hb)
               replace HO_268002:=Aside0.mk (Kd.V_below (Kd.V_elderB (by (with_reducible repeat (first|apply Kd.V_alloc|apply Kd.V_drewN|apply Kd.V_drew));exact HO_268002.out) gb308 (Nat.le_of_eq hg.symm)) hb)
               replace HO_268003:=Aside0.mk (Kd.V_below (Kd.V_elderB (by (with_reducible repeat (first|apply Kd.V_alloc|apply Kd.V_drewN|apply Kd.V_drew));exact HO_268003.out) gb308 (Nat.le_of_eq hg.symm)) hb)
               replace HO296:=Aside0.mk (Kd.V_below (Kd.V_elderB (by (with_reducible repeat (first|apply Kd.V_alloc|apply Kd.V_drewN|apply Kd.V_drew));exact HO296.out) gb308 (Nat.le_of_eq hg.symm)) hb)
               replace HO304:=Aside0.mk (Kd.V_below (Kd.V_elderB (by (with_reducible repeat (first|apply Kd.V_alloc|apply Kd.V_drewN|apply Kd.V_drew));exact HO304.out) gb308 (Nat.le_of_eq hg.symm)) hb)
               have BK308:=Aside0.mk (hbox)
               have GW308:=Aside0.mk ((by rw [hg];exact (below_size (by repeat (first|(with_reducible first|exact HB.out|apply zl1|apply zl2|apply zl3|refine below_set ?_ GE267.out|refine below_set ?_ GE268.out|refine below_set ?_ GE269.out)|exact HB.out))):w.heap.size≤gb308))
               have GE308:=Aside0.mk ((by rw [hg];exact (below_size (by repeat (first|(with_reducible first|exact HB.out|apply zl1|apply zl2|apply zl3|refine below_set ?_ GE267.out|refine below_set ?_ GE268.out|refine below_set ?_ GE269.out)|exact HB.out))):w.heap.size≤gb308))
               replace HB:=Aside0.mk (below_step (by repeat (first|(with_reducible first|exact HB.out|apply zl1|apply zl2|apply zl3|refine below_set ?_ GE267.out|refine below_set ?_ GE268.out|refine below_set ?_ GE269.out)|exact HB.out)) hb)
               have NB267_308:=Aside0.mk ((by rw [hg];exact Nat.ne_of_lt (blk_lt (g:=gb267) (o:=.cells #[.bool a0_0,.slice A0_1 l0_1.length c0_1,.slice A0_2 l0_2.length c0_2,.slice A0_3 l0_3.length c0_3] 26 (0,0)) (by (with_reducible repeat (first|apply zb1|apply zb2|apply zb3));exact BK267.out)):gb267 ≠ gb308))
               have NB308_267:=Aside0.mk ((by rw [hg];exact Nat.ne_of_gt (blk_lt (g:=gb267) (o:=.cells #[.bool a0_0,.slice A0_1 l0_1.length c0_1,.slice A0_2 l0_2.length c0_2,.slice A0_3 l0_3.length c0_3] 26 (0,0)) (by (with_reducible repeat (first|apply zb1|apply zb2|apply zb3));exact BK267.out)):gb308 ≠ gb267))
               replace BK267:=Aside0.mk (blk_below (g:=gb267) (o:=.cells #[.bool a0_0,.slice A0_1 l0_1.length c0_1,.slice A0_2 l0_2.length c0_2,.slice A0_3 l0_3.length c0_3] 26 (0,0)) (by (with_reducible repeat (first|apply zb1|apply zb2|apply zb3));exact BK267.out) hb)
               have NB268_308:=Aside0.mk ((by rw [hg];exact Nat.ne_of_lt (blk_lt (g:=gb268) (o:=.cells #[.bool false,.slice none 0 0,.slice none 0 0,.slice none 0 0] 26 (0,0)) (by (with_reducible repeat (first|apply zb1|apply zb2|apply zb3));exact BK268.out)):gb268 ≠ gb308))
               have NB308_268:=Aside0.mk ((by rw [hg];exact Nat.ne_of_gt (blk_lt (g:=gb268) (o:=.cells #[.bool false,.slice none 0 0,.slice none 0 0,.slice none 0 0] 26 (0,0)) (by (with_reducible repeat (first|apply zb1|apply zb2|apply zb3));exact BK268.out)):gb308 ≠ gb268))
               replace BK268:=Aside0.mk (blk_below (g:=gb268) (o:=.cells #[.bool false,.slice none 0 0,.slice none 0 0,.slice none 0 0] 26 (0,0)) (by (with_reducible repeat (first|apply zb1|apply zb2|apply zb3));exact BK268.out) hb)
               have NB269_308:=Aside0.mk ((by rw [hg];exact Nat.ne_of_lt (blk_lt (g:=gb269) (o:=.cells #[.bool false,.slice none 0 0,.slice none 0 0,.slice none 0 0] 26 (0,0)) (by (with_reducible repeat (first|apply zb1|apply zb2|apply zb3));exact BK269.out)):gb269 ≠ gb308))
               have NB308_269:=Aside0.mk ((by rw [hg];exact Nat.ne_of_gt (blk_lt (g:=gb269) (o:=.cells #[.bool false,.slice none 0 0,.slice none 0 0,.slice none 0 0] 26 (0,0)) (by (with_reducible repeat (first|apply zb1|apply zb2|apply zb3));exact BK269.out)):gb308 ≠ gb269))
               replace BK269:=Aside0.mk (blk_below (g:=gb269) (o:=.cells #[.bool false,.slice none 0 0,.slice none 0 0,.slice none 0 0] 26 (0,0)) (by (with_reducible repeat (first|apply zb1|apply zb2|apply zb3));exact BK269.out) hb)
               clear hb hbox hg
               refine hK.out _ _ ⟨(blk_cell BK267.out 0).trans rfl,(blk_cell BK267.out 1).trans rfl,(blk_cell BK267.out 2).trans rfl,(blk_cell BK267.out 3).trans rfl⟩ (fun hHeld=>?_)
               clear hK K
               refine norm_ (a':=?_) ?_ ?_
               rotate_left
               ·show Act.put _ (some 6) _=_
                simp only [Act.put,List.setIfInBounds_toArray,List.set_cons_zero,List.set_cons_succ,i64_w,i32_w]
                rfl
               refine one_ (i:=4) (N:=some 50) #[true,true,true,true,true,true,true,true,true,true,false,false,true,false] rfl rfl (one_of HT_.out (by kernel_rfl)) (by decide) (fun K hK=>?_)
               refine goes_ Try.func34 (by kernel_rfl) rfl #[.slice A0_2 y292.length c0_2] (by rfl) rfl rfl (by (try simp only [List.map_toArray,List.map_cons,List.map_nil]);first|done|rfl|(simp only [List.length_drop,List.length_take];rfl)|(simp (disch:=omega) only [u64_in];rfl)) ?_
               with_reducible refine (slices_Clone_string_string.calls _ _ y292 t297 _ ?side1 ?side2 A43.out).mono ?_
               (case side1=>repeat (first|exact (Kd.V_reads' HO296.out).2.2|(with_reducible refine Kd.C_alloc ?_ _)|(with_reducible refine Kd.C_drewN ?_ _)|(with_reducible refine Kd.C_drew ?_)))
               (case side2=>exact (Kd.V_reads' HO296.out).2.1)
               rintro e w62 ⟨v298,rfl,ho0,hb⟩
               refine ⟨_,rfl,?_⟩
               replace HO_268001:=Aside0.mk (Kd.V_elder' (by (with_reducible repeat (first|apply Kd.V_alloc|apply Kd.V_drewN|apply Kd.V_drew));exact HO_268001.out) (Kd.R_base ho0) hb)
               replace HO_268002:=Aside0.mk (Kd.V_elder' (by (with_reducible repeat (first|apply Kd.V_alloc|apply Kd.V_drewN|apply Kd.V_drew));exact HO_268002.out) (Kd.R_base ho0) hb)
               replace HO_268003:=Aside0.mk (Kd.V_elder' (by (with_reducible repeat (first|apply Kd.V_alloc|apply Kd.V_drewN|apply Kd.V_drew));exact HO_268003.out) (Kd.R_base ho0) hb)
               replace HO296:=Aside0.mk (Kd.V_elder' (by (with_reducible repeat (first|apply Kd.V_alloc|apply Kd.V_drewN|apply Kd.V_drew));exact HO296.out) (Kd.R_base ho0) hb)
               replace HO304:=Aside0.mk (Kd.V_elder' (by (with_reducible repeat (first|apply Kd.V_alloc|apply Kd.V_drewN|apply Kd.V_drew));exact HO304.out) (Kd.R_base ho0) hb)
               have HO299:=Aside0.mk (Kd.R_lower (Kd.R_newM (M:=fun k_=>(w.heap.size≤k_)) ho0 (below_size (by repeat (first|(with_reducible first|exact HB.out|apply zl1|apply zl2|apply zl3|refine below_set ?_ GE267.out|refine below_set ?_ GE268.out|refine below_set ?_ GE269.out|refine below_set ?_ GE308.out)|exact HB.out))) (fun k_ h_=>h_)) (below_size (by repeat (first|(with_reducible first|exact HB.out|apply zl1|apply zl2|apply zl3|refine below_set ?_ GE267.out|refine below_set ?_ GE268.out|refine below_set ?_ GE269.out|refine below_set ?_ GE308.out)|exact HB.out))))
               replace BK267:=Aside0.mk (blk_below (g:=gb267) (o:=.cells #[.bool a0_0,.slice A0_1 l0_1.length c0_1,.slice A0_2 l0_2.length c0_2,.slice A0_3 l0_3.length c0_3] 26 (0,0)) (by (with_reducible repeat (first|apply zb1|apply zb2|apply zb3));exact BK267.out) hb)
               replace BK268:=Aside0.mk (blk_below (g:=gb268) (o:=.cells #[.bool false,.slice none 0 0,.slice none 0 0,.slice none 0 0] 26 (0,0)) (by (with_reducible repeat (first|apply zb1|apply zb2|apply zb3));exact BK268.out) hb)
               replace BK269:=Aside0.mk (blk_below (g:=gb269) (o:=.cells #[.bool false,.slice none 0 0,.slice none 0 0,.slice none 0 0] 26 (0,0)) (by (with_reducible repeat (first|apply zb1|apply zb2|apply zb3));exact BK269.out) hb)
               replace BK308:=Aside0.mk (blk_below (g:=gb308) (o:=.cells #[.bool false,.slice none 0 0,.slice none 0 0,.slice none 0 0] 26 (0,0)) (by (with_reducible repeat (first|apply zb1|apply zb2|apply zb3));exact BK308.out) hb)
               replace HB:=Aside0.mk (below_step (by repeat (first|(with_reducible first|exact HB.out|apply zl1|apply zl2|apply zl3|refine below_set ?_ GE267.out|refine below_set ?_ GE268.out|refine below_set ?_ GE269.out|refine below_set ?_ GE308.out)|exact HB.out)) hb)
               (try clear hb)
               (try clear hb2)
               (try clear hk)
               (try clear hi)
               (try clear ho0)
               refine hK.out _ _ ⟨(blk_cell BK267.out 0).trans rfl,(blk_cell BK267.out 1).trans rfl,(blk_cell BK267.out 2).trans rfl,(blk_cell BK267.out 3).trans rfl⟩ (fun hHeld=>?_)
               clear hK K
               refine norm_ (a':=?_) ?_ ?_
               rotate_left
               ·show Act.put _ (some 50) _=_
                simp only [Act.put,List.setIfInBounds_toArray,List.set_cons_zero,List.set_cons_succ,i64_w,i32_w]
                rfl
               refine one_ (i:=10) (N:=some 56) #[true,true,true,true,true,true,true,true,true,true,true,false,true,false] rfl rfl (one_of HT_.out (by kernel_rfl)) (by decide) (fun K hK=>?_)
               refine goes_ Try.func35 (by kernel_rfl) rfl #[.slice A0_3 y300.length c0_3] (by rfl) rfl rfl (by (try simp only [List.map_toArray,List.map_cons,List.map_nil]);first|done|rfl|(simp only [List.length_drop,List.length_take];rfl)|(simp (disch:=omega) only [u64_in];rfl)) ?_
               with_reducible refine (slices_Clone_int_int.calls _ _ y300 t305 _ ?side1 ?side2 A47.out).mono ?_
               (case side1=>repeat (first|exact (Kd.V_reads' HO304.out).2.2|(with_reducible refine Kd.C_alloc ?_ _)|(with_reducible refine Kd.C_drewN ?_ _)|(with_reducible refine Kd.C_drew ?_)))
               (case side2=>exact (Kd.V_reads' HO304.out).2.1)
               rintro e w63 ⟨v306,rfl,ho0,hb⟩
               refine ⟨_,rfl,?_⟩
               replace HO_268001:=Aside0.mk (Kd.V_elder' (by (with_reducible repeat (first|apply Kd.V_alloc|apply Kd.V_drewN|apply Kd.V_drew));exact HO_268001.out) (Kd.R_base ho0) hb)
               replace HO_268002:=Aside0.mk (Kd.V_elder' (by (with_reducible repeat (first|apply Kd.V_alloc|apply Kd.V_drewN|apply Kd.V_drew));exact HO_268002.out) (Kd.R_base ho0) hb)
               replace HO_268003:=Aside0.mk (Kd.V_elder' (by (with_reducible repeat (first|apply Kd.V_alloc|apply Kd.V_drewN|apply Kd.V_drew));exact HO_268003.out) (Kd.R_base ho0) hb)
               replace HO296:=Aside0.mk (Kd.V_elder' (by (with_reducible repeat (first|apply Kd.V_alloc|apply Kd.V_drewN|apply Kd.V_drew));exact HO296.out) (Kd.R_base ho0) hb)
               replace HO304:=Aside0.mk (Kd.V_elder' (by (with_reducible repeat (first|apply Kd.V_alloc|apply Kd.V_drewN|apply Kd.V_drew));exact HO304.out) (Kd.R_base ho0) hb)
               replace HO299:=Aside0.mk (Kd.R_below (by (with_reducible repeat (first|apply zk1|apply zk2|apply zk3));exact HO299.out) hb)
               have HO307:=Aside0.mk (Kd.R_lower (Kd.R_newM (M:=fun k_=>(w.heap.size≤k_)) ho0 (below_size (by repeat (first|(with_reducible first|exact HB.out|apply zl1|apply zl2|apply zl3|refine below_set ?_ GE267.out|refine below_set ?_ GE268.out|refine below_set ?_ GE269.out|refine below_set ?_ GE308.out)|exact HB.out))) (fun k_ h_=>h_)) (below_size (by repeat (first|(with_reducible first|exact HB.out|apply zl1|apply zl2|apply zl3|refine below_set ?_ GE267.out|refine below_set ?_ GE268.out|refine below_set ?_ GE269.out|refine below_set ?_ GE308.out)|exact HB.out))))
               replace BK267:=Aside0.mk (blk_below (g:=gb267) (o:=.cells #[.bool a0_0,.slice A0_1 l0_1.length c0_1,.slice A0_2 l0_2.length c0_2,.slice A0_3 l0_3.length c0_3] 26 (0,0)) (by (with_reducible repeat (first|apply zb1|apply zb2|apply zb3));exact BK267.out) hb)
               replace BK268:=Aside0.mk (blk_below (g:=gb268) (o:=.cells #[.bool false,.slice none 0 0,.slice none 0 0,.slice none 0 0] 26 (0,0)) (by (with_reducible repeat (first|apply zb1|apply zb2|apply zb3));exact BK268.out) hb)
               replace BK269:=Aside0.mk (blk_below (g:=gb269) (o:=.cells #[.bool false,.slice none 0 0,.slice none 0 0,.slice none 0 0] 26 (0,0)) (by (with_reducible repeat (first|apply zb1|apply zb2|apply zb3));exact BK269.out) hb)
               replace BK308:=Aside0.mk (blk_below (g:=gb308) (o:=.cells #[.bool false,.slice none 0 0,.slice none 0 0,.slice none 0 0] 26 (0,0)) (by (with_reducible repeat (first|apply zb1|apply zb2|apply zb3));exact BK308.out) hb)
               replace HB:=Aside0.mk (below_step (by repeat (first|(with_reducible first|exact HB.out|apply zl1|apply zl2|apply zl3|refine below_set ?_ GE267.out|refine below_set ?_ GE268.out|refine below_set ?_ GE269.out|refine below_set ?_ GE308.out)|exact HB.out)) hb)
               (try clear hb)
               (try clear hb2)
               (try clear hk)
               (try clear hi)
               (try clear ho0)
               obtain ⟨Ao64,co64,eo64⟩:=Kd.R_slice HO307.out
               (first|subst eo64|(injection eo64 with f1_ f2_ f3_;have f4_:=f1_.symm;have f5_:=f3_.symm;clear f1_ f2_ f3_;subst f4_;subst f5_))
               obtain ⟨Ao65,co65,eo65⟩:=Kd.R_slice HO299.out
               (first|subst eo65|(injection eo65 with f1_ f2_ f3_;have f4_:=f1_.symm;have f5_:=f3_.symm;clear f1_ f2_ f3_;subst f4_;subst f5_))
               refine hK.out _ _ ⟨(blk_cell BK267.out 0).trans rfl,(blk_cell BK267.out 1).trans rfl,(blk_cell BK267.out 2).trans rfl,(blk_cell BK267.out 3).trans rfl⟩ (fun hHeld=>?_)
               clear hK K
               refine norm_ (a':=?_) ?_ ?_
               rotate_left
               ·show Act.put _ (some 56) _=_
                simp only [Act.put,List.setIfInBounds_toArray,List.set_cons_zero,List.set_cons_succ,i64_w,i32_w]
                rfl
               refine pure_ (i:=11) (N:=some 57) (v:=?_) (a':=?_) #[true,true,true,true,true,true,true,true,true,true,true,true,true,false] rfl rfl (any_of HT_.out (by kernel_rfl)) (fun _ _ _ h=>h) (Or.inl ⟨by rfl,?_⟩) ?_ ?_
               rotate_left
               ·intro w'
                go_simp
                with_reducible rfl
               rotate_left
               ·simp only [Act.put,List.setIfInBounds_toArray,List.set_cons_zero,List.set_cons_succ,i64_w,i32_w]
                rfl
               exact norm_ (by simp only [putAll,Act.put,List.setIfInBounds_toArray,List.set_cons_zero,List.set_cons_succ]) (hCont (.slice Ao65 t297.length co65,.slice Ao64 t305.length co64,gb308) _ ⟨hHeld,(by (with_reducible repeat (first|apply Kd.V_alloc|apply Kd.V_drewN|apply Kd.V_drew));exact Kd.V_mono HO296.out (fun _ hk=>⟨hk.1.1.1.1,⟨hk.1.2,⟨hk.2,⟨hk.1.1.1.2.1,⟨hk.1.1.1.2.2.1,⟨hk.1.1.1.2.2.2,hk.1.1.2⟩⟩⟩⟩⟩⟩)),(by (with_reducible repeat (first|apply zk1|apply zk2|apply zk3));exact Kd.R_mono HO299.out (fun _ hk=>hk.1)),(by (with_reducible repeat (first|apply Kd.V_alloc|apply Kd.V_drewN|apply Kd.V_drew));exact Kd.V_mono HO304.out (fun _ hk=>⟨hk.1.1.1.1,⟨hk.1.2,⟨hk.2,⟨hk.1.1.1.2.1,⟨hk.1.1.1.2.2.1,⟨hk.1.1.1.2.2.2,hk.1.1.2⟩⟩⟩⟩⟩⟩)),(by (with_reducible repeat (first|apply zk1|apply zk2|apply zk3));exact Kd.R_mono HO307.out (fun _ hk=>hk.1)),(by (with_reducible repeat (first|apply Kd.V_alloc|apply Kd.V_drewN|apply Kd.V_drew));exact Kd.V_mono HO_268001.out (fun _ hk=>⟨hk.1.1.1.1,⟨hk.1.2,⟨hk.2,⟨hk.1.1.1.2.1,⟨hk.1.1.1.2.2.1,⟨hk.1.1.1.2.2.2,hk.1.1.2⟩⟩⟩⟩⟩⟩)),(by (with_reducible repeat (first|apply Kd.V_alloc|apply Kd.V_drewN|apply Kd.V_drew));exact Kd.V_mono HO_268002.out (fun _ hk=>⟨hk.1.1.1.1,⟨hk.1.2,⟨hk.2,⟨hk.1.1.1.2.1,⟨hk.1.1.1.2.2.1,⟨hk.1.1.1.2.2.2,hk.1.1.2⟩⟩⟩⟩⟩⟩)),(by (with_reducible repeat (first|apply Kd.V_alloc|apply Kd.V_drewN|apply Kd.V_drew));exact Kd.V_mono HO_268003.out (fun _ hk=>⟨hk.1.1.1.1,⟨hk.1.2,⟨hk.2,⟨hk.1.1.1.2.1,⟨hk.1.1.1.2.2.1,⟨hk.1.1.1.2.2.2,hk.1.1.2⟩⟩⟩⟩⟩⟩)),(by (with_reducible repeat (first|apply zb1|apply zb2|apply zb3));exact BK267.out),(by (with_reducible repeat (first|apply zb1|apply zb2|apply zb3));exact BK268.out),(by (with_reducible repeat (first|apply zb1|apply zb2|apply zb3));exact BK269.out),(by (with_reducible repeat (first|apply zb1|apply zb2|apply zb3));exact BK308.out),GW308.out,GE308.out,NB267_308.out,NB308_267.out,NB268_308.out,NB308_268.out,NB269_308.out,NB308_269.out,(by repeat (first|(with_reducible first|exact HB.out|apply zl1|apply zl2|apply zl3|refine below_set ?_ GE267.out|refine below_set ?_ GE268.out|refine below_set ?_ GE269.out|refine below_set ?_ GE308.out)|exact HB.out))⟩)
             rintro ⟨v298,v306,gb308⟩ w66 ⟨hS_,h0_,h1_,h2_,h3_,h4_,h5_,h6_,h7_,h8_,h9_,h10_,h11_,h12_,h13_,h14_,h15_,h16_,h17_,h18_,h19_⟩
             have n0_:Aside0 (Kd.V Kd.string 9 w66 w.heap.size (fun k_=>((P0_1_ k_ ∨ P0_2_ k_ ∨ P0_3_ k_) ∨ w.heap.size≤k_)∧some k_ ≠ (v298:Value).ownBlock∧some k_ ≠ (v306:Value).ownBlock∧k_ ≠ gb267∧k_ ≠ gb268∧k_ ≠ gb269∧k_ ≠ gb308) (.slice A0_2 y292.length c0_2) y292):=⟨h0_⟩
             have n1_:Aside0 (Kd.R Kd.string 9 w66 w.heap.size (fun k_=>(w.heap.size≤k_)) v298 t297):=⟨h1_⟩
             have n2_:Aside0 (Kd.V (Kd.int .i64) 3 w66 w.heap.size (fun k_=>((P0_1_ k_ ∨ P0_2_ k_ ∨ P0_3_ k_) ∨ w.heap.size≤k_)∧some k_ ≠ (v298:Value).ownBlock∧some k_ ≠ (v306:Value).ownBlock∧k_ ≠ gb267∧k_ ≠ gb268∧k_ ≠ gb269∧k_ ≠ gb308) (.slice A0_3 y300.length c0_3) y300):=⟨h2_⟩
             have n3_:Aside0 (Kd.R (Kd.int .i64) 3 w66 w.heap.size (fun k_=>(w.heap.size≤k_)) v306 t305):=⟨h3_⟩
             have n4_:Aside0 (Kd.V k43 43 w66 w.heap.size (fun k_=>((P0_1_ k_ ∨ P0_2_ k_ ∨ P0_3_ k_) ∨ w.heap.size≤k_)∧some k_ ≠ (v298:Value).ownBlock∧some k_ ≠ (v306:Value).ownBlock∧k_ ≠ gb267∧k_ ≠ gb268∧k_ ≠ gb269∧k_ ≠ gb308) (.slice A0_1 l0_1.length c0_1) l0_1):=⟨h4_⟩
             have n5_:Aside0 (Kd.V Kd.string 9 w66 w.heap.size (fun k_=>((P0_1_ k_ ∨ P0_2_ k_ ∨ P0_3_ k_) ∨ w.heap.size≤k_)∧some k_ ≠ (v298:Value).ownBlock∧some k_ ≠ (v306:Value).ownBlock∧k_ ≠ gb267∧k_ ≠ gb268∧k_ ≠ gb269∧k_ ≠ gb308) (.slice A0_2 l0_2.length c0_2) l0_2):=⟨h5_⟩
             have n6_:Aside0 (Kd.V (Kd.int .i64) 3 w66 w.heap.size (fun k_=>((P0_1_ k_ ∨ P0_2_ k_ ∨ P0_3_ k_) ∨ w.heap.size≤k_)∧some k_ ≠ (v298:Value).ownBlock∧some k_ ≠ (v306:Value).ownBlock∧k_ ≠ gb267∧k_ ≠ gb268∧k_ ≠ gb269∧k_ ≠ gb308) (.slice A0_3 l0_3.length c0_3) l0_3):=⟨h6_⟩
             have n7_:Aside0 (w66.heap[gb267]?=some (.cells #[.bool a0_0,.slice A0_1 l0_1.length c0_1,.slice A0_2 l0_2.length c0_2,.slice A0_3 l0_3.length c0_3] 26 (0,0))):=⟨h7_⟩
             have n8_:Aside0 (w66.heap[gb268]?=some (.cells #[.bool false,.slice none 0 0,.slice none 0 0,.slice none 0 0] 26 (0,0))):=⟨h8_⟩
             have n9_:Aside0 (w66.heap[gb269]?=some (.cells #[.bool false,.slice none 0 0,.slice none 0 0,.slice none 0 0] 26 (0,0))):=⟨h9_⟩
             have n10_:Aside0 (w66.heap[gb308]?=some (.cells #[.bool false,.slice none 0 0,.slice none 0 0,.slice none 0 0] 26 (0,0))):=⟨h10_⟩
             have n11_:Aside0 (w.heap.size≤gb308):=⟨h11_⟩
             have n12_:Aside0 (w.heap.size≤gb308):=⟨h12_⟩
             have n13_:Aside0 (gb267 ≠ gb308):=⟨h13_⟩
             have n14_:Aside0 (gb308 ≠ gb267):=⟨h14_⟩
             have n15_:Aside0 (gb268 ≠ gb308):=⟨h15_⟩
             have n16_:Aside0 (gb308 ≠ gb268):=⟨h16_⟩
             have n17_:Aside0 (gb269 ≠ gb308):=⟨h17_⟩
             have n18_:Aside0 (gb308 ≠ gb269):=⟨h18_⟩
             have n19_:Aside0 (Below w.heap.size w w66):=⟨h19_⟩
             clear HO_268001
             clear HO_268002
             clear HO_268003
             clear BK267
             clear BK268
             clear BK269
             clear HB
             clear h0_ h1_ h2_ h3_ h4_ h5_ h6_ h7_ h8_ h9_ h10_ h11_ h12_ h13_ h14_ h15_ h16_ h17_ h18_ h19_
             have HO296:=n0_
             have HO299:=n1_
             have HO304:=n2_
             have HO307:=n3_
             have HO_268001:=n4_
             have HO_268002:=n5_
             have HO_268003:=n6_
             have BK267:=n7_
             have BK268:=n8_
             have BK269:=n9_
             have BK308:=n10_
             have GW308:=n11_
             have GE308:=n12_
             have NB267_308:=n13_
             have NB308_267:=n14_
             have NB268_308:=n15_
             have NB308_268:=n16_
             have NB269_308:=n17_
             have NB308_269:=n18_
             have HB:=n19_
             clear n0_ n1_ n2_ n3_ n4_ n5_ n6_ n7_ n8_ n9_ n10_ n11_ n12_ n13_ n14_ n15_ n16_ n17_ n18_ n19_
             have hHeld:w66.cell? ⟨gb267,0,none⟩=some (.bool a0_0)∧w66.cell? ⟨gb267,1,none⟩=some (.slice A0_1 l0_1.length c0_1)∧w66.cell? ⟨gb267,2,none⟩=some (.slice A0_2 l0_2.length c0_2)∧w66.cell? ⟨gb267,3,none⟩=some (.slice A0_3 l0_3.length c0_3):=hS_
             obtain ⟨Ao67,co67,eo67⟩:=Kd.R_slice HO307.out
             (first|subst eo67|(injection eo67 with f1_ f2_ f3_;have f4_:=f1_.symm;have f5_:=f3_.symm;clear f1_ f2_ f3_;subst f4_;subst f5_))
             obtain ⟨Ao68,co68,eo68⟩:=Kd.R_slice HO299.out
             (first|subst eo68|(injection eo68 with f1_ f2_ f3_;have f4_:=f1_.symm;have f5_:=f3_.symm;clear f1_ f2_ f3_;subst f4_;subst f5_))
             refine norm_ (a':=?_) ?_ ?_
             rotate_left
             ·simp only [putAll,Act.put,List.setIfInBounds_toArray,List.set_cons_zero,List.set_cons_succ]
              rfl
             refine one_ (i:=13) (N:=none) #[true,true,true,true,true,true,true,true,true,true,true,true,true,true] rfl rfl (one_of HT_.out (by kernel_rfl)) (by decide) (fun K hK=>?_)
             have hs69:w66.cell? ⟨gb308,0,none⟩=some (.bool false):=(blk_cell BK308.out 0).trans rfl
             have hfs69:=blk_frozen BK308.out 0
             have hns69_0:=NB267_308.out
             have hns69_1:=NB268_308.out
             have hns69_2:=NB269_308.out
             have hms69_0:=NB308_267.out
             have hms69_1:=NB308_268.out
             have hms69_2:=NB308_269.out
             have hs70:w66.cell? ⟨gb308,1,none⟩=some (.slice none 0 0):=(blk_cell BK308.out 1).trans rfl
             have hfs70:=blk_frozen BK308.out 1
             have hns70_0:=NB267_308.out
             have hns70_1:=NB268_308.out
             have hns70_2:=NB269_308.out
             have hms70_0:=NB308_267.out
             have hms70_1:=NB308_268.out
             have hms70_2:=NB308_269.out
             have hs71:w66.cell? ⟨gb308,2,none⟩=some (.slice none 0 0):=(blk_cell BK308.out 2).trans rfl
             have hfs71:=blk_frozen BK308.out 2
             have hns71_0:=NB267_308.out
             have hns71_1:=NB268_308.out
             have hns71_2:=NB269_308.out
             have hms71_0:=NB308_267.out
             have hms71_1:=NB308_268.out
             have hms71_2:=NB308_269.out
             have hs72:w66.cell? ⟨gb308,3,none⟩=some (.slice none 0 0):=(blk_cell BK308.out 3).trans rfl
             have hfs72:=blk_frozen BK308.out 3
             have hns72_0:=NB267_308.out
             have hns72_1:=NB268_308.out
             have hns72_2:=NB269_308.out
             have hms72_0:=NB308_267.out
             have hms72_1:=NB308_268.out
             have hms72_2:=NB308_269.out
             refine skip_ (w1:=?_) (by rfl) rfl ?_ ?_
             rotate_left
             ·go_simp
              rfl
             refine hK.out _ _ ⟨((far4 (g:=gb308) NB267_308.out).trans (hHeld.1)),((far4 (g:=gb308) NB267_308.out).trans (hHeld.2.1)),((far4 (g:=gb308) NB267_308.out).trans (hHeld.2.2.1)),((far4 (g:=gb308) NB267_308.out).trans (hHeld.2.2.2))⟩ (fun hHeld=>?_)
             clear hK K
             refine done_ (done_of HT_.out (by kernel_rfl)) ?_
             try go_wp2
             have n0_:Aside0 (Kd.V k43 43 ((((w66.setCell ⟨gb308,0,none⟩ (.bool false)).setCell ⟨gb308,1,none⟩ (.slice none 0 0)).setCell ⟨gb308,2,none⟩ (.slice Ao68 t297.length co68)).setCell ⟨gb308,3,none⟩ (.slice Ao67 t305.length co67)) w.heap.size (fun k_=>((P0_1_ k_ ∨ P0_2_ k_ ∨ P0_3_ k_) ∨ w.heap.size≤k_)∧some k_ ≠ (.slice Ao68 t297.length co68:Value).ownBlock∧some k_ ≠ (.slice Ao67 t305.length co67:Value).ownBlock∧k_ ≠ gb267∧k_ ≠ gb268∧k_ ≠ gb269∧k_ ≠ gb308) (.slice A0_1 l0_1.length c0_1) l0_1):=⟨by (with_reducible repeat (first|apply Kd.V_alloc|apply Kd.V_drewN|apply Kd.V_drew));exact Kd.V_mono (Kd.V_far (p:=⟨gb308,3,none⟩) (Kd.V_far (p:=⟨gb308,2,none⟩) (Kd.V_far (p:=⟨gb308,1,none⟩) (Kd.V_far (p:=⟨gb308,0,none⟩) (Kd.V_mono HO_268001.out (fun k_ hk=>(⟨hk,hk.2.2.2.2.2.2⟩:_∧k_ ≠ gb308))) (fun _ hk=>hk.2) (.bool false)) (fun _ hk=>hk.2) (.slice none 0 0)) (fun _ hk=>hk.2) (.slice Ao68 t297.length co68)) (fun _ hk=>hk.2) (.slice Ao67 t305.length co67)) (fun _ hk=>⟨hk.1.1,⟨hk.1.2.1,⟨hk.1.2.2.1,⟨hk.1.2.2.2.1,⟨hk.1.2.2.2.2.1,⟨hk.1.2.2.2.2.2.1,hk.1.2.2.2.2.2.2⟩⟩⟩⟩⟩⟩)⟩
             have n1_:Aside0 (Kd.V Kd.string 9 ((((w66.setCell ⟨gb308,0,none⟩ (.bool false)).setCell ⟨gb308,1,none⟩ (.slice none 0 0)).setCell ⟨gb308,2,none⟩ (.slice Ao68 t297.length co68)).setCell ⟨gb308,3,none⟩ (.slice Ao67 t305.length co67)) w.heap.size (fun k_=>((P0_1_ k_ ∨ P0_2_ k_ ∨ P0_3_ k_) ∨ w.heap.size≤k_)∧some k_ ≠ (.slice Ao68 t297.length co68:Value).ownBlock∧some k_ ≠ (.slice Ao67 t305.length co67:Value).ownBlock∧k_ ≠ gb267∧k_ ≠ gb268∧k_ ≠ gb269∧k_ ≠ gb308) (.slice A0_2 l0_2.length c0_2) l0_2):=⟨by (with_reducible repeat (first|apply Kd.V_alloc|apply Kd.V_drewN|apply Kd.V_drew));exact Kd.V_mono (Kd.V_far (p:=⟨gb308,3,none⟩) (Kd.V_far (p:=⟨gb308,2,none⟩) (Kd.V_far (p:=⟨gb308,1,none⟩) (Kd.V_far (p:=⟨gb308,0,none⟩) (Kd.V_mono HO_268002.out (fun k_ hk=>(⟨hk,hk.2.2.2.2.2.2⟩:_∧k_ ≠ gb308))) (fun _ hk=>hk.2) (.bool false)) (fun _ hk=>hk.2) (.slice none 0 0)) (fun _ hk=>hk.2) (.slice Ao68 t297.length co68)) (fun _ hk=>hk.2) (.slice Ao67 t305.length co67)) (fun _ hk=>⟨hk.1.1,⟨hk.1.2.1,⟨hk.1.2.2.1,⟨hk.1.2.2.2.1,⟨hk.1.2.2.2.2.1,⟨hk.1.2.2.2.2.2.1,hk.1.2.2.2.2.2.2⟩⟩⟩⟩⟩⟩)⟩
             have n2_:Aside0 (Kd.V (Kd.int .i64) 3 ((((w66.setCell ⟨gb308,0,none⟩ (.bool false)).setCell ⟨gb308,1,none⟩ (.slice none 0 0)).setCell ⟨gb308,2,none⟩ (.slice Ao68 t297.length co68)).setCell ⟨gb308,3,none⟩ (.slice Ao67 t305.length co67)) w.heap.size (fun k_=>((P0_1_ k_ ∨ P0_2_ k_ ∨ P0_3_ k_) ∨ w.heap.size≤k_)∧some k_ ≠ (.slice Ao68 t297.length co68:Value).ownBlock∧some k_ ≠ (.slice Ao67 t305.length co67:Value).ownBlock∧k_ ≠ gb267∧k_ ≠ gb268∧k_ ≠ gb269∧k_ ≠ gb308) (.slice A0_3 l0_3.length c0_3) l0_3):=⟨by (with_reducible repeat (first|apply Kd.V_alloc|apply Kd.V_drewN|apply Kd.V_drew));exact Kd.V_mono (Kd.V_far (p:=⟨gb308,3,none⟩) (Kd.V_far (p:=⟨gb308,2,none⟩) (Kd.V_far (p:=⟨gb308,1,none⟩) (Kd.V_far (p:=⟨gb308,0,none⟩) (Kd.V_mono HO_268003.out (fun k_ hk=>(⟨hk,hk.2.2.2.2.2.2⟩:_∧k_ ≠ gb308))) (fun _ hk=>hk.2) (.bool false)) (fun _ hk=>hk.2) (.slice none 0 0)) (fun _ hk=>hk.2) (.slice Ao68 t297.length co68)) (fun _ hk=>hk.2) (.slice Ao67 t305.length co67)) (fun _ hk=>⟨hk.1.1,⟨hk.1.2.1,⟨hk.1.2.2.1,⟨hk.1.2.2.2.1,⟨hk.1.2.2.2.2.1,⟨hk.1.2.2.2.2.2.1,hk.1.2.2.2.2.2.2⟩⟩⟩⟩⟩⟩)⟩
             have n3_:Aside0 (Kd.V Kd.string 9 ((((w66.setCell ⟨gb308,0,none⟩ (.bool false)).setCell ⟨gb308,1,none⟩ (.slice none 0 0)).setCell ⟨gb308,2,none⟩ (.slice Ao68 t297.length co68)).setCell ⟨gb308,3,none⟩ (.slice Ao67 t305.length co67)) w.heap.size (fun k_=>((P0_1_ k_ ∨ P0_2_ k_ ∨ P0_3_ k_) ∨ w.heap.size≤k_)∧some k_ ≠ (.slice Ao68 t297.length co68:Value).ownBlock∧some k_ ≠ (.slice Ao67 t305.length co67:Value).ownBlock∧k_ ≠ gb267∧k_ ≠ gb268∧k_ ≠ gb269∧k_ ≠ gb308) (.slice A0_2 y292.length c0_2) y292):=⟨by (with_reducible repeat (first|apply Kd.V_alloc|apply Kd.V_drewN|apply Kd.V_drew));exact Kd.V_mono (Kd.V_far (p:=⟨gb308,3,none⟩) (Kd.V_far (p:=⟨gb308,2,none⟩) (Kd.V_far (p:=⟨gb308,1,none⟩) (Kd.V_far (p:=⟨gb308,0,none⟩) (Kd.V_mono HO296.out (fun k_ hk=>(⟨hk,hk.2.2.2.2.2.2⟩:_∧k_ ≠ gb308))) (fun _ hk=>hk.2) (.bool false)) (fun _ hk=>hk.2) (.slice none 0 0)) (fun _ hk=>hk.2) (.slice Ao68 t297.length co68)) (fun _ hk=>hk.2) (.slice Ao67 t305.length co67)) (fun _ hk=>⟨hk.1.1,⟨hk.1.2.1,⟨hk.1.2.2.1,⟨hk.1.2.2.2.1,⟨hk.1.2.2.2.2.1,⟨hk.1.2.2.2.2.2.1,hk.1.2.2.2.2.2.2⟩⟩⟩⟩⟩⟩)⟩
             have n4_:Aside0 (Kd.V (Kd.int .i64) 3 ((((w66.setCell ⟨gb308,0,none⟩ (.bool false)).setCell ⟨gb308,1,none⟩ (.slice none 0 0)).setCell ⟨gb308,2,none⟩ (.slice Ao68 t297.length co68)).setCell ⟨gb308,3,none⟩ (.slice Ao67 t305.length co67)) w.heap.size (fun k_=>((P0_1_ k_ ∨ P0_2_ k_ ∨ P0_3_ k_) ∨ w.heap.size≤k_)∧some k_ ≠ (.slice Ao68 t297.length co68:Value).ownBlock∧some k_ ≠ (.slice Ao67 t305.length co67:Value).ownBlock∧k_ ≠ gb267∧k_ ≠ gb268∧k_ ≠ gb269∧k_ ≠ gb308) (.slice A0_3 y300.length c0_3) y300):=⟨by (with_reducible repeat (first|apply Kd.V_alloc|apply Kd.V_drewN|apply Kd.V_drew));exact Kd.V_mono (Kd.V_far (p:=⟨gb308,3,none⟩) (Kd.V_far (p:=⟨gb308,2,none⟩) (Kd.V_far (p:=⟨gb308,1,none⟩) (Kd.V_far (p:=⟨gb308,0,none⟩) (Kd.V_mono HO304.out (fun k_ hk=>(⟨hk,hk.2.2.2.2.2.2⟩:_∧k_ ≠ gb308))) (fun _ hk=>hk.2) (.bool false)) (fun _ hk=>hk.2) (.slice none 0 0)) (fun _ hk=>hk.2) (.slice Ao68 t297.length co68)) (fun _ hk=>hk.2) (.slice Ao67 t305.length co67)) (fun _ hk=>⟨hk.1.1,⟨hk.1.2.1,⟨hk.1.2.2.1,⟨hk.1.2.2.2.1,⟨hk.1.2.2.2.2.1,⟨hk.1.2.2.2.2.2.1,hk.1.2.2.2.2.2.2⟩⟩⟩⟩⟩⟩)⟩
             have n5_:Aside0 (Kd.R Kd.string 9 ((((w66.setCell ⟨gb308,0,none⟩ (.bool false)).setCell ⟨gb308,1,none⟩ (.slice none 0 0)).setCell ⟨gb308,2,none⟩ (.slice Ao68 t297.length co68)).setCell ⟨gb308,3,none⟩ (.slice Ao67 t305.length co67)) w.heap.size (fun k_=>(w.heap.size≤k_)) (.slice Ao68 t297.length co68) t297):=⟨by (with_reducible repeat (first|apply zk1|apply zk2|apply zk3));exact Kd.R_mono (Kd.R_far (p:=⟨gb308,3,none⟩) (Kd.R_far (p:=⟨gb308,2,none⟩) (Kd.R_far (p:=⟨gb308,1,none⟩) (Kd.R_far (p:=⟨gb308,0,none⟩) (Kd.R_types HO299.out BK308.out (by decide)) (fun _ hk=>hk.2) (.bool false)) (fun _ hk=>hk.2) (.slice none 0 0)) (fun _ hk=>hk.2) (.slice Ao68 t297.length co68)) (fun _ hk=>hk.2) (.slice Ao67 t305.length co67)) (fun _ hk=>hk.1)⟩
             have n6_:Aside0 (Kd.R (Kd.int .i64) 3 ((((w66.setCell ⟨gb308,0,none⟩ (.bool false)).setCell ⟨gb308,1,none⟩ (.slice none 0 0)).setCell ⟨gb308,2,none⟩ (.slice Ao68 t297.length co68)).setCell ⟨gb308,3,none⟩ (.slice Ao67 t305.length co67)) w.heap.size (fun k_=>(w.heap.size≤k_)) (.slice Ao67 t305.length co67) t305):=⟨by (with_reducible repeat (first|apply zk1|apply zk2|apply zk3));exact Kd.R_mono (Kd.R_far (p:=⟨gb308,3,none⟩) (Kd.R_far (p:=⟨gb308,2,none⟩) (Kd.R_far (p:=⟨gb308,1,none⟩) (Kd.R_far (p:=⟨gb308,0,none⟩) (Kd.R_types HO307.out BK308.out (by decide)) (fun _ hk=>hk.2) (.bool false)) (fun _ hk=>hk.2) (.slice none 0 0)) (fun _ hk=>hk.2) (.slice Ao68 t297.length co68)) (fun _ hk=>hk.2) (.slice Ao67 t305.length co67)) (fun _ hk=>hk.1)⟩
             have n7_:Aside0 (((((w66.setCell ⟨gb308,0,none⟩ (.bool false)).setCell ⟨gb308,1,none⟩ (.slice none 0 0)).setCell ⟨gb308,2,none⟩ (.slice Ao68 t297.length co68)).setCell ⟨gb308,3,none⟩ (.slice Ao67 t305.length co67)).heap[gb267]?=some (.cells #[.bool a0_0,.slice A0_1 l0_1.length c0_1,.slice A0_2 l0_2.length c0_2,.slice A0_3 l0_3.length c0_3] 26 (0,0))):=⟨by (repeat (first|(with_reducible first|apply zb1|apply zb2|apply zb3|exact BK267.out)|refine blk_far ?_ NB267_308.out _))⟩
             have n8_:Aside0 (((((w66.setCell ⟨gb308,0,none⟩ (.bool false)).setCell ⟨gb308,1,none⟩ (.slice none 0 0)).setCell ⟨gb308,2,none⟩ (.slice Ao68 t297.length co68)).setCell ⟨gb308,3,none⟩ (.slice Ao67 t305.length co67)).heap[gb268]?=some (.cells #[.bool false,.slice none 0 0,.slice none 0 0,.slice none 0 0] 26 (0,0))):=⟨by (repeat (first|(with_reducible first|apply zb1|apply zb2|apply zb3|exact BK268.out)|refine blk_far ?_ NB268_308.out _))⟩
             have n9_:Aside0 (((((w66.setCell ⟨gb308,0,none⟩ (.bool false)).setCell ⟨gb308,1,none⟩ (.slice none 0 0)).setCell ⟨gb308,2,none⟩ (.slice Ao68 t297.length co68)).setCell ⟨gb308,3,none⟩ (.slice Ao67 t305.length co67)).heap[gb269]?=some (.cells #[.bool false,.slice none 0 0,.slice none 0 0,.slice none 0 0] 26 (0,0))):=⟨by (repeat (first|(with_reducible first|apply zb1|apply zb2|apply zb3|exact BK269.out)|refine blk_far ?_ NB269_308.out _))⟩
             have n10_:Aside0 (((((w66.setCell ⟨gb308,0,none⟩ (.bool false)).setCell ⟨gb308,1,none⟩ (.slice none 0 0)).setCell ⟨gb308,2,none⟩ (.slice Ao68 t297.length co68)).setCell ⟨gb308,3,none⟩ (.slice Ao67 t305.length co67)).heap[gb308]?=some (.cells #[.bool false,.slice none 0 0,.slice Ao68 t297.length co68,.slice Ao67 t305.length co67] 26 (0,0))):=⟨by apply zpe;(repeat (first|(with_reducible first|apply zb1|apply zb2|apply zb3|apply zpi|exact BK308.out)));rfl⟩
             have n11_:Aside0 (Below w.heap.size w ((((w66.setCell ⟨gb308,0,none⟩ (.bool false)).setCell ⟨gb308,1,none⟩ (.slice none 0 0)).setCell ⟨gb308,2,none⟩ (.slice Ao68 t297.length co68)).setCell ⟨gb308,3,none⟩ (.slice Ao67 t305.length co67))):=⟨by repeat (first|(with_reducible first|exact HB.out|apply zl1|apply zl2|apply zl3|refine below_set ?_ GE267.out|refine below_set ?_ GE268.out|refine below_set ?_ GE269.out|refine below_set ?_ GE308.out)|exact HB.out)⟩
             (try clear HO_268001)
             (try clear HO_268002)
             (try clear HO_268003)
             (try clear HO296)
             (try clear HO304)
             (try clear HO299)
             (try clear HO307)
             (try clear BK267)
             (try clear BK268)
             (try clear BK269)
             (try clear BK308)
             (try clear HB)
             generalize ((((w66.setCell ⟨gb308,0,none⟩ (.bool false)).setCell ⟨gb308,1,none⟩ (.slice none 0 0)).setCell ⟨gb308,2,none⟩ (.slice Ao68 t297.length co68)).setCell ⟨gb308,3,none⟩ (.slice Ao67 t305.length co67))=w73 at n0_ n1_ n2_ n3_ n4_ n5_ n6_ n7_ n8_ n9_ n10_ n11_ ⊢
             have HO_268001:=n0_
             have HO_268002:=n1_
             have HO_268003:=n2_
             have HO296:=n3_
             have HO304:=n4_
             have HO299:=n5_
             have HO307:=n6_
             have BK267:=n7_
             have BK268:=n8_
             have BK269:=n9_
             have BK308:=n10_
             have HB:=n11_
             clear n0_ n1_ n2_ n3_ n4_ n5_ n6_ n7_ n8_ n9_ n10_ n11_
             replace HO_268001:=Aside0.mk (Kd.V_drew HO_268001.out)
             replace HO_268002:=Aside0.mk (Kd.V_drew HO_268002.out)
             replace HO_268003:=Aside0.mk (Kd.V_drew HO_268003.out)
             replace HO296:=Aside0.mk (Kd.V_drew HO296.out)
             replace HO304:=Aside0.mk (Kd.V_drew HO304.out)
             replace HO299:=Aside0.mk (Kd.R_drew HO299.out)
             replace HO307:=Aside0.mk (Kd.R_drew HO307.out)
             replace BK267:=Aside0.mk (blk_drew BK267.out)
             replace BK268:=Aside0.mk (blk_drew BK268.out)
             replace BK269:=Aside0.mk (blk_drew BK269.out)
             replace BK308:=Aside0.mk (blk_drew BK308.out)
             replace HB:=Aside0.mk (below_drew1 HB.out)
             have q75:((ji44):Int)≤((l0_2.length:Int):Int):=of_decide_eq_true (by first|(with_reducible assumption)|assumption)
             obtain ⟨i075,hi075,_,hsz75,_⟩:=info_parts info9
             have hroom75:l0_2.length≤c0_2:=(Kd.V_reads' HO_268002.out).2.1
             have hC75:Kd.F Kd.string _ _ A0_2 l0_2.length l0_2:=(Kd.V_at (base:=w.heap.size) HO_268002.out).2.2
             have q075:(0:Int)≤((ji44):Int):=of_decide_eq_true (by first|(with_reducible assumption)|assumption)
             have hcut75:=cut_from (P:=Try.prog) 23 9 .i64 Try.underlying23 hi075 1 hsz75 A0_2 l0_2.length c0_2 (ji44) q075 q75
             have hr75:=Kd.F_cut (m:=((ji44):Int).toNat) (c:=c0_2) hC75 (by omega) hroom75
             obtain ⟨A75,hA75⟩:∃ A1,A1=(if c0_2=((ji44):Int).toNat then A0_2 else (A0_2:Option Addr).map (·.add (((ji44):Int).toNat * 1))):=⟨_,rfl⟩
             obtain ⟨c75,hc75⟩:∃ c_,c_=c0_2 - ((ji44):Int).toNat:=⟨_,rfl⟩
             have hy75:y309.length=l0_2.length - ((ji44):Int).toNat:=(by rw [Ny309.out,List.length_drop] <;> omega)
             rw [show (l0_2).drop ((ji44):Int).toNat=y309 from Ny309.out.symm] at hr75
             replace hr75:Kd.F Kd.string _ _ A75 y309.length y309:=(by rw [hA75];exact hr75)
             rw [← hy75,← hA75,← hc75] at hcut75
             have HO313:=Aside0.mk (show Kd.V Kd.string 9 _ w.heap.size _ (.slice A75 y309.length c75) y309 from Kd.V_mk (by rw [hy75,hc75];exact Nat.sub_le_sub_right hroom75 _) hr75)
             have HC313:=Aside0.mk (show y309.length≤c75 from by rw [hy75,hc75];exact Nat.sub_le_sub_right hroom75 _)
             clear hr75 hC75 hroom75 hi075 hsz75 hc75
             have KY75:=Aside0.mk hy75
             have KA75:=Aside0.mk hA75
             clear hy75 hA75
             replace q75:=eq_true q75
             have q76:((ji44):Int)≤((l0_3.length:Int):Int):=of_decide_eq_true (by first|(with_reducible assumption)|assumption)
             obtain ⟨i076,hi076,_,hsz76,_⟩:=info_parts info3
             have hroom76:l0_3.length≤c0_3:=(Kd.V_reads' HO_268003.out).2.1
             have hC76:Kd.F (Kd.int .i64) _ _ A0_3 l0_3.length l0_3:=(Kd.V_at (base:=w.heap.size) HO_268003.out).2.2
             have q076:(0:Int)≤((ji44):Int):=of_decide_eq_true (by first|(with_reducible assumption)|assumption)
             have hcut76:=cut_from (P:=Try.prog) 24 3 .i64 Try.underlying24 hi076 1 hsz76 A0_3 l0_3.length c0_3 (ji44) q076 q76
             have hr76:=Kd.F_cut (m:=((ji44):Int).toNat) (c:=c0_3) hC76 (by omega) hroom76
             obtain ⟨A76,hA76⟩:∃ A1,A1=(if c0_3=((ji44):Int).toNat then A0_3 else (A0_3:Option Addr).map (·.add (((ji44):Int).toNat * 1))):=⟨_,rfl⟩
             obtain ⟨c76,hc76⟩:∃ c_,c_=c0_3 - ((ji44):Int).toNat:=⟨_,rfl⟩
             have hy76:y317.length=l0_3.length - ((ji44):Int).toNat:=(by rw [Ny317.out,List.length_drop] <;> omega)
             rw [show (l0_3).drop ((ji44):Int).toNat=y317 from Ny317.out.symm] at hr76
             replace hr76:Kd.F (Kd.int .i64) _ _ A76 y317.length y317:=(by rw [hA76];exact hr76)
             rw [← hy76,← hA76,← hc76] at hcut76
             have HO321:=Aside0.mk (show Kd.V (Kd.int .i64) 3 _ w.heap.size _ (.slice A76 y317.length c76) y317 from Kd.V_mk (by rw [hy76,hc76];exact Nat.sub_le_sub_right hroom76 _) hr76)
             have HC321:=Aside0.mk (show y317.length≤c76 from by rw [hy76,hc76];exact Nat.sub_le_sub_right hroom76 _)
             clear hr76 hC76 hroom76 hi076 hsz76 hc76
             have KY76:=Aside0.mk hy76
             have KA76:=Aside0.mk hA76
             clear hy76 hA76
             replace q76:=eq_true q76
             refine start_ (n:=15) (S:=fun w'=>w'.cell? ⟨gb267,0,none⟩=some (.bool a0_0)∧w'.cell? ⟨gb267,1,none⟩=some (.slice A0_1 l0_1.length c0_1)∧w'.cell? ⟨gb267,2,none⟩=some (.slice A0_2 l0_2.length c0_2)∧w'.cell? ⟨gb267,3,none⟩=some (.slice A0_3 l0_3.length c0_3)) (ds:=[]) #[false,false,false,false,false,false,false,false,false,false,false,false,false,false,false] (by kernel_rfl) rfl rfl ⟨(blk_cell BK267.out 0).trans rfl,(blk_cell BK267.out 1).trans rfl,(blk_cell BK267.out 2).trans rfl,(blk_cell BK267.out 3).trans rfl⟩ (fun hHeld=>?_);refine with_tabW node_Split.tab6 node_Split.bits6 (fun HT_ HW_=>?_)
             generalize w73.drew=w74 at HO_268001 HO_268002 HO_268003 HO296 HO304 HO299 HO307 BK267 BK268 BK269 BK308 HB HO313 HO321 hHeld ⊢
             refine pure_ (i:=0) (N:=some 58) (v:=?_) (a':=?_) #[true,false,false,false,false,false,false,false,false,false,false,false,false,false,false] rfl rfl (any_of HT_.out (by kernel_rfl)) (fun _ _ _ h=>h) (Or.inl ⟨by rfl,?_⟩) ?_ ?_
             rotate_left
             ·intro w'
              go_simp
              with_reducible rfl
             rotate_left
             ·simp only [Act.put,List.setIfInBounds_toArray,List.set_cons_zero,List.set_cons_succ,i64_w,i32_w]
              rfl
             refine pure_ (i:=2) (N:=some 60) (v:=?_) (a':=?_) #[true,false,true,false,false,false,false,false,false,false,false,false,false,false,false] rfl rfl (any_of HT_.out (by kernel_rfl)) (fun _ _ _ h=>h) (Or.inl ⟨by rfl,?_⟩) ?_ ?_
             rotate_left
             ·intro w'
              go_simp
              with_reducible rfl
             rotate_left
             ·simp only [Act.put,List.setIfInBounds_toArray,List.set_cons_zero,List.set_cons_succ,i64_w,i32_w]
              rfl
             refine pure_ (i:=3) (N:=some 61) (v:=?_) (a':=?_) #[true,false,true,true,false,false,false,false,false,false,false,false,false,false,false] rfl rfl (any_of HT_.out (by kernel_rfl)) (fun _ _ _ h=>h) (Or.inl ⟨by rfl,?_⟩) ?_ ?_
             rotate_left
             ·intro w'
              go_simp
              with_reducible rfl
             rotate_left
             ·simp only [Act.put,List.setIfInBounds_toArray,List.set_cons_zero,List.set_cons_succ,i64_w,i32_w]
              rfl
             refine pure_ (i:=6) (N:=some 64) (v:=?_) (a':=?_) #[true,false,true,true,false,false,true,false,false,false,false,false,false,false,false] rfl rfl (any_of HT_.out (by kernel_rfl)) (fun _ _ _ h=>h) (Or.inl ⟨by rfl,?_⟩) ?_ ?_
             rotate_left
             ·intro w'
              go_simp
              with_reducible rfl
             rotate_left
             ·simp only [Act.put,List.setIfInBounds_toArray,List.set_cons_zero,List.set_cons_succ,i64_w,i32_w]
              rfl
             refine pure_ (i:=8) (N:=some 66) (v:=?_) (a':=?_) #[true,false,true,true,false,false,true,false,true,false,false,false,false,false,false] rfl rfl (any_of HT_.out (by kernel_rfl)) (fun _ _ _ h=>h) (Or.inl ⟨by rfl,?_⟩) ?_ ?_
             rotate_left
             ·intro w'
              go_simp
              with_reducible rfl
             rotate_left
             ·simp only [Act.put,List.setIfInBounds_toArray,List.set_cons_zero,List.set_cons_succ,i64_w,i32_w]
              rfl
             refine pure_ (i:=9) (N:=some 67) (v:=?_) (a':=?_) #[true,false,true,true,false,false,true,false,true,true,false,false,false,false,false] rfl rfl (any_of HT_.out (by kernel_rfl)) (fun _ _ _ h=>h) (Or.inl ⟨by rfl,?_⟩) ?_ ?_
             rotate_left
             ·intro w'
              go_simp
              with_reducible rfl
             rotate_left
             ·simp only [Act.put,List.setIfInBounds_toArray,List.set_cons_zero,List.set_cons_succ,i64_w,i32_w]
              rfl
             refine take_ (i:=1) (N:=some 59) (v:=?_) (a':=?_) #[true,true,true,true,false,false,true,false,true,true,false,false,false,false,false] rfl rfl (take_ofW HT_.out HW_.out (by kernel_rfl)) (fun _ _ _ h=>h) (Or.inl ⟨by rfl,?_⟩) hHeld ?_ ?_
             rotate_left
             ·rintro w' ⟨s0,s1,s2,s3⟩
              go_simp
              with_reducible rfl
             rotate_left
             ·simp only [Act.put,List.setIfInBounds_toArray,List.set_cons_zero,List.set_cons_succ,i64_w,i32_w]
              rfl
             refine pure_ (i:=4) (N:=some 62) (v:=?_) (a':=?_) #[true,true,true,true,true,false,true,false,true,true,false,false,false,false,false] rfl rfl (any_of HT_.out (by kernel_rfl)) (fun _ _ _ h=>h) (Or.inl ⟨by rfl,?_⟩) ?_ ?_
             rotate_left
             ·intro w'
              go_simp
              with_reducible rfl
             rotate_left
             ·simp only [Act.put,List.setIfInBounds_toArray,List.set_cons_zero,List.set_cons_succ,i64_w,i32_w]
              rfl
             refine take_ (i:=7) (N:=some 65) (v:=?_) (a':=?_) #[true,true,true,true,true,false,true,true,true,true,false,false,false,false,false] rfl rfl (take_ofW HT_.out HW_.out (by kernel_rfl)) (fun _ _ _ h=>h) (Or.inl ⟨by rfl,?_⟩) hHeld ?_ ?_
             rotate_left
             ·rintro w' ⟨s0,s1,s2,s3⟩
              go_simp
              with_reducible rfl
             rotate_left
             ·simp only [Act.put,List.setIfInBounds_toArray,List.set_cons_zero,List.set_cons_succ,i64_w,i32_w]
              rfl
             refine pure_ (i:=10) (N:=some 68) (v:=?_) (a':=?_) #[true,true,true,true,true,false,true,true,true,true,true,false,false,false,false] rfl rfl (any_of HT_.out (by kernel_rfl)) (fun _ _ _ h=>h) (Or.inl ⟨by rfl,?_⟩) ?_ ?_
             rotate_left
             ·intro w'
              go_simp
              with_reducible rfl
             rotate_left
             ·simp only [Act.put,List.setIfInBounds_toArray,List.set_cons_zero,List.set_cons_succ,i64_w,i32_w]
              rfl
             refine join_ (σ:=Value × Value × Nat) 1 #[true,true,true,true,true,true,true,true,true,true,true,true,true,true,false] (fun s_=>[(63,s_.1),(69,s_.2.1),(7,.pointer (some ⟨s_.2.2,0,none⟩)),(70,.agg #[.bool false,.slice none 0 0,s_.1,s_.2.1])]) (fun s_ w'=>(w'.cell? ⟨gb267,0,none⟩=some (.bool a0_0)∧w'.cell? ⟨gb267,1,none⟩=some (.slice A0_1 l0_1.length c0_1)∧w'.cell? ⟨gb267,2,none⟩=some (.slice A0_2 l0_2.length c0_2)∧w'.cell? ⟨gb267,3,none⟩=some (.slice A0_3 l0_3.length c0_3))∧(Kd.V Kd.string 9 w' w.heap.size (fun k_=>((P0_1_ k_ ∨ P0_2_ k_ ∨ P0_3_ k_) ∨ w.heap.size≤k_)∧some k_ ≠ (.slice Ao68 t297.length co68:Value).ownBlock∧some k_ ≠ (.slice Ao67 t305.length co67:Value).ownBlock∧some k_ ≠ (s_.1:Value).ownBlock∧some k_ ≠ (s_.2.1:Value).ownBlock∧k_ ≠ gb267∧k_ ≠ gb268∧k_ ≠ gb269∧k_ ≠ gb308∧k_ ≠ s_.2.2) (.slice A0_2 y292.length c0_2) y292)∧(Kd.R Kd.string 9 w' w.heap.size (fun k_=>(w.heap.size≤k_)∧some k_ ≠ (s_.1:Value).ownBlock) (.slice Ao68 t297.length co68) t297)∧(Kd.V (Kd.int .i64) 3 w' w.heap.size (fun k_=>((P0_1_ k_ ∨ P0_2_ k_ ∨ P0_3_ k_) ∨ w.heap.size≤k_)∧some k_ ≠ (.slice Ao68 t297.length co68:Value).ownBlock∧some k_ ≠ (.slice Ao67 t305.length co67:Value).ownBlock∧some k_ ≠ (s_.1:Value).ownBlock∧some k_ ≠ (s_.2.1:Value).ownBlock∧k_ ≠ gb267∧k_ ≠ gb268∧k_ ≠ gb269∧k_ ≠ gb308∧k_ ≠ s_.2.2) (.slice A0_3 y300.length c0_3) y300)∧(Kd.R (Kd.int .i64) 3 w' w.heap.size (fun k_=>(w.heap.size≤k_)∧some k_ ≠ (s_.2.1:Value).ownBlock) (.slice Ao67 t305.length co67) t305)∧(Kd.V Kd.string 9 w' w.heap.size (fun k_=>((P0_1_ k_ ∨ P0_2_ k_ ∨ P0_3_ k_) ∨ w.heap.size≤k_)∧some k_ ≠ (.slice Ao68 t297.length co68:Value).ownBlock∧some k_ ≠ (.slice Ao67 t305.length co67:Value).ownBlock∧some k_ ≠ (s_.1:Value).ownBlock∧some k_ ≠ (s_.2.1:Value).ownBlock∧k_ ≠ gb267∧k_ ≠ gb268∧k_ ≠ gb269∧k_ ≠ gb308∧k_ ≠ s_.2.2) (.slice A75 y309.length c75) y309)∧(Kd.R Kd.string 9 w' w.heap.size (fun k_=>(w.heap.size≤k_)∧some k_ ≠ (.slice Ao68 t297.length co68:Value).ownBlock) s_.1 t314)∧(Kd.V (Kd.int .i64) 3 w' w.heap.size (fun k_=>((P0_1_ k_ ∨ P0_2_ k_ ∨ P0_3_ k_) ∨ w.heap.size≤k_)∧some k_ ≠ (.slice Ao68 t297.length co68:Value).ownBlock∧some k_ ≠ (.slice Ao67 t305.length co67:Value).ownBlock∧some k_ ≠ (s_.1:Value).ownBlock∧some k_ ≠ (s_.2.1:Value).ownBlock∧k_ ≠ gb267∧k_ ≠ gb268∧k_ ≠ gb269∧k_ ≠ gb308∧k_ ≠ s_.2.2) (.slice A76 y317.length c76) y317)∧(Kd.R (Kd.int .i64) 3 w' w.heap.size (fun k_=>(w.heap.size≤k_)∧some k_ ≠ (.slice Ao67 t305.length co67:Value).ownBlock) s_.2.1 t322)∧(Kd.V k43 43 w' w.heap.size (fun k_=>((P0_1_ k_ ∨ P0_2_ k_ ∨ P0_3_ k_) ∨ w.heap.size≤k_)∧some k_ ≠ (.slice Ao68 t297.length co68:Value).ownBlock∧some k_ ≠ (.slice Ao67 t305.length co67:Value).ownBlock∧some k_ ≠ (s_.1:Value).ownBlock∧some k_ ≠ (s_.2.1:Value).ownBlock∧k_ ≠ gb267∧k_ ≠ gb268∧k_ ≠ gb269∧k_ ≠ gb308∧k_ ≠ s_.2.2) (.slice A0_1 l0_1.length c0_1) l0_1)∧(Kd.V Kd.string 9 w' w.heap.size (fun k_=>((P0_1_ k_ ∨ P0_2_ k_ ∨ P0_3_ k_) ∨ w.heap.size≤k_)∧some k_ ≠ (.slice Ao68 t297.length co68:Value).ownBlock∧some k_ ≠ (.slice Ao67 t305.length co67:Value).ownBlock∧some k_ ≠ (s_.1:Value).ownBlock∧some k_ ≠ (s_.2.1:Value).ownBlock∧k_ ≠ gb267∧k_ ≠ gb268∧k_ ≠ gb269∧k_ ≠ gb308∧k_ ≠ s_.2.2) (.slice A0_2 l0_2.length c0_2) l0_2)∧(Kd.V (Kd.int .i64) 3 w' w.heap.size (fun k_=>((P0_1_ k_ ∨ P0_2_ k_ ∨ P0_3_ k_) ∨ w.heap.size≤k_)∧some k_ ≠ (.slice Ao68 t297.length co68:Value).ownBlock∧some k_ ≠ (.slice Ao67 t305.length co67:Value).ownBlock∧some k_ ≠ (s_.1:Value).ownBlock∧some k_ ≠ (s_.2.1:Value).ownBlock∧k_ ≠ gb267∧k_ ≠ gb268∧k_ ≠ gb269∧k_ ≠ gb308∧k_ ≠ s_.2.2) (.slice A0_3 l0_3.length c0_3) l0_3)∧(w'.heap[gb267]?=some (.cells #[.bool a0_0,.slice A0_1 l0_1.length c0_1,.slice A0_2 l0_2.length c0_2,.slice A0_3 l0_3.length c0_3] 26 (0,0)))∧(w'.heap[gb268]?=some (.cells #[.bool false,.slice none 0 0,.slice none 0 0,.slice none 0 0] 26 (0,0)))∧(w'.heap[gb269]?=some (.cells #[.bool false,.slice none 0 0,.slice none 0 0,.slice none 0 0] 26 (0,0)))∧(w'.heap[gb308]?=some (.cells #[.bool false,.slice none 0 0,.slice Ao68 t297.length co68,.slice Ao67 t305.length co67] 26 (0,0)))∧(w'.heap[s_.2.2]?=some (.cells #[.bool false,.slice none 0 0,.slice none 0 0,.slice none 0 0] 26 (0,0)))∧(w.heap.size≤s_.2.2)∧(w.heap.size≤s_.2.2)∧(gb267 ≠ s_.2.2)∧(s_.2.2 ≠ gb267)∧(gb268 ≠ s_.2.2)∧(s_.2.2 ≠ gb268)∧(gb269 ≠ s_.2.2)∧(s_.2.2 ≠ gb269)∧(gb308 ≠ s_.2.2)∧(s_.2.2 ≠ gb308)∧(Below w.heap.size w w')) ?_ ?_
             rotate_left
             ·intro hCont
              refine two_ (i:=5) (j:=13) (Ni:=some 63) (Nj:=some 7) #[true,true,true,true,true,true,true,true,true,true,true,false,false,false,false] #[true,true,true,true,true,false,true,true,true,true,true,false,false,true,false] rfl rfl rfl rfl (two_of HT_.out (by kernel_rfl)) (by decide) (by decide) (fun K hK=>?_) (fun K hK=>?_)
              ·skip
               refine goes_ Try.func34 (by kernel_rfl) rfl #[.slice A75 y309.length c75] (by rfl) rfl rfl (by (try simp only [List.map_toArray,List.map_cons,List.map_nil]);first|done|rfl|(simp only [List.length_drop,List.length_take];rfl)|(simp (disch:=omega) only [u64_in];rfl)) ?_
               with_reducible refine (slices_Clone_string_string.calls _ _ y309 t314 _ ?side1 ?side2 A50.out).mono ?_
               (case side1=>repeat (first|exact (Kd.V_reads' HO313.out).2.2|(with_reducible refine Kd.C_alloc ?_ _)|(with_reducible refine Kd.C_drewN ?_ _)|(with_reducible refine Kd.C_drew ?_)))
               (case side2=>exact (Kd.V_reads' HO313.out).2.1)
               rintro e w77 ⟨v315,rfl,ho0,hb⟩
               refine ⟨_,rfl,?_⟩
               replace HO_268001:=Aside0.mk (Kd.V_elder' (by (with_reducible repeat (first|apply Kd.V_alloc|apply Kd.V_drewN|apply Kd.V_drew));exact HO_268001.out) (Kd.R_base ho0) hb)
               replace HO_268002:=Aside0.mk (Kd.V_elder' (by (with_reducible repeat (first|apply Kd.V_alloc|apply Kd.V_drewN|apply Kd.V_drew));exact HO_268002.out) (Kd.R_base ho0) hb)
               replace HO_268003:=Aside0.mk (Kd.V_elder' (by (with_reducible repeat (first|apply Kd.V_alloc|apply Kd.V_drewN|apply Kd.V_drew));exact HO_268003.out) (Kd.R_base ho0) hb)
               replace HO296:=Aside0.mk (Kd.V_elder' (by (with_reducible repeat (first|apply Kd.V_alloc|apply Kd.V_drewN|apply Kd.V_drew));exact HO296.out) (Kd.R_base ho0) hb)
               replace HO304:=Aside0.mk (Kd.V_elder' (by (with_reducible repeat (first|apply Kd.V_alloc|apply Kd.V_drewN|apply Kd.V_drew));exact HO304.out) (Kd.R_base ho0) hb)
               replace HO307:=Aside0.mk (Kd.R_below (by (with_reducible repeat (first|apply zk1|apply zk2|apply zk3));exact HO307.out) hb)
               replace HO313:=Aside0.mk (Kd.V_elder' (by (with_reducible repeat (first|apply Kd.V_alloc|apply Kd.V_drewN|apply Kd.V_drew));exact HO313.out) (Kd.R_base ho0) hb)
               replace HO321:=Aside0.mk (Kd.V_elder' (by (with_reducible repeat (first|apply Kd.V_alloc|apply Kd.V_drewN|apply Kd.V_drew));exact HO321.out) (Kd.R_base ho0) hb)
               have HO316:=Aside0.mk (Kd.R_lower (Kd.R_new' (Kd.R_newM (M:=fun k_=>(w.heap.size≤k_)) ho0 (below_size (by repeat (first|(with_reducible first|exact HB.out|apply zl1|apply zl2|apply zl3|refine below_set ?_ GE267.out|refine below_set ?_ GE268.out|refine below_set ?_ GE269.out|refine below_set ?_ GE308.out)|exact HB.out))) (fun k_ h_=>h_)) (Kd.R_lt (by (with_reducible repeat (first|apply zk1|apply zk2|apply zk3));exact HO299.out))) (below_size (by repeat (first|(with_reducible first|exact HB.out|apply zl1|apply zl2|apply zl3|refine below_set ?_ GE267.out|refine below_set ?_ GE268.out|refine below_set ?_ GE269.out|refine below_set ?_ GE308.out)|exact HB.out))))
               replace HO299:=Aside0.mk (Kd.R_elder' (by (with_reducible repeat (first|apply zk1|apply zk2|apply zk3));exact HO299.out) (Kd.R_base ho0) hb)
               replace BK267:=Aside0.mk (blk_below (g:=gb267) (o:=.cells #[.bool a0_0,.slice A0_1 l0_1.length c0_1,.slice A0_2 l0_2.length c0_2,.slice A0_3 l0_3.length c0_3] 26 (0,0)) (by (with_reducible repeat (first|apply zb1|apply zb2|apply zb3));exact BK267.out) hb)
               replace BK268:=Aside0.mk (blk_below (g:=gb268) (o:=.cells #[.bool false,.slice none 0 0,.slice none 0 0,.slice none 0 0] 26 (0,0)) (by (with_reducible repeat (first|apply zb1|apply zb2|apply zb3));exact BK268.out) hb)
               replace BK269:=Aside0.mk (blk_below (g:=gb269) (o:=.cells #[.bool false,.slice none 0 0,.slice none 0 0,.slice none 0 0] 26 (0,0)) (by (with_reducible repeat (first|apply zb1|apply zb2|apply zb3));exact BK269.out) hb)
               replace BK308:=Aside0.mk (blk_below (g:=gb308) (o:=.cells #[.bool false,.slice none 0 0,.slice Ao68 t297.length co68,.slice Ao67 t305.length co67] 26 (0,0)) (by (with_reducible repeat (first|apply zb1|apply zb2|apply zb3));exact BK308.out) hb)
               replace HB:=Aside0.mk (below_step (by repeat (first|(with_reducible first|exact HB.out|apply zl1|apply zl2|apply zl3|refine below_set ?_ GE267.out|refine below_set ?_ GE268.out|refine below_set ?_ GE269.out|refine below_set ?_ GE308.out)|exact HB.out)) hb)
               (try clear hb)
               (try clear hb2)
               (try clear hk)
               (try clear hi)
               (try clear ho0)
               refine hK.out _ _ ⟨(blk_cell BK267.out 0).trans rfl,(blk_cell BK267.out 1).trans rfl,(blk_cell BK267.out 2).trans rfl,(blk_cell BK267.out 3).trans rfl⟩ (fun hHeld=>?_)
               clear hK K
               refine norm_ (a':=?_) ?_ ?_
               rotate_left
               ·show Act.put _ (some 63) _=_
                simp only [Act.put,List.setIfInBounds_toArray,List.set_cons_zero,List.set_cons_succ,i64_w,i32_w]
                rfl
               refine two_ (i:=11) (j:=13) (Ni:=some 69) (Nj:=some 7) #[true,true,true,true,true,true,true,true,true,true,true,true,false,false,false] #[true,true,true,true,true,true,true,true,true,true,true,false,false,true,false] rfl rfl rfl rfl (two_of HT_.out (by kernel_rfl)) (by decide) (by decide) (fun K hK=>?_) (fun K hK=>?_)
               ·skip
                refine goes_ Try.func35 (by kernel_rfl) rfl #[.slice A76 y317.length c76] (by rfl) rfl rfl (by (try simp only [List.map_toArray,List.map_cons,List.map_nil]);first|done|rfl|(simp only [List.length_drop,List.length_take];rfl)|(simp (disch:=omega) only [u64_in];rfl)) ?_
                with_reducible refine (slices_Clone_int_int.calls _ _ y317 t322 _ ?side1 ?side2 A53.out).mono ?_
                (case side1=>repeat (first|exact (Kd.V_reads' HO321.out).2.2|(with_reducible refine Kd.C_alloc ?_ _)|(with_reducible refine Kd.C_drewN ?_ _)|(with_reducible refine Kd.C_drew ?_)))
                (case side2=>exact (Kd.V_reads' HO321.out).2.1)
                rintro e w78 ⟨v323,rfl,ho0,hb⟩
                refine ⟨_,rfl,?_⟩
                replace HO_268001:=Aside0.mk (Kd.V_elder' (by (with_reducible repeat (first|apply Kd.V_alloc|apply Kd.V_drewN|apply Kd.V_drew));exact HO_268001.out) (Kd.R_base ho0) hb)
                replace HO_268002:=Aside0.mk (Kd.V_elder' (by (with_reducible repeat (first|apply Kd.V_alloc|apply Kd.V_drewN|apply Kd.V_drew));exact HO_268002.out) (Kd.R_base ho0) hb)
                replace HO_268003:=Aside0.mk (Kd.V_elder' (by (with_reducible repeat (first|apply Kd.V_alloc|apply Kd.V_drewN|apply Kd.V_drew));exact HO_268003.out) (Kd.R_base ho0) hb)
                replace HO296:=Aside0.mk (Kd.V_elder' (by (with_reducible repeat (first|apply Kd.V_alloc|apply Kd.V_drewN|apply Kd.V_drew));exact HO296.out) (Kd.R_base ho0) hb)
                replace HO304:=Aside0.mk (Kd.V_elder' (by (with_reducible repeat (first|apply Kd.V_alloc|apply Kd.V_drewN|apply Kd.V_drew));exact HO304.out) (Kd.R_base ho0) hb)
                replace HO299:=Aside0.mk (Kd.R_below (by (with_reducible repeat (first|apply zk1|apply zk2|apply zk3));exact HO299.out) hb)
                replace HO313:=Aside0.mk (Kd.V_elder' (by (with_reducible repeat (first|apply Kd.V_alloc|apply Kd.V_drewN|apply Kd.V_drew));exact HO313.out) (Kd.R_base ho0) hb)
                replace HO321:=Aside0.mk (Kd.V_elder' (by (with_reducible repeat (first|apply Kd.V_alloc|apply Kd.V_drewN|apply Kd.V_drew));exact HO321.out) (Kd.R_base ho0) hb)
                replace HO316:=Aside0.mk (Kd.R_below (by (with_reducible repeat (first|apply zk1|apply zk2|apply zk3));exact HO316.out) hb)
                have HO324:=Aside0.mk (Kd.R_lower (Kd.R_new' (Kd.R_newM (M:=fun k_=>(w.heap.size≤k_)) ho0 (below_size (by repeat (first|(with_reducible first|exact HB.out|apply zl1|apply zl2|apply zl3|refine below_set ?_ GE267.out|refine below_set ?_ GE268.out|refine below_set ?_ GE269.out|refine below_set ?_ GE308.out)|exact HB.out))) (fun k_ h_=>h_)) (Kd.R_lt (by (with_reducible repeat (first|apply zk1|apply zk2|apply zk3));exact HO307.out))) (below_size (by repeat (first|(with_reducible first|exact HB.out|apply zl1|apply zl2|apply zl3|refine below_set ?_ GE267.out|refine below_set ?_ GE268.out|refine below_set ?_ GE269.out|refine below_set ?_ GE308.out)|exact HB.out))))
                replace HO307:=Aside0.mk (Kd.R_elder' (by (with_reducible repeat (first|apply zk1|apply zk2|apply zk3));exact HO307.out) (Kd.R_base ho0) hb)
                replace BK267:=Aside0.mk (blk_below (g:=gb267) (o:=.cells #[.bool a0_0,.slice A0_1 l0_1.length c0_1,.slice A0_2 l0_2.length c0_2,.slice A0_3 l0_3.length c0_3] 26 (0,0)) (by (with_reducible repeat (first|apply zb1|apply zb2|apply zb3));exact BK267.out) hb)
                replace BK268:=Aside0.mk (blk_below (g:=gb268) (o:=.cells #[.bool false,.slice none 0 0,.slice none 0 0,.slice none 0 0] 26 (0,0)) (by (with_reducible repeat (first|apply zb1|apply zb2|apply zb3));exact BK268.out) hb)
                replace BK269:=Aside0.mk (blk_below (g:=gb269) (o:=.cells #[.bool false,.slice none 0 0,.slice none 0 0,.slice none 0 0] 26 (0,0)) (by (with_reducible repeat (first|apply zb1|apply zb2|apply zb3));exact BK269.out) hb)
                replace BK308:=Aside0.mk (blk_below (g:=gb308) (o:=.cells #[.bool false,.slice none 0 0,.slice Ao68 t297.length co68,.slice Ao67 t305.length co67] 26 (0,0)) (by (with_reducible repeat (first|apply zb1|apply zb2|apply zb3));exact BK308.out) hb)
                replace HB:=Aside0.mk (below_step (by repeat (first|(with_reducible first|exact HB.out|apply zl1|apply zl2|apply zl3|refine below_set ?_ GE267.out|refine below_set ?_ GE268.out|refine below_set ?_ GE269.out|refine below_set ?_ GE308.out)|exact HB.out)) hb)
                (try clear hb)
                (try clear hb2)
                (try clear hk)
                (try clear hi)
                (try clear ho0)
                obtain ⟨Ao79,co79,eo79⟩:=Kd.R_slice HO324.out
                (first|subst eo79|(injection eo79 with f1_ f2_ f3_;have f4_:=f1_.symm;have f5_:=f3_.symm;clear f1_ f2_ f3_;subst f4_;subst f5_))
                obtain ⟨Ao80,co80,eo80⟩:=Kd.R_slice HO316.out
                (first|subst eo80|(injection eo80 with f1_ f2_ f3_;have f4_:=f1_.symm;have f5_:=f3_.symm;clear f1_ f2_ f3_;subst f4_;subst f5_))
                refine hK.out _ _ ⟨(blk_cell BK267.out 0).trans rfl,(blk_cell BK267.out 1).trans rfl,(blk_cell BK267.out 2).trans rfl,(blk_cell BK267.out 3).trans rfl⟩ (fun hHeld=>?_)
                clear hK K
                refine norm_ (a':=?_) ?_ ?_
                rotate_left
                ·show Act.put _ (some 69) _=_
                 simp only [Act.put,List.setIfInBounds_toArray,List.set_cons_zero,List.set_cons_succ,i64_w,i32_w]
                 rfl
                refine pure_ (i:=12) (N:=some 70) (v:=?_) (a':=?_) #[true,true,true,true,true,true,true,true,true,true,true,true,true,false,false] rfl rfl (any_of HT_.out (by kernel_rfl)) (fun _ _ _ h=>h) (Or.inl ⟨by rfl,?_⟩) ?_ ?_
                rotate_left
                ·intro w'
                 go_simp
                 with_reducible rfl
                rotate_left
                ·simp only [Act.put,List.setIfInBounds_toArray,List.set_cons_zero,List.set_cons_succ,i64_w,i32_w]
                 rfl
                refine one_ (i:=13) (N:=some 7) #[true,true,true,true,true,true,true,true,true,true,true,true,true,true,false] rfl rfl (one_of HT_.out (by kernel_rfl)) (by decide) (fun K hK=>?_)
                refine box_step ?hg (N:=7) ?hd (cs:=#[.bool false,.slice none 0 0,.slice none 0 0,.slice none 0 0]) (t:=26) ?hr ?_;(case hd=>rfl);(case hg=>rfl);(case hr=>first|(go_simp;done)|(go_simp;rfl))
                intro gb325 hg w81 hbox hb
                replace HO_268001:=Aside0.mk (Kd.V_below (Kd.V_elderB (by (with_reducible repeat (first|apply Kd.V_alloc|apply Kd.V_drewN|apply Kd.V_drew));exact HO_268001.out) gb325 (Nat.le_of_eq hg.symm)) hb)
                replace HO_268002:=Aside0.mk (Kd.V_below (Kd.V_elderB (by (with_reducible repeat (first|apply Kd.V_alloc|apply Kd.V_drewN|apply Kd.V_drew));exact HO_268002.out) gb325 (Nat.le_of_eq hg.symm)) hb)
                replace HO_268003:=Aside0.mk (Kd.V_below (Kd.V_elderB (by (with_reducible repeat (first|apply Kd.V_alloc|apply Kd.V_drewN|apply Kd.V_drew));exact HO_268003.out) gb325 (Nat.le_of_eq hg.symm)) hb)
                replace HO296:=Aside0.mk (Kd.V_below (Kd.V_elderB (by (with_reducible repeat (first|apply Kd.V_alloc|apply Kd.V_drewN|apply Kd.V_drew));exact HO296.out) gb325 (Nat.le_of_eq hg.symm)) hb)
                replace HO304:=Aside0.mk (Kd.V_below (Kd.V_elderB (by (with_reducible repeat (first|apply Kd.V_alloc|apply Kd.V_drewN|apply Kd.V_drew));exact HO304.out) gb325 (Nat.le_of_eq hg.symm)) hb)
                replace HO299:=Aside0.mk (Kd.R_below (by (with_reducible repeat (first|apply zk1|apply zk2|apply zk3));exact HO299.out) hb)
                replace HO307:=Aside0.mk (Kd.R_below (by (with_reducible repeat (first|apply zk1|apply zk2|apply zk3));exact HO307.out) hb)
                replace HO313:=Aside0.mk (Kd.V_below (Kd.V_elderB (by (with_reducible repeat (first|apply Kd.V_alloc|apply Kd.V_drewN|apply Kd.V_drew));exact HO313.out) gb325 (Nat.le_of_eq hg.symm)) hb)
                replace HO321:=Aside0.mk (Kd.V_below (Kd.V_elderB (by (with_reducible repeat (first|apply Kd.V_alloc|apply Kd.V_drewN|apply Kd.V_drew));exact HO321.out) gb325 (Nat.le_of_eq hg.symm)) hb)
                replace HO316:=Aside0.mk (Kd.R_below (by (with_reducible repeat (first|apply zk1|apply zk2|apply zk3));exact HO316.out) hb)
                replace HO324:=Aside0.mk (Kd.R_below (by (with_reducible repeat (first|apply zk1|apply zk2|apply zk3));exact HO324.out) hb)
                have BK325:=Aside0.mk (hbox)
                have GW325:=Aside0.mk ((by rw [hg];exact (below_size (by repeat (first|(with_reducible first|exact HB.out|apply zl1|apply zl2|apply zl3|refine below_set ?_ GE267.out|refine below_set ?_ GE268.out|refine below_set ?_ GE269.out|refine below_set ?_ GE308.out)|exact HB.out))):w.heap.size≤gb325))
                have GE325:=Aside0.mk ((by rw [hg];exact (below_size (by repeat (first|(with_reducible first|exact HB.out|apply zl1|apply zl2|apply zl3|refine below_set ?_ GE267.out|refine below_set ?_ GE268.out|refine below_set ?_ GE269.out|refine below_set ?_ GE308.out)|exact HB.out))):w.heap.size≤gb325))
                replace HB:=Aside0.mk (below_step (by repeat (first|(with_reducible first|exact HB.out|apply zl1|apply zl2|apply zl3|refine below_set ?_ GE267.out|refine below_set ?_ GE268.out|refine below_set ?_ GE269.out|refine below_set ?_ GE308.out)|exact HB.out)) hb)
                have NB267_325:=Aside0.mk ((by rw [hg];exact Nat.ne_of_lt (blk_lt (g:=gb267) (o:=.cells #[.bool a0_0,.slice A0_1 l0_1.length c0_1,.slice A0_2 l0_2.length c0_2,.slice A0_3 l0_3.length c0_3] 26 (0,0)) (by (with_reducible repeat (first|apply zb1|apply zb2|apply zb3));exact BK267.out)):gb267 ≠ gb325))
                have NB325_267:=Aside0.mk ((by rw [hg];exact Nat.ne_of_gt (blk_lt (g:=gb267) (o:=.cells #[.bool a0_0,.slice A0_1 l0_1.length c0_1,.slice A0_2 l0_2.length c0_2,.slice A0_3 l0_3.length c0_3] 26 (0,0)) (by (with_reducible repeat (first|apply zb1|apply zb2|apply zb3));exact BK267.out)):gb325 ≠ gb267))
                replace BK267:=Aside0.mk (blk_below (g:=gb267) (o:=.cells #[.bool a0_0,.slice A0_1 l0_1.length c0_1,.slice A0_2 l0_2.length c0_2,.slice A0_3 l0_3.length c0_3] 26 (0,0)) (by (with_reducible repeat (first|apply zb1|apply zb2|apply zb3));exact BK267.out) hb)
                have NB268_325:=Aside0.mk ((by rw [hg];exact Nat.ne_of_lt (blk_lt (g:=gb268) (o:=.cells #[.bool false,.slice none 0 0,.slice none 0 0,.slice none 0 0] 26 (0,0)) (by (with_reducible repeat (first|apply zb1|apply zb2|apply zb3));exact BK268.out)):gb268 ≠ gb325))
                have NB325_268:=Aside0.mk ((by rw [hg];exact Nat.ne_of_gt (blk_lt (g:=gb268) (o:=.cells #[.bool false,.slice none 0 0,.slice none 0 0,.slice none 0 0] 26 (0,0)) (by (with_reducible repeat (first|apply zb1|apply zb2|apply zb3));exact BK268.out)):gb325 ≠ gb268))
                replace BK268:=Aside0.mk (blk_below (g:=gb268) (o:=.cells #[.bool false,.slice none 0 0,.slice none 0 0,.slice none 0 0] 26 (0,0)) (by (with_reducible repeat (first|apply zb1|apply zb2|apply zb3));exact BK268.out) hb)
                have NB269_325:=Aside0.mk ((by rw [hg];exact Nat.ne_of_lt (blk_lt (g:=gb269) (o:=.cells #[.bool false,.slice none 0 0,.slice none 0 0,.slice none 0 0] 26 (0,0)) (by (with_reducible repeat (first|apply zb1|apply zb2|apply zb3));exact BK269.out)):gb269 ≠ gb325))
                have NB325_269:=Aside0.mk ((by rw [hg];exact Nat.ne_of_gt (blk_lt (g:=gb269) (o:=.cells #[.bool false,.slice none 0 0,.slice none 0 0,.slice none 0 0] 26 (0,0)) (by (with_reducible repeat (first|apply zb1|apply zb2|apply zb3));exact BK269.out)):gb325 ≠ gb269))
                replace BK269:=Aside0.mk (blk_below (g:=gb269) (o:=.cells #[.bool false,.slice none 0 0,.slice none 0 0,.slice none 0 0] 26 (0,0)) (by (with_reducible repeat (first|apply zb1|apply zb2|apply zb3));exact BK269.out) hb)
                have NB308_325:=Aside0.mk ((by rw [hg];exact Nat.ne_of_lt (blk_lt (g:=gb308) (o:=.cells #[.bool false,.slice none 0 0,.slice Ao68 t297.length co68,.slice Ao67 t305.length co67] 26 (0,0)) (by (with_reducible repeat (first|apply zb1|apply zb2|apply zb3));exact BK308.out)):gb308 ≠ gb325))
                have NB325_308:=Aside0.mk ((by rw [hg];exact Nat.ne_of_gt (blk_lt (g:=gb308) (o:=.cells #[.bool false,.slice none 0 0,.slice Ao68 t297.length co68,.slice Ao67 t305.length co67] 26 (0,0)) (by (with_reducible repeat (first|apply zb1|apply zb2|apply zb3));exact BK308.out)):gb325 ≠ gb308))
                replace BK308:=Aside0.mk (blk_below (g:=gb308) (o:=.cells #[.bool false,.slice none 0 0,.slice Ao68 t297.length co68,.slice Ao67 t305.length co67] 26 (0,0)) (by (with_reducible repeat (first|apply zb1|apply zb2|apply zb3));exact BK308.out) hb)
                clear hb hbox hg
                refine hK.out _ _ ⟨(blk_cell BK267.out 0).trans rfl,(blk_cell BK267.out 1).trans rfl,(blk_cell BK267.out 2).trans rfl,(blk_cell BK267.out 3).trans rfl⟩ (fun hHeld=>?_)
                clear hK K
                refine norm_ (a':=?_) ?_ ?_
                rotate_left
                ·show Act.put _ (some 7) _=_
                 simp only [Act.put,List.setIfInBounds_toArray,List.set_cons_zero,List.set_cons_succ,i64_w,i32_w]
                 rfl
                exact norm_ (by simp only [putAll,Act.put,List.setIfInBounds_toArray,List.set_cons_zero,List.set_cons_succ]) (hCont (.slice Ao80 t314.length co80,.slice Ao79 t322.length co79,gb325) _ ⟨hHeld,(by (with_reducible repeat (first|apply Kd.V_alloc|apply Kd.V_drewN|apply Kd.V_drew));exact Kd.V_mono HO296.out (fun _ hk=>⟨hk.1.1.1.1,⟨hk.1.1.1.2.1,⟨hk.1.1.1.2.2.1,⟨hk.1.1.2,⟨hk.1.2,⟨hk.1.1.1.2.2.2.1,⟨hk.1.1.1.2.2.2.2.1,⟨hk.1.1.1.2.2.2.2.2.1,⟨hk.1.1.1.2.2.2.2.2.2,hk.2⟩⟩⟩⟩⟩⟩⟩⟩⟩)),(by (with_reducible repeat (first|apply zk1|apply zk2|apply zk3));exact HO299.out),(by (with_reducible repeat (first|apply Kd.V_alloc|apply Kd.V_drewN|apply Kd.V_drew));exact Kd.V_mono HO304.out (fun _ hk=>⟨hk.1.1.1.1,⟨hk.1.1.1.2.1,⟨hk.1.1.1.2.2.1,⟨hk.1.1.2,⟨hk.1.2,⟨hk.1.1.1.2.2.2.1,⟨hk.1.1.1.2.2.2.2.1,⟨hk.1.1.1.2.2.2.2.2.1,⟨hk.1.1.1.2.2.2.2.2.2,hk.2⟩⟩⟩⟩⟩⟩⟩⟩⟩)),(by (with_reducible repeat (first|apply zk1|apply zk2|apply zk3));exact HO307.out),(by (with_reducible repeat (first|apply Kd.V_alloc|apply Kd.V_drewN|apply Kd.V_drew));exact Kd.V_mono HO313.out (fun _ hk=>⟨hk.1.1.1.1,⟨hk.1.1.1.2.1,⟨hk.1.1.1.2.2.1,⟨hk.1.1.2,⟨hk.1.2,⟨hk.1.1.1.2.2.2.1,⟨hk.1.1.1.2.2.2.2.1,⟨hk.1.1.1.2.2.2.2.2.1,⟨hk.1.1.1.2.2.2.2.2.2,hk.2⟩⟩⟩⟩⟩⟩⟩⟩⟩)),(by (with_reducible repeat (first|apply zk1|apply zk2|apply zk3));exact Kd.R_mono HO316.out (fun _ hk=>⟨hk.1.1,hk.2⟩)),(by (with_reducible repeat (first|apply Kd.V_alloc|apply Kd.V_drewN|apply Kd.V_drew));exact Kd.V_mono HO321.out (fun _ hk=>⟨hk.1.1.1.1,⟨hk.1.1.1.2.1,⟨hk.1.1.1.2.2.1,⟨hk.1.1.2,⟨hk.1.2,⟨hk.1.1.1.2.2.2.1,⟨hk.1.1.1.2.2.2.2.1,⟨hk.1.1.1.2.2.2.2.2.1,⟨hk.1.1.1.2.2.2.2.2.2,hk.2⟩⟩⟩⟩⟩⟩⟩⟩⟩)),(by (with_reducible repeat (first|apply zk1|apply zk2|apply zk3));exact Kd.R_mono HO324.out (fun _ hk=>⟨hk.1.1,hk.2⟩)),(by (with_reducible repeat (first|apply Kd.V_alloc|apply Kd.V_drewN|apply Kd.V_drew));exact Kd.V_mono HO_268001.out (fun _ hk=>⟨hk.1.1.1.1,⟨hk.1.1.1.2.1,⟨hk.1.1.1.2.2.1,⟨hk.1.1.2,⟨hk.1.2,⟨hk.1.1.1.2.2.2.1,⟨hk.1.1.1.2.2.2.2.1,⟨hk.1.1.1.2.2.2.2.2.1,⟨hk.1.1.1.2.2.2.2.2.2,hk.2⟩⟩⟩⟩⟩⟩⟩⟩⟩)),(by (with_reducible repeat (first|apply Kd.V_alloc|apply Kd.V_drewN|apply Kd.V_drew));exact Kd.V_mono HO_268002.out (fun _ hk=>⟨hk.1.1.1.1,⟨hk.1.1.1.2.1,⟨hk.1.1.1.2.2.1,⟨hk.1.1.2,⟨hk.1.2,⟨hk.1.1.1.2.2.2.1,⟨hk.1.1.1.2.2.2.2.1,⟨hk.1.1.1.2.2.2.2.2.1,⟨hk.1.1.1.2.2.2.2.2.2,hk.2⟩⟩⟩⟩⟩⟩⟩⟩⟩)),(by (with_reducible repeat (first|apply Kd.V_alloc|apply Kd.V_drewN|apply Kd.V_drew));exact Kd.V_mono HO_268003.out (fun _ hk=>⟨hk.1.1.1.1,⟨hk.1.1.1.2.1,⟨hk.1.1.1.2.2.1,⟨hk.1.1.2,⟨hk.1.2,⟨hk.1.1.1.2.2.2.1,⟨hk.1.1.1.2.2.2.2.1,⟨hk.1.1.1.2.2.2.2.2.1,⟨hk.1.1.1.2.2.2.2.2.2,hk.2⟩⟩⟩⟩⟩⟩⟩⟩⟩)),(by (with_reducible repeat (first|apply zb1|apply zb2|apply zb3));exact BK267.out),(by (with_reducible repeat (first|apply zb1|apply zb2|apply zb3));exact BK268.out),(by (with_reducible repeat (first|apply zb1|apply zb2|apply zb3));exact BK269.out),(by (with_reducible repeat (first|apply zb1|apply zb2|apply zb3));exact BK308.out),(by (with_reducible repeat (first|apply zb1|apply zb2|apply zb3));exact BK325.out),GW325.out,GE325.out,NB267_325.out,NB325_267.out,NB268_325.out,NB325_268.out,NB269_325.out,NB325_269.out,NB308_325.out,NB325_308.out,(by repeat (first|(with_reducible first|exact HB.out|apply zl1|apply zl2|apply zl3|refine below_set ?_ GE267.out|refine below_set ?_ GE268.out|refine below_set ?_ GE269.out|refine below_set ?_ GE308.out|refine below_set ?_ GE325.out)|exact HB.out))⟩)
               ·skip
                refine box_step ?hg (N:=7) ?hd (cs:=#[.bool false,.slice none 0 0,.slice none 0 0,.slice none 0 0]) (t:=26) ?hr ?_;(case hd=>rfl);(case hg=>rfl);(case hr=>first|(go_simp;done)|(go_simp;rfl))
                intro gb325 hg w78 hbox hb
                replace HO_268001:=Aside0.mk (Kd.V_below (Kd.V_elderB (by (with_reducible repeat (first|apply Kd.V_alloc|apply Kd.V_drewN|apply Kd.V_drew));exact HO_268001.out) gb325 (Nat.le_of_eq hg.symm)) hb)
                replace HO_268002:=Aside0.mk (Kd.V_below (Kd.V_elderB (by (with_reducible repeat (first|apply Kd.V_alloc|apply Kd.V_drewN|apply Kd.V_drew));exact HO_268002.out) gb325 (Nat.le_of_eq hg.symm)) hb)
                replace HO_268003:=Aside0.mk (Kd.V_below (Kd.V_elderB (by (with_reducible repeat (first|apply Kd.V_alloc|apply Kd.V_drewN|apply Kd.V_drew));exact HO_268003.out) gb325 (Nat.le_of_eq hg.symm)) hb)
                replace HO296:=Aside0.mk (Kd.V_below (Kd.V_elderB (by (with_reducible repeat (first|apply Kd.V_alloc|apply Kd.V_drewN|apply Kd.V_drew));exact HO296.out) gb325 (Nat.le_of_eq hg.symm)) hb)
                replace HO304:=Aside0.mk (Kd.V_below (Kd.V_elderB (by (with_reducible repeat (first|apply Kd.V_alloc|apply Kd.V_drewN|apply Kd.V_drew));exact HO304.out) gb325 (Nat.le_of_eq hg.symm)) hb)
                replace HO299:=Aside0.mk (Kd.R_below (by (with_reducible repeat (first|apply zk1|apply zk2|apply zk3));exact HO299.out) hb)
                replace HO307:=Aside0.mk (Kd.R_below (by (with_reducible repeat (first|apply zk1|apply zk2|apply zk3));exact HO307.out) hb)
                replace HO313:=Aside0.mk (Kd.V_below (Kd.V_elderB (by (with_reducible repeat (first|apply Kd.V_alloc|apply Kd.V_drewN|apply Kd.V_drew));exact HO313.out) gb325 (Nat.le_of_eq hg.symm)) hb)
                replace HO321:=Aside0.mk (Kd.V_below (Kd.V_elderB (by (with_reducible repeat (first|apply Kd.V_alloc|apply Kd.V_drewN|apply Kd.V_drew));exact HO321.out) gb325 (Nat.le_of_eq hg.symm)) hb)
                replace HO316:=Aside0.mk (Kd.R_below (by (with_reducible repeat (first|apply zk1|apply zk2|apply zk3));exact HO316.out) hb)
                have BK325:=Aside0.mk (hbox)
                have GW325:=Aside0.mk ((by rw [hg];exact (below_size (by repeat (first|(with_reducible first|exact HB.out|apply zl1|apply zl2|apply zl3|refine below_set ?_ GE267.out|refine below_set ?_ GE268.out|refine below_set ?_ GE269.out|refine below_set ?_ GE308.out)|exact HB.out))):w.heap.size≤gb325))
                have GE325:=Aside0.mk ((by rw [hg];exact (below_size (by repeat (first|(with_reducible first|exact HB.out|apply zl1|apply zl2|apply zl3|refine below_set ?_ GE267.out|refine below_set ?_ GE268.out|refine below_set ?_ GE269.out|refine below_set ?_ GE308.out)|exact HB.out))):w.heap.size≤gb325))
                replace HB:=Aside0.mk (below_step (by repeat (first|(with_reducible first|exact HB.out|apply zl1|apply zl2|apply zl3|refine below_set ?_ GE267.out|refine below_set ?_ GE268.out|refine below_set ?_ GE269.out|refine below_set ?_ GE308.out)|exact HB.out)) hb)
                have NB267_325:=Aside0.mk ((by rw [hg];exact Nat.ne_of_lt (blk_lt (g:=gb267) (o:=.cells #[.bool a0_0,.slice A0_1 l0_1.length c0_1,.slice A0_2 l0_2.length c0_2,.slice A0_3 l0_3.length c0_3] 26 (0,0)) (by (with_reducible repeat (first|apply zb1|apply zb2|apply zb3));exact BK267.out)):gb267 ≠ gb325))
                have NB325_267:=Aside0.mk ((by rw [hg];exact Nat.ne_of_gt (blk_lt (g:=gb267) (o:=.cells #[.bool a0_0,.slice A0_1 l0_1.length c0_1,.slice A0_2 l0_2.length c0_2,.slice A0_3 l0_3.length c0_3] 26 (0,0)) (by (with_reducible repeat (first|apply zb1|apply zb2|apply zb3));exact BK267.out)):gb325 ≠ gb267))
                replace BK267:=Aside0.mk (blk_below (g:=gb267) (o:=.cells #[.bool a0_0,.slice A0_1 l0_1.length c0_1,.slice A0_2 l0_2.length c0_2,.slice A0_3 l0_3.length c0_3] 26 (0,0)) (by (with_reducible repeat (first|apply zb1|apply zb2|apply zb3));exact BK267.out) hb)
                have NB268_325:=Aside0.mk ((by rw [hg];exact Nat.ne_of_lt (blk_lt (g:=gb268) (o:=.cells #[.bool false,.slice none 0 0,.slice none 0 0,.slice none 0 0] 26 (0,0)) (by (with_reducible repeat (first|apply zb1|apply zb2|apply zb3));exact BK268.out)):gb268 ≠ gb325))
                have NB325_268:=Aside0.mk ((by rw [hg];exact Nat.ne_of_gt (blk_lt (g:=gb268) (o:=.cells #[.bool false,.slice none 0 0,.slice none 0 0,.slice none 0 0] 26 (0,0)) (by (with_reducible repeat (first|apply zb1|apply zb2|apply zb3));exact BK268.out)):gb325 ≠ gb268))
                replace BK268:=Aside0.mk (blk_below (g:=gb268) (o:=.cells #[.bool false,.slice none 0 0,.slice none 0 0,.slice none 0 0] 26 (0,0)) (by (with_reducible repeat (first|apply zb1|apply zb2|apply zb3));exact BK268.out) hb)
                have NB269_325:=Aside0.mk ((by rw [hg];exact Nat.ne_of_lt (blk_lt (g:=gb269) (o:=.cells #[.bool false,.slice none 0 0,.slice none 0 0,.slice none 0 0] 26 (0,0)) (by (with_reducible repeat (first|apply zb1|apply zb2|apply zb3));exact BK269.out)):gb269 ≠ gb325))
                have NB325_269:=Aside0.mk ((by rw [hg];exact Nat.ne_of_gt (blk_lt (g:=gb269) (o:=.cells #[.bool false,.slice none 0 0,.slice none 0 0,.slice none 0 0] 26 (0,0)) (by (with_reducible repeat (first|apply zb1|apply zb2|apply zb3));exact BK269.out)):gb325 ≠ gb269))
                replace BK269:=Aside0.mk (blk_below (g:=gb269) (o:=.cells #[.bool false,.slice none 0 0,.slice none 0 0,.slice none 0 0] 26 (0,0)) (by (with_reducible repeat (first|apply zb1|apply zb2|apply zb3));exact BK269.out) hb)
                have NB308_325:=Aside0.mk ((by rw [hg];exact Nat.ne_of_lt (blk_lt (g:=gb308) (o:=.cells #[.bool false,.slice none 0 0,.slice Ao68 t297.length co68,.slice Ao67 t305.length co67] 26 (0,0)) (by (with_reducible repeat (first|apply zb1|apply zb2|apply zb3));exact BK308.out)):gb308 ≠ gb325))
                have NB325_308:=Aside0.mk ((by rw [hg];exact Nat.ne_of_gt (blk_lt (g:=gb308) (o:=.cells #[.bool false,.slice none 0 0,.slice Ao68 t297.length co68,.slice Ao67 t305.length co67] 26 (0,0)) (by (with_reducible repeat (first|apply zb1|apply zb2|apply zb3));exact BK308.out)):gb325 ≠ gb308))
                replace BK308:=Aside0.mk (blk_below (g:=gb308) (o:=.cells #[.bool false,.slice none 0 0,.slice Ao68 t297.length co68,.slice Ao67 t305.length co67] 26 (0,0)) (by (with_reducible repeat (first|apply zb1|apply zb2|apply zb3));exact BK308.out) hb)
                clear hb hbox hg
                refine hK.out _ _ ⟨(blk_cell BK267.out 0).trans rfl,(blk_cell BK267.out 1).trans rfl,(blk_cell BK267.out 2).trans rfl,(blk_cell BK267.out 3).trans rfl⟩ (fun hHeld=>?_)
                clear hK K
                refine norm_ (a':=?_) ?_ ?_
                rotate_left
                ·show Act.put _ (some 7) _=_
                 simp only [Act.put,List.setIfInBounds_toArray,List.set_cons_zero,List.set_cons_succ,i64_w,i32_w]
                 rfl
                refine one_ (i:=11) (N:=some 69) #[true,true,true,true,true,true,true,true,true,true,true,true,false,true,false] rfl rfl (one_of HT_.out (by kernel_rfl)) (by decide) (fun K hK=>?_)
                refine goes_ Try.func35 (by kernel_rfl) rfl #[.slice A76 y317.length c76] (by rfl) rfl rfl (by (try simp only [List.map_toArray,List.map_cons,List.map_nil]);first|done|rfl|(simp only [List.length_drop,List.length_take];rfl)|(simp (disch:=omega) only [u64_in];rfl)) ?_
                with_reducible refine (slices_Clone_int_int.calls _ _ y317 t322 _ ?side1 ?side2 A53.out).mono ?_
                (case side1=>repeat (first|exact (Kd.V_reads' HO321.out).2.2|(with_reducible refine Kd.C_alloc ?_ _)|(with_reducible refine Kd.C_drewN ?_ _)|(with_reducible refine Kd.C_drew ?_)))
                (case side2=>exact (Kd.V_reads' HO321.out).2.1)
                rintro e w79 ⟨v323,rfl,ho0,hb⟩
                refine ⟨_,rfl,?_⟩
                replace HO_268001:=Aside0.mk (Kd.V_elder' (by (with_reducible repeat (first|apply Kd.V_alloc|apply Kd.V_drewN|apply Kd.V_drew));exact HO_268001.out) (Kd.R_base ho0) hb)
                replace HO_268002:=Aside0.mk (Kd.V_elder' (by (with_reducible repeat (first|apply Kd.V_alloc|apply Kd.V_drewN|apply Kd.V_drew));exact HO_268002.out) (Kd.R_base ho0) hb)
                replace HO_268003:=Aside0.mk (Kd.V_elder' (by (with_reducible repeat (first|apply Kd.V_alloc|apply Kd.V_drewN|apply Kd.V_drew));exact HO_268003.out) (Kd.R_base ho0) hb)
                replace HO296:=Aside0.mk (Kd.V_elder' (by (with_reducible repeat (first|apply Kd.V_alloc|apply Kd.V_drewN|apply Kd.V_drew));exact HO296.out) (Kd.R_base ho0) hb)
                replace HO304:=Aside0.mk (Kd.V_elder' (by (with_reducible repeat (first|apply Kd.V_alloc|apply Kd.V_drewN|apply Kd.V_drew));exact HO304.out) (Kd.R_base ho0) hb)
                replace HO299:=Aside0.mk (Kd.R_below (by (with_reducible repeat (first|apply zk1|apply zk2|apply zk3));exact HO299.out) hb)
                replace HO313:=Aside0.mk (Kd.V_elder' (by (with_reducible repeat (first|apply Kd.V_alloc|apply Kd.V_drewN|apply Kd.V_drew));exact HO313.out) (Kd.R_base ho0) hb)
                replace HO321:=Aside0.mk (Kd.V_elder' (by (with_reducible repeat (first|apply Kd.V_alloc|apply Kd.V_drewN|apply Kd.V_drew));exact HO321.out) (Kd.R_base ho0) hb)
                replace HO316:=Aside0.mk (Kd.R_below (by (with_reducible repeat (first|apply zk1|apply zk2|apply zk3));exact HO316.out) hb)
                have HO324:=Aside0.mk (Kd.R_lower (Kd.R_new' (Kd.R_newM (M:=fun k_=>(w.heap.size≤k_)) ho0 (below_size (by repeat (first|(with_reducible first|exact HB.out|apply zl1|apply zl2|apply zl3|refine below_set ?_ GE267.out|refine below_set ?_ GE268.out|refine below_set ?_ GE269.out|refine below_set ?_ GE308.out|refine below_set ?_ GE325.out)|exact HB.out))) (fun k_ h_=>h_)) (Kd.R_lt (by (with_reducible repeat (first|apply zk1|apply zk2|apply zk3));exact HO307.out))) (below_size (by repeat (first|(with_reducible first|exact HB.out|apply zl1|apply zl2|apply zl3|refine below_set ?_ GE267.out|refine below_set ?_ GE268.out|refine below_set ?_ GE269.out|refine below_set ?_ GE308.out|refine below_set ?_ GE325.out)|exact HB.out))))
                replace HO307:=Aside0.mk (Kd.R_elder' (by (with_reducible repeat (first|apply zk1|apply zk2|apply zk3));exact HO307.out) (Kd.R_base ho0) hb)
                replace BK267:=Aside0.mk (blk_below (g:=gb267) (o:=.cells #[.bool a0_0,.slice A0_1 l0_1.length c0_1,.slice A0_2 l0_2.length c0_2,.slice A0_3 l0_3.length c0_3] 26 (0,0)) (by (with_reducible repeat (first|apply zb1|apply zb2|apply zb3));exact BK267.out) hb)
                replace BK268:=Aside0.mk (blk_below (g:=gb268) (o:=.cells #[.bool false,.slice none 0 0,.slice none 0 0,.slice none 0 0] 26 (0,0)) (by (with_reducible repeat (first|apply zb1|apply zb2|apply zb3));exact BK268.out) hb)
                replace BK269:=Aside0.mk (blk_below (g:=gb269) (o:=.cells #[.bool false,.slice none 0 0,.slice none 0 0,.slice none 0 0] 26 (0,0)) (by (with_reducible repeat (first|apply zb1|apply zb2|apply zb3));exact BK269.out) hb)
                replace BK308:=Aside0.mk (blk_below (g:=gb308) (o:=.cells #[.bool false,.slice none 0 0,.slice Ao68 t297.length co68,.slice Ao67 t305.length co67] 26 (0,0)) (by (with_reducible repeat (first|apply zb1|apply zb2|apply zb3));exact BK308.out) hb)
                replace BK325:=Aside0.mk (blk_below (g:=gb325) (o:=.cells #[.bool false,.slice none 0 0,.slice none 0 0,.slice none 0 0] 26 (0,0)) (by (with_reducible repeat (first|apply zb1|apply zb2|apply zb3));exact BK325.out) hb)
                replace HB:=Aside0.mk (below_step (by repeat (first|(with_reducible first|exact HB.out|apply zl1|apply zl2|apply zl3|refine below_set ?_ GE267.out|refine below_set ?_ GE268.out|refine below_set ?_ GE269.out|refine below_set ?_ GE308.out|refine below_set ?_ GE325.out)|exact HB.out)) hb)
                (try clear hb)
                (try clear hb2)
                (try clear hk)
                (try clear hi)
                (try clear ho0)
                obtain ⟨Ao80,co80,eo80⟩:=Kd.R_slice HO324.out
                (first|subst eo80|(injection eo80 with f1_ f2_ f3_;have f4_:=f1_.symm;have f5_:=f3_.symm;clear f1_ f2_ f3_;subst f4_;subst f5_))
                obtain ⟨Ao81,co81,eo81⟩:=Kd.R_slice HO316.out
                (first|subst eo81|(injection eo81 with f1_ f2_ f3_;have f4_:=f1_.symm;have f5_:=f3_.symm;clear f1_ f2_ f3_;subst f4_;subst f5_))
                refine hK.out _ _ ⟨(blk_cell BK267.out 0).trans rfl,(blk_cell BK267.out 1).trans rfl,(blk_cell BK267.out 2).trans rfl,(blk_cell BK267.out 3).trans rfl⟩ (fun hHeld=>?_)
                clear hK K
                refine norm_ (a':=?_) ?_ ?_
                rotate_left
                ·show Act.put _ (some 69) _=_
                 simp only [Act.put,List.setIfInBounds_toArray,List.set_cons_zero,List.set_cons_succ,i64_w,i32_w]
                 rfl
                refine pure_ (i:=12) (N:=some 70) (v:=?_) (a':=?_) #[true,true,true,true,true,true,true,true,true,true,true,true,true,true,false] rfl rfl (any_of HT_.out (by kernel_rfl)) (fun _ _ _ h=>h) (Or.inl ⟨by rfl,?_⟩) ?_ ?_
                rotate_left
                ·intro w'
                 go_simp
                 with_reducible rfl
                rotate_left
                ·simp only [Act.put,List.setIfInBounds_toArray,List.set_cons_zero,List.set_cons_succ,i64_w,i32_w]
                 rfl
                exact norm_ (by simp only [putAll,Act.put,List.setIfInBounds_toArray,List.set_cons_zero,List.set_cons_succ]) (hCont (.slice Ao81 t314.length co81,.slice Ao80 t322.length co80,gb325) _ ⟨hHeld,(by (with_reducible repeat (first|apply Kd.V_alloc|apply Kd.V_drewN|apply Kd.V_drew));exact Kd.V_mono HO296.out (fun _ hk=>⟨hk.1.1.1.1,⟨hk.1.1.1.2.1,⟨hk.1.1.1.2.2.1,⟨hk.1.1.2,⟨hk.2,⟨hk.1.1.1.2.2.2.1,⟨hk.1.1.1.2.2.2.2.1,⟨hk.1.1.1.2.2.2.2.2.1,⟨hk.1.1.1.2.2.2.2.2.2,hk.1.2⟩⟩⟩⟩⟩⟩⟩⟩⟩)),(by (with_reducible repeat (first|apply zk1|apply zk2|apply zk3));exact HO299.out),(by (with_reducible repeat (first|apply Kd.V_alloc|apply Kd.V_drewN|apply Kd.V_drew));exact Kd.V_mono HO304.out (fun _ hk=>⟨hk.1.1.1.1,⟨hk.1.1.1.2.1,⟨hk.1.1.1.2.2.1,⟨hk.1.1.2,⟨hk.2,⟨hk.1.1.1.2.2.2.1,⟨hk.1.1.1.2.2.2.2.1,⟨hk.1.1.1.2.2.2.2.2.1,⟨hk.1.1.1.2.2.2.2.2.2,hk.1.2⟩⟩⟩⟩⟩⟩⟩⟩⟩)),(by (with_reducible repeat (first|apply zk1|apply zk2|apply zk3));exact HO307.out),(by (with_reducible repeat (first|apply Kd.V_alloc|apply Kd.V_drewN|apply Kd.V_drew));exact Kd.V_mono HO313.out (fun _ hk=>⟨hk.1.1.1.1,⟨hk.1.1.1.2.1,⟨hk.1.1.1.2.2.1,⟨hk.1.1.2,⟨hk.2,⟨hk.1.1.1.2.2.2.1,⟨hk.1.1.1.2.2.2.2.1,⟨hk.1.1.1.2.2.2.2.2.1,⟨hk.1.1.1.2.2.2.2.2.2,hk.1.2⟩⟩⟩⟩⟩⟩⟩⟩⟩)),(by (with_reducible repeat (first|apply zk1|apply zk2|apply zk3));exact Kd.R_mono HO316.out (fun _ hk=>⟨hk.1.1,hk.2⟩)),(by (with_reducible repeat (first|apply Kd.V_alloc|apply Kd.V_drewN|apply Kd.V_drew));exact Kd.V_mono HO321.out (fun _ hk=>⟨hk.1.1.1.1,⟨hk.1.1.1.2.1,⟨hk.1.1.1.2.2.1,⟨hk.1.1.2,⟨hk.2,⟨hk.1.1.1.2.2.2.1,⟨hk.1.1.1.2.2.2.2.1,⟨hk.1.1.1.2.2.2.2.2.1,⟨hk.1.1.1.2.2.2.2.2.2,hk.1.2⟩⟩⟩⟩⟩⟩⟩⟩⟩)),(by (with_reducible repeat (first|apply zk1|apply zk2|apply zk3));exact Kd.R_mono HO324.out (fun _ hk=>⟨hk.1.1,hk.2⟩)),(by (with_reducible repeat (first|apply Kd.V_alloc|apply Kd.V_drewN|apply Kd.V_drew));exact Kd.V_mono HO_268001.out (fun _ hk=>⟨hk.1.1.1.1,⟨hk.1.1.1.2.1,⟨hk.1.1.1.2.2.1,⟨hk.1.1.2,⟨hk.2,⟨hk.1.1.1.2.2.2.1,⟨hk.1.1.1.2.2.2.2.1,⟨hk.1.1.1.2.2.2.2.2.1,⟨hk.1.1.1.2.2.2.2.2.2,hk.1.2⟩⟩⟩⟩⟩⟩⟩⟩⟩)),(by (with_reducible repeat (first|apply Kd.V_alloc|apply Kd.V_drewN|apply Kd.V_drew));exact Kd.V_mono HO_268002.out (fun _ hk=>⟨hk.1.1.1.1,⟨hk.1.1.1.2.1,⟨hk.1.1.1.2.2.1,⟨hk.1.1.2,⟨hk.2,⟨hk.1.1.1.2.2.2.1,⟨hk.1.1.1.2.2.2.2.1,⟨hk.1.1.1.2.2.2.2.2.1,⟨hk.1.1.1.2.2.2.2.2.2,hk.1.2⟩⟩⟩⟩⟩⟩⟩⟩⟩)),(by (with_reducible repeat (first|apply Kd.V_alloc|apply Kd.V_drewN|apply Kd.V_drew));exact Kd.V_mono HO_268003.out (fun _ hk=>⟨hk.1.1.1.1,⟨hk.1.1.1.2.1,⟨hk.1.1.1.2.2.1,⟨hk.1.1.2,⟨hk.2,⟨hk.1.1.1.2.2.2.1,⟨hk.1.1.1.2.2.2.2.1,⟨hk.1.1.1.2.2.2.2.2.1,⟨hk.1.1.1.2.2.2.2.2.2,hk.1.2⟩⟩⟩⟩⟩⟩⟩⟩⟩)),(by (with_reducible repeat (first|apply zb1|apply zb2|apply zb3));exact BK267.out),(by (with_reducible repeat (first|apply zb1|apply zb2|apply zb3));exact BK268.out),(by (with_reducible repeat (first|apply zb1|apply zb2|apply zb3));exact BK269.out),(by (with_reducible repeat (first|apply zb1|apply zb2|apply zb3));exact BK308.out),(by (with_reducible repeat (first|apply zb1|apply zb2|apply zb3));exact BK325.out),GW325.out,GE325.out,NB267_325.out,NB325_267.out,NB268_325.out,NB325_268.out,NB269_325.out,NB325_269.out,NB308_325.out,NB325_308.out,(by repeat (first|(with_reducible first|exact HB.out|apply zl1|apply zl2|apply zl3|refine below_set ?_ GE267.out|refine below_set ?_ GE268.out|refine below_set ?_ GE269.out|refine below_set ?_ GE308.out|refine below_set ?_ GE325.out)|exact HB.out))⟩)
              ·skip
               refine box_step ?hg (N:=7) ?hd (cs:=#[.bool false,.slice none 0 0,.slice none 0 0,.slice none 0 0]) (t:=26) ?hr ?_;(case hd=>rfl);(case hg=>rfl);(case hr=>first|(go_simp;done)|(go_simp;rfl))
               intro gb325 hg w77 hbox hb
               replace HO_268001:=Aside0.mk (Kd.V_below (Kd.V_elderB (by (with_reducible repeat (first|apply Kd.V_alloc|apply Kd.V_drewN|apply Kd.V_drew));exact HO_268001.out) gb325 (Nat.le_of_eq hg.symm)) hb)
               replace HO_268002:=Aside0.mk (Kd.V_below (Kd.V_elderB (by (with_reducible repeat (first|apply Kd.V_alloc|apply Kd.V_drewN|apply Kd.V_drew));exact HO_268002.out) gb325 (Nat.le_of_eq hg.symm)) hb)
               replace HO_268003:=Aside0.mk (Kd.V_below (Kd.V_elderB (by (with_reducible repeat (first|apply Kd.V_alloc|apply Kd.V_drewN|apply Kd.V_drew));exact HO_268003.out) gb325 (Nat.le_of_eq hg.symm)) hb)
               replace HO296:=Aside0.mk (Kd.V_below (Kd.V_elderB (by (with_reducible repeat (first|apply Kd.V_alloc|apply Kd.V_drewN|apply Kd.V_drew));exact HO296.out) gb325 (Nat.le_of_eq hg.symm)) hb)
               replace HO304:=Aside0.mk (Kd.V_below (Kd.V_elderB (by (with_reducible repeat (first|apply Kd.V_alloc|apply Kd.V_drewN|apply Kd.V_drew));exact HO304.out) gb325 (Nat.le_of_eq hg.symm)) hb)
               replace HO299:=Aside0.mk (Kd.R_below (by (with_reducible repeat (first|apply zk1|apply zk2|apply zk3));exact HO299.out) hb)
               replace HO307:=Aside0.mk (Kd.R_below (by (with_reducible repeat (first|apply zk1|apply zk2|apply zk3));exact HO307.out) hb)
               replace HO313:=Aside0.mk (Kd.V_below (Kd.V_elderB (by (with_reducible repeat (first|apply Kd.V_alloc|apply Kd.V_drewN|apply Kd.V_drew));exact HO313.out) gb325 (Nat.le_of_eq hg.symm)) hb)
               replace HO321:=Aside0.mk (Kd.V_below (Kd.V_elderB (by (with_reducible repeat (first|apply Kd.V_alloc|apply Kd.V_drewN|apply Kd.V_drew));exact HO321.out) gb325 (Nat.le_of_eq hg.symm)) hb)
               have BK325:=Aside0.mk (hbox)
               have GW325:=Aside0.mk ((by rw [hg];exact (below_size (by repeat (first|(with_reducible first|exact HB.out|apply zl1|apply zl2|apply zl3|refine below_set ?_ GE267.out|refine below_set ?_ GE268.out|refine below_set ?_ GE269.out|refine below_set ?_ GE308.out)|exact HB.out))):w.heap.size≤gb325))
               have GE325:=Aside0.mk ((by rw [hg];exact (below_size (by repeat (first|(with_reducible first|exact HB.out|apply zl1|apply zl2|apply zl3|refine below_set ?_ GE267.out|refine below_set ?_ GE268.out|refine below_set ?_ GE269.out|refine below_set ?_ GE308.out)|exact HB.out))):w.heap.size≤gb325))
               replace HB:=Aside0.mk (below_step (by repeat (first|(with_reducible first|exact HB.out|apply zl1|apply zl2|apply zl3|refine below_set ?_ GE267.out|refine below_set ?_ GE268.out|refine below_set ?_ GE269.out|refine below_set ?_ GE308.out)|exact HB.out)) hb)
               have NB267_325:=Aside0.mk ((by rw [hg];exact Nat.ne_of_lt (blk_lt (g:=gb267) (o:=.cells #[.bool a0_0,.slice A0_1 l0_1.length c0_1,.slice A0_2 l0_2.length c0_2,.slice A0_3 l0_3.length c0_3] 26 (0,0)) (by (with_reducible repeat (first|apply zb1|apply zb2|apply zb3));exact BK267.out)):gb267 ≠ gb325))
               have NB325_267:=Aside0.mk ((by rw [hg];exact Nat.ne_of_gt (blk_lt (g:=gb267) (o:=.cells #[.bool a0_0,.slice A0_1 l0_1.length c0_1,.slice A0_2 l0_2.length c0_2,.slice A0_3 l0_3.length c0_3] 26 (0,0)) (by (with_reducible repeat (first|apply zb1|apply zb2|apply zb3));exact BK267.out)):gb325 ≠ gb267))
               replace BK267:=Aside0.mk (blk_below (g:=gb267) (o:=.cells #[.bool a0_0,.slice A0_1 l0_1.length c0_1,.slice A0_2 l0_2.length c0_2,.slice A0_3 l0_3.length c0_3] 26 (0,0)) (by (with_reducible repeat (first|apply zb1|apply zb2|apply zb3));exact BK267.out) hb)
               have NB268_325:=Aside0.mk ((by rw [hg];exact Nat.ne_of_lt (blk_lt (g:=gb268) (o:=.cells #[.bool false,.slice none 0 0,.slice none 0 0,.slice none 0 0] 26 (0,0)) (by (with_reducible repeat (first|apply zb1|apply zb2|apply zb3));exact BK268.out)):gb268 ≠ gb325))
               have NB325_268:=Aside0.mk ((by rw [hg];exact Nat.ne_of_gt (blk_lt (g:=gb268) (o:=.cells #[.bool false,.slice none 0 0,.slice none 0 0,.slice none 0 0] 26 (0,0)) (by (with_reducible repeat (first|apply zb1|apply zb2|apply zb3));exact BK268.out)):gb325 ≠ gb268))
               replace BK268:=Aside0.mk (blk_below (g:=gb268) (o:=.cells #[.bool false,.slice none 0 0,.slice none 0 0,.slice none 0 0] 26 (0,0)) (by (with_reducible repeat (first|apply zb1|apply zb2|apply zb3));exact BK268.out) hb)
               have NB269_325:=Aside0.mk ((by rw [hg];exact Nat.ne_of_lt (blk_lt (g:=gb269) (o:=.cells #[.bool false,.slice none 0 0,.slice none 0 0,.slice none 0 0] 26 (0,0)) (by (with_reducible repeat (first|apply zb1|apply zb2|apply zb3));exact BK269.out)):gb269 ≠ gb325))
               have NB325_269:=Aside0.mk ((by rw [hg];exact Nat.ne_of_gt (blk_lt (g:=gb269) (o:=.cells #[.bool false,.slice none 0 0,.slice none 0 0,.slice none 0 0] 26 (0,0)) (by (with_reducible repeat (first|apply zb1|apply zb2|apply zb3));exact BK269.out)):gb325 ≠ gb269))
               replace BK269:=Aside0.mk (blk_below (g:=gb269) (o:=.cells #[.bool false,.slice none 0 0,.slice none 0 0,.slice none 0 0] 26 (0,0)) (by (with_reducible repeat (first|apply zb1|apply zb2|apply zb3));exact BK269.out) hb)
               have NB308_325:=Aside0.mk ((by rw [hg];exact Nat.ne_of_lt (blk_lt (g:=gb308) (o:=.cells #[.bool false,.slice none 0 0,.slice Ao68 t297.length co68,.slice Ao67 t305.length co67] 26 (0,0)) (by (with_reducible repeat (first|apply zb1|apply zb2|apply zb3));exact BK308.out)):gb308 ≠ gb325))
               have NB325_308:=Aside0.mk ((by rw [hg];exact Nat.ne_of_gt (blk_lt (g:=gb308) (o:=.cells #[.bool false,.slice none 0 0,.slice Ao68 t297.length co68,.slice Ao67 t305.length co67] 26 (0,0)) (by (with_reducible repeat (first|apply zb1|apply zb2|apply zb3));exact BK308.out)):gb325 ≠ gb308))
               replace BK308:=Aside0.mk (blk_below (g:=gb308) (o:=.cells #[.bool false,.slice none 0 0,.slice Ao68 t297.length co68,.slice Ao67 t305.length co67] 26 (0,0)) (by (with_reducible repeat (first|apply zb1|apply zb2|apply zb3));exact BK308.out) hb)
               clear hb hbox hg
               refine hK.out _ _ ⟨(blk_cell BK267.out 0).trans rfl,(blk_cell BK267.out 1).trans rfl,(blk_cell BK267.out 2).trans rfl,(blk_cell BK267.out 3).trans rfl⟩ (fun hHeld=>?_)
               clear hK K
               refine norm_ (a':=?_) ?_ ?_
               rotate_left
               ·show Act.put _ (some 7) _=_
                simp only [Act.put,List.setIfInBounds_toArray,List.set_cons_zero,List.set_cons_succ,i64_w,i32_w]
                rfl
               refine one_ (i:=5) (N:=some 63) #[true,true,true,true,true,true,true,true,true,true,true,false,false,true,false] rfl rfl (one_of HT_.out (by kernel_rfl)) (by decide) (fun K hK=>?_)
               refine goes_ Try.func34 (by kernel_rfl) rfl #[.slice A75 y309.length c75] (by rfl) rfl rfl (by (try simp only [List.map_toArray,List.map_cons,List.map_nil]);first|done|rfl|(simp only [List.length_drop,List.length_take];rfl)|(simp (disch:=omega) only [u64_in];rfl)) ?_
               with_reducible refine (slices_Clone_string_string.calls _ _ y309 t314 _ ?side1 ?side2 A50.out).mono ?_
               (case side1=>repeat (first|exact (Kd.V_reads' HO313.out).2.2|(with_reducible refine Kd.C_alloc ?_ _)|(with_reducible refine Kd.C_drewN ?_ _)|(with_reducible refine Kd.C_drew ?_)))
               (case side2=>exact (Kd.V_reads' HO313.out).2.1)
               rintro e w78 ⟨v315,rfl,ho0,hb⟩
               refine ⟨_,rfl,?_⟩
               replace HO_268001:=Aside0.mk (Kd.V_elder' (by (with_reducible repeat (first|apply Kd.V_alloc|apply Kd.V_drewN|apply Kd.V_drew));exact HO_268001.out) (Kd.R_base ho0) hb)
               replace HO_268002:=Aside0.mk (Kd.V_elder' (by (with_reducible repeat (first|apply Kd.V_alloc|apply Kd.V_drewN|apply Kd.V_drew));exact HO_268002.out) (Kd.R_base ho0) hb)
               replace HO_268003:=Aside0.mk (Kd.V_elder' (by (with_reducible repeat (first|apply Kd.V_alloc|apply Kd.V_drewN|apply Kd.V_drew));exact HO_268003.out) (Kd.R_base ho0) hb)
               replace HO296:=Aside0.mk (Kd.V_elder' (by (with_reducible repeat (first|apply Kd.V_alloc|apply Kd.V_drewN|apply Kd.V_drew));exact HO296.out) (Kd.R_base ho0) hb)
               replace HO304:=Aside0.mk (Kd.V_elder' (by (with_reducible repeat (first|apply Kd.V_alloc|apply Kd.V_drewN|apply Kd.V_drew));exact HO304.out) (Kd.R_base ho0) hb)
               replace HO307:=Aside0.mk (Kd.R_below (by (with_reducible repeat (first|apply zk1|apply zk2|apply zk3));exact HO307.out) hb)
               replace HO313:=Aside0.mk (Kd.V_elder' (by (with_reducible repeat (first|apply Kd.V_alloc|apply Kd.V_drewN|apply Kd.V_drew));exact HO313.out) (Kd.R_base ho0) hb)
               replace HO321:=Aside0.mk (Kd.V_elder' (by (with_reducible repeat (first|apply Kd.V_alloc|apply Kd.V_drewN|apply Kd.V_drew));exact HO321.out) (Kd.R_base ho0) hb)
               have HO316:=Aside0.mk (Kd.R_lower (Kd.R_new' (Kd.R_newM (M:=fun k_=>(w.heap.size≤k_)) ho0 (below_size (by repeat (first|(with_reducible first|exact HB.out|apply zl1|apply zl2|apply zl3|refine below_set ?_ GE267.out|refine below_set ?_ GE268.out|refine below_set ?_ GE269.out|refine below_set ?_ GE308.out|refine below_set ?_ GE325.out)|exact HB.out))) (fun k_ h_=>h_)) (Kd.R_lt (by (with_reducible repeat (first|apply zk1|apply zk2|apply zk3));exact HO299.out))) (below_size (by repeat (first|(with_reducible first|exact HB.out|apply zl1|apply zl2|apply zl3|refine below_set ?_ GE267.out|refine below_set ?_ GE268.out|refine below_set ?_ GE269.out|refine below_set ?_ GE308.out|refine below_set ?_ GE325.out)|exact HB.out))))
               replace HO299:=Aside0.mk (Kd.R_elder' (by (with_reducible repeat (first|apply zk1|apply zk2|apply zk3));exact HO299.out) (Kd.R_base ho0) hb)
               replace BK267:=Aside0.mk (blk_below (g:=gb267) (o:=.cells #[.bool a0_0,.slice A0_1 l0_1.length c0_1,.slice A0_2 l0_2.length c0_2,.slice A0_3 l0_3.length c0_3] 26 (0,0)) (by (with_reducible repeat (first|apply zb1|apply zb2|apply zb3));exact BK267.out) hb)
               replace BK268:=Aside0.mk (blk_below (g:=gb268) (o:=.cells #[.bool false,.slice none 0 0,.slice none 0 0,.slice none 0 0] 26 (0,0)) (by (with_reducible repeat (first|apply zb1|apply zb2|apply zb3));exact BK268.out) hb)
               replace BK269:=Aside0.mk (blk_below (g:=gb269) (o:=.cells #[.bool false,.slice none 0 0,.slice none 0 0,.slice none 0 0] 26 (0,0)) (by (with_reducible repeat (first|apply zb1|apply zb2|apply zb3));exact BK269.out) hb)
               replace BK308:=Aside0.mk (blk_below (g:=gb308) (o:=.cells #[.bool false,.slice none 0 0,.slice Ao68 t297.length co68,.slice Ao67 t305.length co67] 26 (0,0)) (by (with_reducible repeat (first|apply zb1|apply zb2|apply zb3));exact BK308.out) hb)
               replace BK325:=Aside0.mk (blk_below (g:=gb325) (o:=.cells #[.bool false,.slice none 0 0,.slice none 0 0,.slice none 0 0] 26 (0,0)) (by (with_reducible repeat (first|apply zb1|apply zb2|apply zb3));exact BK325.out) hb)
               replace HB:=Aside0.mk (below_step (by repeat (first|(with_reducible first|exact HB.out|apply zl1|apply zl2|apply zl3|refine below_set ?_ GE267.out|refine below_set ?_ GE268.out|refine below_set ?_ GE269.out|refine below_set ?_ GE308.out|refine below_set ?_ GE325.out)|exact HB.out)) hb)
               (try clear hb)
               (try clear hb2)
               (try clear hk)
               (try clear hi)
               (try clear ho0)
               refine hK.out _ _ ⟨(blk_cell BK267.out 0).trans rfl,(blk_cell BK267.out 1).trans rfl,(blk_cell BK267.out 2).trans rfl,(blk_cell BK267.out 3).trans rfl⟩ (fun hHeld=>?_)
               clear hK K
               refine norm_ (a':=?_) ?_ ?_
               rotate_left
               ·show Act.put _ (some 63) _=_
                simp only [Act.put,List.setIfInBounds_toArray,List.set_cons_zero,List.set_cons_succ,i64_w,i32_w]
                rfl
               refine one_ (i:=11) (N:=some 69) #[true,true,true,true,true,true,true,true,true,true,true,true,false,true,false] rfl rfl (one_of HT_.out (by kernel_rfl)) (by decide) (fun K hK=>?_)
               refine goes_ Try.func35 (by kernel_rfl) rfl #[.slice A76 y317.length c76] (by rfl) rfl rfl (by (try simp only [List.map_toArray,List.map_cons,List.map_nil]);first|done|rfl|(simp only [List.length_drop,List.length_take];rfl)|(simp (disch:=omega) only [u64_in];rfl)) ?_
               with_reducible refine (slices_Clone_int_int.calls _ _ y317 t322 _ ?side1 ?side2 A53.out).mono ?_
               (case side1=>repeat (first|exact (Kd.V_reads' HO321.out).2.2|(with_reducible refine Kd.C_alloc ?_ _)|(with_reducible refine Kd.C_drewN ?_ _)|(with_reducible refine Kd.C_drew ?_)))
               (case side2=>exact (Kd.V_reads' HO321.out).2.1)
               rintro e w79 ⟨v323,rfl,ho0,hb⟩
               refine ⟨_,rfl,?_⟩
               replace HO_268001:=Aside0.mk (Kd.V_elder' (by (with_reducible repeat (first|apply Kd.V_alloc|apply Kd.V_drewN|apply Kd.V_drew));exact HO_268001.out) (Kd.R_base ho0) hb)
               replace HO_268002:=Aside0.mk (Kd.V_elder' (by (with_reducible repeat (first|apply Kd.V_alloc|apply Kd.V_drewN|apply Kd.V_drew));exact HO_268002.out) (Kd.R_base ho0) hb)
               replace HO_268003:=Aside0.mk (Kd.V_elder' (by (with_reducible repeat (first|apply Kd.V_alloc|apply Kd.V_drewN|apply Kd.V_drew));exact HO_268003.out) (Kd.R_base ho0) hb)
               replace HO296:=Aside0.mk (Kd.V_elder' (by (with_reducible repeat (first|apply Kd.V_alloc|apply Kd.V_drewN|apply Kd.V_drew));exact HO296.out) (Kd.R_base ho0) hb)
               replace HO304:=Aside0.mk (Kd.V_elder' (by (with_reducible repeat (first|apply Kd.V_alloc|apply Kd.V_drewN|apply Kd.V_drew));exact HO304.out) (Kd.R_base ho0) hb)
               replace HO299:=Aside0.mk (Kd.R_below (by (with_reducible repeat (first|apply zk1|apply zk2|apply zk3));exact HO299.out) hb)
               replace HO313:=Aside0.mk (Kd.V_elder' (by (with_reducible repeat (first|apply Kd.V_alloc|apply Kd.V_drewN|apply Kd.V_drew));exact HO313.out) (Kd.R_base ho0) hb)
               replace HO321:=Aside0.mk (Kd.V_elder' (by (with_reducible repeat (first|apply Kd.V_alloc|apply Kd.V_drewN|apply Kd.V_drew));exact HO321.out) (Kd.R_base ho0) hb)
               replace HO316:=Aside0.mk (Kd.R_below (by (with_reducible repeat (first|apply zk1|apply zk2|apply zk3));exact HO316.out) hb)
               have HO324:=Aside0.mk (Kd.R_lower (Kd.R_new' (Kd.R_newM (M:=fun k_=>(w.heap.size≤k_)) ho0 (below_size (by repeat (first|(with_reducible first|exact HB.out|apply zl1|apply zl2|apply zl3|refine below_set ?_ GE267.out|refine below_set ?_ GE268.out|refine below_set ?_ GE269.out|refine below_set ?_ GE308.out|refine below_set ?_ GE325.out)|exact HB.out))) (fun k_ h_=>h_)) (Kd.R_lt (by (with_reducible repeat (first|apply zk1|apply zk2|apply zk3));exact HO307.out))) (below_size (by repeat (first|(with_reducible first|exact HB.out|apply zl1|apply zl2|apply zl3|refine below_set ?_ GE267.out|refine below_set ?_ GE268.out|refine below_set ?_ GE269.out|refine below_set ?_ GE308.out|refine below_set ?_ GE325.out)|exact HB.out))))
               replace HO307:=Aside0.mk (Kd.R_elder' (by (with_reducible repeat (first|apply zk1|apply zk2|apply zk3));exact HO307.out) (Kd.R_base ho0) hb)
               replace BK267:=Aside0.mk (blk_below (g:=gb267) (o:=.cells #[.bool a0_0,.slice A0_1 l0_1.length c0_1,.slice A0_2 l0_2.length c0_2,.slice A0_3 l0_3.length c0_3] 26 (0,0)) (by (with_reducible repeat (first|apply zb1|apply zb2|apply zb3));exact BK267.out) hb)
               replace BK268:=Aside0.mk (blk_below (g:=gb268) (o:=.cells #[.bool false,.slice none 0 0,.slice none 0 0,.slice none 0 0] 26 (0,0)) (by (with_reducible repeat (first|apply zb1|apply zb2|apply zb3));exact BK268.out) hb)
               replace BK269:=Aside0.mk (blk_below (g:=gb269) (o:=.cells #[.bool false,.slice none 0 0,.slice none 0 0,.slice none 0 0] 26 (0,0)) (by (with_reducible repeat (first|apply zb1|apply zb2|apply zb3));exact BK269.out) hb)
               replace BK308:=Aside0.mk (blk_below (g:=gb308) (o:=.cells #[.bool false,.slice none 0 0,.slice Ao68 t297.length co68,.slice Ao67 t305.length co67] 26 (0,0)) (by (with_reducible repeat (first|apply zb1|apply zb2|apply zb3));exact BK308.out) hb)
               replace BK325:=Aside0.mk (blk_below (g:=gb325) (o:=.cells #[.bool false,.slice none 0 0,.slice none 0 0,.slice none 0 0] 26 (0,0)) (by (with_reducible repeat (first|apply zb1|apply zb2|apply zb3));exact BK325.out) hb)
               replace HB:=Aside0.mk (below_step (by repeat (first|(with_reducible first|exact HB.out|apply zl1|apply zl2|apply zl3|refine below_set ?_ GE267.out|refine below_set ?_ GE268.out|refine below_set ?_ GE269.out|refine below_set ?_ GE308.out|refine below_set ?_ GE325.out)|exact HB.out)) hb)
               (try clear hb)
               (try clear hb2)
               (try clear hk)
               (try clear hi)
               (try clear ho0)
               obtain ⟨Ao80,co80,eo80⟩:=Kd.R_slice HO324.out
               (first|subst eo80|(injection eo80 with f1_ f2_ f3_;have f4_:=f1_.symm;have f5_:=f3_.symm;clear f1_ f2_ f3_;subst f4_;subst f5_))
               obtain ⟨Ao81,co81,eo81⟩:=Kd.R_slice HO316.out
               (first|subst eo81|(injection eo81 with f1_ f2_ f3_;have f4_:=f1_.symm;have f5_:=f3_.symm;clear f1_ f2_ f3_;subst f4_;subst f5_))
               refine hK.out _ _ ⟨(blk_cell BK267.out 0).trans rfl,(blk_cell BK267.out 1).trans rfl,(blk_cell BK267.out 2).trans rfl,(blk_cell BK267.out 3).trans rfl⟩ (fun hHeld=>?_)
               clear hK K
               refine norm_ (a':=?_) ?_ ?_
               rotate_left
               ·show Act.put _ (some 69) _=_
                simp only [Act.put,List.setIfInBounds_toArray,List.set_cons_zero,List.set_cons_succ,i64_w,i32_w]
                rfl
               refine pure_ (i:=12) (N:=some 70) (v:=?_) (a':=?_) #[true,true,true,true,true,true,true,true,true,true,true,true,true,true,false] rfl rfl (any_of HT_.out (by kernel_rfl)) (fun _ _ _ h=>h) (Or.inl ⟨by rfl,?_⟩) ?_ ?_
               rotate_left
               ·intro w'
                go_simp
                with_reducible rfl
               rotate_left
               ·simp only [Act.put,List.setIfInBounds_toArray,List.set_cons_zero,List.set_cons_succ,i64_w,i32_w]
                rfl
               exact norm_ (by simp only [putAll,Act.put,List.setIfInBounds_toArray,List.set_cons_zero,List.set_cons_succ]) (hCont (.slice Ao81 t314.length co81,.slice Ao80 t322.length co80,gb325) _ ⟨hHeld,(by (with_reducible repeat (first|apply Kd.V_alloc|apply Kd.V_drewN|apply Kd.V_drew));exact Kd.V_mono HO296.out (fun _ hk=>⟨hk.1.1.1.1,⟨hk.1.1.1.2.1,⟨hk.1.1.1.2.2.1,⟨hk.1.2,⟨hk.2,⟨hk.1.1.1.2.2.2.1,⟨hk.1.1.1.2.2.2.2.1,⟨hk.1.1.1.2.2.2.2.2.1,⟨hk.1.1.1.2.2.2.2.2.2,hk.1.1.2⟩⟩⟩⟩⟩⟩⟩⟩⟩)),(by (with_reducible repeat (first|apply zk1|apply zk2|apply zk3));exact HO299.out),(by (with_reducible repeat (first|apply Kd.V_alloc|apply Kd.V_drewN|apply Kd.V_drew));exact Kd.V_mono HO304.out (fun _ hk=>⟨hk.1.1.1.1,⟨hk.1.1.1.2.1,⟨hk.1.1.1.2.2.1,⟨hk.1.2,⟨hk.2,⟨hk.1.1.1.2.2.2.1,⟨hk.1.1.1.2.2.2.2.1,⟨hk.1.1.1.2.2.2.2.2.1,⟨hk.1.1.1.2.2.2.2.2.2,hk.1.1.2⟩⟩⟩⟩⟩⟩⟩⟩⟩)),(by (with_reducible repeat (first|apply zk1|apply zk2|apply zk3));exact HO307.out),(by (with_reducible repeat (first|apply Kd.V_alloc|apply Kd.V_drewN|apply Kd.V_drew));exact Kd.V_mono HO313.out (fun _ hk=>⟨hk.1.1.1.1,⟨hk.1.1.1.2.1,⟨hk.1.1.1.2.2.1,⟨hk.1.2,⟨hk.2,⟨hk.1.1.1.2.2.2.1,⟨hk.1.1.1.2.2.2.2.1,⟨hk.1.1.1.2.2.2.2.2.1,⟨hk.1.1.1.2.2.2.2.2.2,hk.1.1.2⟩⟩⟩⟩⟩⟩⟩⟩⟩)),(by (with_reducible repeat (first|apply zk1|apply zk2|apply zk3));exact Kd.R_mono HO316.out (fun _ hk=>⟨hk.1.1,hk.2⟩)),(by (with_reducible repeat (first|apply Kd.V_alloc|apply Kd.V_drewN|apply Kd.V_drew));exact Kd.V_mono HO321.out (fun _ hk=>⟨hk.1.1.1.1,⟨hk.1.1.1.2.1,⟨hk.1.1.1.2.2.1,⟨hk.1.2,⟨hk.2,⟨hk.1.1.1.2.2.2.1,⟨hk.1.1.1.2.2.2.2.1,⟨hk.1.1.1.2.2.2.2.2.1,⟨hk.1.1.1.2.2.2.2.2.2,hk.1.1.2⟩⟩⟩⟩⟩⟩⟩⟩⟩)),(by (with_reducible repeat (first|apply zk1|apply zk2|apply zk3));exact Kd.R_mono HO324.out (fun _ hk=>⟨hk.1.1,hk.2⟩)),(by (with_reducible repeat (first|apply Kd.V_alloc|apply Kd.V_drewN|apply Kd.V_drew));exact Kd.V_mono HO_268001.out (fun _ hk=>⟨hk.1.1.1.1,⟨hk.1.1.1.2.1,⟨hk.1.1.1.2.2.1,⟨hk.1.2,⟨hk.2,⟨hk.1.1.1.2.2.2.1,⟨hk.1.1.1.2.2.2.2.1,⟨hk.1.1.1.2.2.2.2.2.1,⟨hk.1.1.1.2.2.2.2.2.2,hk.1.1.2⟩⟩⟩⟩⟩⟩⟩⟩⟩)),(by (with_reducible repeat (first|apply Kd.V_alloc|apply Kd.V_drewN|apply Kd.V_drew));exact Kd.V_mono HO_268002.out (fun _ hk=>⟨hk.1.1.1.1,⟨hk.1.1.1.2.1,⟨hk.1.1.1.2.2.1,⟨hk.1.2,⟨hk.2,⟨hk.1.1.1.2.2.2.1,⟨hk.1.1.1.2.2.2.2.1,⟨hk.1.1.1.2.2.2.2.2.1,⟨hk.1.1.1.2.2.2.2.2.2,hk.1.1.2⟩⟩⟩⟩⟩⟩⟩⟩⟩)),(by (with_reducible repeat (first|apply Kd.V_alloc|apply Kd.V_drewN|apply Kd.V_drew));exact Kd.V_mono HO_268003.out (fun _ hk=>⟨hk.1.1.1.1,⟨hk.1.1.1.2.1,⟨hk.1.1.1.2.2.1,⟨hk.1.2,⟨hk.2,⟨hk.1.1.1.2.2.2.1,⟨hk.1.1.1.2.2.2.2.1,⟨hk.1.1.1.2.2.2.2.2.1,⟨hk.1.1.1.2.2.2.2.2.2,hk.1.1.2⟩⟩⟩⟩⟩⟩⟩⟩⟩)),(by (with_reducible repeat (first|apply zb1|apply zb2|apply zb3));exact BK267.out),(by (with_reducible repeat (first|apply zb1|apply zb2|apply zb3));exact BK268.out),(by (with_reducible repeat (first|apply zb1|apply zb2|apply zb3));exact BK269.out),(by (with_reducible repeat (first|apply zb1|apply zb2|apply zb3));exact BK308.out),(by (with_reducible repeat (first|apply zb1|apply zb2|apply zb3));exact BK325.out),GW325.out,GE325.out,NB267_325.out,NB325_267.out,NB268_325.out,NB325_268.out,NB269_325.out,NB325_269.out,NB308_325.out,NB325_308.out,(by repeat (first|(with_reducible first|exact HB.out|apply zl1|apply zl2|apply zl3|refine below_set ?_ GE267.out|refine below_set ?_ GE268.out|refine below_set ?_ GE269.out|refine below_set ?_ GE308.out|refine below_set ?_ GE325.out)|exact HB.out))⟩)
             rintro ⟨v315,v323,gb325⟩ w82 ⟨hS_,h0_,h1_,h2_,h3_,h4_,h5_,h6_,h7_,h8_,h9_,h10_,h11_,h12_,h13_,h14_,h15_,h16_,h17_,h18_,h19_,h20_,h21_,h22_,h23_,h24_,h25_,h26_⟩
             have n0_:Aside0 (Kd.V Kd.string 9 w82 w.heap.size (fun k_=>((P0_1_ k_ ∨ P0_2_ k_ ∨ P0_3_ k_) ∨ w.heap.size≤k_)∧some k_ ≠ (.slice Ao68 t297.length co68:Value).ownBlock∧some k_ ≠ (.slice Ao67 t305.length co67:Value).ownBlock∧some k_ ≠ (v315:Value).ownBlock∧some k_ ≠ (v323:Value).ownBlock∧k_ ≠ gb267∧k_ ≠ gb268∧k_ ≠ gb269∧k_ ≠ gb308∧k_ ≠ gb325) (.slice A0_2 y292.length c0_2) y292):=⟨h0_⟩
             have n1_:Aside0 (Kd.R Kd.string 9 w82 w.heap.size (fun k_=>(w.heap.size≤k_)∧some k_ ≠ (v315:Value).ownBlock) (.slice Ao68 t297.length co68) t297):=⟨h1_⟩
             have n2_:Aside0 (Kd.V (Kd.int .i64) 3 w82 w.heap.size (fun k_=>((P0_1_ k_ ∨ P0_2_ k_ ∨ P0_3_ k_) ∨ w.heap.size≤k_)∧some k_ ≠ (.slice Ao68 t297.length co68:Value).ownBlock∧some k_ ≠ (.slice Ao67 t305.length co67:Value).ownBlock∧some k_ ≠ (v315:Value).ownBlock∧some k_ ≠ (v323:Value).ownBlock∧k_ ≠ gb267∧k_ ≠ gb268∧k_ ≠ gb269∧k_ ≠ gb308∧k_ ≠ gb325) (.slice A0_3 y300.length c0_3) y300):=⟨h2_⟩
             have n3_:Aside0 (Kd.R (Kd.int .i64) 3 w82 w.heap.size (fun k_=>(w.heap.size≤k_)∧some k_ ≠ (v323:Value).ownBlock) (.slice Ao67 t305.length co67) t305):=⟨h3_⟩
             have n4_:Aside0 (Kd.V Kd.string 9 w82 w.heap.size (fun k_=>((P0_1_ k_ ∨ P0_2_ k_ ∨ P0_3_ k_) ∨ w.heap.size≤k_)∧some k_ ≠ (.slice Ao68 t297.length co68:Value).ownBlock∧some k_ ≠ (.slice Ao67 t305.length co67:Value).ownBlock∧some k_ ≠ (v315:Value).ownBlock∧some k_ ≠ (v323:Value).ownBlock∧k_ ≠ gb267∧k_ ≠ gb268∧k_ ≠ gb269∧k_ ≠ gb308∧k_ ≠ gb325) (.slice A75 y309.length c75) y309):=⟨h4_⟩
             have n5_:Aside0 (Kd.R Kd.string 9 w82 w.heap.size (fun k_=>(w.heap.size≤k_)∧some k_ ≠ (.slice Ao68 t297.length co68:Value).ownBlock) v315 t314):=⟨h5_⟩
             have n6_:Aside0 (Kd.V (Kd.int .i64) 3 w82 w.heap.size (fun k_=>((P0_1_ k_ ∨ P0_2_ k_ ∨ P0_3_ k_) ∨ w.heap.size≤k_)∧some k_ ≠ (.slice Ao68 t297.length co68:Value).ownBlock∧some k_ ≠ (.slice Ao67 t305.length co67:Value).ownBlock∧some k_ ≠ (v315:Value).ownBlock∧some k_ ≠ (v323:Value).ownBlock∧k_ ≠ gb267∧k_ ≠ gb268∧k_ ≠ gb269∧k_ ≠ gb308∧k_ ≠ gb325) (.slice A76 y317.length c76) y317):=⟨h6_⟩
             have n7_:Aside0 (Kd.R (Kd.int .i64) 3 w82 w.heap.size (fun k_=>(w.heap.size≤k_)∧some k_ ≠ (.slice Ao67 t305.length co67:Value).ownBlock) v323 t322):=⟨h7_⟩
             have n8_:Aside0 (Kd.V k43 43 w82 w.heap.size (fun k_=>((P0_1_ k_ ∨ P0_2_ k_ ∨ P0_3_ k_) ∨ w.heap.size≤k_)∧some k_ ≠ (.slice Ao68 t297.length co68:Value).ownBlock∧some k_ ≠ (.slice Ao67 t305.length co67:Value).ownBlock∧some k_ ≠ (v315:Value).ownBlock∧some k_ ≠ (v323:Value).ownBlock∧k_ ≠ gb267∧k_ ≠ gb268∧k_ ≠ gb269∧k_ ≠ gb308∧k_ ≠ gb325) (.slice A0_1 l0_1.length c0_1) l0_1):=⟨h8_⟩
             have n9_:Aside0 (Kd.V Kd.string 9 w82 w.heap.size (fun k_=>((P0_1_ k_ ∨ P0_2_ k_ ∨ P0_3_ k_) ∨ w.heap.size≤k_)∧some k_ ≠ (.slice Ao68 t297.length co68:Value).ownBlock∧some k_ ≠ (.slice Ao67 t305.length co67:Value).ownBlock∧some k_ ≠ (v315:Value).ownBlock∧some k_ ≠ (v323:Value).ownBlock∧k_ ≠ gb267∧k_ ≠ gb268∧k_ ≠ gb269∧k_ ≠ gb308∧k_ ≠ gb325) (.slice A0_2 l0_2.length c0_2) l0_2):=⟨h9_⟩
             have n10_:Aside0 (Kd.V (Kd.int .i64) 3 w82 w.heap.size (fun k_=>((P0_1_ k_ ∨ P0_2_ k_ ∨ P0_3_ k_) ∨ w.heap.size≤k_)∧some k_ ≠ (.slice Ao68 t297.length co68:Value).ownBlock∧some k_ ≠ (.slice Ao67 t305.length co67:Value).ownBlock∧some k_ ≠ (v315:Value).ownBlock∧some k_ ≠ (v323:Value).ownBlock∧k_ ≠ gb267∧k_ ≠ gb268∧k_ ≠ gb269∧k_ ≠ gb308∧k_ ≠ gb325) (.slice A0_3 l0_3.length c0_3) l0_3):=⟨h10_⟩
             have n11_:Aside0 (w82.heap[gb267]?=some (.cells #[.bool a0_0,.slice A0_1 l0_1.length c0_1,.slice A0_2 l0_2.length c0_2,.slice A0_3 l0_3.length c0_3] 26 (0,0))):=⟨h11_⟩
             have n12_:Aside0 (w82.heap[gb268]?=some (.cells #[.bool false,.slice none 0 0,.slice none 0 0,.slice none 0 0] 26 (0,0))):=⟨h12_⟩
             have n13_:Aside0 (w82.heap[gb269]?=some (.cells #[.bool false,.slice none 0 0,.slice none 0 0,.slice none 0 0] 26 (0,0))):=⟨h13_⟩
             have n14_:Aside0 (w82.heap[gb308]?=some (.cells #[.bool false,.slice none 0 0,.slice Ao68 t297.length co68,.slice Ao67 t305.length co67] 26 (0,0))):=⟨h14_⟩
             have n15_:Aside0 (w82.heap[gb325]?=some (.cells #[.bool false,.slice none 0 0,.slice none 0 0,.slice none 0 0] 26 (0,0))):=⟨h15_⟩
             have n16_:Aside0 (w.heap.size≤gb325):=⟨h16_⟩
             have n17_:Aside0 (w.heap.size≤gb325):=⟨h17_⟩
             have n18_:Aside0 (gb267 ≠ gb325):=⟨h18_⟩
             have n19_:Aside0 (gb325 ≠ gb267):=⟨h19_⟩
             have n20_:Aside0 (gb268 ≠ gb325):=⟨h20_⟩
             have n21_:Aside0 (gb325 ≠ gb268):=⟨h21_⟩
             have n22_:Aside0 (gb269 ≠ gb325):=⟨h22_⟩
             have n23_:Aside0 (gb325 ≠ gb269):=⟨h23_⟩
             have n24_:Aside0 (gb308 ≠ gb325):=⟨h24_⟩
             have n25_:Aside0 (gb325 ≠ gb308):=⟨h25_⟩
             have n26_:Aside0 (Below w.heap.size w w82):=⟨h26_⟩
             clear HO_268001
             clear HO_268002
             clear HO_268003
             clear HO296
             clear HO304
             clear HO299
             clear HO307
             clear BK267
             clear BK268
             clear BK269
             clear BK308
             clear HB
             clear h0_ h1_ h2_ h3_ h4_ h5_ h6_ h7_ h8_ h9_ h10_ h11_ h12_ h13_ h14_ h15_ h16_ h17_ h18_ h19_ h20_ h21_ h22_ h23_ h24_ h25_ h26_
             have HO296:=n0_
             have HO299:=n1_
             have HO304:=n2_
             have HO307:=n3_
             have HO313:=n4_
             have HO316:=n5_
             have HO321:=n6_
             have HO324:=n7_
             have HO_268001:=n8_
             have HO_268002:=n9_
             have HO_268003:=n10_
             have BK267:=n11_
             have BK268:=n12_
             have BK269:=n13_
             have BK308:=n14_
             have BK325:=n15_
             have GW325:=n16_
             have GE325:=n17_
             have NB267_325:=n18_
             have NB325_267:=n19_
             have NB268_325:=n20_
             have NB325_268:=n21_
             have NB269_325:=n22_
             have NB325_269:=n23_
             have NB308_325:=n24_
             have NB325_308:=n25_
             have HB:=n26_
             clear n0_ n1_ n2_ n3_ n4_ n5_ n6_ n7_ n8_ n9_ n10_ n11_ n12_ n13_ n14_ n15_ n16_ n17_ n18_ n19_ n20_ n21_ n22_ n23_ n24_ n25_ n26_
             have hHeld:w82.cell? ⟨gb267,0,none⟩=some (.bool a0_0)∧w82.cell? ⟨gb267,1,none⟩=some (.slice A0_1 l0_1.length c0_1)∧w82.cell? ⟨gb267,2,none⟩=some (.slice A0_2 l0_2.length c0_2)∧w82.cell? ⟨gb267,3,none⟩=some (.slice A0_3 l0_3.length c0_3):=hS_
             obtain ⟨Ao83,co83,eo83⟩:=Kd.R_slice HO324.out
             (first|subst eo83|(injection eo83 with f1_ f2_ f3_;have f4_:=f1_.symm;have f5_:=f3_.symm;clear f1_ f2_ f3_;subst f4_;subst f5_))
             obtain ⟨Ao84,co84,eo84⟩:=Kd.R_slice HO316.out
             (first|subst eo84|(injection eo84 with f1_ f2_ f3_;have f4_:=f1_.symm;have f5_:=f3_.symm;clear f1_ f2_ f3_;subst f4_;subst f5_))
             refine norm_ (a':=?_) ?_ ?_
             rotate_left
             ·simp only [putAll,Act.put,List.setIfInBounds_toArray,List.set_cons_zero,List.set_cons_succ]
              rfl
             refine one_ (i:=14) (N:=none) #[true,true,true,true,true,true,true,true,true,true,true,true,true,true,true] rfl rfl (one_of HT_.out (by kernel_rfl)) (by decide) (fun K hK=>?_)
             have hs85:w82.cell? ⟨gb325,0,none⟩=some (.bool false):=(blk_cell BK325.out 0).trans rfl
             have hfs85:=blk_frozen BK325.out 0
             have hns85_0:=NB267_325.out
             have hns85_1:=NB268_325.out
             have hns85_2:=NB269_325.out
             have hns85_3:=NB308_325.out
             have hms85_0:=NB325_267.out
             have hms85_1:=NB325_268.out
             have hms85_2:=NB325_269.out
             have hms85_3:=NB325_308.out
             have hs86:w82.cell? ⟨gb325,1,none⟩=some (.slice none 0 0):=(blk_cell BK325.out 1).trans rfl
             have hfs86:=blk_frozen BK325.out 1
             have hns86_0:=NB267_325.out
             have hns86_1:=NB268_325.out
             have hns86_2:=NB269_325.out
             have hns86_3:=NB308_325.out
             have hms86_0:=NB325_267.out
             have hms86_1:=NB325_268.out
             have hms86_2:=NB325_269.out
             have hms86_3:=NB325_308.out
             have hs87:w82.cell? ⟨gb325,2,none⟩=some (.slice none 0 0):=(blk_cell BK325.out 2).trans rfl
             have hfs87:=blk_frozen BK325.out 2
             have hns87_0:=NB267_325.out
             have hns87_1:=NB268_325.out
             have hns87_2:=NB269_325.out
             have hns87_3:=NB308_325.out
             have hms87_0:=NB325_267.out
             have hms87_1:=NB325_268.out
             have hms87_2:=NB325_269.out
             have hms87_3:=NB325_308.out
             have hs88:w82.cell? ⟨gb325,3,none⟩=some (.slice none 0 0):=(blk_cell BK325.out 3).trans rfl
             have hfs88:=blk_frozen BK325.out 3
             have hns88_0:=NB267_325.out
             have hns88_1:=NB268_325.out
             have hns88_2:=NB269_325.out
             have hns88_3:=NB308_325.out
             have hms88_0:=NB325_267.out
             have hms88_1:=NB325_268.out
             have hms88_2:=NB325_269.out
             have hms88_3:=NB325_308.out
             refine skip_ (w1:=?_) (by rfl) rfl ?_ ?_
             rotate_left
             ·go_simp
              rfl
             refine hK.out _ _ ⟨((far4 (g:=gb325) NB267_325.out).trans (hHeld.1)),((far4 (g:=gb325) NB267_325.out).trans (hHeld.2.1)),((far4 (g:=gb325) NB267_325.out).trans (hHeld.2.2.1)),((far4 (g:=gb325) NB267_325.out).trans (hHeld.2.2.2))⟩ (fun hHeld=>?_)
             clear hK K
             refine done_ (done_of HT_.out (by kernel_rfl)) ?_
             try go_wp2
             have n0_:Aside0 (Kd.V k43 43 ((((w82.setCell ⟨gb325,0,none⟩ (.bool false)).setCell ⟨gb325,1,none⟩ (.slice none 0 0)).setCell ⟨gb325,2,none⟩ (.slice Ao84 t314.length co84)).setCell ⟨gb325,3,none⟩ (.slice Ao83 t322.length co83)) w.heap.size (fun k_=>((P0_1_ k_ ∨ P0_2_ k_ ∨ P0_3_ k_) ∨ w.heap.size≤k_)∧some k_ ≠ (.slice Ao68 t297.length co68:Value).ownBlock∧some k_ ≠ (.slice Ao67 t305.length co67:Value).ownBlock∧some k_ ≠ (.slice Ao84 t314.length co84:Value).ownBlock∧some k_ ≠ (.slice Ao83 t322.length co83:Value).ownBlock∧k_ ≠ gb267∧k_ ≠ gb268∧k_ ≠ gb269∧k_ ≠ gb308∧k_ ≠ gb325) (.slice A0_1 l0_1.length c0_1) l0_1):=⟨by (with_reducible repeat (first|apply Kd.V_alloc|apply Kd.V_drewN|apply Kd.V_drew));exact Kd.V_mono (Kd.V_far (p:=⟨gb325,3,none⟩) (Kd.V_far (p:=⟨gb325,2,none⟩) (Kd.V_far (p:=⟨gb325,1,none⟩) (Kd.V_far (p:=⟨gb325,0,none⟩) (Kd.V_mono HO_268001.out (fun k_ hk=>(⟨hk,hk.2.2.2.2.2.2.2.2.2⟩:_∧k_ ≠ gb325))) (fun _ hk=>hk.2) (.bool false)) (fun _ hk=>hk.2) (.slice none 0 0)) (fun _ hk=>hk.2) (.slice Ao84 t314.length co84)) (fun _ hk=>hk.2) (.slice Ao83 t322.length co83)) (fun _ hk=>⟨hk.1.1,⟨hk.1.2.1,⟨hk.1.2.2.1,⟨hk.1.2.2.2.1,⟨hk.1.2.2.2.2.1,⟨hk.1.2.2.2.2.2.1,⟨hk.1.2.2.2.2.2.2.1,⟨hk.1.2.2.2.2.2.2.2.1,⟨hk.1.2.2.2.2.2.2.2.2.1,hk.1.2.2.2.2.2.2.2.2.2⟩⟩⟩⟩⟩⟩⟩⟩⟩)⟩
             have n1_:Aside0 (Kd.V Kd.string 9 ((((w82.setCell ⟨gb325,0,none⟩ (.bool false)).setCell ⟨gb325,1,none⟩ (.slice none 0 0)).setCell ⟨gb325,2,none⟩ (.slice Ao84 t314.length co84)).setCell ⟨gb325,3,none⟩ (.slice Ao83 t322.length co83)) w.heap.size (fun k_=>((P0_1_ k_ ∨ P0_2_ k_ ∨ P0_3_ k_) ∨ w.heap.size≤k_)∧some k_ ≠ (.slice Ao68 t297.length co68:Value).ownBlock∧some k_ ≠ (.slice Ao67 t305.length co67:Value).ownBlock∧some k_ ≠ (.slice Ao84 t314.length co84:Value).ownBlock∧some k_ ≠ (.slice Ao83 t322.length co83:Value).ownBlock∧k_ ≠ gb267∧k_ ≠ gb268∧k_ ≠ gb269∧k_ ≠ gb308∧k_ ≠ gb325) (.slice A0_2 l0_2.length c0_2) l0_2):=⟨by (with_reducible repeat (first|apply Kd.V_alloc|apply Kd.V_drewN|apply Kd.V_drew));exact Kd.V_mono (Kd.V_far (p:=⟨gb325,3,none⟩) (Kd.V_far (p:=⟨gb325,2,none⟩) (Kd.V_far (p:=⟨gb325,1,none⟩) (Kd.V_far (p:=⟨gb325,0,none⟩) (Kd.V_mono HO_268002.out (fun k_ hk=>(⟨hk,hk.2.2.2.2.2.2.2.2.2⟩:_∧k_ ≠ gb325))) (fun _ hk=>hk.2) (.bool false)) (fun _ hk=>hk.2) (.slice none 0 0)) (fun _ hk=>hk.2) (.slice Ao84 t314.length co84)) (fun _ hk=>hk.2) (.slice Ao83 t322.length co83)) (fun _ hk=>⟨hk.1.1,⟨hk.1.2.1,⟨hk.1.2.2.1,⟨hk.1.2.2.2.1,⟨hk.1.2.2.2.2.1,⟨hk.1.2.2.2.2.2.1,⟨hk.1.2.2.2.2.2.2.1,⟨hk.1.2.2.2.2.2.2.2.1,⟨hk.1.2.2.2.2.2.2.2.2.1,hk.1.2.2.2.2.2.2.2.2.2⟩⟩⟩⟩⟩⟩⟩⟩⟩)⟩
             have n2_:Aside0 (Kd.V (Kd.int .i64) 3 ((((w82.setCell ⟨gb325,0,none⟩ (.bool false)).setCell ⟨gb325,1,none⟩ (.slice none 0 0)).setCell ⟨gb325,2,none⟩ (.slice Ao84 t314.length co84)).setCell ⟨gb325,3,none⟩ (.slice Ao83 t322.length co83)) w.heap.size (fun k_=>((P0_1_ k_ ∨ P0_2_ k_ ∨ P0_3_ k_) ∨ w.heap.size≤k_)∧some k_ ≠ (.slice Ao68 t297.length co68:Value).ownBlock∧some k_ ≠ (.slice Ao67 t305.length co67:Value).ownBlock∧some k_ ≠ (.slice Ao84 t314.length co84:Value).ownBlock∧some k_ ≠ (.slice Ao83 t322.length co83:Value).ownBlock∧k_ ≠ gb267∧k_ ≠ gb268∧k_ ≠ gb269∧k_ ≠ gb308∧k_ ≠ gb325) (.slice A0_3 l0_3.length c0_3) l0_3):=⟨by (with_reducible repeat (first|apply Kd.V_alloc|apply Kd.V_drewN|apply Kd.V_drew));exact Kd.V_mono (Kd.V_far (p:=⟨gb325,3,none⟩) (Kd.V_far (p:=⟨gb325,2,none⟩) (Kd.V_far (p:=⟨gb325,1,none⟩) (Kd.V_far (p:=⟨gb325,0,none⟩) (Kd.V_mono HO_268003.out (fun k_ hk=>(⟨hk,hk.2.2.2.2.2.2.2.2.2⟩:_∧k_ ≠ gb325))) (fun _ hk=>hk.2) (.bool false)) (fun _ hk=>hk.2) (.slice none 0 0)) (fun _ hk=>hk.2) (.slice Ao84 t314.length co84)) (fun _ hk=>hk.2) (.slice Ao83 t322.length co83)) (fun _ hk=>⟨hk.1.1,⟨hk.1.2.1,⟨hk.1.2.2.1,⟨hk.1.2.2.2.1,⟨hk.1.2.2.2.2.1,⟨hk.1.2.2.2.2.2.1,⟨hk.1.2.2.2.2.2.2.1,⟨hk.1.2.2.2.2.2.2.2.1,⟨hk.1.2.2.2.2.2.2.2.2.1,hk.1.2.2.2.2.2.2.2.2.2⟩⟩⟩⟩⟩⟩⟩⟩⟩)⟩
             have n3_:Aside0 (Kd.V Kd.string 9 ((((w82.setCell ⟨gb325,0,none⟩ (.bool false)).setCell ⟨gb325,1,none⟩ (.slice none 0 0)).setCell ⟨gb325,2,none⟩ (.slice Ao84 t314.length co84)).setCell ⟨gb325,3,none⟩ (.slice Ao83 t322.length co83)) w.heap.size (fun k_=>((P0_1_ k_ ∨ P0_2_ k_ ∨ P0_3_ k_) ∨ w.heap.size≤k_)∧some k_ ≠ (.slice Ao68 t297.length co68:Value).ownBlock∧some k_ ≠ (.slice Ao67 t305.length co67:Value).ownBlock∧some k_ ≠ (.slice Ao84 t314.length co84:Value).ownBlock∧some k_ ≠ (.slice Ao83 t322.length co83:Value).ownBlock∧k_ ≠ gb267∧k_ ≠ gb268∧k_ ≠ gb269∧k_ ≠ gb308∧k_ ≠ gb325) (.slice A0_2 y292.length c0_2) y292):=⟨by (with_reducible repeat (first|apply Kd.V_alloc|apply Kd.V_drewN|apply Kd.V_drew));exact Kd.V_mono (Kd.V_far (p:=⟨gb325,3,none⟩) (Kd.V_far (p:=⟨gb325,2,none⟩) (Kd.V_far (p:=⟨gb325,1,none⟩) (Kd.V_far (p:=⟨gb325,0,none⟩) (Kd.V_mono HO296.out (fun k_ hk=>(⟨hk,hk.2.2.2.2.2.2.2.2.2⟩:_∧k_ ≠ gb325))) (fun _ hk=>hk.2) (.bool false)) (fun _ hk=>hk.2) (.slice none 0 0)) (fun _ hk=>hk.2) (.slice Ao84 t314.length co84)) (fun _ hk=>hk.2) (.slice Ao83 t322.length co83)) (fun _ hk=>⟨hk.1.1,⟨hk.1.2.1,⟨hk.1.2.2.1,⟨hk.1.2.2.2.1,⟨hk.1.2.2.2.2.1,⟨hk.1.2.2.2.2.2.1,⟨hk.1.2.2.2.2.2.2.1,⟨hk.1.2.2.2.2.2.2.2.1,⟨hk.1.2.2.2.2.2.2.2.2.1,hk.1.2.2.2.2.2.2.2.2.2⟩⟩⟩⟩⟩⟩⟩⟩⟩)⟩
             have n4_:Aside0 (Kd.V (Kd.int .i64) 3 ((((w82.setCell ⟨gb325,0,none⟩ (.bool false)).setCell ⟨gb325,1,none⟩ (.slice none 0 0)).setCell ⟨gb325,2,none⟩ (.slice Ao84 t314.length co84)).setCell ⟨gb325,3,none⟩ (.slice Ao83 t322.length co83)) w.heap.size (fun k_=>((P0_1_ k_ ∨ P0_2_ k_ ∨ P0_3_ k_) ∨ w.heap.size≤k_)∧some k_ ≠ (.slice Ao68 t297.length co68:Value).ownBlock∧some k_ ≠ (.slice Ao67 t305.length co67:Value).ownBlock∧some k_ ≠ (.slice Ao84 t314.length co84:Value).ownBlock∧some k_ ≠ (.slice Ao83 t322.length co83:Value).ownBlock∧k_ ≠ gb267∧k_ ≠ gb268∧k_ ≠ gb269∧k_ ≠ gb308∧k_ ≠ gb325) (.slice A0_3 y300.length c0_3) y300):=⟨by (with_reducible repeat (first|apply Kd.V_alloc|apply Kd.V_drewN|apply Kd.V_drew));exact Kd.V_mono (Kd.V_far (p:=⟨gb325,3,none⟩) (Kd.V_far (p:=⟨gb325,2,none⟩) (Kd.V_far (p:=⟨gb325,1,none⟩) (Kd.V_far (p:=⟨gb325,0,none⟩) (Kd.V_mono HO304.out (fun k_ hk=>(⟨hk,hk.2.2.2.2.2.2.2.2.2⟩:_∧k_ ≠ gb325))) (fun _ hk=>hk.2) (.bool false)) (fun _ hk=>hk.2) (.slice none 0 0)) (fun _ hk=>hk.2) (.slice Ao84 t314.length co84)) (fun _ hk=>hk.2) (.slice Ao83 t322.length co83)) (fun _ hk=>⟨hk.1.1,⟨hk.1.2.1,⟨hk.1.2.2.1,⟨hk.1.2.2.2.1,⟨hk.1.2.2.2.2.1,⟨hk.1.2.2.2.2.2.1,⟨hk.1.2.2.2.2.2.2.1,⟨hk.1.2.2.2.2.2.2.2.1,⟨hk.1.2.2.2.2.2.2.2.2.1,hk.1.2.2.2.2.2.2.2.2.2⟩⟩⟩⟩⟩⟩⟩⟩⟩)⟩
             have n5_:Aside0 (Kd.R Kd.string 9 ((((w82.setCell ⟨gb325,0,none⟩ (.bool false)).setCell ⟨gb325,1,none⟩ (.slice none 0 0)).setCell ⟨gb325,2,none⟩ (.slice Ao84 t314.length co84)).setCell ⟨gb325,3,none⟩ (.slice Ao83 t322.length co83)) w.heap.size (fun k_=>(w.heap.size≤k_)∧some k_ ≠ (.slice Ao84 t314.length co84:Value).ownBlock) (.slice Ao68 t297.length co68) t297):=⟨by (with_reducible repeat (first|apply zk1|apply zk2|apply zk3));exact Kd.R_mono (Kd.R_far (p:=⟨gb325,3,none⟩) (Kd.R_far (p:=⟨gb325,2,none⟩) (Kd.R_far (p:=⟨gb325,1,none⟩) (Kd.R_far (p:=⟨gb325,0,none⟩) (Kd.R_types HO299.out BK325.out (by decide)) (fun _ hk=>hk.2) (.bool false)) (fun _ hk=>hk.2) (.slice none 0 0)) (fun _ hk=>hk.2) (.slice Ao84 t314.length co84)) (fun _ hk=>hk.2) (.slice Ao83 t322.length co83)) (fun _ hk=>⟨hk.1.1,hk.1.2⟩)⟩
             have n6_:Aside0 (Kd.R (Kd.int .i64) 3 ((((w82.setCell ⟨gb325,0,none⟩ (.bool false)).setCell ⟨gb325,1,none⟩ (.slice none 0 0)).setCell ⟨gb325,2,none⟩ (.slice Ao84 t314.length co84)).setCell ⟨gb325,3,none⟩ (.slice Ao83 t322.length co83)) w.heap.size (fun k_=>(w.heap.size≤k_)∧some k_ ≠ (.slice Ao83 t322.length co83:Value).ownBlock) (.slice Ao67 t305.length co67) t305):=⟨by (with_reducible repeat (first|apply zk1|apply zk2|apply zk3));exact Kd.R_mono (Kd.R_far (p:=⟨gb325,3,none⟩) (Kd.R_far (p:=⟨gb325,2,none⟩) (Kd.R_far (p:=⟨gb325,1,none⟩) (Kd.R_far (p:=⟨gb325,0,none⟩) (Kd.R_types HO307.out BK325.out (by decide)) (fun _ hk=>hk.2) (.bool false)) (fun _ hk=>hk.2) (.slice none 0 0)) (fun _ hk=>hk.2) (.slice Ao84 t314.length co84)) (fun _ hk=>hk.2) (.slice Ao83 t322.length co83)) (fun _ hk=>⟨hk.1.1,hk.1.2⟩)⟩
             have n7_:Aside0 (Kd.V Kd.string 9 ((((w82.setCell ⟨gb325,0,none⟩ (.bool false)).setCell ⟨gb325,1,none⟩ (.slice none 0 0)).setCell ⟨gb325,2,none⟩ (.slice Ao84 t314.length co84)).setCell ⟨gb325,3,none⟩ (.slice Ao83 t322.length co83)) w.heap.size (fun k_=>((P0_1_ k_ ∨ P0_2_ k_ ∨ P0_3_ k_) ∨ w.heap.size≤k_)∧some k_ ≠ (.slice Ao68 t297.length co68:Value).ownBlock∧some k_ ≠ (.slice Ao67 t305.length co67:Value).ownBlock∧some k_ ≠ (.slice Ao84 t314.length co84:Value).ownBlock∧some k_ ≠ (.slice Ao83 t322.length co83:Value).ownBlock∧k_ ≠ gb267∧k_ ≠ gb268∧k_ ≠ gb269∧k_ ≠ gb308∧k_ ≠ gb325) (.slice A75 y309.length c75) y309):=⟨by (with_reducible repeat (first|apply Kd.V_alloc|apply Kd.V_drewN|apply Kd.V_drew));exact Kd.V_mono (Kd.V_far (p:=⟨gb325,3,none⟩) (Kd.V_far (p:=⟨gb325,2,none⟩) (Kd.V_far (p:=⟨gb325,1,none⟩) (Kd.V_far (p:=⟨gb325,0,none⟩) (Kd.V_mono HO313.out (fun k_ hk=>(⟨hk,hk.2.2.2.2.2.2.2.2.2⟩:_∧k_ ≠ gb325))) (fun _ hk=>hk.2) (.bool false)) (fun _ hk=>hk.2) (.slice none 0 0)) (fun _ hk=>hk.2) (.slice Ao84 t314.length co84)) (fun _ hk=>hk.2) (.slice Ao83 t322.length co83)) (fun _ hk=>⟨hk.1.1,⟨hk.1.2.1,⟨hk.1.2.2.1,⟨hk.1.2.2.2.1,⟨hk.1.2.2.2.2.1,⟨hk.1.2.2.2.2.2.1,⟨hk.1.2.2.2.2.2.2.1,⟨hk.1.2.2.2.2.2.2.2.1,⟨hk.1.2.2.2.2.2.2.2.2.1,hk.1.2.2.2.2.2.2.2.2.2⟩⟩⟩⟩⟩⟩⟩⟩⟩)⟩
             have n8_:Aside0 (Kd.V (Kd.int .i64) 3 ((((w82.setCell ⟨gb325,0,none⟩ (.bool false)).setCell ⟨gb325,1,none⟩ (.slice none 0 0)).setCell ⟨gb325,2,none⟩ (.slice Ao84 t314.length co84)).setCell ⟨gb325,3,none⟩ (.slice Ao83 t322.length co83)) w.heap.size (fun k_=>((P0_1_ k_ ∨ P0_2_ k_ ∨ P0_3_ k_) ∨ w.heap.size≤k_)∧some k_ ≠ (.slice Ao68 t297.length co68:Value).ownBlock∧some k_ ≠ (.slice Ao67 t305.length co67:Value).ownBlock∧some k_ ≠ (.slice Ao84 t314.length co84:Value).ownBlock∧some k_ ≠ (.slice Ao83 t322.length co83:Value).ownBlock∧k_ ≠ gb267∧k_ ≠ gb268∧k_ ≠ gb269∧k_ ≠ gb308∧k_ ≠ gb325) (.slice A76 y317.length c76) y317):=⟨by (with_reducible repeat (first|apply Kd.V_alloc|apply Kd.V_drewN|apply Kd.V_drew));exact Kd.V_mono (Kd.V_far (p:=⟨gb325,3,none⟩) (Kd.V_far (p:=⟨gb325,2,none⟩) (Kd.V_far (p:=⟨gb325,1,none⟩) (Kd.V_far (p:=⟨gb325,0,none⟩) (Kd.V_mono HO321.out (fun k_ hk=>(⟨hk,hk.2.2.2.2.2.2.2.2.2⟩:_∧k_ ≠ gb325))) (fun _ hk=>hk.2) (.bool false)) (fun _ hk=>hk.2) (.slice none 0 0)) (fun _ hk=>hk.2) (.slice Ao84 t314.length co84)) (fun _ hk=>hk.2) (.slice Ao83 t322.length co83)) (fun _ hk=>⟨hk.1.1,⟨hk.1.2.1,⟨hk.1.2.2.1,⟨hk.1.2.2.2.1,⟨hk.1.2.2.2.2.1,⟨hk.1.2.2.2.2.2.1,⟨hk.1.2.2.2.2.2.2.1,⟨hk.1.2.2.2.2.2.2.2.1,⟨hk.1.2.2.2.2.2.2.2.2.1,hk.1.2.2.2.2.2.2.2.2.2⟩⟩⟩⟩⟩⟩⟩⟩⟩)⟩
             have n9_:Aside0 (Kd.R Kd.string 9 ((((w82.setCell ⟨gb325,0,none⟩ (.bool false)).setCell ⟨gb325,1,none⟩ (.slice none 0 0)).setCell ⟨gb325,2,none⟩ (.slice Ao84 t314.length co84)).setCell ⟨gb325,3,none⟩ (.slice Ao83 t322.length co83)) w.heap.size (fun k_=>(w.heap.size≤k_)∧some k_ ≠ (.slice Ao68 t297.length co68:Value).ownBlock) (.slice Ao84 t314.length co84) t314):=⟨by (with_reducible repeat (first|apply zk1|apply zk2|apply zk3));exact Kd.R_mono (Kd.R_far (p:=⟨gb325,3,none⟩) (Kd.R_far (p:=⟨gb325,2,none⟩) (Kd.R_far (p:=⟨gb325,1,none⟩) (Kd.R_far (p:=⟨gb325,0,none⟩) (Kd.R_types HO316.out BK325.out (by decide)) (fun _ hk=>hk.2) (.bool false)) (fun _ hk=>hk.2) (.slice none 0 0)) (fun _ hk=>hk.2) (.slice Ao84 t314.length co84)) (fun _ hk=>hk.2) (.slice Ao83 t322.length co83)) (fun _ hk=>⟨hk.1.1,hk.1.2⟩)⟩
             have n10_:Aside0 (Kd.R (Kd.int .i64) 3 ((((w82.setCell ⟨gb325,0,none⟩ (.bool false)).setCell ⟨gb325,1,none⟩ (.slice none 0 0)).setCell ⟨gb325,2,none⟩ (.slice Ao84 t314.length co84)).setCell ⟨gb325,3,none⟩ (.slice Ao83 t322.length co83)) w.heap.size (fun k_=>(w.heap.size≤k_)∧some k_ ≠ (.slice Ao67 t305.length co67:Value).ownBlock) (.slice Ao83 t322.length co83) t322):=⟨by (with_reducible repeat (first|apply zk1|apply zk2|apply zk3));exact Kd.R_mono (Kd.R_far (p:=⟨gb325,3,none⟩) (Kd.R_far (p:=⟨gb325,2,none⟩) (Kd.R_far (p:=⟨gb325,1,none⟩) (Kd.R_far (p:=⟨gb325,0,none⟩) (Kd.R_types HO324.out BK325.out (by decide)) (fun _ hk=>hk.2) (.bool false)) (fun _ hk=>hk.2) (.slice none 0 0)) (fun _ hk=>hk.2) (.slice Ao84 t314.length co84)) (fun _ hk=>hk.2) (.slice Ao83 t322.length co83)) (fun _ hk=>⟨hk.1.1,hk.1.2⟩)⟩
             have n11_:Aside0 (((((w82.setCell ⟨gb325,0,none⟩ (.bool false)).setCell ⟨gb325,1,none⟩ (.slice none 0 0)).setCell ⟨gb325,2,none⟩ (.slice Ao84 t314.length co84)).setCell ⟨gb325,3,none⟩ (.slice Ao83 t322.length co83)).heap[gb267]?=some (.cells #[.bool a0_0,.slice A0_1 l0_1.length c0_1,.slice A0_2 l0_2.length c0_2,.slice A0_3 l0_3.length c0_3] 26 (0,0))):=⟨by (repeat (first|(with_reducible first|apply zb1|apply zb2|apply zb3|exact BK267.out)|refine blk_far ?_ NB267_325.out _))⟩
             have n12_:Aside0 (((((w82.setCell ⟨gb325,0,none⟩ (.bool false)).setCell ⟨gb325,1,none⟩ (.slice none 0 0)).setCell ⟨gb325,2,none⟩ (.slice Ao84 t314.length co84)).setCell ⟨gb325,3,none⟩ (.slice Ao83 t322.length co83)).heap[gb268]?=some (.cells #[.bool false,.slice none 0 0,.slice none 0 0,.slice none 0 0] 26 (0,0))):=⟨by (repeat (first|(with_reducible first|apply zb1|apply zb2|apply zb3|exact BK268.out)|refine blk_far ?_ NB268_325.out _))⟩
             have n13_:Aside0 (((((w82.setCell ⟨gb325,0,none⟩ (.bool false)).setCell ⟨gb325,1,none⟩ (.slice none 0 0)).setCell ⟨gb325,2,none⟩ (.slice Ao84 t314.length co84)).setCell ⟨gb325,3,none⟩ (.slice Ao83 t322.length co83)).heap[gb269]?=some (.cells #[.bool false,.slice none 0 0,.slice none 0 0,.slice none 0 0] 26 (0,0))):=⟨by (repeat (first|(with_reducible first|apply zb1|apply zb2|apply zb3|exact BK269.out)|refine blk_far ?_ NB269_325.out _))⟩
             have n14_:Aside0 (((((w82.setCell ⟨gb325,0,none⟩ (.bool false)).setCell ⟨gb325,1,none⟩ (.slice none 0 0)).setCell ⟨gb325,2,none⟩ (.slice Ao84 t314.length co84)).setCell ⟨gb325,3,none⟩ (.slice Ao83 t322.length co83)).heap[gb308]?=some (.cells #[.bool false,.slice none 0 0,.slice Ao68 t297.length co68,.slice Ao67 t305.length co67] 26 (0,0))):=⟨by (repeat (first|(with_reducible first|apply zb1|apply zb2|apply zb3|exact BK308.out)|refine blk_far ?_ NB308_325.out _))⟩
             have n15_:Aside0 (((((w82.setCell ⟨gb325,0,none⟩ (.bool false)).setCell ⟨gb325,1,none⟩ (.slice none 0 0)).setCell ⟨gb325,2,none⟩ (.slice Ao84 t314.length co84)).setCell ⟨gb325,3,none⟩ (.slice Ao83 t322.length co83)).heap[gb325]?=some (.cells #[.bool false,.slice none 0 0,.slice Ao84 t314.length co84,.slice Ao83 t322.length co83] 26 (0,0))):=⟨by apply zpe;(repeat (first|(with_reducible first|apply zb1|apply zb2|apply zb3|apply zpi|exact BK325.out)));rfl⟩
             have n16_:Aside0 (Below w.heap.size w ((((w82.setCell ⟨gb325,0,none⟩ (.bool false)).setCell ⟨gb325,1,none⟩ (.slice none 0 0)).setCell ⟨gb325,2,none⟩ (.slice Ao84 t314.length co84)).setCell ⟨gb325,3,none⟩ (.slice Ao83 t322.length co83))):=⟨by repeat (first|(with_reducible first|exact HB.out|apply zl1|apply zl2|apply zl3|refine below_set ?_ GE267.out|refine below_set ?_ GE268.out|refine below_set ?_ GE269.out|refine below_set ?_ GE308.out|refine below_set ?_ GE325.out)|exact HB.out)⟩
             (try clear HO_268001)
             (try clear HO_268002)
             (try clear HO_268003)
             (try clear HO296)
             (try clear HO304)
             (try clear HO299)
             (try clear HO307)
             (try clear HO313)
             (try clear HO321)
             (try clear HO316)
             (try clear HO324)
             (try clear BK267)
             (try clear BK268)
             (try clear BK269)
             (try clear BK308)
             (try clear BK325)
             (try clear HB)
             generalize ((((w82.setCell ⟨gb325,0,none⟩ (.bool false)).setCell ⟨gb325,1,none⟩ (.slice none 0 0)).setCell ⟨gb325,2,none⟩ (.slice Ao84 t314.length co84)).setCell ⟨gb325,3,none⟩ (.slice Ao83 t322.length co83))=w89 at n0_ n1_ n2_ n3_ n4_ n5_ n6_ n7_ n8_ n9_ n10_ n11_ n12_ n13_ n14_ n15_ n16_ ⊢
             have HO_268001:=n0_
             have HO_268002:=n1_
             have HO_268003:=n2_
             have HO296:=n3_
             have HO304:=n4_
             have HO299:=n5_
             have HO307:=n6_
             have HO313:=n7_
             have HO321:=n8_
             have HO316:=n9_
             have HO324:=n10_
             have BK267:=n11_
             have BK268:=n12_
             have BK269:=n13_
             have BK308:=n14_
             have BK325:=n15_
             have HB:=n16_
             clear n0_ n1_ n2_ n3_ n4_ n5_ n6_ n7_ n8_ n9_ n10_ n11_ n12_ n13_ n14_ n15_ n16_
             replace HO_268001:=Aside0.mk (Kd.V_drew HO_268001.out)
             replace HO_268002:=Aside0.mk (Kd.V_drew HO_268002.out)
             replace HO_268003:=Aside0.mk (Kd.V_drew HO_268003.out)
             replace HO296:=Aside0.mk (Kd.V_drew HO296.out)
             replace HO304:=Aside0.mk (Kd.V_drew HO304.out)
             replace HO299:=Aside0.mk (Kd.R_drew HO299.out)
             replace HO307:=Aside0.mk (Kd.R_drew HO307.out)
             replace HO313:=Aside0.mk (Kd.V_drew HO313.out)
             replace HO321:=Aside0.mk (Kd.V_drew HO321.out)
             replace HO316:=Aside0.mk (Kd.R_drew HO316.out)
             replace HO324:=Aside0.mk (Kd.R_drew HO324.out)
             replace BK267:=Aside0.mk (blk_drew BK267.out)
             replace BK268:=Aside0.mk (blk_drew BK268.out)
             replace BK269:=Aside0.mk (blk_drew BK269.out)
             replace BK308:=Aside0.mk (blk_drew BK308.out)
             replace BK325:=Aside0.mk (blk_drew BK325.out)
             replace HB:=Aside0.mk (below_drew1 HB.out)
             have p326:0≤(t291:Int):=of_decide_eq_true (by first|(with_reducible assumption)|assumption)
             have q326:t291 < (l0_2.length:Int):=of_decide_eq_true (by first|(with_reducible assumption)|assumption)
             obtain ⟨ad326,e326,hx326_0⟩:=Kd.at_string (Kd.V_reads' HO_268002.out).2.2 t291 p326 q326
             cases e326
             replace p326:=eq_true p326
             replace q326:=eq_true q326
             refine start_ (n:=10) (S:=fun w'=>w'.cell? ⟨gb308,0,none⟩=some (.bool false)∧w'.cell? ⟨gb308,1,none⟩=some (.slice none 0 0)∧w'.cell? ⟨gb308,2,none⟩=some (.slice Ao68 t297.length co68)∧w'.cell? ⟨gb308,3,none⟩=some (.slice Ao67 t305.length co67)∧w'.cell? ⟨gb325,0,none⟩=some (.bool false)∧w'.cell? ⟨gb325,1,none⟩=some (.slice none 0 0)∧w'.cell? ⟨gb325,2,none⟩=some (.slice Ao84 t314.length co84)∧w'.cell? ⟨gb325,3,none⟩=some (.slice Ao83 t322.length co83)∧w'.cell? ⟨gb267,0,none⟩=some (.bool a0_0)∧w'.cell? ⟨gb267,1,none⟩=some (.slice A0_1 l0_1.length c0_1)∧w'.cell? ⟨gb267,2,none⟩=some (.slice (some ad326) l0_2.length c0_2)∧w'.cell? ⟨gb267,3,none⟩=some (.slice A0_3 l0_3.length c0_3)∧w'.cell? (ad326.add (t291).toNat)=some (.string (rdOf ByteArray.empty l0_2 t291))) (ds:=[]) #[false,false,false,false,false,false,false,false,false,false] (by kernel_rfl) rfl rfl ⟨(blk_cell BK308.out 0).trans rfl,(blk_cell BK308.out 1).trans rfl,(blk_cell BK308.out 2).trans rfl,(blk_cell BK308.out 3).trans rfl,(blk_cell BK325.out 0).trans rfl,(blk_cell BK325.out 1).trans rfl,(blk_cell BK325.out 2).trans rfl,(blk_cell BK325.out 3).trans rfl,(blk_cell BK267.out 0).trans rfl,(blk_cell BK267.out 1).trans rfl,(blk_cell BK267.out 2).trans rfl,(blk_cell BK267.out 3).trans rfl,hx326_0⟩ (fun hHeld=>?_);refine with_tabW node_Split.tab7 node_Split.bits7 (fun HT_ HW_=>?_)
             generalize w89.drew=w90 at HO_268001 HO_268002 HO_268003 HO296 HO304 HO299 HO307 HO313 HO321 HO316 HO324 BK267 BK268 BK269 BK308 BK325 HB hx326_0 hHeld ⊢
             refine pure_ (i:=2) (N:=some 73) (v:=?_) (a':=?_) #[false,false,true,false,false,false,false,false,false,false] rfl rfl (any_of HT_.out (by kernel_rfl)) (fun _ _ _ h=>h) (Or.inl ⟨by rfl,?_⟩) ?_ ?_
             rotate_left
             ·intro w'
              go_simp
              with_reducible rfl
             rotate_left
             ·simp only [Act.put,List.setIfInBounds_toArray,List.set_cons_zero,List.set_cons_succ,i64_w,i32_w]
              rfl
             refine pure_ (i:=4) (N:=some 75) (v:=?_) (a':=?_) #[false,false,true,false,true,false,false,false,false,false] rfl rfl (any_of HT_.out (by kernel_rfl)) (fun _ _ _ h=>h) (Or.inl ⟨by rfl,?_⟩) ?_ ?_
             rotate_left
             ·intro w'
              go_simp
              with_reducible rfl
             rotate_left
             ·simp only [Act.put,List.setIfInBounds_toArray,List.set_cons_zero,List.set_cons_succ,i64_w,i32_w]
              rfl
             refine take_ (i:=0) (N:=some 71) (v:=?_) (a':=?_) #[true,false,true,false,true,false,false,false,false,false] rfl rfl (take_ofW HT_.out HW_.out (by kernel_rfl)) (fun _ _ _ h=>h) (Or.inl ⟨by rfl,?_⟩) hHeld ?_ ?_
             rotate_left
             ·rintro w' ⟨s0,s1,s2,s3,s4,s5,s6,s7,s8,s9,s10,s11,s12⟩
              go_simp
              with_reducible rfl
             rotate_left
             ·simp only [Act.put,List.setIfInBounds_toArray,List.set_cons_zero,List.set_cons_succ,i64_w,i32_w]
              rfl
             refine take_ (i:=1) (N:=some 72) (v:=?_) (a':=?_) #[true,true,true,false,true,false,false,false,false,false] rfl rfl (take_ofW HT_.out HW_.out (by kernel_rfl)) (fun _ _ _ h=>h) (Or.inl ⟨by rfl,?_⟩) hHeld ?_ ?_
             rotate_left
             ·rintro w' ⟨s0,s1,s2,s3,s4,s5,s6,s7,s8,s9,s10,s11,s12⟩
              go_simp
              with_reducible rfl
             rotate_left
             ·simp only [Act.put,List.setIfInBounds_toArray,List.set_cons_zero,List.set_cons_succ,i64_w,i32_w]
              rfl
             refine take_ (i:=3) (N:=some 74) (v:=?_) (a':=?_) #[true,true,true,true,true,false,false,false,false,false] rfl rfl (take_ofW HT_.out HW_.out (by kernel_rfl)) (fun _ _ _ h=>h) (Or.inl ⟨by rfl,?_⟩) hHeld ?_ ?_
             rotate_left
             ·rintro w' ⟨s0,s1,s2,s3,s4,s5,s6,s7,s8,s9,s10,s11,s12⟩
              go_simp
              with_reducible rfl
             rotate_left
             ·simp only [Act.put,List.setIfInBounds_toArray,List.set_cons_zero,List.set_cons_succ,i64_w,i32_w]
              rfl
             refine pure_ (i:=5) (N:=some 76) (v:=?_) (a':=?_) #[true,true,true,true,true,true,false,false,false,false] rfl rfl (any_of HT_.out (by kernel_rfl)) (fun _ _ _ h=>h) (Or.inl ⟨by rfl,?_⟩) ?_ ?_
             rotate_left
             ·intro w'
              go_simp
              with_reducible rfl
             rotate_left
             ·simp only [Act.put,List.setIfInBounds_toArray,List.set_cons_zero,List.set_cons_succ,i64_w,i32_w]
              rfl
             refine take_ (i:=6) (N:=some 77) (v:=?_) (a':=?_) #[true,true,true,true,true,true,true,false,false,false] rfl rfl (take_ofW HT_.out HW_.out (by kernel_rfl)) (fun _ _ _ h=>h) (Or.inl ⟨by rfl,?_⟩) hHeld ?_ ?_
             rotate_left
             ·rintro w' ⟨s0,s1,s2,s3,s4,s5,s6,s7,s8,s9,s10,s11,s12⟩
              go_simp
              with_reducible rfl
             rotate_left
             ·simp only [Act.put,List.setIfInBounds_toArray,List.set_cons_zero,List.set_cons_succ,i64_w,i32_w]
              rfl
             refine one_ (i:=7) (N:=none) #[true,true,true,true,true,true,true,true,false,false] rfl rfl (one_of HT_.out (by kernel_rfl)) (by decide) (fun K hK=>?_)
             have hs91:w90.cell? ⟨gb268,0,none⟩=some (.bool false):=(blk_cell BK268.out 0).trans rfl
             have hfs91:=blk_frozen BK268.out 0
             have hns91_0:=NB267_268.out
             have hns91_2:=NB269_268.out
             have hns91_3:=NB308_268.out
             have hns91_4:=NB325_268.out
             have hms91_0:=NB268_267.out
             have hms91_2:=NB268_269.out
             have hms91_3:=NB268_308.out
             have hms91_4:=NB268_325.out
             have hs92:w90.cell? ⟨gb268,1,none⟩=some (.slice none 0 0):=(blk_cell BK268.out 1).trans rfl
             have hfs92:=blk_frozen BK268.out 1
             have hns92_0:=NB267_268.out
             have hns92_2:=NB269_268.out
             have hns92_3:=NB308_268.out
             have hns92_4:=NB325_268.out
             have hms92_0:=NB268_267.out
             have hms92_2:=NB268_269.out
             have hms92_3:=NB268_308.out
             have hms92_4:=NB268_325.out
             have hs93:w90.cell? ⟨gb268,2,none⟩=some (.slice none 0 0):=(blk_cell BK268.out 2).trans rfl
             have hfs93:=blk_frozen BK268.out 2
             have hns93_0:=NB267_268.out
             have hns93_2:=NB269_268.out
             have hns93_3:=NB308_268.out
             have hns93_4:=NB325_268.out
             have hms93_0:=NB268_267.out
             have hms93_2:=NB268_269.out
             have hms93_3:=NB268_308.out
             have hms93_4:=NB268_325.out
             have hs94:w90.cell? ⟨gb268,3,none⟩=some (.slice none 0 0):=(blk_cell BK268.out 3).trans rfl
             have hfs94:=blk_frozen BK268.out 3
             have hns94_0:=NB267_268.out
             have hns94_2:=NB269_268.out
             have hns94_3:=NB308_268.out
             have hns94_4:=NB325_268.out
             have hms94_0:=NB268_267.out
             have hms94_2:=NB268_269.out
             have hms94_3:=NB268_308.out
             have hms94_4:=NB268_325.out
             refine skip_ (w1:=?_) (by rfl) rfl ?_ ?_
             rotate_left
             ·go_simp
              rfl
             refine hK.out _ _ ⟨((far4 (g:=gb268) NB308_268.out).trans (hHeld.1)),((far4 (g:=gb268) NB308_268.out).trans (hHeld.2.1)),((far4 (g:=gb268) NB308_268.out).trans (hHeld.2.2.1)),((far4 (g:=gb268) NB308_268.out).trans (hHeld.2.2.2.1)),((far4 (g:=gb268) NB325_268.out).trans (hHeld.2.2.2.2.1)),((far4 (g:=gb268) NB325_268.out).trans (hHeld.2.2.2.2.2.1)),((far4 (g:=gb268) NB325_268.out).trans (hHeld.2.2.2.2.2.2.1)),((far4 (g:=gb268) NB325_268.out).trans (hHeld.2.2.2.2.2.2.2.1)),((far4 (g:=gb268) NB267_268.out).trans (hHeld.2.2.2.2.2.2.2.2.1)),((far4 (g:=gb268) NB267_268.out).trans (hHeld.2.2.2.2.2.2.2.2.2.1)),((far4 (g:=gb268) NB267_268.out).trans (hHeld.2.2.2.2.2.2.2.2.2.2.1)),((far4 (g:=gb268) NB267_268.out).trans (hHeld.2.2.2.2.2.2.2.2.2.2.2.1)),((far4 (g:=gb268) (by first|exact Kd.own_blk (Kd.V_away (of_eq_true p326) (of_eq_true q326) HO_268002.out (fun _ hk=>hk.2.2.2.2.2.2.1))|(rw [add_block];exact Kd.own_blk (Kd.V_away (of_eq_true p326) (of_eq_true q326) HO_268002.out (fun _ hk=>hk.2.2.2.2.2.2.1)))|(show (Addr.add _ _).block ≠ _;rw [add_block];exact Kd.own_blk (Kd.V_away (of_eq_true p326) (of_eq_true q326) HO_268002.out (fun _ hk=>hk.2.2.2.2.2.2.1)))|(dsimp only;exact Kd.own_blk (Kd.V_away (of_eq_true p326) (of_eq_true q326) HO_268002.out (fun _ hk=>hk.2.2.2.2.2.2.1))))).trans (hHeld.2.2.2.2.2.2.2.2.2.2.2.2))⟩ (fun hHeld=>?_)
             clear hK K
             refine one_ (i:=8) (N:=none) #[true,true,true,true,true,true,true,true,true,false] rfl rfl (one_of HT_.out (by kernel_rfl)) (by decide) (fun K hK=>?_)
             have hs95:w90.cell? ⟨gb269,0,none⟩=some (.bool false):=(blk_cell BK269.out 0).trans rfl
             have hfs95:=blk_frozen BK269.out 0
             have hns95_0:=NB267_269.out
             have hns95_1:=NB268_269.out
             have hns95_3:=NB308_269.out
             have hns95_4:=NB325_269.out
             have hms95_0:=NB269_267.out
             have hms95_1:=NB269_268.out
             have hms95_3:=NB269_308.out
             have hms95_4:=NB269_325.out
             have hs96:w90.cell? ⟨gb269,1,none⟩=some (.slice none 0 0):=(blk_cell BK269.out 1).trans rfl
             have hfs96:=blk_frozen BK269.out 1
             have hns96_0:=NB267_269.out
             have hns96_1:=NB268_269.out
             have hns96_3:=NB308_269.out
             have hns96_4:=NB325_269.out
             have hms96_0:=NB269_267.out
             have hms96_1:=NB269_268.out
             have hms96_3:=NB269_308.out
             have hms96_4:=NB269_325.out
             have hs97:w90.cell? ⟨gb269,2,none⟩=some (.slice none 0 0):=(blk_cell BK269.out 2).trans rfl
             have hfs97:=blk_frozen BK269.out 2
             have hns97_0:=NB267_269.out
             have hns97_1:=NB268_269.out
             have hns97_3:=NB308_269.out
             have hns97_4:=NB325_269.out
             have hms97_0:=NB269_267.out
             have hms97_1:=NB269_268.out
             have hms97_3:=NB269_308.out
             have hms97_4:=NB269_325.out
             have hs98:w90.cell? ⟨gb269,3,none⟩=some (.slice none 0 0):=(blk_cell BK269.out 3).trans rfl
             have hfs98:=blk_frozen BK269.out 3
             have hns98_0:=NB267_269.out
             have hns98_1:=NB268_269.out
             have hns98_3:=NB308_269.out
             have hns98_4:=NB325_269.out
             have hms98_0:=NB269_267.out
             have hms98_1:=NB269_268.out
             have hms98_3:=NB269_308.out
             have hms98_4:=NB269_325.out
             refine skip_ (w1:=?_) (by rfl) rfl ?_ ?_
             rotate_left
             ·go_simp
              rfl
             refine hK.out _ _ ⟨((far4 (g:=gb269) NB308_269.out).trans (hHeld.1)),((far4 (g:=gb269) NB308_269.out).trans (hHeld.2.1)),((far4 (g:=gb269) NB308_269.out).trans (hHeld.2.2.1)),((far4 (g:=gb269) NB308_269.out).trans (hHeld.2.2.2.1)),((far4 (g:=gb269) NB325_269.out).trans (hHeld.2.2.2.2.1)),((far4 (g:=gb269) NB325_269.out).trans (hHeld.2.2.2.2.2.1)),((far4 (g:=gb269) NB325_269.out).trans (hHeld.2.2.2.2.2.2.1)),((far4 (g:=gb269) NB325_269.out).trans (hHeld.2.2.2.2.2.2.2.1)),((far4 (g:=gb269) NB267_269.out).trans (hHeld.2.2.2.2.2.2.2.2.1)),((far4 (g:=gb269) NB267_269.out).trans (hHeld.2.2.2.2.2.2.2.2.2.1)),((far4 (g:=gb269) NB267_269.out).trans (hHeld.2.2.2.2.2.2.2.2.2.2.1)),((far4 (g:=gb269) NB267_269.out).trans (hHeld.2.2.2.2.2.2.2.2.2.2.2.1)),((far4 (g:=gb269) (by first|exact Kd.own_blk (Kd.V_away (of_eq_true p326) (of_eq_true q326) HO_268002.out (fun _ hk=>hk.2.2.2.2.2.2.2.1))|(rw [add_block];exact Kd.own_blk (Kd.V_away (of_eq_true p326) (of_eq_true q326) HO_268002.out (fun _ hk=>hk.2.2.2.2.2.2.2.1)))|(show (Addr.add _ _).block ≠ _;rw [add_block];exact Kd.own_blk (Kd.V_away (of_eq_true p326) (of_eq_true q326) HO_268002.out (fun _ hk=>hk.2.2.2.2.2.2.2.1)))|(dsimp only;exact Kd.own_blk (Kd.V_away (of_eq_true p326) (of_eq_true q326) HO_268002.out (fun _ hk=>hk.2.2.2.2.2.2.2.1))))).trans (hHeld.2.2.2.2.2.2.2.2.2.2.2.2))⟩ (fun hHeld=>?_)
             clear hK K
             refine pure_ (i:=9) (N:=some 4) (v:=?_) (a':=?_) #[true,true,true,true,true,true,true,true,true,true] rfl rfl (any_of HT_.out (by kernel_rfl)) (fun _ _ _ h=>h) (Or.inl ⟨by rfl,?_⟩) ?_ ?_
             rotate_left
             ·intro w'
              go_simp
              with_reducible rfl
             rotate_left
             ·simp only [Act.put,List.setIfInBounds_toArray,List.set_cons_zero,List.set_cons_succ,i64_w,i32_w]
              rfl
             refine done_ (done_of HT_.out (by kernel_rfl)) ?_
             try go_wp2
             refine bodyPost_ret (results_list (rs:=[.cell 2 26,.cell 3 26,.tmp 4]) rfl (by simp) (.cell gb268 26 #[.bool false,.slice none 0 0,.slice Ao68 t297.length co68,.slice Ao67 t305.length co67] (0,0) _ rfl (by apply zpe;(repeat (first|(with_reducible first|apply zb1|apply zb2|apply zb3|apply zpi|exact BK268.out)|refine blk_far ?_ NB268_269.out _));rfl) Try.underlying26 rfl (by kernel_rfl) (.cell gb269 26 #[.bool false,.slice none 0 0,.slice Ao84 t314.length co84,.slice Ao83 t322.length co83] (0,0) _ rfl (by apply zpe;(repeat (first|(with_reducible first|apply zb1|apply zb2|apply zb3|apply zpi|exact BK269.out)|refine blk_far ?_ NB269_268.out _));rfl) Try.underlying26 rfl (by kernel_rfl) (.tmp .nil)))) rfl ?_
             exact ⟨_,_,_,_,_,_,by first|(with_reducible rfl)|(simp only [isEmpty_bne,Bool.not_not] <;> with_reducible rfl)|(simp [errW_none,errW_some] <;> with_reducible rfl)|(simp only [isEmpty_bne,Bool.not_not] <;> rfl)|rfl|(simp [errW_none,errW_some] <;> rfl)|(simp only [← hji44];first|rfl|(simp [errW_none,errW_some] <;> rfl))|(simp [*,errW_none,errW_some] <;> rfl),Kd.V_nil _ _ _ _ _,(Kd.R_V (by (with_reducible repeat (first|apply zk1|apply zk2|apply zk3));exact Kd.R_mono (Kd.R_far (p:=⟨gb269,3,none⟩) (Kd.R_far (p:=⟨gb269,2,none⟩) (Kd.R_far (p:=⟨gb269,1,none⟩) (Kd.R_far (p:=⟨gb269,0,none⟩) (Kd.R_far (p:=⟨gb268,3,none⟩) (Kd.R_far (p:=⟨gb268,2,none⟩) (Kd.R_far (p:=⟨gb268,1,none⟩) (Kd.R_far (p:=⟨gb268,0,none⟩) (Kd.R_types (Kd.R_types (Kd.R_apart' HO299.out (Kd.R_typed HO324.out) (by decide)) BK268.out (by decide)) BK269.out (by decide)) (fun _ hk=>hk.1.2) (.bool false)) (fun _ hk=>hk.1.2) (.slice none 0 0)) (fun _ hk=>hk.1.2) (.slice Ao68 t297.length co68)) (fun _ hk=>hk.1.2) (.slice Ao67 t305.length co67)) (fun _ hk=>hk.2) (.bool false)) (fun _ hk=>hk.2) (.slice none 0 0)) (fun _ hk=>hk.2) (.slice Ao84 t314.length co84)) (fun _ hk=>hk.2) (.slice Ao83 t322.length co83)) (fun _ hk=>⟨.inr (hk.1.1.1.1),⟨(by simp [Value.ownBlock]),⟨hk.1.1.1.2,hk.1.1.2⟩⟩⟩))),(Kd.R_V (by (with_reducible repeat (first|apply zk1|apply zk2|apply zk3));exact Kd.R_mono (Kd.R_far (p:=⟨gb269,3,none⟩) (Kd.R_far (p:=⟨gb269,2,none⟩) (Kd.R_far (p:=⟨gb269,1,none⟩) (Kd.R_far (p:=⟨gb269,0,none⟩) (Kd.R_far (p:=⟨gb268,3,none⟩) (Kd.R_far (p:=⟨gb268,2,none⟩) (Kd.R_far (p:=⟨gb268,1,none⟩) (Kd.R_far (p:=⟨gb268,0,none⟩) (Kd.R_types (Kd.R_types (Kd.R_apart' HO307.out (Kd.R_typed HO316.out) (by decide)) BK268.out (by decide)) BK269.out (by decide)) (fun _ hk=>hk.1.2) (.bool false)) (fun _ hk=>hk.1.2) (.slice none 0 0)) (fun _ hk=>hk.1.2) (.slice Ao68 t297.length co68)) (fun _ hk=>hk.1.2) (.slice Ao67 t305.length co67)) (fun _ hk=>hk.2) (.bool false)) (fun _ hk=>hk.2) (.slice none 0 0)) (fun _ hk=>hk.2) (.slice Ao84 t314.length co84)) (fun _ hk=>hk.2) (.slice Ao83 t322.length co83)) (fun _ hk=>⟨.inr (hk.1.1.1.1),⟨(by simp [Value.ownBlock]),⟨hk.1.1.2,hk.1.1.1.2⟩⟩⟩))),by first|exact Kd.R_nil _ _ _ _ _|exact Kd.N_nil _ _ _ _ _|exact Kd.V_nil _ _ _ _ _|exact Kd.Q_nil _ _ _ _ _|exact Kd.S_nil _ _ _ _ _,by (with_reducible repeat (first|apply zk1|apply zk2|apply zk3));exact Kd.R_mono (Kd.R_far (p:=⟨gb269,3,none⟩) (Kd.R_far (p:=⟨gb269,2,none⟩) (Kd.R_far (p:=⟨gb269,1,none⟩) (Kd.R_far (p:=⟨gb269,0,none⟩) (Kd.R_far (p:=⟨gb268,3,none⟩) (Kd.R_far (p:=⟨gb268,2,none⟩) (Kd.R_far (p:=⟨gb268,1,none⟩) (Kd.R_far (p:=⟨gb268,0,none⟩) (Kd.R_types (Kd.R_types HO316.out BK268.out (by decide)) BK269.out (by decide)) (fun _ hk=>hk.1.2) (.bool false)) (fun _ hk=>hk.1.2) (.slice none 0 0)) (fun _ hk=>hk.1.2) (.slice Ao68 t297.length co68)) (fun _ hk=>hk.1.2) (.slice Ao67 t305.length co67)) (fun _ hk=>hk.2) (.bool false)) (fun _ hk=>hk.2) (.slice none 0 0)) (fun _ hk=>hk.2) (.slice Ao84 t314.length co84)) (fun _ hk=>hk.2) (.slice Ao83 t322.length co83)) (fun _ hk=>hk.1.1.1),by (with_reducible repeat (first|apply zk1|apply zk2|apply zk3));exact Kd.R_mono (Kd.R_far (p:=⟨gb269,3,none⟩) (Kd.R_far (p:=⟨gb269,2,none⟩) (Kd.R_far (p:=⟨gb269,1,none⟩) (Kd.R_far (p:=⟨gb269,0,none⟩) (Kd.R_far (p:=⟨gb268,3,none⟩) (Kd.R_far (p:=⟨gb268,2,none⟩) (Kd.R_far (p:=⟨gb268,1,none⟩) (Kd.R_far (p:=⟨gb268,0,none⟩) (Kd.R_types (Kd.R_types HO324.out BK268.out (by decide)) BK269.out (by decide)) (fun _ hk=>hk.1.2) (.bool false)) (fun _ hk=>hk.1.2) (.slice none 0 0)) (fun _ hk=>hk.1.2) (.slice Ao68 t297.length co68)) (fun _ hk=>hk.1.2) (.slice Ao67 t305.length co67)) (fun _ hk=>hk.2) (.bool false)) (fun _ hk=>hk.2) (.slice none 0 0)) (fun _ hk=>hk.2) (.slice Ao84 t314.length co84)) (fun _ hk=>hk.2) (.slice Ao83 t322.length co83)) (fun _ hk=>hk.1.1.1),by repeat (first|(with_reducible first|exact HB.out|apply zl1|apply zl2|apply zl3|refine below_set ?_ GE267.out|refine below_set ?_ GE268.out|refine below_set ?_ GE269.out|refine below_set ?_ GE308.out|refine below_set ?_ GE325.out)|exact HB.out)⟩
            ·rw [if_neg c54] at H
             exact absurd H (by simp)
           ·rw [if_neg c49] at H
            exact absurd H (by simp)
          ·rw [if_neg c46] at H
           exact absurd H (by simp)
         ·rw [if_neg c45] at H
          exact absurd H (by simp)
        ·rw [if_neg c42] at H
         exact absurd H (by simp)
       ·rw [if_neg c41] at H
        exact absurd H (by simp)
      ·replace c39:=Bool.eq_false_iff.mpr c39
       subst c39
       have H1:(some (a0_0,l0_1,l0_2,l0_3,false,([]:List (S43)),([]:List ByteArray),([]:List Int),(⟨#[]⟩:ByteArray)))=some (r1,r2,r3,r4,r5,r6,r7,r8,r9):=by rw [if_neg (show ¬ (false=true) by decide)] at H;exact H
       clear H
       have H:=H1
       clear H1
       simp only [Option.some.injEq,Prod.mk.injEq] at H
       obtain ⟨rfl,rfl,rfl,rfl,rfl,rfl,rfl,rfl,rfl⟩:=H
       have hnb99:=NB267_268.out
       have hnc99:=NB268_267.out
       have hnb100:=NB267_269.out
       have hnc100:=NB269_267.out
       obtain ⟨hcz101_0,hcz101_1,hcz101_2,hcz101_3⟩:=zc4 BK267.out
       obtain ⟨hfz101_0,hfz101_1,hfz101_2,hfz101_3⟩:=zf4 BK267.out
       go_wp2_with (first|((with_reducible refine gate_store (t:=26) (p:=2) rfl ?_);refine store_all 26 gb268 26 #[.bool false,.slice none 0 0,.slice none 0 0,.slice none 0 0] #[.bool a0_0,.slice A0_1 l0_1.length c0_1,.slice A0_2 l0_2.length c0_2,.slice A0_3 l0_3.length c0_3] rfl rfl rfl (by first|rfl|(go_simp;done)) (by (with_reducible repeat (first|apply zb1|apply zb2|apply zb3));exact BK268.out) (by kernel_rfl) rfl (by kernel_rfl) ?_;intro w102 hx hg;replace HO_268001:=Aside0.mk (Kd.V_grown HO_268001.out hg (fun k_ hk_ he_=>(hk_.2.2.1) (Option.some.inj he_)));replace HO_268002:=Aside0.mk (Kd.V_grown HO_268002.out hg (fun k_ hk_ he_=>(hk_.2.2.1) (Option.some.inj he_)));replace HO_268003:=Aside0.mk (Kd.V_grown HO_268003.out hg (fun k_ hk_ he_=>(hk_.2.2.1) (Option.some.inj he_)));replace BK267:=Aside0.mk (blk_grown (g:=gb267) (o:=.cells #[.bool a0_0,.slice A0_1 l0_1.length c0_1,.slice A0_2 l0_2.length c0_2,.slice A0_3 l0_3.length c0_3] 26 (0,0)) (by (with_reducible repeat (first|apply zb1|apply zb2|apply zb3));exact BK267.out) hg (fun e_=>NB267_268.out (Option.some.inj e_)));replace BK269:=Aside0.mk (blk_grown (g:=gb269) (o:=.cells #[.bool false,.slice none 0 0,.slice none 0 0,.slice none 0 0] 26 (0,0)) (by (with_reducible repeat (first|apply zb1|apply zb2|apply zb3));exact BK269.out) hg (fun e_=>NB269_268.out (Option.some.inj e_)));replace HB:=Aside0.mk ((fun {W_:World} (hB_:Below w.heap.size w W_) (hg_:W_.grownBy w102 (some gb268))=>hB_.grown hg_ hB_.size (fun k_ e_=>by cases e_;exact GE268.out)) (by repeat (first|(with_reducible first|exact HB.out|apply zl1|apply zl2|apply zl3|refine below_set ?_ GE267.out|refine below_set ?_ GE268.out|refine below_set ?_ GE269.out)|exact HB.out)) hg);replace BK268:=Aside0.mk (hx);clear hx hg)|((with_reducible refine gate_store (t:=26) (p:=3) rfl ?_);refine store_all 26 gb269 26 #[.bool false,.slice none 0 0,.slice none 0 0,.slice none 0 0] #[.bool false,.slice none 0 0,.slice none 0 0,.slice none 0 0] rfl rfl rfl (by first|rfl|(go_simp;done)) (by (with_reducible repeat (first|apply zb1|apply zb2|apply zb3));exact BK269.out) (by kernel_rfl) rfl (by kernel_rfl) ?_;intro w103 hx hg;replace HO_268001:=Aside0.mk (Kd.V_grown HO_268001.out hg (fun k_ hk_ he_=>(hk_.2.2.2) (Option.some.inj he_)));replace HO_268002:=Aside0.mk (Kd.V_grown HO_268002.out hg (fun k_ hk_ he_=>(hk_.2.2.2) (Option.some.inj he_)));replace HO_268003:=Aside0.mk (Kd.V_grown HO_268003.out hg (fun k_ hk_ he_=>(hk_.2.2.2) (Option.some.inj he_)));replace BK267:=Aside0.mk (blk_grown (g:=gb267) (o:=.cells #[.bool a0_0,.slice A0_1 l0_1.length c0_1,.slice A0_2 l0_2.length c0_2,.slice A0_3 l0_3.length c0_3] 26 (0,0)) (by (with_reducible repeat (first|apply zb1|apply zb2|apply zb3));exact BK267.out) hg (fun e_=>NB267_269.out (Option.some.inj e_)));replace BK268:=Aside0.mk (blk_grown (g:=gb268) (o:=.cells #[.bool a0_0,.slice A0_1 l0_1.length c0_1,.slice A0_2 l0_2.length c0_2,.slice A0_3 l0_3.length c0_3] 26 (0,0)) (by (with_reducible repeat (first|apply zb1|apply zb2|apply zb3));exact BK268.out) hg (fun e_=>NB268_269.out (Option.some.inj e_)));replace HB:=Aside0.mk ((fun {W_:World} (hB_:Below w.heap.size w W_) (hg_:W_.grownBy w103 (some gb269))=>hB_.grown hg_ hB_.size (fun k_ e_=>by cases e_;exact GE269.out)) (by repeat (first|(with_reducible first|exact HB.out|apply zl1|apply zl2|apply zl3|refine below_set ?_ GE267.out|refine below_set ?_ GE268.out|refine below_set ?_ GE269.out)|exact HB.out)) hg);replace BK269:=Aside0.mk (hx);clear hx hg))
       refine bodyPost_ret (results_list (rs:=[.cell 2 26,.cell 3 26,.tmp 4]) rfl (by simp) (.cell gb268 26 #[.bool a0_0,.slice A0_1 l0_1.length c0_1,.slice A0_2 l0_2.length c0_2,.slice A0_3 l0_3.length c0_3] (0,0) _ rfl (by (with_reducible repeat (first|apply zb1|apply zb2|apply zb3));exact BK268.out) Try.underlying26 rfl (by kernel_rfl) (.cell gb269 26 #[.bool false,.slice none 0 0,.slice none 0 0,.slice none 0 0] (0,0) _ rfl (by (with_reducible repeat (first|apply zb1|apply zb2|apply zb3));exact BK269.out) Try.underlying26 rfl (by kernel_rfl) (.tmp .nil)))) rfl ?_
       exact ⟨_,_,_,_,_,_,by first|(with_reducible rfl)|(simp only [isEmpty_bne,Bool.not_not] <;> rfl)|rfl|(simp [*,errW_none,errW_some] <;> rfl),by (with_reducible repeat (first|apply Kd.V_alloc|apply Kd.V_drewN|apply Kd.V_drew));exact Kd.V_mono HO_268001.out (fun _ hk=>⟨hk.1,⟨(by simp [Value.ownBlock]),⟨(by simp [Value.ownBlock]),(by simp [Value.ownBlock])⟩⟩⟩),by (with_reducible repeat (first|apply Kd.V_alloc|apply Kd.V_drewN|apply Kd.V_drew));exact Kd.V_mono HO_268002.out (fun _ hk=>⟨hk.1,⟨(by simp [Value.ownBlock]),⟨(by simp [Value.ownBlock]),(by simp [Value.ownBlock])⟩⟩⟩),by (with_reducible repeat (first|apply Kd.V_alloc|apply Kd.V_drewN|apply Kd.V_drew));exact Kd.V_mono HO_268003.out (fun _ hk=>⟨hk.1,⟨(by simp [Value.ownBlock]),⟨(by simp [Value.ownBlock]),(by simp [Value.ownBlock])⟩⟩⟩),by first|exact Kd.R_nil _ _ _ _ _|exact Kd.N_nil _ _ _ _ _|exact Kd.V_nil _ _ _ _ _|exact Kd.Q_nil _ _ _ _ _|exact Kd.S_nil _ _ _ _ _,by first|exact Kd.R_nil _ _ _ _ _|exact Kd.N_nil _ _ _ _ _|exact Kd.V_nil _ _ _ _ _|exact Kd.Q_nil _ _ _ _ _|exact Kd.S_nil _ _ _ _ _,by first|exact Kd.R_nil _ _ _ _ _|exact Kd.N_nil _ _ _ _ _|exact Kd.V_nil _ _ _ _ _|exact Kd.Q_nil _ _ _ _ _|exact Kd.S_nil _ _ _ _ _,by repeat (first|(with_reducible first|exact HB.out|apply zl1|apply zl2|apply zl3|refine below_set ?_ GE267.out|refine below_set ?_ GE268.out|refine below_set ?_ GE269.out)|exact HB.out)⟩

end Go.Proofs.Ytokjbncjapndgaa.PAll
