/- Printed walks of the functions that the laws reach: each function, what it computes, and that it does. No conditions. -/
import Derived.Test.YtokjbncjapndgaaPAllx0
import Derived.Test.YtokjbncjapndgaaPAllx2
import Derived.Test.YtokjbncjapndgaaPAllx8
namespace Go.Proofs.Ytokjbncjapndgaa.PAll
open Go.RowKit Go.Proofs.Ytokjbncjapndgaa.XW Go.Proofs.Ytokjbncjapndgaa.XLib Go.Proofs.YtokjbncjapndgaaW.PrintWords Go.Proofs.YtokjbncjapndgaaW.PrintLast Go.Proofs.YtokjbncjapndgaaW.PrintMore
attribute [local go_sem] max2_int min2_int max_two min_two max_three min_three max_four min_four   -- for this text's walks alone
set_option linter.unusedVariables false
set_option linter.unusedSimpArgs false

/-! ### node_splitLeaf: function 32 -/
mutual
def node_splitLeaf.l0:Nat→List (S43)→Int→Int→Int→List (S43)→Int→Int→Option (Bool × (List (S43)) × List ByteArray × List Int × Bool × (List (S43)) × List ByteArray × List Int × ByteArray)
 | 0,_,_,_,_,_,_,_=>none
 | k + 1,x0,x5,x6,x7,x10,x11,x12=>if x12 < x11 then (if 0≤x12 then (if x12 < (x10.length:Int) then ((node_weigh.f ((rd_T43 x10 x12).f0) ((rd_T43 x10 x12).f1)).bind fun t229=>(node_splitLeaf.l0 k x0 (wrap64 (x5 + t229)) x6 x7 x10 x11 (wrap64 (x12 + 1)))) else (none)) else (none)) else (node_splitLeaf.l1 k x0 x5 x6 x7)
def node_splitLeaf.l1:Nat→List (S43)→Int→Int→Int→Option (Bool × (List (S43)) × List ByteArray × List Int × Bool × (List (S43)) × List ByteArray × List Int × ByteArray)
 | 0,_,_,_,_=>none
 | k + 1,x0,x5,x6,x7=>if x7=0 then (if 0≤x7 then (if x7 < (x0.length:Int) then ((node_weigh.f ((rd_T43 x0 x7).f0) ((rd_T43 x0 x7).f1)).bind fun t231=>(node_splitLeaf.l1 k x0 x5 (wrap64 (x6 + t231)) (wrap64 (x7 + 1)))) else (none)) else (none)) else (if x7 < (wrap64 ((x0.length:Int) - 1)) then (if (wrap64 (2 * x6)) < x5 then (if 0≤x7 then (if x7 < (x0.length:Int) then ((node_weigh.f ((rd_T43 x0 x7).f0) ((rd_T43 x0 x7).f1)).bind fun t233=>(node_splitLeaf.l1 k x0 x5 (wrap64 (x6 + t233)) (wrap64 (x7 + 1)))) else (none)) else (none)) else (if 0≤x7 then (if x7≤(x0.length:Int) then ((api_Pair_56.f (x0.take (x7:Int).toNat)).bind fun t238=>((api_Pair_56.f (x0.drop (x7:Int).toNat)).bind fun t245=>(if x7 < (x0.length:Int) then (some (true,t238,([]:List ByteArray),([]:List Int),true,t245,([]:List ByteArray),([]:List Int),(rd_T43 x0 x7).f0)) else (none)))) else (none)) else (none))) else (if 0≤x7 then (if x7≤(x0.length:Int) then ((api_Pair_56.f (x0.take (x7:Int).toNat)).bind fun t253=>((api_Pair_56.f (x0.drop (x7:Int).toNat)).bind fun t260=>(if x7 < (x0.length:Int) then (some (true,t253,([]:List ByteArray),([]:List Int),true,t260,([]:List ByteArray),([]:List Int),(rd_T43 x0 x7).f0)) else (none)))) else (none)) else (none)))
end
def node_splitLeaf.f (k:Nat) (l0:List (S43)):Option (Bool × (List (S43)) × List ByteArray × List Int × Bool × (List (S43)) × List ByteArray × List Int × ByteArray):=node_splitLeaf.l0 k l0 0 0 0 l0 (l0.length:Int) 0
theorem node_splitLeaf.mono_l:∀ k,(∀ y0 y1 y2 y3 y4 y5 y6,LeO (node_splitLeaf.l0 k y0 y1 y2 y3 y4 y5 y6) (node_splitLeaf.l0 (k + 1) y0 y1 y2 y3 y4 y5 y6))∧(∀ y0 y1 y2 y3,LeO (node_splitLeaf.l1 k y0 y1 y2 y3) (node_splitLeaf.l1 (k + 1) y0 y1 y2 y3))
 | 0=>⟨fun _ _ _ _ _ _ _ r h=>by simp [node_splitLeaf.l0] at h,fun _ _ _ _ r h=>by simp [node_splitLeaf.l1] at h⟩
 | k + 1=>by
  obtain ⟨ih0,ih1⟩:=node_splitLeaf.mono_l k
  refine ⟨?_,?_⟩
  ·intro y0 y1 y2 y3 y4 y5 y6
   unfold node_splitLeaf.l0
   repeat' first
   | (with_reducible exact ih0 _ _ _ _ _ _ _)
   | (with_reducible exact ih1 _ _ _ _)
   | (with_reducible exact LeO.refl _)
   | (with_reducible exact LeO.none _)
   | (with_reducible refine LeO.ite ?_ ?_)
   | (with_reducible refine LeO.bind ?_ (fun _=>?_))
   | exact ih0 _ _ _ _ _ _ _
   | exact ih1 _ _ _ _
   | exact LeO.none _
   | refine LeO.ite ?_ ?_
   | refine LeO.bind ?_ (fun _=>?_)
  ·intro y0 y1 y2 y3
   unfold node_splitLeaf.l1
   repeat' first
   | (with_reducible exact ih0 _ _ _ _ _ _ _)
   | (with_reducible exact ih1 _ _ _ _)
   | (with_reducible exact LeO.refl _)
   | (with_reducible exact LeO.none _)
   | (with_reducible refine LeO.ite ?_ ?_)
   | (with_reducible refine LeO.bind ?_ (fun _=>?_))
   | exact ih0 _ _ _ _ _ _ _
   | exact ih1 _ _ _ _
   | exact LeO.none _
   | refine LeO.ite ?_ ?_
   | refine LeO.bind ?_ (fun _=>?_)
theorem node_splitLeaf.mono:∀ a0 k,LeO (node_splitLeaf.f k a0) (node_splitLeaf.f (k + 1) a0):=by
 intro a0 k
 obtain ⟨ih0,ih1⟩:=node_splitLeaf.mono_l k
 unfold node_splitLeaf.f
 repeat' first
   | (with_reducible exact ih0 _ _ _ _ _ _ _)
   | (with_reducible exact ih1 _ _ _ _)
   | (with_reducible exact LeO.refl _)
   | (with_reducible exact LeO.none _)
   | (with_reducible refine LeO.ite ?_ ?_)
   | (with_reducible refine LeO.bind ?_ (fun _=>?_))
   | exact ih0 _ _ _ _ _ _ _
   | exact ih1 _ _ _ _
   | exact LeO.none _
   | refine LeO.ite ?_ ?_
   | refine LeO.bind ?_ (fun _=>?_)
def node_splitLeaf.T10:Bool × List (List Nat × List Nat):=(true,[([],[]),([],[]),([0,1],[0,1]),([2],[2]),([3],[3]),([],[]),([],[]),([5,6],[5,6]),([7,3],[7]),([8],[8]),([],[]),([],[]),([10,11],[10,11]),([12],[12]),([13],[13]),([4,8,0,1,2,3,4],[4]),([9,15,0,1,2,3,4,5,6,7,8,9,15],[9]),([14,16,0,1,2,3,4,5,6,7,8,9,10,11,12,13,14,15,16],[14])])
def node_splitLeaf.B10:List Nat:=[0,0,3,7,15,0,0,96,239,495,0,0,3072,7168,15360,511,33791,131071]
theorem node_splitLeaf.tab10:rtab .any (opsOf Try.f32 10)=node_splitLeaf.T10:=by kernel_rfl
theorem node_splitLeaf.bits10:waitsOk node_splitLeaf.T10.2 node_splitLeaf.B10=true:=by kernel_rfl
set_option maxHeartbeats 8000000 in
set_option maxRecDepth 100000 in
theorem node_splitLeaf.calls (k:Nat) (A0:Option Addr) (c0:Nat) (l0:List (S43)) (r1:Bool) (r2:List (S43)) (r3:List ByteArray) (r4:List Int) (r5:Bool) (r6:List (S43)) (r7:List ByteArray) (r8:List Int) (r9:ByteArray) (w:World) (hr0:Kd.C k43 w A0 l0.length l0) (hc0:l0.length≤c0) (h:node_splitLeaf.f k l0=some (r1,r2,r3,r4,r5,r6,r7,r8,r9)) :
  Calls Try.prog 32 #[.slice A0 l0.length c0] w fun e w'=>∃ v1_ v2_ v3_ v5_ v6_ v7_:Value,e=.returned (.tuple #[.agg #[.bool r1,v1_,v2_,v3_],.agg #[.bool r5,v5_,v6_,v7_],.string r9])∧Kd.R k43 43 w' w.heap.size (fun k_=>some k_ ≠ (v5_:Value).ownBlock) v1_ r2∧Kd.R Kd.string 9 w' w.heap.size (fun k_=>some k_ ≠ (v6_:Value).ownBlock) v2_ r3∧Kd.R (Kd.int .i64) 3 w' w.heap.size (fun k_=>some k_ ≠ (v7_:Value).ownBlock) v3_ r4∧Kd.R k43 43 w' w.heap.size (fun k_=>some k_ ≠ (v1_:Value).ownBlock) v5_ r6∧Kd.R Kd.string 9 w' w.heap.size (fun k_=>some k_ ≠ (v2_:Value).ownBlock) v6_ r7∧Kd.R (Kd.int .i64) 3 w' w.heap.size (fun k_=>some k_ ≠ (v3_:Value).ownBlock) v7_ r8∧Below w.heap.size w w':=by
 have hu26:=Try.underlying26
 have hu43:=Try.underlying43
 have HR0:=Aside0.mk hr0
 have HC0:=Aside0.mk hc0
 clear hr0 hc0
 have HB:=Aside0.mk (Below.refl w.heap.size w)
 have H:(node_splitLeaf.l0 k l0 0 0 0 l0 (l0.length:Int) 0)=some (r1,r2,r3,r4,r5,r6,r7,r8,r9):=h
 clear h
 have H':=Aside0.mk H
 clear H
 go_enter Try.func32,Try.ntmps32
 go_wp2_with (first|((with_reducible refine gate_dst (N:=2) rfl ?_);(try (refine gate_guard (by rfl) ?_;dsimp only));refine box_event ?hg (N:=2) ?hd (cs:=#[.bool false,.slice none 0 0,.slice none 0 0,.slice none 0 0]) (t:=26) ?hr ?_;(case hd=>rfl);(case hg=>rfl);(case hr=>first|(go_simp;done)|(go_simp;rfl));intro gb225 hg w2 hbox hb;have BK225:=Aside0.mk (hbox);have GW225:=Aside0.mk ((by rw [hg];exact (below_size (by repeat (first|(with_reducible first|exact HB.out|apply zl1|apply zl2|apply zl3)|exact HB.out))):w.heap.size≤gb225));have GE225:=Aside0.mk ((by rw [hg];exact (below_size (by repeat (first|(with_reducible first|exact HB.out|apply zl1|apply zl2|apply zl3)|exact HB.out))):w.heap.size≤gb225));replace HB:=Aside0.mk (below_step (by repeat (first|(with_reducible first|exact HB.out|apply zl1|apply zl2|apply zl3)|exact HB.out)) hb);clear hb hbox hg)|((with_reducible refine gate_dst (N:=3) rfl ?_);(try (refine gate_guard (by rfl) ?_;dsimp only));refine box_event ?hg (N:=3) ?hd (cs:=#[.bool false,.slice none 0 0,.slice none 0 0,.slice none 0 0]) (t:=26) ?hr ?_;(case hd=>rfl);(case hg=>rfl);(case hr=>first|(go_simp;done)|(go_simp;rfl));intro gb226 hg w3 hbox hb;have BK226:=Aside0.mk (hbox);have GW226:=Aside0.mk ((by rw [hg];exact (below_size (by repeat (first|(with_reducible first|exact HB.out|apply zl1|apply zl2|apply zl3|refine below_set ?_ GE225.out)|exact HB.out))):w.heap.size≤gb226));have GE226:=Aside0.mk ((by rw [hg];exact (below_size (by repeat (first|(with_reducible first|exact HB.out|apply zl1|apply zl2|apply zl3|refine below_set ?_ GE225.out)|exact HB.out))):w.heap.size≤gb226));replace HB:=Aside0.mk (below_step (by repeat (first|(with_reducible first|exact HB.out|apply zl1|apply zl2|apply zl3|refine below_set ?_ GE225.out)|exact HB.out)) hb);have NB225_226:=Aside0.mk ((by rw [hg];exact Nat.ne_of_lt (blk_lt (g:=gb225) (o:=.cells #[.bool false,.slice none 0 0,.slice none 0 0,.slice none 0 0] 26 (0,0)) (by (with_reducible repeat (first|apply zb1|apply zb2|apply zb3));exact BK225.out)):gb225 ≠ gb226));have NB226_225:=Aside0.mk ((by rw [hg];exact Nat.ne_of_gt (blk_lt (g:=gb225) (o:=.cells #[.bool false,.slice none 0 0,.slice none 0 0,.slice none 0 0] 26 (0,0)) (by (with_reducible repeat (first|apply zb1|apply zb2|apply zb3));exact BK225.out)):gb226 ≠ gb225));replace BK225:=Aside0.mk (blk_below (g:=gb225) (o:=.cells #[.bool false,.slice none 0 0,.slice none 0 0,.slice none 0 0] 26 (0,0)) (by (with_reducible repeat (first|apply zb1|apply zb2|apply zb3));exact BK225.out) hb);clear hb hbox hg))
 go_loopg [5,12] k (fun kq v5 v12 w'=>∃ (x5_1:Int) (x12_1:Int),v5=.int .i64 x5_1∧v12=.int .i64 x12_1∧Aside0 (node_splitLeaf.l0 kq l0 x5_1 0 0 l0 (l0.length:Int) x12_1=some (r1,r2,r3,r4,r5,r6,r7,r8,r9))∧Aside0 (kq≤k)∧Aside0 (w'.heap[gb225]?=some (.cells #[.bool false,(.slice none 0 0),(.slice none 0 0),(.slice none 0 0)] 26 (0,0)))∧Aside0 (w'.heap[gb226]?=some (.cells #[.bool false,(.slice none 0 0),(.slice none 0 0),(.slice none 0 0)] 26 (0,0)))∧Aside0 (Below w.heap.size w w'))
 case atStart=>exact ⟨(0),(0),(by first|(with_reducible rfl)|(simp;done)|(simp [*];done)|rfl|(simp only [not_isEmpty_bne])),(by first|(with_reducible rfl)|(simp;done)|(simp [*];done)|rfl|(simp only [not_isEmpty_bne])),H',⟨Nat.le_refl _⟩,⟨by (with_reducible repeat (first|apply zb1|apply zb2|apply zb3));exact BK225.out⟩,⟨by (with_reducible repeat (first|apply zb1|apply zb2|apply zb3));exact BK226.out⟩,⟨by repeat (first|(with_reducible first|exact HB.out|apply zl1|apply zl2|apply zl3|refine below_set ?_ GE225.out|refine below_set ?_ GE226.out)|exact HB.out)⟩⟩
 case round =>
  clear H'
  try clear p2
  try clear c3
  obtain ⟨x5_1,x12_1,rfl,rfl,HA,HK1,BK225,BK226,HB⟩:=hrel
  cases gk with
  | zero=>exact absurd HA.out (by simp [node_splitLeaf.l0])
  | succ k1 =>
   have H:=HA.out
   clear HA
   simp only [node_splitLeaf.l0] at H
   by_cases c4:x12_1 < (l0.length:Int)
   ·rw [if_pos c4] at H
    have c4b0:decide (x12_1 < (l0.length:Int))=true:=decide_eq_true c4
    clear c4
    by_cases c5:0≤x12_1
    ·rw [if_pos c5] at H
     have c5b0:decide (0≤x12_1)=true:=decide_eq_true c5
     clear c5
     by_cases c6:x12_1 < (l0.length:Int)
     ·rw [if_pos c6] at H
      have c6b0:decide (x12_1 < (l0.length:Int))=true:=decide_eq_true c6
      clear c6
      replace H:=Option.bind_eq_some_iff.mp H
      obtain ⟨t229,A70,H⟩:=H
      replace H:(node_splitLeaf.l0 k1 l0 (wrap64 (x5_1 + t229)) 0 0 l0 (l0.length:Int) (wrap64 (x12_1 + 1)))=some (r1,r2,r3,r4,r5,r6,r7,r8,r9):=H
      have A7:=Aside0.mk A70
      clear A70
      have H':=Aside0.mk H
      clear H
      have p227:0≤(x12_1:Int):=of_decide_eq_true (by first|(with_reducible assumption)|assumption)
      have q227:x12_1 < (l0.length:Int):=of_decide_eq_true (by first|(with_reducible assumption)|assumption)
      obtain ⟨ad227,e227,hx227_0,hx227_1⟩:=at_T43 HR0.out x12_1 p227 q227
      cases e227
      replace hx227_0:=(HB.out.cell (World.block_lt_of_cell? w _ hx227_0)).trans hx227_0
      replace hx227_1:=(HB.out.cell (World.block_lt_of_cell? w _ hx227_1)).trans hx227_1
      replace p227:=eq_true p227
      replace q227:=eq_true q227
      go_wp2_with (first|((with_reducible refine gate_dst (N:=9) rfl ?_);(try (refine gate_guard (by rfl) ?_;dsimp only));refine box_event ?hg (N:=9) ?hd (cs:=#[.string (⟨#[]⟩:ByteArray),.string (⟨#[]⟩:ByteArray)]) (t:=43) ?hr ?_;(case hd=>rfl);(case hg=>rfl);(case hr=>first|(go_simp;done)|(go_simp;rfl));intro gb228 hg w8 hbox hb;have BK228:=Aside0.mk (hbox);have GW228:=Aside0.mk ((by rw [hg];exact (below_size (by repeat (first|(with_reducible first|exact HB.out|apply zl1|apply zl2|apply zl3|refine below_set ?_ GE225.out|refine below_set ?_ GE226.out)|exact HB.out))):w.heap.size≤gb228));have GE228:=Aside0.mk ((by rw [hg];exact (below_size (by repeat (first|(with_reducible first|exact HB.out|apply zl1|apply zl2|apply zl3|refine below_set ?_ GE225.out|refine below_set ?_ GE226.out)|exact HB.out))):w.heap.size≤gb228));replace HB:=Aside0.mk (below_step (by repeat (first|(with_reducible first|exact HB.out|apply zl1|apply zl2|apply zl3|refine below_set ?_ GE225.out|refine below_set ?_ GE226.out)|exact HB.out)) hb);have NB225_228:=Aside0.mk ((by rw [hg];exact Nat.ne_of_lt (blk_lt (g:=gb225) (o:=.cells #[.bool false,.slice none 0 0,.slice none 0 0,.slice none 0 0] 26 (0,0)) (by (with_reducible repeat (first|apply zb1|apply zb2|apply zb3));exact BK225.out)):gb225 ≠ gb228));have NB228_225:=Aside0.mk ((by rw [hg];exact Nat.ne_of_gt (blk_lt (g:=gb225) (o:=.cells #[.bool false,.slice none 0 0,.slice none 0 0,.slice none 0 0] 26 (0,0)) (by (with_reducible repeat (first|apply zb1|apply zb2|apply zb3));exact BK225.out)):gb228 ≠ gb225));replace BK225:=Aside0.mk (blk_below (g:=gb225) (o:=.cells #[.bool false,.slice none 0 0,.slice none 0 0,.slice none 0 0] 26 (0,0)) (by (with_reducible repeat (first|apply zb1|apply zb2|apply zb3));exact BK225.out) hb);have NB226_228:=Aside0.mk ((by rw [hg];exact Nat.ne_of_lt (blk_lt (g:=gb226) (o:=.cells #[.bool false,.slice none 0 0,.slice none 0 0,.slice none 0 0] 26 (0,0)) (by (with_reducible repeat (first|apply zb1|apply zb2|apply zb3));exact BK226.out)):gb226 ≠ gb228));have NB228_226:=Aside0.mk ((by rw [hg];exact Nat.ne_of_gt (blk_lt (g:=gb226) (o:=.cells #[.bool false,.slice none 0 0,.slice none 0 0,.slice none 0 0] 26 (0,0)) (by (with_reducible repeat (first|apply zb1|apply zb2|apply zb3));exact BK226.out)):gb228 ≠ gb226));replace BK226:=Aside0.mk (blk_below (g:=gb226) (o:=.cells #[.bool false,.slice none 0 0,.slice none 0 0,.slice none 0 0] 26 (0,0)) (by (with_reducible repeat (first|apply zb1|apply zb2|apply zb3));exact BK226.out) hb);clear hb hbox hg;have hnb9:=NB228_225.out;have hnc9:=NB225_228.out;have hnb10:=NB228_226.out;have hnc10:=NB226_228.out;have hcz11_0:w8.cell? ⟨gb228,0,none⟩=some (.string (⟨#[]⟩:ByteArray)):=(blk_cell BK228.out 0).trans rfl;have hcz11_1:w8.cell? ⟨gb228,1,none⟩=some (.string (⟨#[]⟩:ByteArray)):=(blk_cell BK228.out 1).trans rfl;have hfz11_0:=blk_frozen BK228.out 0;have hfz11_1:=blk_frozen BK228.out 1)|((with_reducible refine gate_callee (f:=29) rfl ?_);refine goesL_ (some 18) rfl rfl Try.func29 (by kernel_rfl) rfl #[.agg #[.string ((rd_T43 l0 x12_1).f0),.string ((rd_T43 l0 x12_1).f1)]] rfl (by (try simp only [List.map_toArray,List.map_cons,List.map_nil]);first|done|rfl|(simp only [List.length_drop,List.length_take];rfl)|(simp (disch:=omega) only [u64_in];rfl)) ?_;(with_reducible refine (node_weigh.calls ((rd_T43 l0 x12_1).f0) ((rd_T43 l0 x12_1).f1) t229 _ A7.out).mono ?_);rintro e w12 ⟨rfl,hb⟩;refine ⟨_,rfl,?_⟩;replace BK225:=Aside0.mk (blk_below (g:=gb225) (o:=.cells #[.bool false,.slice none 0 0,.slice none 0 0,.slice none 0 0] 26 (0,0)) (by (repeat (first|(with_reducible first|apply zb1|apply zb2|apply zb3|exact BK225.out)|refine blk_far ?_ NB225_228.out _))) hb);replace BK226:=Aside0.mk (blk_below (g:=gb226) (o:=.cells #[.bool false,.slice none 0 0,.slice none 0 0,.slice none 0 0] 26 (0,0)) (by (repeat (first|(with_reducible first|apply zb1|apply zb2|apply zb3|exact BK226.out)|refine blk_far ?_ NB226_228.out _))) hb);replace BK228:=Aside0.mk (blk_below (g:=gb228) (o:=.cells #[.string ((rd_T43 l0 x12_1).f0),.string ((rd_T43 l0 x12_1).f1)] 43 (0,0)) (by apply zpe;(repeat (first|(with_reducible first|apply zb1|apply zb2|apply zb3|apply zpi|exact BK228.out)));rfl) hb);replace HB:=Aside0.mk (below_step (by repeat (first|(with_reducible first|exact HB.out|apply zl1|apply zl2|apply zl3|refine below_set ?_ GE225.out|refine below_set ?_ GE226.out|refine below_set ?_ GE228.out)|exact HB.out)) hb);(try clear hb)))
      go_roundg k1
      case measure=>have:=HK1.out;omega
      case rel=>exact ⟨(wrap64 (x5_1 + t229)),(wrap64 (x12_1 + 1)),(by first|(with_reducible rfl)|(simp;done)|(simp [*];done)|rfl|(simp only [not_isEmpty_bne])),(by first|(with_reducible rfl)|(simp;done)|(simp [*];done)|rfl|(simp only [not_isEmpty_bne])),H',⟨by have:=HK1.out;omega⟩,⟨by (with_reducible repeat (first|apply zb1|apply zb2|apply zb3));exact BK225.out⟩,⟨by (with_reducible repeat (first|apply zb1|apply zb2|apply zb3));exact BK226.out⟩,⟨by repeat (first|(with_reducible first|exact HB.out|apply zl1|apply zl2|apply zl3|refine below_set ?_ GE225.out|refine below_set ?_ GE226.out|refine below_set ?_ GE228.out)|exact HB.out)⟩⟩
     ·rw [if_neg c6] at H
      exact absurd H (by simp)
    ·rw [if_neg c5] at H
     exact absurd H (by simp)
   ·rw [if_neg c4] at H
    have c4b0:decide (x12_1 < (l0.length:Int))=false:=decide_eq_false c4
    clear c4
    have H':=Aside0.mk H
    clear H
    go_wp2
    go_loopg [6,7] k1 (fun kq v6 v7 w'=>∃ (x6_2:Int) (x7_2:Int),v6=.int .i64 x6_2∧v7=.int .i64 x7_2∧Aside0 (node_splitLeaf.l1 kq l0 x5_1 x6_2 x7_2=some (r1,r2,r3,r4,r5,r6,r7,r8,r9))∧Aside0 (kq≤k1)∧Aside0 (w'.heap[gb225]?=some (.cells #[.bool false,(.slice none 0 0),(.slice none 0 0),(.slice none 0 0)] 26 (0,0)))∧Aside0 (w'.heap[gb226]?=some (.cells #[.bool false,(.slice none 0 0),(.slice none 0 0),(.slice none 0 0)] 26 (0,0)))∧Aside0 (Below w.heap.size w w'))
    case atStart=>exact ⟨(0),(0),(by first|(with_reducible rfl)|(simp;done)|(simp [*];done)|rfl|(simp only [not_isEmpty_bne])),(by first|(with_reducible rfl)|(simp;done)|(simp [*];done)|rfl|(simp only [not_isEmpty_bne])),H',⟨Nat.le_refl _⟩,⟨by (with_reducible repeat (first|apply zb1|apply zb2|apply zb3));exact BK225.out⟩,⟨by (with_reducible repeat (first|apply zb1|apply zb2|apply zb3));exact BK226.out⟩,⟨by repeat (first|(with_reducible first|exact HB.out|apply zl1|apply zl2|apply zl3|refine below_set ?_ GE225.out|refine below_set ?_ GE226.out)|exact HB.out)⟩⟩
    case round =>
     clear H'
     try clear hfz11_0 hfz11_1
     try clear hcz11_0 hcz11_1
     try clear c1
     try clear c2
     try clear p2
     try clear q2
     try clear hx2
     try clear c3
     try clear c4
     try clear c4b0
     try clear c5
     try clear c5b0
     try clear c6
     try clear c6b0
     try clear p6
     try clear c9
     try clear c10
     try clear hx227_0
     try clear hx227_1
     try clear p2
     try clear p227
     try clear q227
     obtain ⟨x6_2,x7_2,rfl,rfl,HA,HK2,BK225,BK226,HB⟩:=hrel
     cases gk with
     | zero=>exact absurd HA.out (by simp [node_splitLeaf.l1])
     | succ k2 =>
      have H:=HA.out
      clear HA
      simp only [node_splitLeaf.l1] at H
      by_cases c13:x7_2=0
      ·rw [if_pos c13] at H
       have c13b0:(x7_2 == 0)=true:=beq_iff_eq.mpr c13
       have c13b1:(x7_2 != 0)=false:=bne_eq_false_iff_eq.mpr c13
       clear c13
       by_cases c14:0≤x7_2
       ·rw [if_pos c14] at H
        have c14b0:decide (0≤x7_2)=true:=decide_eq_true c14
        clear c14
        by_cases c15:x7_2 < (l0.length:Int)
        ·rw [if_pos c15] at H
         have c15b0:decide (x7_2 < (l0.length:Int))=true:=decide_eq_true c15
         clear c15
         replace H:=Option.bind_eq_some_iff.mp H
         obtain ⟨t231,A160,H⟩:=H
         replace H:(node_splitLeaf.l1 k2 l0 x5_1 (wrap64 (x6_2 + t231)) (wrap64 (x7_2 + 1)))=some (r1,r2,r3,r4,r5,r6,r7,r8,r9):=H
         have A16:=Aside0.mk A160
         clear A160
         have H':=Aside0.mk H
         clear H
         have p230:0≤(x7_2:Int):=of_decide_eq_true (by first|(with_reducible assumption)|assumption)
         have q230:x7_2 < (l0.length:Int):=of_decide_eq_true (by first|(with_reducible assumption)|assumption)
         obtain ⟨ad230,e230,hx230_0,hx230_1⟩:=at_T43 HR0.out x7_2 p230 q230
         cases e230
         replace hx230_0:=(HB.out.cell (World.block_lt_of_cell? w _ hx230_0)).trans hx230_0
         replace hx230_1:=(HB.out.cell (World.block_lt_of_cell? w _ hx230_1)).trans hx230_1
         replace p230:=eq_true p230
         replace q230:=eq_true q230
         go_wp2_with (first|((with_reducible refine gate_callee (f:=29) rfl ?_);refine goesL_ (some 41) rfl rfl Try.func29 (by kernel_rfl) rfl #[.agg #[.string ((rd_T43 l0 x7_2).f0),.string ((rd_T43 l0 x7_2).f1)]] rfl (by (try simp only [List.map_toArray,List.map_cons,List.map_nil]);first|done|rfl|(simp only [List.length_drop,List.length_take];rfl)|(simp (disch:=omega) only [u64_in];rfl)) ?_;(with_reducible refine (node_weigh.calls ((rd_T43 l0 x7_2).f0) ((rd_T43 l0 x7_2).f1) t231 _ A16.out).mono ?_);rintro e w17 ⟨rfl,hb⟩;refine ⟨_,rfl,?_⟩;replace BK225:=Aside0.mk (blk_below (g:=gb225) (o:=.cells #[.bool false,.slice none 0 0,.slice none 0 0,.slice none 0 0] 26 (0,0)) (by (with_reducible repeat (first|apply zb1|apply zb2|apply zb3));exact BK225.out) hb);replace BK226:=Aside0.mk (blk_below (g:=gb226) (o:=.cells #[.bool false,.slice none 0 0,.slice none 0 0,.slice none 0 0] 26 (0,0)) (by (with_reducible repeat (first|apply zb1|apply zb2|apply zb3));exact BK226.out) hb);replace HB:=Aside0.mk (below_step (by repeat (first|(with_reducible first|exact HB.out|apply zl1|apply zl2|apply zl3|refine below_set ?_ GE225.out|refine below_set ?_ GE226.out)|exact HB.out)) hb);(try clear hb)))
         go_roundg k2
         case measure=>have:=HK1.out;have:=HK2.out;omega
         case rel=>exact ⟨(wrap64 (x6_2 + t231)),(wrap64 (x7_2 + 1)),(by first|(with_reducible rfl)|(simp;done)|(simp [*];done)|rfl|(simp only [not_isEmpty_bne])),(by first|(with_reducible rfl)|(simp;done)|(simp [*];done)|rfl|(simp only [not_isEmpty_bne])),H',⟨by have:=HK1.out;have:=HK2.out;omega⟩,⟨by (with_reducible repeat (first|apply zb1|apply zb2|apply zb3));exact BK225.out⟩,⟨by (with_reducible repeat (first|apply zb1|apply zb2|apply zb3));exact BK226.out⟩,⟨by repeat (first|(with_reducible first|exact HB.out|apply zl1|apply zl2|apply zl3|refine below_set ?_ GE225.out|refine below_set ?_ GE226.out)|exact HB.out)⟩⟩
        ·rw [if_neg c15] at H
         exact absurd H (by simp)
       ·rw [if_neg c14] at H
        exact absurd H (by simp)
      ·rw [if_neg c13] at H
       have c13b0:(x7_2 == 0)=false:=beq_eq_false_iff_ne.mpr c13
       have c13b1:(x7_2 != 0)=true:=bne_iff_ne.mpr c13
       by_cases c18:x7_2 < (wrap64 ((l0.length:Int) - 1))
       ·rw [if_pos c18] at H
        have c18b0:decide (x7_2 < (wrap64 ((l0.length:Int) - 1)))=true:=decide_eq_true c18
        clear c18
        by_cases c19:(wrap64 (2 * x6_2)) < x5_1
        ·rw [if_pos c19] at H
         have c19b0:decide ((wrap64 (2 * x6_2)) < x5_1)=true:=decide_eq_true c19
         clear c19
         by_cases c20:0≤x7_2
         ·rw [if_pos c20] at H
          have c20b0:decide (0≤x7_2)=true:=decide_eq_true c20
          clear c20
          by_cases c21:x7_2 < (l0.length:Int)
          ·rw [if_pos c21] at H
           have c21b0:decide (x7_2 < (l0.length:Int))=true:=decide_eq_true c21
           clear c21
           replace H:=Option.bind_eq_some_iff.mp H
           obtain ⟨t233,A220,H⟩:=H
           replace H:(node_splitLeaf.l1 k2 l0 x5_1 (wrap64 (x6_2 + t233)) (wrap64 (x7_2 + 1)))=some (r1,r2,r3,r4,r5,r6,r7,r8,r9):=H
           have A22:=Aside0.mk A220
           clear A220
           have H':=Aside0.mk H
           clear H
           have p232:0≤(x7_2:Int):=of_decide_eq_true (by first|(with_reducible assumption)|assumption)
           have q232:x7_2 < (l0.length:Int):=of_decide_eq_true (by first|(with_reducible assumption)|assumption)
           obtain ⟨ad232,e232,hx232_0,hx232_1⟩:=at_T43 HR0.out x7_2 p232 q232
           cases e232
           replace hx232_0:=(HB.out.cell (World.block_lt_of_cell? w _ hx232_0)).trans hx232_0
           replace hx232_1:=(HB.out.cell (World.block_lt_of_cell? w _ hx232_1)).trans hx232_1
           replace p232:=eq_true p232
           replace q232:=eq_true q232
           go_wp2_with (first|((with_reducible refine gate_callee (f:=29) rfl ?_);refine goesL_ (some 41) rfl rfl Try.func29 (by kernel_rfl) rfl #[.agg #[.string ((rd_T43 l0 x7_2).f0),.string ((rd_T43 l0 x7_2).f1)]] rfl (by (try simp only [List.map_toArray,List.map_cons,List.map_nil]);first|done|rfl|(simp only [List.length_drop,List.length_take];rfl)|(simp (disch:=omega) only [u64_in];rfl)) ?_;(with_reducible refine (node_weigh.calls ((rd_T43 l0 x7_2).f0) ((rd_T43 l0 x7_2).f1) t233 _ A22.out).mono ?_);rintro e w23 ⟨rfl,hb⟩;refine ⟨_,rfl,?_⟩;replace BK225:=Aside0.mk (blk_below (g:=gb225) (o:=.cells #[.bool false,.slice none 0 0,.slice none 0 0,.slice none 0 0] 26 (0,0)) (by (with_reducible repeat (first|apply zb1|apply zb2|apply zb3));exact BK225.out) hb);replace BK226:=Aside0.mk (blk_below (g:=gb226) (o:=.cells #[.bool false,.slice none 0 0,.slice none 0 0,.slice none 0 0] 26 (0,0)) (by (with_reducible repeat (first|apply zb1|apply zb2|apply zb3));exact BK226.out) hb);replace HB:=Aside0.mk (below_step (by repeat (first|(with_reducible first|exact HB.out|apply zl1|apply zl2|apply zl3|refine below_set ?_ GE225.out|refine below_set ?_ GE226.out)|exact HB.out)) hb);(try clear hb)))
           go_roundg k2
           case measure=>have:=HK1.out;have:=HK2.out;omega
           case rel=>exact ⟨(wrap64 (x6_2 + t233)),(wrap64 (x7_2 + 1)),(by first|(with_reducible rfl)|(simp;done)|(simp [*];done)|rfl|(simp only [not_isEmpty_bne])),(by first|(with_reducible rfl)|(simp;done)|(simp [*];done)|rfl|(simp only [not_isEmpty_bne])),H',⟨by have:=HK1.out;have:=HK2.out;omega⟩,⟨by (with_reducible repeat (first|apply zb1|apply zb2|apply zb3));exact BK225.out⟩,⟨by (with_reducible repeat (first|apply zb1|apply zb2|apply zb3));exact BK226.out⟩,⟨by repeat (first|(with_reducible first|exact HB.out|apply zl1|apply zl2|apply zl3|refine below_set ?_ GE225.out|refine below_set ?_ GE226.out)|exact HB.out)⟩⟩
          ·rw [if_neg c21] at H
           exact absurd H (by simp)
         ·rw [if_neg c20] at H
          exact absurd H (by simp)
        ·rw [if_neg c19] at H
         have c19b0:decide ((wrap64 (2 * x6_2)) < x5_1)=false:=decide_eq_false c19
         clear c19
         by_cases c24:0≤x7_2
         ·rw [if_pos c24] at H
          have c24b0:=eq_true c24
          have c24b1:decide (0≤x7_2)=true:=decide_eq_true c24
          clear c24
          by_cases c25:x7_2≤(l0.length:Int)
          ·rw [if_pos c25] at H
           have c25b0:=eq_true c25
           have c25b1:decide (x7_2≤(l0.length:Int))=true:=decide_eq_true c25
           clear c25
           obtain ⟨y234,hy234⟩:∃ y_:List (S43),y_=(l0.take (x7_2:Int).toNat):=⟨_,rfl⟩
           replace H:((api_Pair_56.f y234).bind fun t238=>((api_Pair_56.f (l0.drop (x7_2:Int).toNat)).bind fun t245=>(if x7_2 < (l0.length:Int) then (some (true,t238,([]:List ByteArray),([]:List Int),true,t245,([]:List ByteArray),([]:List Int),(rd_T43 l0 x7_2).f0)) else (none))))=some (r1,r2,r3,r4,r5,r6,r7,r8,r9):=by first|(rw [hy234];with_reducible exact H)|(have H2_:=(Option.bind_some _ _).symm.trans H;rw [hy234];with_reducible exact H2_)|(have H2_:=(Option.bind_some _ _).symm.trans H;with_reducible exact H2_)|with_reducible exact H|(rw [hy234];exact H)|exact H
           have Ny234:=Aside0.mk hy234
           clear hy234
           replace H:=Option.bind_eq_some_iff.mp H
           obtain ⟨t238,A260,H⟩:=H
           replace H:((api_Pair_56.f (l0.drop (x7_2:Int).toNat)).bind fun t245=>(if x7_2 < (l0.length:Int) then (some (true,t238,([]:List ByteArray),([]:List Int),true,t245,([]:List ByteArray),([]:List Int),(rd_T43 l0 x7_2).f0)) else (none)))=some (r1,r2,r3,r4,r5,r6,r7,r8,r9):=H
           have A26:=Aside0.mk A260
           clear A260
           have c27b0:=eq_true (of_decide_eq_true (by first|(with_reducible assumption)|assumption):0≤x7_2)
           have c28b0:=eq_true (of_decide_eq_true (by first|(with_reducible assumption)|assumption):x7_2≤(l0.length:Int))
           obtain ⟨y241,hy241⟩:∃ y_:List (S43),y_=(l0.drop (x7_2:Int).toNat):=⟨_,rfl⟩
           replace H:((api_Pair_56.f y241).bind fun t245=>(if x7_2 < (l0.length:Int) then (some (true,t238,([]:List ByteArray),([]:List Int),true,t245,([]:List ByteArray),([]:List Int),(rd_T43 l0 x7_2).f0)) else (none)))=some (r1,r2,r3,r4,r5,r6,r7,r8,r9):=by first|(rw [hy241];with_reducible exact H)|(have H2_:=(Option.bind_some _ _).symm.trans H;rw [hy241];with_reducible exact H2_)|(have H2_:=(Option.bind_some _ _).symm.trans H;with_reducible exact H2_)|with_reducible exact H|(rw [hy241];exact H)|exact H
           have Ny241:=Aside0.mk hy241
           clear hy241
           replace H:=Option.bind_eq_some_iff.mp H
           obtain ⟨t245,A290,H⟩:=H
           replace H:(if x7_2 < (l0.length:Int) then (some (true,t238,([]:List ByteArray),([]:List Int),true,t245,([]:List ByteArray),([]:List Int),(rd_T43 l0 x7_2).f0)) else (none))=some (r1,r2,r3,r4,r5,r6,r7,r8,r9):=H
           have A29:=Aside0.mk A290
           clear A290
           by_cases c30:x7_2 < (l0.length:Int)
           ·rw [if_pos c30] at H
            have c30b0:decide (x7_2 < (l0.length:Int))=true:=decide_eq_true c30
            clear c30
            simp only [Option.some.injEq,Prod.mk.injEq] at H
            obtain ⟨rfl,rfl,rfl,rfl,rfl,rfl,rfl,rfl,rfl⟩:=H
            try go_wp2
            replace BK225:=Aside0.mk (blk_drew BK225.out)
            replace BK226:=Aside0.mk (blk_drew BK226.out)
            replace HB:=Aside0.mk (below_drew1 HB.out)
            have q32:(x7_2:Int)≤((l0.length:Int):Int):=of_decide_eq_true (by first|(with_reducible assumption)|assumption)
            obtain ⟨i032,hi032,_,hsz32,_⟩:=info_parts info43
            have hroom32:l0.length≤c0:=HC0.out
            have hC32:Kd.C k43 _ A0 l0.length l0:=HR0.out
            have hcut32:=cut_to (P:=Try.prog) 22 43 .i64 Try.underlying22 hi032 A0 l0.length c0 x7_2 (of_decide_eq_true (by first|(with_reducible assumption)|assumption)) q32 hroom32
            have hr32:=Kd.C_take (m:=(x7_2:Int).toNat) hC32 (by omega)
            have hy32:y234.length=(x7_2:Int).toNat:=(by rw [Ny234.out,List.length_take];omega)
            rw [← Ny234.out] at hr32
            rw [← hy32] at hcut32
            have HR237:=Aside0.mk hr32
            have HC237:=Aside0.mk (show y234.length≤c0 from by omega)
            clear hr32 hC32 hroom32 hi032 hsz32
            have KY32:=Aside0.mk hy32
            clear hy32
            replace q32:=eq_true q32
            have q33:(x7_2:Int)≤((l0.length:Int):Int):=of_decide_eq_true (by first|(with_reducible assumption)|assumption)
            obtain ⟨i033,hi033,_,hsz33,_⟩:=info_parts info43
            have hroom33:l0.length≤c0:=HC0.out
            have hC33:Kd.C k43 _ A0 l0.length l0:=HR0.out
            have q033:(0:Int)≤(x7_2:Int):=of_decide_eq_true (by first|(with_reducible assumption)|assumption)
            have hcut33:=cut_from (P:=Try.prog) 22 43 .i64 Try.underlying22 hi033 2 hsz33 A0 l0.length c0 x7_2 q033 q33
            have hr33:=Kd.C_drop (m:=(x7_2:Int).toNat) (c:=c0) hC33 (by omega) hroom33
            obtain ⟨A33,hA33⟩:∃ A1,A1=(if c0=(x7_2:Int).toNat then A0 else (A0:Option Addr).map (·.add ((x7_2:Int).toNat * 2))):=⟨_,rfl⟩
            obtain ⟨c33,hc33⟩:∃ c_,c_=c0 - (x7_2:Int).toNat:=⟨_,rfl⟩
            have hy33:y241.length=l0.length - (x7_2:Int).toNat:=(by rw [Ny241.out,List.length_drop] <;> omega)
            rw [show (l0).drop (x7_2:Int).toNat=y241 from Ny241.out.symm] at hr33
            replace hr33:Kd.C k43 _ A33 y241.length y241:=(by rw [hA33];exact hr33)
            rw [← hy33,← hA33,← hc33] at hcut33
            have HR244:=Aside0.mk hr33
            have HC244:=Aside0.mk (show y241.length≤c33 from by rw [hy33,hc33];exact Nat.sub_le_sub_right hroom33 _)
            clear hr33 hC33 hroom33 hi033 hsz33 hc33
            have KY33:=Aside0.mk hy33
            have KA33:=Aside0.mk hA33
            clear hy33 hA33
            replace q33:=eq_true q33
            have p248:0≤(x7_2:Int):=of_decide_eq_true (by first|(with_reducible assumption)|assumption)
            have q248:x7_2 < (l0.length:Int):=of_decide_eq_true (by first|(with_reducible assumption)|assumption)
            obtain ⟨ad248,e248,hx248_0,hx248_1⟩:=at_T43 HR0.out x7_2 p248 q248
            have hw248_1:=hx248_1
            have hw248_0:=hx248_0
            cases e248
            replace hx248_0:=(HB.out.cell (World.block_lt_of_cell? w _ hx248_0)).trans hx248_0
            replace hx248_1:=(HB.out.cell (World.block_lt_of_cell? w _ hx248_1)).trans hx248_1
            replace p248:=eq_true p248
            replace q248:=eq_true q248
            refine start_ (n:=18) (S:=fun w'=>w'.cell? (ad248.add ((x7_2).toNat * 2))=some (.string ((rd_T43 l0 x7_2).f0))∧w'.cell? ⟨(ad248.add ((x7_2).toNat * 2)).block,(ad248.add ((x7_2).toNat * 2)).off + 1,none⟩=some (.string ((rd_T43 l0 x7_2).f1))) (ds:=[]) #[false,false,false,false,false,false,false,false,false,false,false,false,false,false,false,false,false,false] (by kernel_rfl) rfl rfl ⟨((HB.out.cell (World.block_lt_of_cell? w _ hw248_0)).trans hw248_0),((HB.out.cell (World.block_lt_of_cell? w _ hw248_1)).trans hw248_1)⟩ (fun hHeld=>?_);refine with_tabW node_splitLeaf.tab10 node_splitLeaf.bits10 (fun HT_ HW_=>?_)
            generalize wr.drew=w31 at BK225 BK226 HB HR237 HR244 hx248_0 hx248_1 hHeld ⊢
            refine pure_ (i:=0) (N:=some 45) (v:=?_) (a':=?_) #[true,false,false,false,false,false,false,false,false,false,false,false,false,false,false,false,false,false] rfl rfl (any_of HT_.out (by kernel_rfl)) (fun _ _ _ h=>h) (Or.inl ⟨by rfl,?_⟩) ?_ ?_
            rotate_left
            ·intro w'
             go_simp
             with_reducible rfl
            rotate_left
            ·simp only [Act.put,List.setIfInBounds_toArray,List.set_cons_zero,List.set_cons_succ,i64_w,i32_w]
             rfl
            refine pure_ (i:=1) (N:=some 46) (v:=?_) (a':=?_) #[true,true,false,false,false,false,false,false,false,false,false,false,false,false,false,false,false,false] rfl rfl (any_of HT_.out (by kernel_rfl)) (fun _ _ _ h=>h) (Or.inl ⟨by rfl,?_⟩) ?_ ?_
            rotate_left
            ·intro w'
             go_simp
             with_reducible rfl
            rotate_left
            ·simp only [Act.put,List.setIfInBounds_toArray,List.set_cons_zero,List.set_cons_succ,i64_w,i32_w]
             rfl
            refine pure_ (i:=2) (N:=some 47) (v:=?_) (a':=?_) #[true,true,true,false,false,false,false,false,false,false,false,false,false,false,false,false,false,false] rfl rfl (any_of HT_.out (by kernel_rfl)) (fun _ _ _ h=>h) (Or.inl ⟨by rfl,?_⟩) ?_ ?_
            rotate_left
            ·intro w'
             go_simp
             with_reducible rfl
            rotate_left
            ·simp only [Act.put,List.setIfInBounds_toArray,List.set_cons_zero,List.set_cons_succ,i64_w,i32_w]
             rfl
            refine pure_ (i:=5) (N:=some 50) (v:=?_) (a':=?_) #[true,true,true,false,false,true,false,false,false,false,false,false,false,false,false,false,false,false] rfl rfl (any_of HT_.out (by kernel_rfl)) (fun _ _ _ h=>h) (Or.inl ⟨by rfl,?_⟩) ?_ ?_
            rotate_left
            ·intro w'
             go_simp
             with_reducible rfl
            rotate_left
            ·simp only [Act.put,List.setIfInBounds_toArray,List.set_cons_zero,List.set_cons_succ,i64_w,i32_w]
             rfl
            refine pure_ (i:=6) (N:=some 51) (v:=?_) (a':=?_) #[true,true,true,false,false,true,true,false,false,false,false,false,false,false,false,false,false,false] rfl rfl (any_of HT_.out (by kernel_rfl)) (fun _ _ _ h=>h) (Or.inl ⟨by rfl,?_⟩) ?_ ?_
            rotate_left
            ·intro w'
             go_simp
             with_reducible rfl
            rotate_left
            ·simp only [Act.put,List.setIfInBounds_toArray,List.set_cons_zero,List.set_cons_succ,i64_w,i32_w]
             rfl
            refine pure_ (i:=7) (N:=some 52) (v:=?_) (a':=?_) #[true,true,true,false,false,true,true,true,false,false,false,false,false,false,false,false,false,false] rfl rfl (any_of HT_.out (by kernel_rfl)) (fun _ _ _ h=>h) (Or.inl ⟨by rfl,?_⟩) ?_ ?_
            rotate_left
            ·intro w'
             go_simp
             with_reducible rfl
            rotate_left
            ·simp only [Act.put,List.setIfInBounds_toArray,List.set_cons_zero,List.set_cons_succ,i64_w,i32_w]
             rfl
            refine pure_ (i:=10) (N:=some 55) (v:=?_) (a':=?_) #[true,true,true,false,false,true,true,true,false,false,true,false,false,false,false,false,false,false] rfl rfl (any_of HT_.out (by kernel_rfl)) (fun _ _ _ h=>h) (Or.inl ⟨by rfl,?_⟩) ?_ ?_
            rotate_left
            ·intro w'
             go_simp
             with_reducible rfl
            rotate_left
            ·simp only [Act.put,List.setIfInBounds_toArray,List.set_cons_zero,List.set_cons_succ,i64_w,i32_w]
             rfl
            refine pure_ (i:=11) (N:=some 56) (v:=?_) (a':=?_) #[true,true,true,false,false,true,true,true,false,false,true,true,false,false,false,false,false,false] rfl rfl (any_of HT_.out (by kernel_rfl)) (fun _ _ _ h=>h) (Or.inl ⟨by rfl,?_⟩) ?_ ?_
            rotate_left
            ·intro w'
             go_simp
             with_reducible rfl
            rotate_left
            ·simp only [Act.put,List.setIfInBounds_toArray,List.set_cons_zero,List.set_cons_succ,i64_w,i32_w]
             rfl
            refine pure_ (i:=12) (N:=some 57) (v:=?_) (a':=?_) #[true,true,true,false,false,true,true,true,false,false,true,true,true,false,false,false,false,false] rfl rfl (any_of HT_.out (by kernel_rfl)) (fun _ _ _ h=>h) (Or.inl ⟨by rfl,?_⟩) ?_ ?_
            rotate_left
            ·intro w'
             go_simp
             with_reducible rfl
            rotate_left
            ·simp only [Act.put,List.setIfInBounds_toArray,List.set_cons_zero,List.set_cons_succ,i64_w,i32_w]
             rfl
            refine pure_ (i:=13) (N:=some 58) (v:=?_) (a':=?_) #[true,true,true,false,false,true,true,true,false,false,true,true,true,true,false,false,false,false] rfl rfl (any_of HT_.out (by kernel_rfl)) (fun _ _ _ h=>h) (Or.inl ⟨by rfl,?_⟩) ?_ ?_
            rotate_left
            ·intro w'
             go_simp
             with_reducible rfl
            rotate_left
            ·simp only [Act.put,List.setIfInBounds_toArray,List.set_cons_zero,List.set_cons_succ,i64_w,i32_w]
             rfl
            refine take_ (i:=14) (N:=some 59) (v:=?_) (a':=?_) #[true,true,true,false,false,true,true,true,false,false,true,true,true,true,true,false,false,false] rfl rfl (take_ofW HT_.out HW_.out (by kernel_rfl)) (fun _ _ _ h=>h) (Or.inl ⟨by rfl,?_⟩) hHeld ?_ ?_
            rotate_left
            ·rintro w' ⟨s0,s1⟩
             go_simp
             with_reducible rfl
            rotate_left
            ·simp only [Act.put,List.setIfInBounds_toArray,List.set_cons_zero,List.set_cons_succ,i64_w,i32_w]
             rfl
            refine one_ (i:=3) (N:=some 48) #[true,true,true,true,false,true,true,true,false,false,true,true,true,true,true,false,false,false] rfl rfl (one_of HT_.out (by kernel_rfl)) (by decide) (fun K hK=>?_)
            refine goes_ Try.func56 (by kernel_rfl) rfl #[.slice (some ad248) y234.length c0] (by rfl) rfl rfl (by (try simp only [List.map_toArray,List.map_cons,List.map_nil]);first|done|rfl|(simp only [List.length_drop,List.length_take];rfl)|(simp (disch:=omega) only [u64_in];rfl)) ?_
            with_reducible refine (api_Pair_56.calls _ _ y234 t238 _ ?side1 ?side2 A26.out).mono ?_
            (case side1=>repeat (first|exact (Kd.C_below HR237.out HB.out)|(with_reducible refine Kd.C_alloc ?_ _)|(with_reducible refine Kd.C_drewN ?_ _)|(with_reducible refine Kd.C_drew ?_)))
            (case side2=>exact HC237.out)
            rintro e w34 ⟨v239,rfl,ho0,hb⟩
            refine ⟨_,rfl,?_⟩
            have HO240:=Aside0.mk (Kd.R_lower ho0 (below_size (by repeat (first|(with_reducible first|exact HB.out|apply zl1|apply zl2|apply zl3|refine below_set ?_ GE225.out|refine below_set ?_ GE226.out)|exact HB.out))))
            replace BK225:=Aside0.mk (blk_below (g:=gb225) (o:=.cells #[.bool false,.slice none 0 0,.slice none 0 0,.slice none 0 0] 26 (0,0)) (by (with_reducible repeat (first|apply zb1|apply zb2|apply zb3));exact BK225.out) hb)
            replace BK226:=Aside0.mk (blk_below (g:=gb226) (o:=.cells #[.bool false,.slice none 0 0,.slice none 0 0,.slice none 0 0] 26 (0,0)) (by (with_reducible repeat (first|apply zb1|apply zb2|apply zb3));exact BK226.out) hb)
            replace HB:=Aside0.mk (below_step (by repeat (first|(with_reducible first|exact HB.out|apply zl1|apply zl2|apply zl3|refine below_set ?_ GE225.out|refine below_set ?_ GE226.out)|exact HB.out)) hb)
            (try clear hb)
            (try clear hb2)
            (try clear hk)
            (try clear hi)
            (try clear ho0)
            obtain ⟨Ao35,co35,eo35⟩:=Kd.R_slice HO240.out
            (first|subst eo35|(injection eo35 with f1_ f2_ f3_;have f4_:=f1_.symm;have f5_:=f3_.symm;clear f1_ f2_ f3_;subst f4_;subst f5_))
            refine hK.out _ _ ⟨((HB.out.cell (World.block_lt_of_cell? w _ hw248_0)).trans hw248_0),((HB.out.cell (World.block_lt_of_cell? w _ hw248_1)).trans hw248_1)⟩ (fun hHeld=>?_)
            clear hK K
            refine norm_ (a':=?_) ?_ ?_
            rotate_left
            ·show Act.put _ (some 48) _=_
             simp only [Act.put,List.setIfInBounds_toArray,List.set_cons_zero,List.set_cons_succ,i64_w,i32_w]
             rfl
            refine pure_ (i:=4) (N:=some 49) (v:=?_) (a':=?_) #[true,true,true,true,true,true,true,true,false,false,true,true,true,true,true,false,false,false] rfl rfl (any_of HT_.out (by kernel_rfl)) (fun _ _ _ h=>h) (Or.inl ⟨by rfl,?_⟩) ?_ ?_
            rotate_left
            ·intro w'
             go_simp
             with_reducible rfl
            rotate_left
            ·simp only [Act.put,List.setIfInBounds_toArray,List.set_cons_zero,List.set_cons_succ,i64_w,i32_w]
             rfl
            refine one_ (i:=8) (N:=some 53) #[true,true,true,true,true,true,true,true,true,false,true,true,true,true,true,false,false,false] rfl rfl (one_of HT_.out (by kernel_rfl)) (by decide) (fun K hK=>?_)
            refine goes_ Try.func56 (by kernel_rfl) rfl #[.slice A33 y241.length c33] (by rfl) rfl rfl (by (try simp only [List.map_toArray,List.map_cons,List.map_nil]);first|done|rfl|(simp only [List.length_drop,List.length_take];rfl)|(simp (disch:=omega) only [u64_in];rfl)) ?_
            with_reducible refine (api_Pair_56.calls _ _ y241 t245 _ ?side1 ?side2 A29.out).mono ?_
            (case side1=>repeat (first|exact (Kd.C_below HR244.out HB.out)|(with_reducible refine Kd.C_alloc ?_ _)|(with_reducible refine Kd.C_drewN ?_ _)|(with_reducible refine Kd.C_drew ?_)))
            (case side2=>exact HC244.out)
            rintro e w36 ⟨v246,rfl,ho0,hb⟩
            refine ⟨_,rfl,?_⟩
            have HO247:=Aside0.mk (Kd.R_lower (Kd.R_new' ho0 (Kd.R_lt (by (with_reducible repeat (first|apply zk1|apply zk2|apply zk3));exact HO240.out))) (below_size (by repeat (first|(with_reducible first|exact HB.out|apply zl1|apply zl2|apply zl3|refine below_set ?_ GE225.out|refine below_set ?_ GE226.out)|exact HB.out))))
            replace HO240:=Aside0.mk (Kd.R_elder' (by (with_reducible repeat (first|apply zk1|apply zk2|apply zk3));exact HO240.out) (Kd.R_base ho0) hb)
            replace BK225:=Aside0.mk (blk_below (g:=gb225) (o:=.cells #[.bool false,.slice none 0 0,.slice none 0 0,.slice none 0 0] 26 (0,0)) (by (with_reducible repeat (first|apply zb1|apply zb2|apply zb3));exact BK225.out) hb)
            replace BK226:=Aside0.mk (blk_below (g:=gb226) (o:=.cells #[.bool false,.slice none 0 0,.slice none 0 0,.slice none 0 0] 26 (0,0)) (by (with_reducible repeat (first|apply zb1|apply zb2|apply zb3));exact BK226.out) hb)
            replace HB:=Aside0.mk (below_step (by repeat (first|(with_reducible first|exact HB.out|apply zl1|apply zl2|apply zl3|refine below_set ?_ GE225.out|refine below_set ?_ GE226.out)|exact HB.out)) hb)
            (try clear hb)
            (try clear hb2)
            (try clear hk)
            (try clear hi)
            (try clear ho0)
            obtain ⟨Ao37,co37,eo37⟩:=Kd.R_slice HO247.out
            (first|subst eo37|(injection eo37 with f1_ f2_ f3_;have f4_:=f1_.symm;have f5_:=f3_.symm;clear f1_ f2_ f3_;subst f4_;subst f5_))
            refine hK.out _ _ ⟨((HB.out.cell (World.block_lt_of_cell? w _ hw248_0)).trans hw248_0),((HB.out.cell (World.block_lt_of_cell? w _ hw248_1)).trans hw248_1)⟩ (fun hHeld=>?_)
            clear hK K
            refine norm_ (a':=?_) ?_ ?_
            rotate_left
            ·show Act.put _ (some 53) _=_
             simp only [Act.put,List.setIfInBounds_toArray,List.set_cons_zero,List.set_cons_succ,i64_w,i32_w]
             rfl
            refine pure_ (i:=9) (N:=some 54) (v:=?_) (a':=?_) #[true,true,true,true,true,true,true,true,true,true,true,true,true,true,true,false,false,false] rfl rfl (any_of HT_.out (by kernel_rfl)) (fun _ _ _ h=>h) (Or.inl ⟨by rfl,?_⟩) ?_ ?_
            rotate_left
            ·intro w'
             go_simp
             with_reducible rfl
            rotate_left
            ·simp only [Act.put,List.setIfInBounds_toArray,List.set_cons_zero,List.set_cons_succ,i64_w,i32_w]
             rfl
            refine one_ (i:=15) (N:=none) #[true,true,true,true,true,true,true,true,true,true,true,true,true,true,true,true,false,false] rfl rfl (one_of HT_.out (by kernel_rfl)) (by decide) (fun K hK=>?_)
            have hs38:w36.cell? ⟨gb225,0,none⟩=some (.bool false):=(blk_cell BK225.out 0).trans rfl
            have hfs38:=blk_frozen BK225.out 0
            have hns38_1:=NB226_225.out
            have hms38_1:=NB225_226.out
            have hs39:w36.cell? ⟨gb225,1,none⟩=some (.slice none 0 0):=(blk_cell BK225.out 1).trans rfl
            have hfs39:=blk_frozen BK225.out 1
            have hns39_1:=NB226_225.out
            have hms39_1:=NB225_226.out
            have hs40:w36.cell? ⟨gb225,2,none⟩=some (.slice none 0 0):=(blk_cell BK225.out 2).trans rfl
            have hfs40:=blk_frozen BK225.out 2
            have hns40_1:=NB226_225.out
            have hms40_1:=NB225_226.out
            have hs41:w36.cell? ⟨gb225,3,none⟩=some (.slice none 0 0):=(blk_cell BK225.out 3).trans rfl
            have hfs41:=blk_frozen BK225.out 3
            have hns41_1:=NB226_225.out
            have hms41_1:=NB225_226.out
            refine skip_ (w1:=?_) (by rfl) rfl ?_ ?_
            rotate_left
            ·go_simp
             rfl
            refine hK.out _ _ ⟨((far4 (g:=gb225) (by first|exact Nat.ne_of_lt (Nat.lt_of_lt_of_le (by have:=World.block_lt_of_cell? _ _ hw248_0;first|rwa [add_block] at this|exact this) GW225.out)|(rw [add_block];exact Nat.ne_of_lt (Nat.lt_of_lt_of_le (by have:=World.block_lt_of_cell? _ _ hw248_0;first|rwa [add_block] at this|exact this) GW225.out))|(show (Addr.add _ _).block ≠ _;rw [add_block];exact Nat.ne_of_lt (Nat.lt_of_lt_of_le (by have:=World.block_lt_of_cell? _ _ hw248_0;first|rwa [add_block] at this|exact this) GW225.out))|(dsimp only;exact Nat.ne_of_lt (Nat.lt_of_lt_of_le (by have:=World.block_lt_of_cell? _ _ hw248_0;first|rwa [add_block] at this|exact this) GW225.out)))).trans (hHeld.1)),((far4 (g:=gb225) (by first|exact Nat.ne_of_lt (Nat.lt_of_lt_of_le (by have:=World.block_lt_of_cell? _ _ hw248_1;first|rwa [add_block] at this|exact this) GW225.out)|(rw [add_block];exact Nat.ne_of_lt (Nat.lt_of_lt_of_le (by have:=World.block_lt_of_cell? _ _ hw248_1;first|rwa [add_block] at this|exact this) GW225.out))|(show (Addr.add _ _).block ≠ _;rw [add_block];exact Nat.ne_of_lt (Nat.lt_of_lt_of_le (by have:=World.block_lt_of_cell? _ _ hw248_1;first|rwa [add_block] at this|exact this) GW225.out))|(dsimp only;exact Nat.ne_of_lt (Nat.lt_of_lt_of_le (by have:=World.block_lt_of_cell? _ _ hw248_1;first|rwa [add_block] at this|exact this) GW225.out)))).trans (hHeld.2))⟩ (fun hHeld=>?_)
            clear hK K
            refine one_ (i:=16) (N:=none) #[true,true,true,true,true,true,true,true,true,true,true,true,true,true,true,true,true,false] rfl rfl (one_of HT_.out (by kernel_rfl)) (by decide) (fun K hK=>?_)
            have hs42:w36.cell? ⟨gb226,0,none⟩=some (.bool false):=(blk_cell BK226.out 0).trans rfl
            have hfs42:=blk_frozen BK226.out 0
            have hns42_0:=NB225_226.out
            have hms42_0:=NB226_225.out
            have hs43:w36.cell? ⟨gb226,1,none⟩=some (.slice none 0 0):=(blk_cell BK226.out 1).trans rfl
            have hfs43:=blk_frozen BK226.out 1
            have hns43_0:=NB225_226.out
            have hms43_0:=NB226_225.out
            have hs44:w36.cell? ⟨gb226,2,none⟩=some (.slice none 0 0):=(blk_cell BK226.out 2).trans rfl
            have hfs44:=blk_frozen BK226.out 2
            have hns44_0:=NB225_226.out
            have hms44_0:=NB226_225.out
            have hs45:w36.cell? ⟨gb226,3,none⟩=some (.slice none 0 0):=(blk_cell BK226.out 3).trans rfl
            have hfs45:=blk_frozen BK226.out 3
            have hns45_0:=NB225_226.out
            have hms45_0:=NB226_225.out
            refine skip_ (w1:=?_) (by rfl) rfl ?_ ?_
            rotate_left
            ·go_simp
             rfl
            refine hK.out _ _ ⟨((far4 (g:=gb226) (by first|exact Nat.ne_of_lt (Nat.lt_of_lt_of_le (by have:=World.block_lt_of_cell? _ _ hw248_0;first|rwa [add_block] at this|exact this) GW226.out)|(rw [add_block];exact Nat.ne_of_lt (Nat.lt_of_lt_of_le (by have:=World.block_lt_of_cell? _ _ hw248_0;first|rwa [add_block] at this|exact this) GW226.out))|(show (Addr.add _ _).block ≠ _;rw [add_block];exact Nat.ne_of_lt (Nat.lt_of_lt_of_le (by have:=World.block_lt_of_cell? _ _ hw248_0;first|rwa [add_block] at this|exact this) GW226.out))|(dsimp only;exact Nat.ne_of_lt (Nat.lt_of_lt_of_le (by have:=World.block_lt_of_cell? _ _ hw248_0;first|rwa [add_block] at this|exact this) GW226.out)))).trans (hHeld.1)),((far4 (g:=gb226) (by first|exact Nat.ne_of_lt (Nat.lt_of_lt_of_le (by have:=World.block_lt_of_cell? _ _ hw248_1;first|rwa [add_block] at this|exact this) GW226.out)|(rw [add_block];exact Nat.ne_of_lt (Nat.lt_of_lt_of_le (by have:=World.block_lt_of_cell? _ _ hw248_1;first|rwa [add_block] at this|exact this) GW226.out))|(show (Addr.add _ _).block ≠ _;rw [add_block];exact Nat.ne_of_lt (Nat.lt_of_lt_of_le (by have:=World.block_lt_of_cell? _ _ hw248_1;first|rwa [add_block] at this|exact this) GW226.out))|(dsimp only;exact Nat.ne_of_lt (Nat.lt_of_lt_of_le (by have:=World.block_lt_of_cell? _ _ hw248_1;first|rwa [add_block] at this|exact this) GW226.out)))).trans (hHeld.2))⟩ (fun hHeld=>?_)
            clear hK K
            refine pure_ (i:=17) (N:=some 4) (v:=?_) (a':=?_) #[true,true,true,true,true,true,true,true,true,true,true,true,true,true,true,true,true,true] rfl rfl (any_of HT_.out (by kernel_rfl)) (fun _ _ _ h=>h) (Or.inl ⟨by rfl,?_⟩) ?_ ?_
            rotate_left
            ·intro w'
             go_simp
             with_reducible rfl
            rotate_left
            ·simp only [Act.put,List.setIfInBounds_toArray,List.set_cons_zero,List.set_cons_succ,i64_w,i32_w]
             rfl
            refine done_ (done_of HT_.out (by kernel_rfl)) ?_
            try go_wp2
            refine bodyPost_ret (results_list (rs:=[.cell 2 26,.cell 3 26,.tmp 4]) rfl (by simp) (.cell gb225 26 #[.bool true,.slice Ao35 t238.length co35,.slice none 0 0,.slice none 0 0] (0,0) _ rfl (by apply zpe;(repeat (first|(with_reducible first|apply zb1|apply zb2|apply zb3|apply zpi|exact BK225.out)|refine blk_far ?_ NB225_226.out _));rfl) Try.underlying26 rfl (by kernel_rfl) (.cell gb226 26 #[.bool true,.slice Ao37 t245.length co37,.slice none 0 0,.slice none 0 0] (0,0) _ rfl (by apply zpe;(repeat (first|(with_reducible first|apply zb1|apply zb2|apply zb3|apply zpi|exact BK226.out)|refine blk_far ?_ NB226_225.out _));rfl) Try.underlying26 rfl (by kernel_rfl) (.tmp .nil)))) rfl ?_
            exact ⟨_,_,_,_,_,_,by first|(with_reducible rfl)|(simp only [isEmpty_bne,Bool.not_not] <;> rfl)|rfl|(simp [*,errW_none,errW_some] <;> rfl),by (with_reducible repeat (first|apply zk1|apply zk2|apply zk3));exact Kd.R_mono (Kd.R_far (p:=⟨gb226,3,none⟩) (Kd.R_far (p:=⟨gb226,2,none⟩) (Kd.R_far (p:=⟨gb226,1,none⟩) (Kd.R_far (p:=⟨gb226,0,none⟩) (Kd.R_far (p:=⟨gb225,3,none⟩) (Kd.R_far (p:=⟨gb225,2,none⟩) (Kd.R_far (p:=⟨gb225,1,none⟩) (Kd.R_far (p:=⟨gb225,0,none⟩) (Kd.R_types (Kd.R_types HO240.out BK225.out (by decide)) BK226.out (by decide)) (fun _ hk=>hk.1.2) (.bool true)) (fun _ hk=>hk.1.2) (.slice Ao35 t238.length co35)) (fun _ hk=>hk.1.2) (.slice none 0 0)) (fun _ hk=>hk.1.2) (.slice none 0 0)) (fun _ hk=>hk.2) (.bool true)) (fun _ hk=>hk.2) (.slice Ao37 t245.length co37)) (fun _ hk=>hk.2) (.slice none 0 0)) (fun _ hk=>hk.2) (.slice none 0 0)) (fun _ hk=>hk.1.1.2),by first|exact Kd.R_nil _ _ _ _ _|exact Kd.N_nil _ _ _ _ _|exact Kd.V_nil _ _ _ _ _|exact Kd.Q_nil _ _ _ _ _|exact Kd.S_nil _ _ _ _ _,by first|exact Kd.R_nil _ _ _ _ _|exact Kd.N_nil _ _ _ _ _|exact Kd.V_nil _ _ _ _ _|exact Kd.Q_nil _ _ _ _ _|exact Kd.S_nil _ _ _ _ _,by (with_reducible repeat (first|apply zk1|apply zk2|apply zk3));exact Kd.R_mono (Kd.R_far (p:=⟨gb226,3,none⟩) (Kd.R_far (p:=⟨gb226,2,none⟩) (Kd.R_far (p:=⟨gb226,1,none⟩) (Kd.R_far (p:=⟨gb226,0,none⟩) (Kd.R_far (p:=⟨gb225,3,none⟩) (Kd.R_far (p:=⟨gb225,2,none⟩) (Kd.R_far (p:=⟨gb225,1,none⟩) (Kd.R_far (p:=⟨gb225,0,none⟩) (Kd.R_types (Kd.R_types HO247.out BK225.out (by decide)) BK226.out (by decide)) (fun _ hk=>hk.1.2) (.bool true)) (fun _ hk=>hk.1.2) (.slice Ao35 t238.length co35)) (fun _ hk=>hk.1.2) (.slice none 0 0)) (fun _ hk=>hk.1.2) (.slice none 0 0)) (fun _ hk=>hk.2) (.bool true)) (fun _ hk=>hk.2) (.slice Ao37 t245.length co37)) (fun _ hk=>hk.2) (.slice none 0 0)) (fun _ hk=>hk.2) (.slice none 0 0)) (fun _ hk=>hk.1.1.2),by first|exact Kd.R_nil _ _ _ _ _|exact Kd.N_nil _ _ _ _ _|exact Kd.V_nil _ _ _ _ _|exact Kd.Q_nil _ _ _ _ _|exact Kd.S_nil _ _ _ _ _,by first|exact Kd.R_nil _ _ _ _ _|exact Kd.N_nil _ _ _ _ _|exact Kd.V_nil _ _ _ _ _|exact Kd.Q_nil _ _ _ _ _|exact Kd.S_nil _ _ _ _ _,by repeat (first|(with_reducible first|exact HB.out|apply zl1|apply zl2|apply zl3|refine below_set ?_ GE225.out|refine below_set ?_ GE226.out)|exact HB.out)⟩
           ·rw [if_neg c30] at H
            exact absurd H (by simp)
          ·rw [if_neg c25] at H
           exact absurd H (by simp)
         ·rw [if_neg c24] at H
          exact absurd H (by simp)
       ·rw [if_neg c18] at H
        have c18b0:decide (x7_2 < (wrap64 ((l0.length:Int) - 1)))=false:=decide_eq_false c18
        clear c18
        by_cases c46:0≤x7_2
        ·rw [if_pos c46] at H
         have c46b0:=eq_true c46
         have c46b1:decide (0≤x7_2)=true:=decide_eq_true c46
         clear c46
         by_cases c47:x7_2≤(l0.length:Int)
         ·rw [if_pos c47] at H
          have c47b0:=eq_true c47
          have c47b1:decide (x7_2≤(l0.length:Int))=true:=decide_eq_true c47
          clear c47
          obtain ⟨y249,hy249⟩:∃ y_:List (S43),y_=(l0.take (x7_2:Int).toNat):=⟨_,rfl⟩
          replace H:((api_Pair_56.f y249).bind fun t253=>((api_Pair_56.f (l0.drop (x7_2:Int).toNat)).bind fun t260=>(if x7_2 < (l0.length:Int) then (some (true,t253,([]:List ByteArray),([]:List Int),true,t260,([]:List ByteArray),([]:List Int),(rd_T43 l0 x7_2).f0)) else (none))))=some (r1,r2,r3,r4,r5,r6,r7,r8,r9):=by first|(rw [hy249];with_reducible exact H)|(have H2_:=(Option.bind_some _ _).symm.trans H;rw [hy249];with_reducible exact H2_)|(have H2_:=(Option.bind_some _ _).symm.trans H;with_reducible exact H2_)|with_reducible exact H|(rw [hy249];exact H)|exact H
          have Ny249:=Aside0.mk hy249
          clear hy249
          replace H:=Option.bind_eq_some_iff.mp H
          obtain ⟨t253,A480,H⟩:=H
          replace H:((api_Pair_56.f (l0.drop (x7_2:Int).toNat)).bind fun t260=>(if x7_2 < (l0.length:Int) then (some (true,t253,([]:List ByteArray),([]:List Int),true,t260,([]:List ByteArray),([]:List Int),(rd_T43 l0 x7_2).f0)) else (none)))=some (r1,r2,r3,r4,r5,r6,r7,r8,r9):=H
          have A48:=Aside0.mk A480
          clear A480
          have c49b0:=eq_true (of_decide_eq_true (by first|(with_reducible assumption)|assumption):0≤x7_2)
          have c50b0:=eq_true (of_decide_eq_true (by first|(with_reducible assumption)|assumption):x7_2≤(l0.length:Int))
          obtain ⟨y256,hy256⟩:∃ y_:List (S43),y_=(l0.drop (x7_2:Int).toNat):=⟨_,rfl⟩
          replace H:((api_Pair_56.f y256).bind fun t260=>(if x7_2 < (l0.length:Int) then (some (true,t253,([]:List ByteArray),([]:List Int),true,t260,([]:List ByteArray),([]:List Int),(rd_T43 l0 x7_2).f0)) else (none)))=some (r1,r2,r3,r4,r5,r6,r7,r8,r9):=by first|(rw [hy256];with_reducible exact H)|(have H2_:=(Option.bind_some _ _).symm.trans H;rw [hy256];with_reducible exact H2_)|(have H2_:=(Option.bind_some _ _).symm.trans H;with_reducible exact H2_)|with_reducible exact H|(rw [hy256];exact H)|exact H
          have Ny256:=Aside0.mk hy256
          clear hy256
          replace H:=Option.bind_eq_some_iff.mp H
          obtain ⟨t260,A510,H⟩:=H
          replace H:(if x7_2 < (l0.length:Int) then (some (true,t253,([]:List ByteArray),([]:List Int),true,t260,([]:List ByteArray),([]:List Int),(rd_T43 l0 x7_2).f0)) else (none))=some (r1,r2,r3,r4,r5,r6,r7,r8,r9):=H
          have A51:=Aside0.mk A510
          clear A510
          by_cases c52:x7_2 < (l0.length:Int)
          ·rw [if_pos c52] at H
           have c52b0:decide (x7_2 < (l0.length:Int))=true:=decide_eq_true c52
           clear c52
           simp only [Option.some.injEq,Prod.mk.injEq] at H
           obtain ⟨rfl,rfl,rfl,rfl,rfl,rfl,rfl,rfl,rfl⟩:=H
           try go_wp2
           replace BK225:=Aside0.mk (blk_drew BK225.out)
           replace BK226:=Aside0.mk (blk_drew BK226.out)
           replace HB:=Aside0.mk (below_drew1 HB.out)
           have q54:(x7_2:Int)≤((l0.length:Int):Int):=of_decide_eq_true (by first|(with_reducible assumption)|assumption)
           obtain ⟨i054,hi054,_,hsz54,_⟩:=info_parts info43
           have hroom54:l0.length≤c0:=HC0.out
           have hC54:Kd.C k43 _ A0 l0.length l0:=HR0.out
           have hcut54:=cut_to (P:=Try.prog) 22 43 .i64 Try.underlying22 hi054 A0 l0.length c0 x7_2 (of_decide_eq_true (by first|(with_reducible assumption)|assumption)) q54 hroom54
           have hr54:=Kd.C_take (m:=(x7_2:Int).toNat) hC54 (by omega)
           have hy54:y249.length=(x7_2:Int).toNat:=(by rw [Ny249.out,List.length_take];omega)
           rw [← Ny249.out] at hr54
           rw [← hy54] at hcut54
           have HR252:=Aside0.mk hr54
           have HC252:=Aside0.mk (show y249.length≤c0 from by omega)
           clear hr54 hC54 hroom54 hi054 hsz54
           have KY54:=Aside0.mk hy54
           clear hy54
           replace q54:=eq_true q54
           have q55:(x7_2:Int)≤((l0.length:Int):Int):=of_decide_eq_true (by first|(with_reducible assumption)|assumption)
           obtain ⟨i055,hi055,_,hsz55,_⟩:=info_parts info43
           have hroom55:l0.length≤c0:=HC0.out
           have hC55:Kd.C k43 _ A0 l0.length l0:=HR0.out
           have q055:(0:Int)≤(x7_2:Int):=of_decide_eq_true (by first|(with_reducible assumption)|assumption)
           have hcut55:=cut_from (P:=Try.prog) 22 43 .i64 Try.underlying22 hi055 2 hsz55 A0 l0.length c0 x7_2 q055 q55
           have hr55:=Kd.C_drop (m:=(x7_2:Int).toNat) (c:=c0) hC55 (by omega) hroom55
           obtain ⟨A55,hA55⟩:∃ A1,A1=(if c0=(x7_2:Int).toNat then A0 else (A0:Option Addr).map (·.add ((x7_2:Int).toNat * 2))):=⟨_,rfl⟩
           obtain ⟨c55,hc55⟩:∃ c_,c_=c0 - (x7_2:Int).toNat:=⟨_,rfl⟩
           have hy55:y256.length=l0.length - (x7_2:Int).toNat:=(by rw [Ny256.out,List.length_drop] <;> omega)
           rw [show (l0).drop (x7_2:Int).toNat=y256 from Ny256.out.symm] at hr55
           replace hr55:Kd.C k43 _ A55 y256.length y256:=(by rw [hA55];exact hr55)
           rw [← hy55,← hA55,← hc55] at hcut55
           have HR259:=Aside0.mk hr55
           have HC259:=Aside0.mk (show y256.length≤c55 from by rw [hy55,hc55];exact Nat.sub_le_sub_right hroom55 _)
           clear hr55 hC55 hroom55 hi055 hsz55 hc55
           have KY55:=Aside0.mk hy55
           have KA55:=Aside0.mk hA55
           clear hy55 hA55
           replace q55:=eq_true q55
           have p263:0≤(x7_2:Int):=of_decide_eq_true (by first|(with_reducible assumption)|assumption)
           have q263:x7_2 < (l0.length:Int):=of_decide_eq_true (by first|(with_reducible assumption)|assumption)
           obtain ⟨ad263,e263,hx263_0,hx263_1⟩:=at_T43 HR0.out x7_2 p263 q263
           have hw263_1:=hx263_1
           have hw263_0:=hx263_0
           cases e263
           replace hx263_0:=(HB.out.cell (World.block_lt_of_cell? w _ hx263_0)).trans hx263_0
           replace hx263_1:=(HB.out.cell (World.block_lt_of_cell? w _ hx263_1)).trans hx263_1
           replace p263:=eq_true p263
           replace q263:=eq_true q263
           refine start_ (n:=18) (S:=fun w'=>w'.cell? (ad263.add ((x7_2).toNat * 2))=some (.string ((rd_T43 l0 x7_2).f0))∧w'.cell? ⟨(ad263.add ((x7_2).toNat * 2)).block,(ad263.add ((x7_2).toNat * 2)).off + 1,none⟩=some (.string ((rd_T43 l0 x7_2).f1))) (ds:=[]) #[false,false,false,false,false,false,false,false,false,false,false,false,false,false,false,false,false,false] (by kernel_rfl) rfl rfl ⟨((HB.out.cell (World.block_lt_of_cell? w _ hw263_0)).trans hw263_0),((HB.out.cell (World.block_lt_of_cell? w _ hw263_1)).trans hw263_1)⟩ (fun hHeld=>?_);refine with_tabW node_splitLeaf.tab10 node_splitLeaf.bits10 (fun HT_ HW_=>?_)
           generalize wr.drew=w53 at BK225 BK226 HB HR252 HR259 hx263_0 hx263_1 hHeld ⊢
           refine pure_ (i:=0) (N:=some 45) (v:=?_) (a':=?_) #[true,false,false,false,false,false,false,false,false,false,false,false,false,false,false,false,false,false] rfl rfl (any_of HT_.out (by kernel_rfl)) (fun _ _ _ h=>h) (Or.inl ⟨by rfl,?_⟩) ?_ ?_
           rotate_left
           ·intro w'
            go_simp
            with_reducible rfl
           rotate_left
           ·simp only [Act.put,List.setIfInBounds_toArray,List.set_cons_zero,List.set_cons_succ,i64_w,i32_w]
            rfl
           refine pure_ (i:=1) (N:=some 46) (v:=?_) (a':=?_) #[true,true,false,false,false,false,false,false,false,false,false,false,false,false,false,false,false,false] rfl rfl (any_of HT_.out (by kernel_rfl)) (fun _ _ _ h=>h) (Or.inl ⟨by rfl,?_⟩) ?_ ?_
           rotate_left
           ·intro w'
            go_simp
            with_reducible rfl
           rotate_left
           ·simp only [Act.put,List.setIfInBounds_toArray,List.set_cons_zero,List.set_cons_succ,i64_w,i32_w]
            rfl
           refine pure_ (i:=2) (N:=some 47) (v:=?_) (a':=?_) #[true,true,true,false,false,false,false,false,false,false,false,false,false,false,false,false,false,false] rfl rfl (any_of HT_.out (by kernel_rfl)) (fun _ _ _ h=>h) (Or.inl ⟨by rfl,?_⟩) ?_ ?_
           rotate_left
           ·intro w'
            go_simp
            with_reducible rfl
           rotate_left
           ·simp only [Act.put,List.setIfInBounds_toArray,List.set_cons_zero,List.set_cons_succ,i64_w,i32_w]
            rfl
           refine pure_ (i:=5) (N:=some 50) (v:=?_) (a':=?_) #[true,true,true,false,false,true,false,false,false,false,false,false,false,false,false,false,false,false] rfl rfl (any_of HT_.out (by kernel_rfl)) (fun _ _ _ h=>h) (Or.inl ⟨by rfl,?_⟩) ?_ ?_
           rotate_left
           ·intro w'
            go_simp
            with_reducible rfl
           rotate_left
           ·simp only [Act.put,List.setIfInBounds_toArray,List.set_cons_zero,List.set_cons_succ,i64_w,i32_w]
            rfl
           refine pure_ (i:=6) (N:=some 51) (v:=?_) (a':=?_) #[true,true,true,false,false,true,true,false,false,false,false,false,false,false,false,false,false,false] rfl rfl (any_of HT_.out (by kernel_rfl)) (fun _ _ _ h=>h) (Or.inl ⟨by rfl,?_⟩) ?_ ?_
           rotate_left
           ·intro w'
            go_simp
            with_reducible rfl
           rotate_left
           ·simp only [Act.put,List.setIfInBounds_toArray,List.set_cons_zero,List.set_cons_succ,i64_w,i32_w]
            rfl
           refine pure_ (i:=7) (N:=some 52) (v:=?_) (a':=?_) #[true,true,true,false,false,true,true,true,false,false,false,false,false,false,false,false,false,false] rfl rfl (any_of HT_.out (by kernel_rfl)) (fun _ _ _ h=>h) (Or.inl ⟨by rfl,?_⟩) ?_ ?_
           rotate_left
           ·intro w'
            go_simp
            with_reducible rfl
           rotate_left
           ·simp only [Act.put,List.setIfInBounds_toArray,List.set_cons_zero,List.set_cons_succ,i64_w,i32_w]
            rfl
           refine pure_ (i:=10) (N:=some 55) (v:=?_) (a':=?_) #[true,true,true,false,false,true,true,true,false,false,true,false,false,false,false,false,false,false] rfl rfl (any_of HT_.out (by kernel_rfl)) (fun _ _ _ h=>h) (Or.inl ⟨by rfl,?_⟩) ?_ ?_
           rotate_left
           ·intro w'
            go_simp
            with_reducible rfl
           rotate_left
           ·simp only [Act.put,List.setIfInBounds_toArray,List.set_cons_zero,List.set_cons_succ,i64_w,i32_w]
            rfl
           refine pure_ (i:=11) (N:=some 56) (v:=?_) (a':=?_) #[true,true,true,false,false,true,true,true,false,false,true,true,false,false,false,false,false,false] rfl rfl (any_of HT_.out (by kernel_rfl)) (fun _ _ _ h=>h) (Or.inl ⟨by rfl,?_⟩) ?_ ?_
           rotate_left
           ·intro w'
            go_simp
            with_reducible rfl
           rotate_left
           ·simp only [Act.put,List.setIfInBounds_toArray,List.set_cons_zero,List.set_cons_succ,i64_w,i32_w]
            rfl
           refine pure_ (i:=12) (N:=some 57) (v:=?_) (a':=?_) #[true,true,true,false,false,true,true,true,false,false,true,true,true,false,false,false,false,false] rfl rfl (any_of HT_.out (by kernel_rfl)) (fun _ _ _ h=>h) (Or.inl ⟨by rfl,?_⟩) ?_ ?_
           rotate_left
           ·intro w'
            go_simp
            with_reducible rfl
           rotate_left
           ·simp only [Act.put,List.setIfInBounds_toArray,List.set_cons_zero,List.set_cons_succ,i64_w,i32_w]
            rfl
           refine pure_ (i:=13) (N:=some 58) (v:=?_) (a':=?_) #[true,true,true,false,false,true,true,true,false,false,true,true,true,true,false,false,false,false] rfl rfl (any_of HT_.out (by kernel_rfl)) (fun _ _ _ h=>h) (Or.inl ⟨by rfl,?_⟩) ?_ ?_
           rotate_left
           ·intro w'
            go_simp
            with_reducible rfl
           rotate_left
           ·simp only [Act.put,List.setIfInBounds_toArray,List.set_cons_zero,List.set_cons_succ,i64_w,i32_w]
            rfl
           refine take_ (i:=14) (N:=some 59) (v:=?_) (a':=?_) #[true,true,true,false,false,true,true,true,false,false,true,true,true,true,true,false,false,false] rfl rfl (take_ofW HT_.out HW_.out (by kernel_rfl)) (fun _ _ _ h=>h) (Or.inl ⟨by rfl,?_⟩) hHeld ?_ ?_
           rotate_left
           ·rintro w' ⟨s0,s1⟩
            go_simp
            with_reducible rfl
           rotate_left
           ·simp only [Act.put,List.setIfInBounds_toArray,List.set_cons_zero,List.set_cons_succ,i64_w,i32_w]
            rfl
           refine one_ (i:=3) (N:=some 48) #[true,true,true,true,false,true,true,true,false,false,true,true,true,true,true,false,false,false] rfl rfl (one_of HT_.out (by kernel_rfl)) (by decide) (fun K hK=>?_)
           refine goes_ Try.func56 (by kernel_rfl) rfl #[.slice (some ad263) y249.length c0] (by rfl) rfl rfl (by (try simp only [List.map_toArray,List.map_cons,List.map_nil]);first|done|rfl|(simp only [List.length_drop,List.length_take];rfl)|(simp (disch:=omega) only [u64_in];rfl)) ?_
           with_reducible refine (api_Pair_56.calls _ _ y249 t253 _ ?side1 ?side2 A48.out).mono ?_
           (case side1=>repeat (first|exact (Kd.C_below HR252.out HB.out)|(with_reducible refine Kd.C_alloc ?_ _)|(with_reducible refine Kd.C_drewN ?_ _)|(with_reducible refine Kd.C_drew ?_)))
           (case side2=>exact HC252.out)
           rintro e w56 ⟨v254,rfl,ho0,hb⟩
           refine ⟨_,rfl,?_⟩
           have HO255:=Aside0.mk (Kd.R_lower ho0 (below_size (by repeat (first|(with_reducible first|exact HB.out|apply zl1|apply zl2|apply zl3|refine below_set ?_ GE225.out|refine below_set ?_ GE226.out)|exact HB.out))))
           replace BK225:=Aside0.mk (blk_below (g:=gb225) (o:=.cells #[.bool false,.slice none 0 0,.slice none 0 0,.slice none 0 0] 26 (0,0)) (by (with_reducible repeat (first|apply zb1|apply zb2|apply zb3));exact BK225.out) hb)
           replace BK226:=Aside0.mk (blk_below (g:=gb226) (o:=.cells #[.bool false,.slice none 0 0,.slice none 0 0,.slice none 0 0] 26 (0,0)) (by (with_reducible repeat (first|apply zb1|apply zb2|apply zb3));exact BK226.out) hb)
           replace HB:=Aside0.mk (below_step (by repeat (first|(with_reducible first|exact HB.out|apply zl1|apply zl2|apply zl3|refine below_set ?_ GE225.out|refine below_set ?_ GE226.out)|exact HB.out)) hb)
           (try clear hb)
           (try clear hb2)
           (try clear hk)
           (try clear hi)
           (try clear ho0)
           obtain ⟨Ao57,co57,eo57⟩:=Kd.R_slice HO255.out
           (first|subst eo57|(injection eo57 with f1_ f2_ f3_;have f4_:=f1_.symm;have f5_:=f3_.symm;clear f1_ f2_ f3_;subst f4_;subst f5_))
           refine hK.out _ _ ⟨((HB.out.cell (World.block_lt_of_cell? w _ hw263_0)).trans hw263_0),((HB.out.cell (World.block_lt_of_cell? w _ hw263_1)).trans hw263_1)⟩ (fun hHeld=>?_)
           clear hK K
           refine norm_ (a':=?_) ?_ ?_
           rotate_left
           ·show Act.put _ (some 48) _=_
            simp only [Act.put,List.setIfInBounds_toArray,List.set_cons_zero,List.set_cons_succ,i64_w,i32_w]
            rfl
           refine pure_ (i:=4) (N:=some 49) (v:=?_) (a':=?_) #[true,true,true,true,true,true,true,true,false,false,true,true,true,true,true,false,false,false] rfl rfl (any_of HT_.out (by kernel_rfl)) (fun _ _ _ h=>h) (Or.inl ⟨by rfl,?_⟩) ?_ ?_
           rotate_left
           ·intro w'
            go_simp
            with_reducible rfl
           rotate_left
           ·simp only [Act.put,List.setIfInBounds_toArray,List.set_cons_zero,List.set_cons_succ,i64_w,i32_w]
            rfl
           refine one_ (i:=8) (N:=some 53) #[true,true,true,true,true,true,true,true,true,false,true,true,true,true,true,false,false,false] rfl rfl (one_of HT_.out (by kernel_rfl)) (by decide) (fun K hK=>?_)
           refine goes_ Try.func56 (by kernel_rfl) rfl #[.slice A55 y256.length c55] (by rfl) rfl rfl (by (try simp only [List.map_toArray,List.map_cons,List.map_nil]);first|done|rfl|(simp only [List.length_drop,List.length_take];rfl)|(simp (disch:=omega) only [u64_in];rfl)) ?_
           with_reducible refine (api_Pair_56.calls _ _ y256 t260 _ ?side1 ?side2 A51.out).mono ?_
           (case side1=>repeat (first|exact (Kd.C_below HR259.out HB.out)|(with_reducible refine Kd.C_alloc ?_ _)|(with_reducible refine Kd.C_drewN ?_ _)|(with_reducible refine Kd.C_drew ?_)))
           (case side2=>exact HC259.out)
           rintro e w58 ⟨v261,rfl,ho0,hb⟩
           refine ⟨_,rfl,?_⟩
           have HO262:=Aside0.mk (Kd.R_lower (Kd.R_new' ho0 (Kd.R_lt (by (with_reducible repeat (first|apply zk1|apply zk2|apply zk3));exact HO255.out))) (below_size (by repeat (first|(with_reducible first|exact HB.out|apply zl1|apply zl2|apply zl3|refine below_set ?_ GE225.out|refine below_set ?_ GE226.out)|exact HB.out))))
           replace HO255:=Aside0.mk (Kd.R_elder' (by (with_reducible repeat (first|apply zk1|apply zk2|apply zk3));exact HO255.out) (Kd.R_base ho0) hb)
           replace BK225:=Aside0.mk (blk_below (g:=gb225) (o:=.cells #[.bool false,.slice none 0 0,.slice none 0 0,.slice none 0 0] 26 (0,0)) (by (with_reducible repeat (first|apply zb1|apply zb2|apply zb3));exact BK225.out) hb)
           replace BK226:=Aside0.mk (blk_below (g:=gb226) (o:=.cells #[.bool false,.slice none 0 0,.slice none 0 0,.slice none 0 0] 26 (0,0)) (by (with_reducible repeat (first|apply zb1|apply zb2|apply zb3));exact BK226.out) hb)
           replace HB:=Aside0.mk (below_step (by repeat (first|(with_reducible first|exact HB.out|apply zl1|apply zl2|apply zl3|refine below_set ?_ GE225.out|refine below_set ?_ GE226.out)|exact HB.out)) hb)
           (try clear hb)
           (try clear hb2)
           (try clear hk)
           (try clear hi)
           (try clear ho0)
           obtain ⟨Ao59,co59,eo59⟩:=Kd.R_slice HO262.out
           (first|subst eo59|(injection eo59 with f1_ f2_ f3_;have f4_:=f1_.symm;have f5_:=f3_.symm;clear f1_ f2_ f3_;subst f4_;subst f5_))
           refine hK.out _ _ ⟨((HB.out.cell (World.block_lt_of_cell? w _ hw263_0)).trans hw263_0),((HB.out.cell (World.block_lt_of_cell? w _ hw263_1)).trans hw263_1)⟩ (fun hHeld=>?_)
           clear hK K
           refine norm_ (a':=?_) ?_ ?_
           rotate_left
           ·show Act.put _ (some 53) _=_
            simp only [Act.put,List.setIfInBounds_toArray,List.set_cons_zero,List.set_cons_succ,i64_w,i32_w]
            rfl
           refine pure_ (i:=9) (N:=some 54) (v:=?_) (a':=?_) #[true,true,true,true,true,true,true,true,true,true,true,true,true,true,true,false,false,false] rfl rfl (any_of HT_.out (by kernel_rfl)) (fun _ _ _ h=>h) (Or.inl ⟨by rfl,?_⟩) ?_ ?_
           rotate_left
           ·intro w'
            go_simp
            with_reducible rfl
           rotate_left
           ·simp only [Act.put,List.setIfInBounds_toArray,List.set_cons_zero,List.set_cons_succ,i64_w,i32_w]
            rfl
           refine one_ (i:=15) (N:=none) #[true,true,true,true,true,true,true,true,true,true,true,true,true,true,true,true,false,false] rfl rfl (one_of HT_.out (by kernel_rfl)) (by decide) (fun K hK=>?_)
           have hs60:w58.cell? ⟨gb225,0,none⟩=some (.bool false):=(blk_cell BK225.out 0).trans rfl
           have hfs60:=blk_frozen BK225.out 0
           have hns60_1:=NB226_225.out
           have hms60_1:=NB225_226.out
           have hs61:w58.cell? ⟨gb225,1,none⟩=some (.slice none 0 0):=(blk_cell BK225.out 1).trans rfl
           have hfs61:=blk_frozen BK225.out 1
           have hns61_1:=NB226_225.out
           have hms61_1:=NB225_226.out
           have hs62:w58.cell? ⟨gb225,2,none⟩=some (.slice none 0 0):=(blk_cell BK225.out 2).trans rfl
           have hfs62:=blk_frozen BK225.out 2
           have hns62_1:=NB226_225.out
           have hms62_1:=NB225_226.out
           have hs63:w58.cell? ⟨gb225,3,none⟩=some (.slice none 0 0):=(blk_cell BK225.out 3).trans rfl
           have hfs63:=blk_frozen BK225.out 3
           have hns63_1:=NB226_225.out
           have hms63_1:=NB225_226.out
           refine skip_ (w1:=?_) (by rfl) rfl ?_ ?_
           rotate_left
           ·go_simp
            rfl
           refine hK.out _ _ ⟨((far4 (g:=gb225) (by first|exact Nat.ne_of_lt (Nat.lt_of_lt_of_le (by have:=World.block_lt_of_cell? _ _ hw263_0;first|rwa [add_block] at this|exact this) GW225.out)|(rw [add_block];exact Nat.ne_of_lt (Nat.lt_of_lt_of_le (by have:=World.block_lt_of_cell? _ _ hw263_0;first|rwa [add_block] at this|exact this) GW225.out))|(show (Addr.add _ _).block ≠ _;rw [add_block];exact Nat.ne_of_lt (Nat.lt_of_lt_of_le (by have:=World.block_lt_of_cell? _ _ hw263_0;first|rwa [add_block] at this|exact this) GW225.out))|(dsimp only;exact Nat.ne_of_lt (Nat.lt_of_lt_of_le (by have:=World.block_lt_of_cell? _ _ hw263_0;first|rwa [add_block] at this|exact this) GW225.out)))).trans (hHeld.1)),((far4 (g:=gb225) (by first|exact Nat.ne_of_lt (Nat.lt_of_lt_of_le (by have:=World.block_lt_of_cell? _ _ hw263_1;first|rwa [add_block] at this|exact this) GW225.out)|(rw [add_block];exact Nat.ne_of_lt (Nat.lt_of_lt_of_le (by have:=World.block_lt_of_cell? _ _ hw263_1;first|rwa [add_block] at this|exact this) GW225.out))|(show (Addr.add _ _).block ≠ _;rw [add_block];exact Nat.ne_of_lt (Nat.lt_of_lt_of_le (by have:=World.block_lt_of_cell? _ _ hw263_1;first|rwa [add_block] at this|exact this) GW225.out))|(dsimp only;exact Nat.ne_of_lt (Nat.lt_of_lt_of_le (by have:=World.block_lt_of_cell? _ _ hw263_1;first|rwa [add_block] at this|exact this) GW225.out)))).trans (hHeld.2))⟩ (fun hHeld=>?_)
           clear hK K
           refine one_ (i:=16) (N:=none) #[true,true,true,true,true,true,true,true,true,true,true,true,true,true,true,true,true,false] rfl rfl (one_of HT_.out (by kernel_rfl)) (by decide) (fun K hK=>?_)
           have hs64:w58.cell? ⟨gb226,0,none⟩=some (.bool false):=(blk_cell BK226.out 0).trans rfl
           have hfs64:=blk_frozen BK226.out 0
           have hns64_0:=NB225_226.out
           have hms64_0:=NB226_225.out
           have hs65:w58.cell? ⟨gb226,1,none⟩=some (.slice none 0 0):=(blk_cell BK226.out 1).trans rfl
           have hfs65:=blk_frozen BK226.out 1
           have hns65_0:=NB225_226.out
           have hms65_0:=NB226_225.out
           have hs66:w58.cell? ⟨gb226,2,none⟩=some (.slice none 0 0):=(blk_cell BK226.out 2).trans rfl
           have hfs66:=blk_frozen BK226.out 2
           have hns66_0:=NB225_226.out
           have hms66_0:=NB226_225.out
           have hs67:w58.cell? ⟨gb226,3,none⟩=some (.slice none 0 0):=(blk_cell BK226.out 3).trans rfl
           have hfs67:=blk_frozen BK226.out 3
           have hns67_0:=NB225_226.out
           have hms67_0:=NB226_225.out
           refine skip_ (w1:=?_) (by rfl) rfl ?_ ?_
           rotate_left
           ·go_simp
            rfl
           refine hK.out _ _ ⟨((far4 (g:=gb226) (by first|exact Nat.ne_of_lt (Nat.lt_of_lt_of_le (by have:=World.block_lt_of_cell? _ _ hw263_0;first|rwa [add_block] at this|exact this) GW226.out)|(rw [add_block];exact Nat.ne_of_lt (Nat.lt_of_lt_of_le (by have:=World.block_lt_of_cell? _ _ hw263_0;first|rwa [add_block] at this|exact this) GW226.out))|(show (Addr.add _ _).block ≠ _;rw [add_block];exact Nat.ne_of_lt (Nat.lt_of_lt_of_le (by have:=World.block_lt_of_cell? _ _ hw263_0;first|rwa [add_block] at this|exact this) GW226.out))|(dsimp only;exact Nat.ne_of_lt (Nat.lt_of_lt_of_le (by have:=World.block_lt_of_cell? _ _ hw263_0;first|rwa [add_block] at this|exact this) GW226.out)))).trans (hHeld.1)),((far4 (g:=gb226) (by first|exact Nat.ne_of_lt (Nat.lt_of_lt_of_le (by have:=World.block_lt_of_cell? _ _ hw263_1;first|rwa [add_block] at this|exact this) GW226.out)|(rw [add_block];exact Nat.ne_of_lt (Nat.lt_of_lt_of_le (by have:=World.block_lt_of_cell? _ _ hw263_1;first|rwa [add_block] at this|exact this) GW226.out))|(show (Addr.add _ _).block ≠ _;rw [add_block];exact Nat.ne_of_lt (Nat.lt_of_lt_of_le (by have:=World.block_lt_of_cell? _ _ hw263_1;first|rwa [add_block] at this|exact this) GW226.out))|(dsimp only;exact Nat.ne_of_lt (Nat.lt_of_lt_of_le (by have:=World.block_lt_of_cell? _ _ hw263_1;first|rwa [add_block] at this|exact this) GW226.out)))).trans (hHeld.2))⟩ (fun hHeld=>?_)
           clear hK K
           refine pure_ (i:=17) (N:=some 4) (v:=?_) (a':=?_) #[true,true,true,true,true,true,true,true,true,true,true,true,true,true,true,true,true,true] rfl rfl (any_of HT_.out (by kernel_rfl)) (fun _ _ _ h=>h) (Or.inl ⟨by rfl,?_⟩) ?_ ?_
           rotate_left
           ·intro w'
            go_simp
            with_reducible rfl
           rotate_left
           ·simp only [Act.put,List.setIfInBounds_toArray,List.set_cons_zero,List.set_cons_succ,i64_w,i32_w]
            rfl
           refine done_ (done_of HT_.out (by kernel_rfl)) ?_
           try go_wp2
           refine bodyPost_ret (results_list (rs:=[.cell 2 26,.cell 3 26,.tmp 4]) rfl (by simp) (.cell gb225 26 #[.bool true,.slice Ao57 t253.length co57,.slice none 0 0,.slice none 0 0] (0,0) _ rfl (by apply zpe;(repeat (first|(with_reducible first|apply zb1|apply zb2|apply zb3|apply zpi|exact BK225.out)|refine blk_far ?_ NB225_226.out _));rfl) Try.underlying26 rfl (by kernel_rfl) (.cell gb226 26 #[.bool true,.slice Ao59 t260.length co59,.slice none 0 0,.slice none 0 0] (0,0) _ rfl (by apply zpe;(repeat (first|(with_reducible first|apply zb1|apply zb2|apply zb3|apply zpi|exact BK226.out)|refine blk_far ?_ NB226_225.out _));rfl) Try.underlying26 rfl (by kernel_rfl) (.tmp .nil)))) rfl ?_
           exact ⟨_,_,_,_,_,_,by first|(with_reducible rfl)|(simp only [isEmpty_bne,Bool.not_not] <;> rfl)|rfl|(simp [*,errW_none,errW_some] <;> rfl),by (with_reducible repeat (first|apply zk1|apply zk2|apply zk3));exact Kd.R_mono (Kd.R_far (p:=⟨gb226,3,none⟩) (Kd.R_far (p:=⟨gb226,2,none⟩) (Kd.R_far (p:=⟨gb226,1,none⟩) (Kd.R_far (p:=⟨gb226,0,none⟩) (Kd.R_far (p:=⟨gb225,3,none⟩) (Kd.R_far (p:=⟨gb225,2,none⟩) (Kd.R_far (p:=⟨gb225,1,none⟩) (Kd.R_far (p:=⟨gb225,0,none⟩) (Kd.R_types (Kd.R_types HO255.out BK225.out (by decide)) BK226.out (by decide)) (fun _ hk=>hk.1.2) (.bool true)) (fun _ hk=>hk.1.2) (.slice Ao57 t253.length co57)) (fun _ hk=>hk.1.2) (.slice none 0 0)) (fun _ hk=>hk.1.2) (.slice none 0 0)) (fun _ hk=>hk.2) (.bool true)) (fun _ hk=>hk.2) (.slice Ao59 t260.length co59)) (fun _ hk=>hk.2) (.slice none 0 0)) (fun _ hk=>hk.2) (.slice none 0 0)) (fun _ hk=>hk.1.1.2),by first|exact Kd.R_nil _ _ _ _ _|exact Kd.N_nil _ _ _ _ _|exact Kd.V_nil _ _ _ _ _|exact Kd.Q_nil _ _ _ _ _|exact Kd.S_nil _ _ _ _ _,by first|exact Kd.R_nil _ _ _ _ _|exact Kd.N_nil _ _ _ _ _|exact Kd.V_nil _ _ _ _ _|exact Kd.Q_nil _ _ _ _ _|exact Kd.S_nil _ _ _ _ _,by (with_reducible repeat (first|apply zk1|apply zk2|apply zk3));exact Kd.R_mono (Kd.R_far (p:=⟨gb226,3,none⟩) (Kd.R_far (p:=⟨gb226,2,none⟩) (Kd.R_far (p:=⟨gb226,1,none⟩) (Kd.R_far (p:=⟨gb226,0,none⟩) (Kd.R_far (p:=⟨gb225,3,none⟩) (Kd.R_far (p:=⟨gb225,2,none⟩) (Kd.R_far (p:=⟨gb225,1,none⟩) (Kd.R_far (p:=⟨gb225,0,none⟩) (Kd.R_types (Kd.R_types HO262.out BK225.out (by decide)) BK226.out (by decide)) (fun _ hk=>hk.1.2) (.bool true)) (fun _ hk=>hk.1.2) (.slice Ao57 t253.length co57)) (fun _ hk=>hk.1.2) (.slice none 0 0)) (fun _ hk=>hk.1.2) (.slice none 0 0)) (fun _ hk=>hk.2) (.bool true)) (fun _ hk=>hk.2) (.slice Ao59 t260.length co59)) (fun _ hk=>hk.2) (.slice none 0 0)) (fun _ hk=>hk.2) (.slice none 0 0)) (fun _ hk=>hk.1.1.2),by first|exact Kd.R_nil _ _ _ _ _|exact Kd.N_nil _ _ _ _ _|exact Kd.V_nil _ _ _ _ _|exact Kd.Q_nil _ _ _ _ _|exact Kd.S_nil _ _ _ _ _,by first|exact Kd.R_nil _ _ _ _ _|exact Kd.N_nil _ _ _ _ _|exact Kd.V_nil _ _ _ _ _|exact Kd.Q_nil _ _ _ _ _|exact Kd.S_nil _ _ _ _ _,by repeat (first|(with_reducible first|exact HB.out|apply zl1|apply zl2|apply zl3|refine below_set ?_ GE225.out|refine below_set ?_ GE226.out)|exact HB.out)⟩
          ·rw [if_neg c52] at H
           exact absurd H (by simp)
         ·rw [if_neg c47] at H
          exact absurd H (by simp)
        ·rw [if_neg c46] at H
         exact absurd H (by simp)

end Go.Proofs.Ytokjbncjapndgaa.PAll
