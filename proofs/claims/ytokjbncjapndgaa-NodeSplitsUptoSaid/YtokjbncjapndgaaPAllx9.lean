/- Printed walks of the functions that the laws reach: each function, what it computes, and that it does. No conditions. -/
import Derived.Test.YtokjbncjapndgaaPAllx0
import Derived.Test.YtokjbncjapndgaaPAllx8
namespace Go.Proofs.Ytokjbncjapndgaa.PAll
open Go.RowKit Go.Proofs.Ytokjbncjapndgaa.XW Go.Proofs.Ytokjbncjapndgaa.XLib Go.Proofs.YtokjbncjapndgaaW.PrintWords Go.Proofs.YtokjbncjapndgaaW.PrintLast Go.Proofs.YtokjbncjapndgaaW.PrintMore
attribute [local go_sem] max2_int min2_int max_two min_two max_three min_three max_four min_four   -- for this text's walks alone
set_option linter.unusedVariables false
set_option linter.unusedSimpArgs false

/-! ### node_Size: function 10 -/
mutual
def node_Size.l0:Nat→Int→List (S43)→Int→Int→Option (Int)
 | 0,_,_,_,_=>none
 | k + 1,x3,x11,x12,x13=>if x13 < x12 then (if 0≤x13 then (if x13 < (x11.length:Int) then ((node_weigh.f ((rd_T43 x11 x13).f0) ((rd_T43 x11 x13).f1)).bind fun t162=>(node_Size.l0 k (wrap64 (x3 + t162)) x11 x12 (wrap64 (x13 + 1)))) else (none)) else (none)) else (some x3)
def node_Size.l1:Nat→Int→List ByteArray→Int→Int→Option (Int)
 | 0,_,_,_,_=>none
 | k + 1,x3,x26,x27,x28=>if x28 < x27 then (if 0≤x28 then (if x28 < (x26.length:Int) then (node_Size.l1 k (wrap64 (x3 + (wrap64 (3 + ((rdOf ByteArray.empty x26 x28).size:Int))))) x26 x27 (wrap64 (x28 + 1))) else (none)) else (none)) else (some x3)
end
def node_Size.f (k:Nat) (a0_0:Bool) (l0_1:List (S43)) (l0_2:List ByteArray) (l0_3:List Int):Option (Int):=if a0_0=true then (node_Size.l0 k 2 l0_1 (l0_1.length:Int) 0) else (node_Size.l1 k (2 + 2) l0_2 (l0_2.length:Int) 0)
theorem node_Size.mono_l:∀ k,(∀ y0 y1 y2 y3,LeO (node_Size.l0 k y0 y1 y2 y3) (node_Size.l0 (k + 1) y0 y1 y2 y3))∧(∀ y0 y1 y2 y3,LeO (node_Size.l1 k y0 y1 y2 y3) (node_Size.l1 (k + 1) y0 y1 y2 y3))
 | 0=>⟨fun _ _ _ _ r h=>by simp [node_Size.l0] at h,fun _ _ _ _ r h=>by simp [node_Size.l1] at h⟩
 | k + 1=>by
  obtain ⟨ih0,ih1⟩:=node_Size.mono_l k
  refine ⟨?_,?_⟩
  ·intro y0 y1 y2 y3
   unfold node_Size.l0
   repeat' first
   | (with_reducible exact ih0 _ _ _ _)
   | (with_reducible exact ih1 _ _ _ _)
   | (with_reducible exact LeO.refl _)
   | (with_reducible exact LeO.none _)
   | (with_reducible refine LeO.ite ?_ ?_)
   | (with_reducible refine LeO.bind ?_ (fun _=>?_))
   | exact ih0 _ _ _ _
   | exact ih1 _ _ _ _
   | exact LeO.none _
   | refine LeO.ite ?_ ?_
   | refine LeO.bind ?_ (fun _=>?_)
  ·intro y0 y1 y2 y3
   unfold node_Size.l1
   repeat' first
   | (with_reducible exact ih0 _ _ _ _)
   | (with_reducible exact ih1 _ _ _ _)
   | (with_reducible exact LeO.refl _)
   | (with_reducible exact LeO.none _)
   | (with_reducible refine LeO.ite ?_ ?_)
   | (with_reducible refine LeO.bind ?_ (fun _=>?_))
   | exact ih0 _ _ _ _
   | exact ih1 _ _ _ _
   | exact LeO.none _
   | refine LeO.ite ?_ ?_
   | refine LeO.bind ?_ (fun _=>?_)
theorem node_Size.mono:∀ a0 a1 a2 a3 k,LeO (node_Size.f k a0 a1 a2 a3) (node_Size.f (k + 1) a0 a1 a2 a3):=by
 intro a0 a1 a2 a3 k
 obtain ⟨ih0,ih1⟩:=node_Size.mono_l k
 unfold node_Size.f
 repeat' first
   | (with_reducible exact ih0 _ _ _ _)
   | (with_reducible exact ih1 _ _ _ _)
   | (with_reducible exact LeO.refl _)
   | (with_reducible exact LeO.none _)
   | (with_reducible refine LeO.ite ?_ ?_)
   | (with_reducible refine LeO.bind ?_ (fun _=>?_))
   | exact ih0 _ _ _ _
   | exact ih1 _ _ _ _
   | exact LeO.none _
   | refine LeO.ite ?_ ?_
   | refine LeO.bind ?_ (fun _=>?_)
set_option maxHeartbeats 8000000 in
set_option maxRecDepth 100000 in
theorem node_Size.calls (k:Nat) (a0_0:Bool) (A0_1:Option Addr) (c0_1:Nat) (l0_1:List (S43)) (A0_2:Option Addr) (c0_2:Nat) (l0_2:List ByteArray) (A0_3:Option Addr) (c0_3:Nat) (l0_3:List Int) (r:Int) (w:World) (hr0_1:Kd.C k43 w A0_1 l0_1.length l0_1) (hc0_1:l0_1.length≤c0_1) (hr0_2:Kd.C Kd.string w A0_2 l0_2.length l0_2) (hc0_2:l0_2.length≤c0_2) (hr0_3:Kd.C (Kd.int .i64) w A0_3 l0_3.length l0_3) (hc0_3:l0_3.length≤c0_3) (h:node_Size.f k a0_0 l0_1 l0_2 l0_3=some r) :
  Calls Try.prog 10 #[.agg #[.bool a0_0,.slice A0_1 l0_1.length c0_1,.slice A0_2 l0_2.length c0_2,.slice A0_3 l0_3.length c0_3]] w fun e w'=>e=.returned (.int .i64 r)∧Below w.heap.size w w':=by
 have hu26:=Try.underlying26
 have hu43:=Try.underlying43
 have HR0_1:=Aside0.mk hr0_1
 have HC0_1:=Aside0.mk hc0_1
 clear hr0_1 hc0_1
 have HR0_2:=Aside0.mk hr0_2
 have HC0_2:=Aside0.mk hc0_2
 clear hr0_2 hc0_2
 have HR0_3:=Aside0.mk hr0_3
 have HC0_3:=Aside0.mk hc0_3
 clear hr0_3 hc0_3
 have HB:=Aside0.mk (Below.refl w.heap.size w)
 have H:(if a0_0=true then (node_Size.l0 k 2 l0_1 (l0_1.length:Int) 0) else (node_Size.l1 k (2 + 2) l0_2 (l0_2.length:Int) 0))=some r:=h
 clear h
 by_cases c2:a0_0=true
 ·subst c2
  have H1:(node_Size.l0 k 2 l0_1 (l0_1.length:Int) 0)=some r:=by rw [if_pos rfl] at H;exact H
  clear H
  have H:=H1
  clear H1
  have H':=Aside0.mk H
  clear H
  go_enter Try.func10,Try.ntmps10
  go_wp2_with (first|((with_reducible refine gate_dst (N:=1) rfl ?_);refine box_event ?hg (N:=1) ?hd (cs:=#[.bool true,.slice A0_1 l0_1.length c0_1,.slice A0_2 l0_2.length c0_2,.slice A0_3 l0_3.length c0_3]) (t:=26) ?hr ?_;(case hd=>rfl);(case hg=>rfl);(case hr=>first|(go_simp;done)|(go_simp;rfl));intro gb159 hg w3 hbox hb;have BK159:=Aside0.mk (hbox);have GW159:=Aside0.mk ((by rw [hg];exact (below_size (by repeat (first|(with_reducible first|exact HB.out|apply zl1|apply zl2|apply zl3)|exact HB.out))):w.heap.size≤gb159));have GE159:=Aside0.mk ((by rw [hg];exact (below_size (by repeat (first|(with_reducible first|exact HB.out|apply zl1|apply zl2|apply zl3)|exact HB.out))):w.heap.size≤gb159));replace HB:=Aside0.mk (below_step (by repeat (first|(with_reducible first|exact HB.out|apply zl1|apply zl2|apply zl3)|exact HB.out)) hb);clear hb hbox hg;obtain ⟨hcz4_0,hcz4_1,hcz4_2,hcz4_3⟩:=zc4 BK159.out;obtain ⟨hfz4_0,hfz4_1,hfz4_2,hfz4_3⟩:=zf4 BK159.out))
  go_loopg [3,13] k (fun kq v3 v13 w'=>∃ (x3_1:Int) (x13_1:Int),v3=.int .i64 x3_1∧v13=.int .i64 x13_1∧Aside0 (node_Size.l0 kq x3_1 l0_1 (l0_1.length:Int) x13_1=some r)∧Aside0 (kq≤k)∧Aside0 (w'.heap[gb159]?=some (.cells #[.bool true,(.slice A0_1 l0_1.length c0_1),(.slice A0_2 l0_2.length c0_2),(.slice A0_3 l0_3.length c0_3)] 26 (0,0)))∧Aside0 (Below w.heap.size w w'))
  case atStart=>exact ⟨(2),(0),(by first|(with_reducible rfl)|(simp;done)|(simp [*];done)|rfl|(simp only [not_isEmpty_bne])),(by first|(with_reducible rfl)|(simp;done)|(simp [*];done)|rfl|(simp only [not_isEmpty_bne])),H',⟨Nat.le_refl _⟩,⟨by (with_reducible repeat (first|apply zb1|apply zb2|apply zb3));exact BK159.out⟩,⟨by repeat (first|(with_reducible first|exact HB.out|apply zl1|apply zl2|apply zl3|refine below_set ?_ GE159.out)|exact HB.out)⟩⟩
  case round =>
   clear H'
   try clear hfz4_0 hfz4_1 hfz4_2 hfz4_3
   try clear hcz4_0 hcz4_1 hcz4_2 hcz4_3
   try clear c1
   try clear c2
   try clear p2
   obtain ⟨x3_1,x13_1,rfl,rfl,HA,HK1,BK159,HB⟩:=hrel
   cases gk with
   | zero=>exact absurd HA.out (by simp [node_Size.l0])
   | succ k1 =>
    have H:=HA.out
    clear HA
    simp only [node_Size.l0] at H
    by_cases c5:x13_1 < (l0_1.length:Int)
    ·rw [if_pos c5] at H
     have c5b0:decide (x13_1 < (l0_1.length:Int))=true:=decide_eq_true c5
     clear c5
     by_cases c6:0≤x13_1
     ·rw [if_pos c6] at H
      have c6b0:decide (0≤x13_1)=true:=decide_eq_true c6
      clear c6
      by_cases c7:x13_1 < (l0_1.length:Int)
      ·rw [if_pos c7] at H
       have c7b0:decide (x13_1 < (l0_1.length:Int))=true:=decide_eq_true c7
       clear c7
       replace H:=Option.bind_eq_some_iff.mp H
       obtain ⟨t162,A80,H⟩:=H
       replace H:(node_Size.l0 k1 (wrap64 (x3_1 + t162)) l0_1 (l0_1.length:Int) (wrap64 (x13_1 + 1)))=some r:=H
       have A8:=Aside0.mk A80
       clear A80
       have H':=Aside0.mk H
       clear H
       have p160:0≤(x13_1:Int):=of_decide_eq_true (by first|(with_reducible assumption)|assumption)
       have q160:x13_1 < (l0_1.length:Int):=of_decide_eq_true (by first|(with_reducible assumption)|assumption)
       obtain ⟨ad160,e160,hx160_0,hx160_1⟩:=at_T43 HR0_1.out x13_1 p160 q160
       cases e160
       replace hx160_0:=(HB.out.cell (World.block_lt_of_cell? w _ hx160_0)).trans hx160_0
       replace hx160_1:=(HB.out.cell (World.block_lt_of_cell? w _ hx160_1)).trans hx160_1
       replace p160:=eq_true p160
       replace q160:=eq_true q160
       go_wp2_with (first|((with_reducible refine gate_dst (N:=5) rfl ?_);refine box_event ?hg (N:=5) ?hd (cs:=#[.string (⟨#[]⟩:ByteArray),.string (⟨#[]⟩:ByteArray)]) (t:=43) ?hr ?_;(case hd=>rfl);(case hg=>rfl);(case hr=>first|(go_simp;done)|(go_simp;rfl));intro gb161 hg w9 hbox hb;have BK161:=Aside0.mk (hbox);have GW161:=Aside0.mk ((by rw [hg];exact (below_size (by repeat (first|(with_reducible first|exact HB.out|apply zl1|apply zl2|apply zl3|refine below_set ?_ GE159.out)|exact HB.out))):w.heap.size≤gb161));have GE161:=Aside0.mk ((by rw [hg];exact (below_size (by repeat (first|(with_reducible first|exact HB.out|apply zl1|apply zl2|apply zl3|refine below_set ?_ GE159.out)|exact HB.out))):w.heap.size≤gb161));replace HB:=Aside0.mk (below_step (by repeat (first|(with_reducible first|exact HB.out|apply zl1|apply zl2|apply zl3|refine below_set ?_ GE159.out)|exact HB.out)) hb);have NB159_161:=Aside0.mk ((by rw [hg];exact Nat.ne_of_lt (blk_lt (g:=gb159) (o:=.cells #[.bool true,.slice (some ad160) l0_1.length c0_1,.slice A0_2 l0_2.length c0_2,.slice A0_3 l0_3.length c0_3] 26 (0,0)) (by (with_reducible repeat (first|apply zb1|apply zb2|apply zb3));exact BK159.out)):gb159 ≠ gb161));have NB161_159:=Aside0.mk ((by rw [hg];exact Nat.ne_of_gt (blk_lt (g:=gb159) (o:=.cells #[.bool true,.slice (some ad160) l0_1.length c0_1,.slice A0_2 l0_2.length c0_2,.slice A0_3 l0_3.length c0_3] 26 (0,0)) (by (with_reducible repeat (first|apply zb1|apply zb2|apply zb3));exact BK159.out)):gb161 ≠ gb159));replace BK159:=Aside0.mk (blk_below (g:=gb159) (o:=.cells #[.bool true,.slice (some ad160) l0_1.length c0_1,.slice A0_2 l0_2.length c0_2,.slice A0_3 l0_3.length c0_3] 26 (0,0)) (by (with_reducible repeat (first|apply zb1|apply zb2|apply zb3));exact BK159.out) hb);clear hb hbox hg;have hnb10:=NB161_159.out;have hnc10:=NB159_161.out;have hcz11_0:w9.cell? ⟨gb161,0,none⟩=some (.string (⟨#[]⟩:ByteArray)):=(blk_cell BK161.out 0).trans rfl;have hcz11_1:w9.cell? ⟨gb161,1,none⟩=some (.string (⟨#[]⟩:ByteArray)):=(blk_cell BK161.out 1).trans rfl;have hfz11_0:=blk_frozen BK161.out 0;have hfz11_1:=blk_frozen BK161.out 1)|((with_reducible refine gate_callee (f:=29) rfl ?_);refine goesL_ (some 19) rfl rfl Try.func29 (by kernel_rfl) rfl #[.agg #[.string ((rd_T43 l0_1 x13_1).f0),.string ((rd_T43 l0_1 x13_1).f1)]] rfl (by (try simp only [List.map_toArray,List.map_cons,List.map_nil]);first|done|rfl|(simp only [List.length_drop,List.length_take];rfl)|(simp (disch:=omega) only [u64_in];rfl)) ?_;(with_reducible refine (node_weigh.calls ((rd_T43 l0_1 x13_1).f0) ((rd_T43 l0_1 x13_1).f1) t162 _ A8.out).mono ?_);rintro e w12 ⟨rfl,hb⟩;refine ⟨_,rfl,?_⟩;replace BK159:=Aside0.mk (blk_below (g:=gb159) (o:=.cells #[.bool true,.slice (some ad160) l0_1.length c0_1,.slice A0_2 l0_2.length c0_2,.slice A0_3 l0_3.length c0_3] 26 (0,0)) (by (repeat (first|(with_reducible first|apply zb1|apply zb2|apply zb3|exact BK159.out)|refine blk_far ?_ NB159_161.out _))) hb);replace BK161:=Aside0.mk (blk_below (g:=gb161) (o:=.cells #[.string ((rd_T43 l0_1 x13_1).f0),.string ((rd_T43 l0_1 x13_1).f1)] 43 (0,0)) (by apply zpe;(repeat (first|(with_reducible first|apply zb1|apply zb2|apply zb3|apply zpi|exact BK161.out)));rfl) hb);replace HB:=Aside0.mk (below_step (by repeat (first|(with_reducible first|exact HB.out|apply zl1|apply zl2|apply zl3|refine below_set ?_ GE159.out|refine below_set ?_ GE161.out)|exact HB.out)) hb);(try clear hb)))
       go_roundg k1
       case measure=>have:=HK1.out;omega
       case rel=>exact ⟨(wrap64 (x3_1 + t162)),(wrap64 (x13_1 + 1)),(by first|(with_reducible rfl)|(simp;done)|(simp [*];done)|rfl|(simp only [not_isEmpty_bne])),(by first|(with_reducible rfl)|(simp;done)|(simp [*];done)|rfl|(simp only [not_isEmpty_bne])),H',⟨by have:=HK1.out;omega⟩,⟨by (with_reducible repeat (first|apply zb1|apply zb2|apply zb3));exact BK159.out⟩,⟨by repeat (first|(with_reducible first|exact HB.out|apply zl1|apply zl2|apply zl3|refine below_set ?_ GE159.out|refine below_set ?_ GE161.out)|exact HB.out)⟩⟩
      ·rw [if_neg c7] at H
       exact absurd H (by simp)
     ·rw [if_neg c6] at H
      exact absurd H (by simp)
    ·rw [if_neg c5] at H
     have c5b0:decide (x13_1 < (l0_1.length:Int))=false:=decide_eq_false c5
     clear c5
     obtain rfl:=Option.some.inj H
     go_wp2
     go_ret
     exact ⟨by first|(with_reducible rfl)|(simp only [isEmpty_bne,Bool.not_not] <;> rfl)|rfl|(simp [*,errW_none,errW_some] <;> rfl),by repeat (first|(with_reducible first|exact HB.out|apply zl1|apply zl2|apply zl3|refine below_set ?_ GE159.out)|exact HB.out)⟩
 ·replace c2:=Bool.eq_false_iff.mpr c2
  subst c2
  have H1:(node_Size.l1 k (2 + 2) l0_2 (l0_2.length:Int) 0)=some r:=by rw [if_neg (show ¬ (false=true) by decide)] at H;exact H
  clear H
  have H:=H1
  clear H1
  have H':=Aside0.mk H
  clear H
  go_enter Try.func10,Try.ntmps10
  go_wp2_with (first|((with_reducible refine gate_dst (N:=1) rfl ?_);refine box_event ?hg (N:=1) ?hd (cs:=#[.bool false,.slice A0_1 l0_1.length c0_1,.slice A0_2 l0_2.length c0_2,.slice A0_3 l0_3.length c0_3]) (t:=26) ?hr ?_;(case hd=>rfl);(case hg=>rfl);(case hr=>first|(go_simp;done)|(go_simp;rfl));intro gb159 hg w13 hbox hb;have BK159:=Aside0.mk (hbox);have GW159:=Aside0.mk ((by rw [hg];exact (below_size (by repeat (first|(with_reducible first|exact HB.out|apply zl1|apply zl2|apply zl3)|exact HB.out))):w.heap.size≤gb159));have GE159:=Aside0.mk ((by rw [hg];exact (below_size (by repeat (first|(with_reducible first|exact HB.out|apply zl1|apply zl2|apply zl3)|exact HB.out))):w.heap.size≤gb159));replace HB:=Aside0.mk (below_step (by repeat (first|(with_reducible first|exact HB.out|apply zl1|apply zl2|apply zl3)|exact HB.out)) hb);clear hb hbox hg;obtain ⟨hcz14_0,hcz14_1,hcz14_2,hcz14_3⟩:=zc4 BK159.out;obtain ⟨hfz14_0,hfz14_1,hfz14_2,hfz14_3⟩:=zf4 BK159.out))
  go_loopg [3,28] k (fun kq v3 v28 w'=>∃ (x3_1:Int) (x28_1:Int),v3=.int .i64 x3_1∧v28=.int .i64 x28_1∧Aside0 (node_Size.l1 kq x3_1 l0_2 (l0_2.length:Int) x28_1=some r)∧Aside0 (kq≤k)∧Aside0 (w'.heap[gb159]?=some (.cells #[.bool false,(.slice A0_1 l0_1.length c0_1),(.slice A0_2 l0_2.length c0_2),(.slice A0_3 l0_3.length c0_3)] 26 (0,0)))∧Aside0 (Below w.heap.size w w'))
  case atStart=>exact ⟨(2 + 2),(0),(by first|(with_reducible rfl)|(simp;done)|(simp [*];done)|rfl|(simp only [not_isEmpty_bne])),(by first|(with_reducible rfl)|(simp;done)|(simp [*];done)|rfl|(simp only [not_isEmpty_bne])),H',⟨Nat.le_refl _⟩,⟨by (with_reducible repeat (first|apply zb1|apply zb2|apply zb3));exact BK159.out⟩,⟨by repeat (first|(with_reducible first|exact HB.out|apply zl1|apply zl2|apply zl3|refine below_set ?_ GE159.out)|exact HB.out)⟩⟩
  case round =>
   clear H'
   try clear hfz11_0 hfz11_1 hfz14_0 hfz14_1 hfz14_2 hfz14_3
   try clear hcz11_0 hcz11_1 hcz14_0 hcz14_1 hcz14_2 hcz14_3 hcz4_0 hcz4_1 hcz4_2 hcz4_3
   try clear c1
   try clear p1
   try clear q1
   try clear hx1
   try clear c2
   try clear p2
   try clear c5
   try clear c5b0
   try clear c6
   try clear c6b0
   try clear p6
   try clear c7
   try clear c7b0
   try clear c10
   try clear hfz4_0 hfz4_1 hfz4_2 hfz4_3
   try clear hx160_0
   try clear hx160_1
   try clear p160
   try clear p2
   try clear q160
   obtain ⟨x3_1,x28_1,rfl,rfl,HA,HK1,BK159,HB⟩:=hrel
   cases gk with
   | zero=>exact absurd HA.out (by simp [node_Size.l1])
   | succ k1 =>
    have H:=HA.out
    clear HA
    simp only [node_Size.l1] at H
    by_cases c15:x28_1 < (l0_2.length:Int)
    ·rw [if_pos c15] at H
     have c15b0:decide (x28_1 < (l0_2.length:Int))=true:=decide_eq_true c15
     clear c15
     by_cases c16:0≤x28_1
     ·rw [if_pos c16] at H
      have c16b0:decide (0≤x28_1)=true:=decide_eq_true c16
      clear c16
      by_cases c17:x28_1 < (l0_2.length:Int)
      ·rw [if_pos c17] at H
       have c17b0:decide (x28_1 < (l0_2.length:Int))=true:=decide_eq_true c17
       clear c17
       have H':=Aside0.mk H
       clear H
       have p163:0≤(x28_1:Int):=of_decide_eq_true (by first|(with_reducible assumption)|assumption)
       have q163:x28_1 < (l0_2.length:Int):=of_decide_eq_true (by first|(with_reducible assumption)|assumption)
       obtain ⟨ad163,e163,hx163_0⟩:=Kd.at_string HR0_2.out x28_1 p163 q163
       cases e163
       replace hx163_0:=(HB.out.cell (World.block_lt_of_cell? w _ hx163_0)).trans hx163_0
       replace p163:=eq_true p163
       replace q163:=eq_true q163
       go_wp2
       go_roundg k1
       case measure=>have:=HK1.out;omega
       case rel=>exact ⟨(wrap64 (x3_1 + (wrap64 (3 + ((rdOf ByteArray.empty l0_2 x28_1).size:Int))))),(wrap64 (x28_1 + 1)),(by first|(with_reducible rfl)|(simp;done)|(simp [*];done)|rfl|(simp only [not_isEmpty_bne])),(by first|(with_reducible rfl)|(simp;done)|(simp [*];done)|rfl|(simp only [not_isEmpty_bne])),H',⟨by have:=HK1.out;omega⟩,⟨by (with_reducible repeat (first|apply zb1|apply zb2|apply zb3));exact BK159.out⟩,⟨by repeat (first|(with_reducible first|exact HB.out|apply zl1|apply zl2|apply zl3|refine below_set ?_ GE159.out)|exact HB.out)⟩⟩
      ·rw [if_neg c17] at H
       exact absurd H (by simp)
     ·rw [if_neg c16] at H
      exact absurd H (by simp)
    ·rw [if_neg c15] at H
     have c15b0:decide (x28_1 < (l0_2.length:Int))=false:=decide_eq_false c15
     clear c15
     obtain rfl:=Option.some.inj H
     go_wp2
     go_ret
     exact ⟨by first|(with_reducible rfl)|(simp only [isEmpty_bne,Bool.not_not] <;> rfl)|rfl|(simp [*,errW_none,errW_some] <;> rfl),by repeat (first|(with_reducible first|exact HB.out|apply zl1|apply zl2|apply zl3|refine below_set ?_ GE159.out)|exact HB.out)⟩

end Go.Proofs.Ytokjbncjapndgaa.PAll
