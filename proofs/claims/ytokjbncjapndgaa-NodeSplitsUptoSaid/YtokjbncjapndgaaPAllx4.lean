/- Printed walks of the functions that the laws reach: each function, what it computes, and that it does. No conditions. -/
import Derived.Test.YtokjbncjapndgaaPAllx0
namespace Go.Proofs.Ytokjbncjapndgaa.PAll
open Go.RowKit Go.Proofs.Ytokjbncjapndgaa.XW Go.Proofs.Ytokjbncjapndgaa.XLib Go.Proofs.YtokjbncjapndgaaW.PrintWords Go.Proofs.YtokjbncjapndgaaW.PrintLast Go.Proofs.YtokjbncjapndgaaW.PrintMore
attribute [local go_sem] max2_int min2_int max_two min_two max_three min_three max_four min_four   -- for this text's walks alone
set_option linter.unusedVariables false
set_option linter.unusedSimpArgs false

/-! ### node_keys: function 44 -/
def node_keys.l0:Nat→List ByteArray→List (S43)→Int→Int→Option (List ByteArray)
 | 0,_,_,_,_=>none
 | k + 1,x3,x7,x8,x9=>if x9 < x8 then (if 0≤x9 then (if x9 < (x7.length:Int) then (if x3.length < 8796093022208 then (node_keys.l0 k (x3 ++ [(rd_T43 x7 x9).f0]) x7 x8 (wrap64 (x9 + 1))) else (none)) else (none)) else (none)) else (some x3)
def node_keys.f (k:Nat) (a0_0:Bool) (l0_1:List (S43)) (l0_2:List ByteArray) (l0_3:List Int):Option (List ByteArray):=node_keys.l0 k ([]:List ByteArray) l0_1 (l0_1.length:Int) 0
theorem node_keys.mono_l:∀ k,(∀ y0 y1 y2 y3,LeO (node_keys.l0 k y0 y1 y2 y3) (node_keys.l0 (k + 1) y0 y1 y2 y3))
 | 0=>fun _ _ _ _ r h=>by simp [node_keys.l0] at h
 | k + 1=>by
  have ih0:=node_keys.mono_l k
  ·intro y0 y1 y2 y3
   unfold node_keys.l0
   repeat' first
   | (with_reducible exact ih0 _ _ _ _)
   | (with_reducible exact LeO.refl _)
   | (with_reducible exact LeO.none _)
   | (with_reducible refine LeO.ite ?_ ?_)
   | (with_reducible refine LeO.bind ?_ (fun _=>?_))
   | exact ih0 _ _ _ _
   | exact LeO.none _
   | refine LeO.ite ?_ ?_
   | refine LeO.bind ?_ (fun _=>?_)
theorem node_keys.mono:∀ a0 a1 a2 a3 k,LeO (node_keys.f k a0 a1 a2 a3) (node_keys.f (k + 1) a0 a1 a2 a3):=by
 intro a0 a1 a2 a3 k
 have ih0:=node_keys.mono_l k
 unfold node_keys.f
 repeat' first
   | (with_reducible exact ih0 _ _ _ _)
   | (with_reducible exact LeO.refl _)
   | (with_reducible exact LeO.none _)
   | (with_reducible refine LeO.ite ?_ ?_)
   | (with_reducible refine LeO.bind ?_ (fun _=>?_))
   | exact ih0 _ _ _ _
   | exact LeO.none _
   | refine LeO.ite ?_ ?_
   | refine LeO.bind ?_ (fun _=>?_)
set_option maxHeartbeats 8000000 in
set_option maxRecDepth 100000 in
theorem node_keys.calls (k:Nat) (a0_0:Bool) (A0_1:Option Addr) (c0_1:Nat) (l0_1:List (S43)) (A0_2:Option Addr) (c0_2:Nat) (l0_2:List ByteArray) (A0_3:Option Addr) (c0_3:Nat) (l0_3:List Int) (r:List ByteArray) (w:World) (hr0_1:Kd.C k43 w A0_1 l0_1.length l0_1) (hc0_1:l0_1.length≤c0_1) (hr0_2:Kd.C Kd.string w A0_2 l0_2.length l0_2) (hc0_2:l0_2.length≤c0_2) (hr0_3:Kd.C (Kd.int .i64) w A0_3 l0_3.length l0_3) (hc0_3:l0_3.length≤c0_3) (h:node_keys.f k a0_0 l0_1 l0_2 l0_3=some r) :
  Calls Try.prog 44 #[.agg #[.bool a0_0,.slice A0_1 l0_1.length c0_1,.slice A0_2 l0_2.length c0_2,.slice A0_3 l0_3.length c0_3]] w fun e w'=>∃ v0_:Value,e=.returned (v0_)∧Kd.R Kd.string 9 w' w.heap.size (fun _=>True) v0_ r∧Below w.heap.size w w':=by
 have hu26:=Try.underlying26
 have hu43:=Try.underlying43
 have HR0_1:=Aside0.mk hr0_1
 have HC0_1:=Aside0.mk hc0_1
 clear hr0_1 hc0_1
 have HR0_2:=Aside0.mk hr0_2
 have HC0_2:=Aside0.mk hc0_2
 clear hr0_2 hc0_2
 have HR0_3:=Aside0.mk hr0_3
 have HC0_3:=Aside0.mk hc0_3
 clear hr0_3 hc0_3
 have HB:=Aside0.mk (Below.refl w.heap.size w)
 have H:(node_keys.l0 k ([]:List ByteArray) l0_1 (l0_1.length:Int) 0)=some r:=h
 clear h
 have H':=Aside0.mk H
 clear H
 go_enter Try.func44,Try.ntmps44
 go_wp2_with (first|((with_reducible refine gate_dst (N:=1) rfl ?_);refine box_event ?hg (N:=1) ?hd (cs:=#[.bool a0_0,.slice A0_1 l0_1.length c0_1,.slice A0_2 l0_2.length c0_2,.slice A0_3 l0_3.length c0_3]) (t:=26) ?hr ?_;(case hd=>rfl);(case hg=>rfl);(case hr=>first|(go_simp;done)|(go_simp;rfl));intro gb135 hg w2 hbox hb;have BK135:=Aside0.mk (hbox);have GW135:=Aside0.mk ((by rw [hg];exact (below_size (by repeat (first|(with_reducible first|exact HB.out|apply zl1|apply zl2|apply zl3)|exact HB.out))):w.heap.size≤gb135));have GE135:=Aside0.mk ((by rw [hg];exact (below_size (by repeat (first|(with_reducible first|exact HB.out|apply zl1|apply zl2|apply zl3)|exact HB.out))):w.heap.size≤gb135));replace HB:=Aside0.mk (below_step (by repeat (first|(with_reducible first|exact HB.out|apply zl1|apply zl2|apply zl3)|exact HB.out)) hb);clear hb hbox hg;obtain ⟨hcz3_0,hcz3_1,hcz3_2,hcz3_3⟩:=zc4 BK135.out;obtain ⟨hfz3_0,hfz3_1,hfz3_2,hfz3_3⟩:=zf4 BK135.out))
 go_loopg [3,9] k (fun kq v3 v9 w'=>∃ (x3_1:List ByteArray) (x9_1:Int),v9=.int .i64 x9_1∧Aside0 (node_keys.l0 kq x3_1 l0_1 (l0_1.length:Int) x9_1=some r)∧Aside0 (kq≤k)∧Aside0 (Kd.R Kd.string 9 w' w.heap.size (fun _=>True) v3 x3_1)∧Aside0 (w'.heap[gb135]?=some (.cells #[.bool a0_0,(.slice A0_1 l0_1.length c0_1),(.slice A0_2 l0_2.length c0_2),(.slice A0_3 l0_3.length c0_3)] 26 (0,0)))∧Aside0 (Below w.heap.size w w'))
 case atStart=>exact ⟨(([]:List ByteArray)),(0),(by first|(with_reducible rfl)|(simp;done)|(simp [*];done)|rfl|(simp only [not_isEmpty_bne])),H',⟨Nat.le_refl _⟩,⟨by first|exact Kd.R_nil _ _ _ _ _|exact Kd.N_nil _ _ _ _ _|exact Kd.V_nil _ _ _ _ _|exact Kd.Q_nil _ _ _ _ _|exact Kd.S_nil _ _ _ _ _⟩,⟨by (with_reducible repeat (first|apply zb1|apply zb2|apply zb3));exact BK135.out⟩,⟨by repeat (first|(with_reducible first|exact HB.out|apply zl1|apply zl2|apply zl3|refine below_set ?_ GE135.out)|exact HB.out)⟩⟩
 case round =>
  clear H'
  try clear hfz3_0 hfz3_1 hfz3_2 hfz3_3
  try clear hcz3_0 hcz3_1 hcz3_2 hcz3_3
  try clear p2
  obtain ⟨x3_1,x9_1,rfl,HA,HK1,HO_3,BK135,HB⟩:=hrel
  cases gk with
  | zero=>exact absurd HA.out (by simp [node_keys.l0])
  | succ k1 =>
   have H:=HA.out
   clear HA
   simp only [node_keys.l0] at H
   by_cases c4:x9_1 < (l0_1.length:Int)
   ·rw [if_pos c4] at H
    have c4b0:decide (x9_1 < (l0_1.length:Int))=true:=decide_eq_true c4
    clear c4
    by_cases c5:0≤x9_1
    ·rw [if_pos c5] at H
     have c5b0:decide (0≤x9_1)=true:=decide_eq_true c5
     clear c5
     by_cases c6:x9_1 < (l0_1.length:Int)
     ·rw [if_pos c6] at H
      have c6b0:decide (x9_1 < (l0_1.length:Int))=true:=decide_eq_true c6
      clear c6
      by_cases c7:x3_1.length < 8796093022208
      ·rw [if_pos c7] at H
       have LMc7:=Aside0.mk c7
       clear c7
       obtain ⟨y138,hy138⟩:∃ y_:List ByteArray,y_=(x3_1 ++ [(rd_T43 l0_1 x9_1).f0]):=⟨_,rfl⟩
       replace H:(node_keys.l0 k1 y138 l0_1 (l0_1.length:Int) (wrap64 (x9_1 + 1)))=some r:=by first|(rw [hy138];with_reducible exact H)|(have H2_:=(Option.bind_some _ _).symm.trans H;rw [hy138];with_reducible exact H2_)|(have H2_:=(Option.bind_some _ _).symm.trans H;with_reducible exact H2_)|with_reducible exact H|(rw [hy138];exact H)|exact H
       have Ny138:=Aside0.mk hy138
       clear hy138
       have H':=Aside0.mk H
       clear H
       have p136:0≤(x9_1:Int):=of_decide_eq_true (by first|(with_reducible assumption)|assumption)
       have q136:x9_1 < (l0_1.length:Int):=of_decide_eq_true (by first|(with_reducible assumption)|assumption)
       obtain ⟨ad136,e136,hx136_0,hx136_1⟩:=at_T43 HR0_1.out x9_1 p136 q136
       cases e136
       replace hx136_0:=(HB.out.cell (World.block_lt_of_cell? w _ hx136_0)).trans hx136_0
       replace hx136_1:=(HB.out.cell (World.block_lt_of_cell? w _ hx136_1)).trans hx136_1
       replace p136:=eq_true p136
       replace q136:=eq_true q136
       go_wp2_with (first|((with_reducible refine gate_dst (N:=5) rfl ?_);refine box_event ?hg (N:=5) ?hd (cs:=#[.string (⟨#[]⟩:ByteArray),.string (⟨#[]⟩:ByteArray)]) (t:=43) ?hr ?_;(case hd=>rfl);(case hg=>rfl);(case hr=>first|(go_simp;done)|(go_simp;rfl));intro gb137 hg w8 hbox hb;replace HO_3:=Aside0.mk (Kd.R_below (by (with_reducible repeat (first|apply zk1|apply zk2|apply zk3));exact HO_3.out) hb);have BK137:=Aside0.mk (hbox);have GW137:=Aside0.mk ((by rw [hg];exact (below_size (by repeat (first|(with_reducible first|exact HB.out|apply zl1|apply zl2|apply zl3|refine below_set ?_ GE135.out)|exact HB.out))):w.heap.size≤gb137));have GE137:=Aside0.mk ((by rw [hg];exact (below_size (by repeat (first|(with_reducible first|exact HB.out|apply zl1|apply zl2|apply zl3|refine below_set ?_ GE135.out)|exact HB.out))):w.heap.size≤gb137));replace HB:=Aside0.mk (below_step (by repeat (first|(with_reducible first|exact HB.out|apply zl1|apply zl2|apply zl3|refine below_set ?_ GE135.out)|exact HB.out)) hb);have NB135_137:=Aside0.mk ((by rw [hg];exact Nat.ne_of_lt (blk_lt (g:=gb135) (o:=.cells #[.bool a0_0,.slice (some ad136) l0_1.length c0_1,.slice A0_2 l0_2.length c0_2,.slice A0_3 l0_3.length c0_3] 26 (0,0)) (by (with_reducible repeat (first|apply zb1|apply zb2|apply zb3));exact BK135.out)):gb135 ≠ gb137));have NB137_135:=Aside0.mk ((by rw [hg];exact Nat.ne_of_gt (blk_lt (g:=gb135) (o:=.cells #[.bool a0_0,.slice (some ad136) l0_1.length c0_1,.slice A0_2 l0_2.length c0_2,.slice A0_3 l0_3.length c0_3] 26 (0,0)) (by (with_reducible repeat (first|apply zb1|apply zb2|apply zb3));exact BK135.out)):gb137 ≠ gb135));replace BK135:=Aside0.mk (blk_below (g:=gb135) (o:=.cells #[.bool a0_0,.slice (some ad136) l0_1.length c0_1,.slice A0_2 l0_2.length c0_2,.slice A0_3 l0_3.length c0_3] 26 (0,0)) (by (with_reducible repeat (first|apply zb1|apply zb2|apply zb3));exact BK135.out) hb);clear hb hbox hg;have hnb9:=NB137_135.out;have hnc9:=NB135_137.out;have hcz10_0:w8.cell? ⟨gb137,0,none⟩=some (.string (⟨#[]⟩:ByteArray)):=(blk_cell BK137.out 0).trans rfl;have hcz10_1:w8.cell? ⟨gb137,1,none⟩=some (.string (⟨#[]⟩:ByteArray)):=(blk_cell BK137.out 1).trans rfl;have hfz10_0:=blk_frozen BK137.out 0;have hfz10_1:=blk_frozen BK137.out 1)|((with_reducible refine gate_builtin (b:=.append) (xs:=#[.tmp 13,.tmp 16]) rfl ?_);at_builtin;refine Kd.R_append Kd.string (w0:=w) w.heap.size rfl (.tmp 13) (.tmp 16) 23 9 (.string ⟨#[]⟩) 16 rfl Try.underlying23 info9 rfl (by decide) (by omega) u3 x3_1 ((rd_T43 l0_1 x9_1).f0) [.string ((rd_T43 l0_1 x9_1).f0)] (fun _=>True) (fun _=>False) rfl (by first|(go_simp;done)|(go_simp;rfl)) ?aP (fun _ hk=>hk.elim) ?aF ?aO ?aB ?aS ?aL ?_;(case aP=>exact rfl);(case aB=>exact (by repeat (first|(with_reducible first|exact HB.out|apply zl1|apply zl2|apply zl3|refine below_set ?_ GE135.out|refine below_set ?_ GE137.out)|exact HB.out)));(case aF=>exact (fun _ _=>trivial));(case aO=>exact (by (with_reducible repeat (first|apply zk1|apply zk2|apply zk3));exact Kd.R_mono (Kd.R_far (p:=⟨gb137,1,none⟩) (Kd.R_far (p:=⟨gb137,0,none⟩) (Kd.R_types HO_3.out BK137.out (by decide)) (fun _ hk=>hk.2) (.string ((rd_T43 l0_1 x9_1).f0))) (fun _ hk=>hk.2) (.string ((rd_T43 l0_1 x9_1).f1))) (fun _ hk=>trivial)));(case aS=>exact (below_size (by repeat (first|(with_reducible first|exact HB.out|apply zl1|apply zl2|apply zl3|refine below_set ?_ GE135.out|refine below_set ?_ GE137.out)|exact HB.out))));(case aL=>have:=LMc7.out;omega);intro v139 w11 ho hb hg hat;rw [← Ny138.out] at ho;have n0_:=Aside0.mk (blk_grown (g:=gb135) (o:=.cells #[.bool a0_0,.slice (some ad136) l0_1.length c0_1,.slice A0_2 l0_2.length c0_2,.slice A0_3 l0_3.length c0_3] 26 (0,0)) (by (repeat (first|(with_reducible first|apply zb1|apply zb2|apply zb3|exact BK135.out)|refine blk_far ?_ NB135_137.out _))) hg (Kd.R_ne HO_3.out BK135.out (by decide)));have n1_:=Aside0.mk (blk_grown (g:=gb137) (o:=.cells #[.string ((rd_T43 l0_1 x9_1).f0),.string ((rd_T43 l0_1 x9_1).f1)] 43 (0,0)) (by apply zpe;(repeat (first|(with_reducible first|apply zb1|apply zb2|apply zb3|apply zpi|exact BK137.out)));rfl) hg (Kd.R_ne HO_3.out BK137.out (by decide)));have n2_:=Aside0.mk (hb);have n3_:=Aside0.mk (ho);clear BK135;clear BK137;clear HB;clear HO_3;have BK135:=n0_;have BK137:=n1_;have HB:=n2_;have HO140:=n3_;clear n0_ n1_ n2_ n3_;clear ho hb hg hat))
       go_roundg k1
       case measure=>have:=HK1.out;omega
       case rel=>exact ⟨(y138),(wrap64 (x9_1 + 1)),(by first|(with_reducible rfl)|(simp;done)|(simp [*];done)|rfl|(simp only [not_isEmpty_bne])),H',⟨by have:=HK1.out;omega⟩,⟨by (with_reducible repeat (first|apply zk1|apply zk2|apply zk3));exact HO140.out⟩,⟨by (with_reducible repeat (first|apply zb1|apply zb2|apply zb3));exact BK135.out⟩,⟨by repeat (first|(with_reducible first|exact HB.out|apply zl1|apply zl2|apply zl3|refine below_set ?_ GE135.out|refine below_set ?_ GE137.out)|exact HB.out)⟩⟩
      ·rw [if_neg c7] at H
       exact absurd H (by simp)
     ·rw [if_neg c6] at H
      exact absurd H (by simp)
    ·rw [if_neg c5] at H
     exact absurd H (by simp)
   ·rw [if_neg c4] at H
    have c4b0:decide (x9_1 < (l0_1.length:Int))=false:=decide_eq_false c4
    clear c4
    obtain rfl:=Option.some.inj H
    go_wp2
    go_ret
    exact ⟨_,by first|(with_reducible rfl)|(simp only [isEmpty_bne,Bool.not_not] <;> rfl)|rfl|(simp [*,errW_none,errW_some] <;> rfl),by (with_reducible repeat (first|apply zk1|apply zk2|apply zk3));exact HO_3.out,by repeat (first|(with_reducible first|exact HB.out|apply zl1|apply zl2|apply zl3|refine below_set ?_ GE135.out)|exact HB.out)⟩

end Go.Proofs.Ytokjbncjapndgaa.PAll
