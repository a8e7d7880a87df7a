/- Printed walks of the functions that the laws reach: each function, what it computes, and that it does. No conditions. -/
import Derived.Test.YtokjbncjapndgaaPAllx0
import Derived.Test.YtokjbncjapndgaaPAllx14
namespace Go.Proofs.Ytokjbncjapndgaa.PAll
open Go.RowKit Go.Proofs.Ytokjbncjapndgaa.XW Go.Proofs.Ytokjbncjapndgaa.XLib Go.Proofs.YtokjbncjapndgaaW.PrintWords Go.Proofs.YtokjbncjapndgaaW.PrintLast Go.Proofs.YtokjbncjapndgaaW.PrintMore
attribute [local go_sem] max2_int min2_int max_two min_two max_three min_three max_four min_four   -- for this text's walks alone
set_option linter.unusedVariables false
set_option linter.unusedSimpArgs false

/-! ### factotumref09_Right: function 21 -/
mutual
def factotumref09_Right.l1:Nat→List ByteArray→Int→Bool→List (S43)→List ByteArray→List Int→Option (Bool)
 | 0,_,_,_,_,_,_=>none
 | k + 1,x4,x5,x231000,x231001,x231002,x231003=>if x5 < (x231001.length:Int) then (if 0≤x5 then (if (((rd_T43 x231001 x5).f1).size:Int) > 40 then (some false) else (if x4.length < 8796093022208 then (factotumref09_Right.l1 k (x4 ++ [(rd_T43 x231001 x5).f0]) (wrap64 (x5 + 1)) x231000 x231001 x231002 x231003) else (none))) else (none)) else (if (x231002.length:Int)=0 then (if (x231003.length:Int)=0 then ((factotumref09_ordered.f k x4).bind fun t239=>(some t239)) else (some false)) else (some false))
def factotumref09_Right.l0:Nat→Int→Bool→List (S43)→List ByteArray→List Int→Option (Bool)
 | 0,_,_,_,_,_=>none
 | k + 1,x3,x231000,x231001,x231002,x231003=>if x3 < (x231003.length:Int) then (if 0≤x3 then (if (rd x231003 x3) < 1 then (some false) else (if (rd x231003 x3) > 65535 then (some false) else (factotumref09_Right.l0 k (wrap64 (x3 + 1)) x231000 x231001 x231002 x231003))) else (none)) else (if (x231001.length:Int)=0 then (if (x231003.length:Int)=(wrap64 ((x231002.length:Int) + 1)) then ((factotumref09_ordered.f k x231002).bind fun t233=>(some t233)) else (some false)) else (some false))
end
def factotumref09_Right.f (k:Nat) (a0_0:Bool) (l0_1:List (S43)) (l0_2:List ByteArray) (l0_3:List Int):Option (Bool):=if a0_0=true then (factotumref09_Right.l1 k ([]:List ByteArray) 0 a0_0 l0_1 l0_2 l0_3) else (factotumref09_Right.l0 k 0 a0_0 l0_1 l0_2 l0_3)
theorem factotumref09_Right.mono_l:∀ k,(∀ y0 y1 y2 y3 y4 y5,LeO (factotumref09_Right.l1 k y0 y1 y2 y3 y4 y5) (factotumref09_Right.l1 (k + 1) y0 y1 y2 y3 y4 y5))∧(∀ y0 y1 y2 y3 y4,LeO (factotumref09_Right.l0 k y0 y1 y2 y3 y4) (factotumref09_Right.l0 (k + 1) y0 y1 y2 y3 y4))
 | 0=>⟨fun _ _ _ _ _ _ r h=>by simp [factotumref09_Right.l1] at h,fun _ _ _ _ _ r h=>by simp [factotumref09_Right.l0] at h⟩
 | k + 1=>by
  obtain ⟨ih0,ih1⟩:=factotumref09_Right.mono_l k
  refine ⟨?_,?_⟩
  ·intro y0 y1 y2 y3 y4 y5
   unfold factotumref09_Right.l1
   repeat' first
   | (with_reducible exact ih0 _ _ _ _ _ _)
   | (with_reducible exact ih1 _ _ _ _ _)
   | (with_reducible exact factotumref09_ordered.mono _ _)
   | (with_reducible exact LeO.refl _)
   | (with_reducible exact LeO.none _)
   | (with_reducible refine LeO.ite ?_ ?_)
   | (with_reducible refine LeO.bind ?_ (fun _=>?_))
   | exact ih0 _ _ _ _ _ _
   | exact ih1 _ _ _ _ _
   | exact factotumref09_ordered.mono _ _
   | exact LeO.none _
   | refine LeO.ite ?_ ?_
   | refine LeO.bind ?_ (fun _=>?_)
  ·intro y0 y1 y2 y3 y4
   unfold factotumref09_Right.l0
   repeat' first
   | (with_reducible exact ih0 _ _ _ _ _ _)
   | (with_reducible exact ih1 _ _ _ _ _)
   | (with_reducible exact factotumref09_ordered.mono _ _)
   | (with_reducible exact LeO.refl _)
   | (with_reducible exact LeO.none _)
   | (with_reducible refine LeO.ite ?_ ?_)
   | (with_reducible refine LeO.bind ?_ (fun _=>?_))
   | exact ih0 _ _ _ _ _ _
   | exact ih1 _ _ _ _ _
   | exact factotumref09_ordered.mono _ _
   | exact LeO.none _
   | refine LeO.ite ?_ ?_
   | refine LeO.bind ?_ (fun _=>?_)
theorem factotumref09_Right.mono:∀ a0 a1 a2 a3 k,LeO (factotumref09_Right.f k a0 a1 a2 a3) (factotumref09_Right.f (k + 1) a0 a1 a2 a3):=by
 intro a0 a1 a2 a3 k
 obtain ⟨ih0,ih1⟩:=factotumref09_Right.mono_l k
 unfold factotumref09_Right.f
 repeat' first
   | (with_reducible exact ih0 _ _ _ _ _ _)
   | (with_reducible exact ih1 _ _ _ _ _)
   | (with_reducible exact factotumref09_ordered.mono _ _)
   | (with_reducible exact LeO.refl _)
   | (with_reducible exact LeO.none _)
   | (with_reducible refine LeO.ite ?_ ?_)
   | (with_reducible refine LeO.bind ?_ (fun _=>?_))
   | exact ih0 _ _ _ _ _ _
   | exact ih1 _ _ _ _ _
   | exact factotumref09_ordered.mono _ _
   | exact LeO.none _
   | refine LeO.ite ?_ ?_
   | refine LeO.bind ?_ (fun _=>?_)
set_option maxHeartbeats 8000000 in
set_option maxRecDepth 100000 in
theorem factotumref09_Right.calls (k:Nat) (a0_0:Bool) (A0_1:Option Addr) (c0_1:Nat) (l0_1:List (S43)) (A0_2:Option Addr) (c0_2:Nat) (l0_2:List ByteArray) (A0_3:Option Addr) (c0_3:Nat) (l0_3:List Int) (r:Bool) (w:World) (hr0_1:Kd.C k43 w A0_1 l0_1.length l0_1) (hc0_1:l0_1.length≤c0_1) (hr0_2:Kd.C Kd.string w A0_2 l0_2.length l0_2) (hc0_2:l0_2.length≤c0_2) (hr0_3:Kd.C (Kd.int .i64) w A0_3 l0_3.length l0_3) (hc0_3:l0_3.length≤c0_3) (h:factotumref09_Right.f k a0_0 l0_1 l0_2 l0_3=some r) :
  Calls Try.prog 21 #[.agg #[.bool a0_0,.slice A0_1 l0_1.length c0_1,.slice A0_2 l0_2.length c0_2,.slice A0_3 l0_3.length c0_3]] w fun e w'=>e=.returned (.bool r)∧Below w.heap.size w w':=by
 have hu26:=Try.underlying26
 have HR0_1:=Aside0.mk hr0_1
 have HC0_1:=Aside0.mk hc0_1
 clear hr0_1 hc0_1
 have HR0_2:=Aside0.mk hr0_2
 have HC0_2:=Aside0.mk hc0_2
 clear hr0_2 hc0_2
 have HR0_3:=Aside0.mk hr0_3
 have HC0_3:=Aside0.mk hc0_3
 clear hr0_3 hc0_3
 have HB:=Aside0.mk (Below.refl w.heap.size w)
 have H:(if a0_0=true then (factotumref09_Right.l1 k ([]:List ByteArray) 0 a0_0 l0_1 l0_2 l0_3) else (factotumref09_Right.l0 k 0 a0_0 l0_1 l0_2 l0_3))=some r:=h
 clear h
 by_cases c2:a0_0=true
 ·subst c2
  have H1:(factotumref09_Right.l1 k ([]:List ByteArray) 0 true l0_1 l0_2 l0_3)=some r:=by rw [if_pos rfl] at H;exact H
  clear H
  have H:=H1
  clear H1
  have H':=Aside0.mk H
  clear H
  go_enter Try.func21,Try.ntmps21
  go_wp2_with (first|((with_reducible refine gate_dst (N:=1) rfl ?_);(try (refine gate_guard (by rfl) ?_;dsimp only));refine box_event ?hg (N:=1) ?hd (cs:=#[.bool true,.slice A0_1 l0_1.length c0_1,.slice A0_2 l0_2.length c0_2,.slice A0_3 l0_3.length c0_3]) (t:=26) ?hr ?_;(case hd=>rfl);(case hg=>rfl);(case hr=>first|(go_simp;done)|(go_simp;rfl));intro gb230 hg w3 hbox hb;have BK230:=Aside0.mk (hbox);have GW230:=Aside0.mk ((by rw [hg];exact (below_size (by repeat (first|(with_reducible first|exact HB.out|apply zl1|apply zl2|apply zl3)|exact HB.out))):w.heap.size≤gb230));have GE230:=Aside0.mk ((by rw [hg];exact (below_size (by repeat (first|(with_reducible first|exact HB.out|apply zl1|apply zl2|apply zl3)|exact HB.out))):w.heap.size≤gb230));replace HB:=Aside0.mk (below_step (by repeat (first|(with_reducible first|exact HB.out|apply zl1|apply zl2|apply zl3)|exact HB.out)) hb);clear hb hbox hg;obtain ⟨hcz4_0,hcz4_1,hcz4_2,hcz4_3⟩:=zc4 BK230.out;obtain ⟨hfz4_0,hfz4_1,hfz4_2,hfz4_3⟩:=zf4 BK230.out))
  go_loopg [4,5] k (fun kq v4 v5 w'=>∃ (x4_1:List ByteArray) (x5_1:Int),v5=.int .i64 x5_1∧Aside0 (factotumref09_Right.l1 kq x4_1 x5_1 true l0_1 l0_2 l0_3=some r)∧Aside0 (kq≤k)∧Aside0 (Kd.R Kd.string 9 w' w.heap.size (fun _=>True) v4 x4_1)∧Aside0 (w'.heap[gb230]?=some (.cells #[.bool true,(.slice A0_1 l0_1.length c0_1),(.slice A0_2 l0_2.length c0_2),(.slice A0_3 l0_3.length c0_3)] 26 (0,0)))∧Aside0 (Below w.heap.size w w'))
  case atStart=>exact ⟨(([]:List ByteArray)),(0),(by first|(with_reducible rfl)|(simp;done)|(simp [*];done)|rfl|(simp only [not_isEmpty_bne])),H',⟨Nat.le_refl _⟩,⟨by first|exact Kd.R_nil _ _ _ _ _|exact Kd.N_nil _ _ _ _ _|exact Kd.V_nil _ _ _ _ _|exact Kd.Q_nil _ _ _ _ _|exact Kd.S_nil _ _ _ _ _⟩,⟨by (with_reducible repeat (first|apply zb1|apply zb2|apply zb3));exact BK230.out⟩,⟨by repeat (first|(with_reducible first|exact HB.out|apply zl1|apply zl2|apply zl3|refine below_set ?_ GE230.out)|exact HB.out)⟩⟩
  case round =>
   clear H'
   try clear hfz4_0 hfz4_1 hfz4_2 hfz4_3
   try clear hcz4_0 hcz4_1 hcz4_2 hcz4_3
   try clear c2
   try clear p2
   obtain ⟨x4_1,x5_1,rfl,HA,HK1,HO_4,BK230,HB⟩:=hrel
   cases gk with
   | zero=>exact absurd HA.out (by simp [factotumref09_Right.l1])
   | succ k1 =>
    have H:=HA.out
    clear HA
    simp only [factotumref09_Right.l1] at H
    by_cases c5:x5_1 < (l0_1.length:Int)
    ·rw [if_pos c5] at H
     have c5b0:decide (x5_1 < (l0_1.length:Int))=true:=decide_eq_true c5
     clear c5
     by_cases c6:0≤x5_1
     ·rw [if_pos c6] at H
      have c6b0:decide (0≤x5_1)=true:=decide_eq_true c6
      clear c6
      by_cases c7:(((rd_T43 l0_1 x5_1).f1).size:Int) > 40
      ·rw [if_pos c7] at H
       have c7b0:decide (40 < (((rd_T43 l0_1 x5_1).f1).size:Int))=true:=decide_eq_true c7
       have c7b1:decide (40 < ((rd_T43 l0_1 x5_1).f1).size)=true:=decide_eq_true (by omega)
       clear c7
       obtain rfl:=Option.some.inj H
       obtain ⟨hcz8_0,hcz8_1,hcz8_2,hcz8_3⟩:=zc4 BK230.out
       obtain ⟨hfz8_0,hfz8_1,hfz8_2,hfz8_3⟩:=zf4 BK230.out
       have p234:0≤(x5_1:Int):=of_decide_eq_true (by first|(with_reducible assumption)|assumption)
       have q234:x5_1 < (l0_1.length:Int):=of_decide_eq_true (by first|(with_reducible assumption)|assumption)
       obtain ⟨ad234,e234,hx234_0,hx234_1⟩:=at_T43 HR0_1.out x5_1 p234 q234
       cases e234
       replace hx234_0:=(HB.out.cell (World.block_lt_of_cell? w _ hx234_0)).trans hx234_0
       replace hx234_1:=(HB.out.cell (World.block_lt_of_cell? w _ hx234_1)).trans hx234_1
       replace p234:=eq_true p234
       replace q234:=eq_true q234
       go_wp2
       go_ret
       exact ⟨by first|(with_reducible rfl)|(simp only [isEmpty_bne,Bool.not_not] <;> rfl)|rfl|(simp [*,errW_none,errW_some] <;> rfl),by repeat (first|(with_reducible first|exact HB.out|apply zl1|apply zl2|apply zl3|refine below_set ?_ GE230.out)|exact HB.out)⟩
      ·rw [if_neg c7] at H
       have c7b0:decide (40 < (((rd_T43 l0_1 x5_1).f1).size:Int))=false:=decide_eq_false c7
       have c7b1:decide (40 < ((rd_T43 l0_1 x5_1).f1).size)=false:=decide_eq_false (by omega)
       clear c7
       by_cases c9:x4_1.length < 8796093022208
       ·rw [if_pos c9] at H
        have LMc9:=Aside0.mk c9
        clear c9
        obtain ⟨y236,hy236⟩:∃ y_:List ByteArray,y_=(x4_1 ++ [(rd_T43 l0_1 x5_1).f0]):=⟨_,rfl⟩
        replace H:(factotumref09_Right.l1 k1 y236 (wrap64 (x5_1 + 1)) true l0_1 l0_2 l0_3)=some r:=by first|(rw [hy236];with_reducible exact H)|(have H2_:=(Option.bind_some _ _).symm.trans H;rw [hy236];with_reducible exact H2_)|(have H2_:=(Option.bind_some _ _).symm.trans H;with_reducible exact H2_)|with_reducible exact H|(rw [hy236];exact H)|exact H
        have Ny236:=Aside0.mk hy236
        clear hy236
        have H':=Aside0.mk H
        clear H
        obtain ⟨hcz10_0,hcz10_1,hcz10_2,hcz10_3⟩:=zc4 BK230.out
        obtain ⟨hfz10_0,hfz10_1,hfz10_2,hfz10_3⟩:=zf4 BK230.out
        have p234:0≤(x5_1:Int):=of_decide_eq_true (by first|(with_reducible assumption)|assumption)
        have q234:x5_1 < (l0_1.length:Int):=of_decide_eq_true (by first|(with_reducible assumption)|assumption)
        obtain ⟨ad234,e234,hx234_0,hx234_1⟩:=at_T43 HR0_1.out x5_1 p234 q234
        cases e234
        replace hx234_0:=(HB.out.cell (World.block_lt_of_cell? w _ hx234_0)).trans hx234_0
        replace hx234_1:=(HB.out.cell (World.block_lt_of_cell? w _ hx234_1)).trans hx234_1
        replace p234:=eq_true p234
        replace q234:=eq_true q234
        have p235:0≤(x5_1:Int):=of_decide_eq_true (by first|(with_reducible assumption)|assumption)
        have q235:x5_1 < (l0_1.length:Int):=of_decide_eq_true (by first|(with_reducible assumption)|assumption)
        obtain ⟨ad235,e235,hx235_0,hx235_1⟩:=at_T43 HR0_1.out x5_1 p235 q235
        obtain rfl:ad234=ad235:=(by injection e235)
        replace hx235_0:=(HB.out.cell (World.block_lt_of_cell? w _ hx235_0)).trans hx235_0
        replace hx235_1:=(HB.out.cell (World.block_lt_of_cell? w _ hx235_1)).trans hx235_1
        replace p235:=eq_true p235
        replace q235:=eq_true q235
        go_wp2_with (first|((with_reducible refine gate_builtin (b:=.append) (xs:=#[.tmp 64,.tmp 71]) rfl ?_);(try (refine gate_guard (by rfl) ?_;dsimp only));at_builtin;refine Kd.R_append Kd.string (w0:=w) w.heap.size rfl (.tmp 64) (.tmp 71) 23 9 (.string ⟨#[]⟩) 16 rfl Try.underlying23 info9 rfl (by decide) (by omega) u4 x4_1 ((rd_T43 l0_1 x5_1).f0) [.string ((rd_T43 l0_1 x5_1).f0)] (fun _=>True) (fun _=>False) rfl rfl ?aP (fun _ hk=>hk.elim) ?aF ?aO ?aB ?aS ?aL ?_;(case aP=>exact rfl);(case aB=>exact (by repeat (first|(with_reducible first|exact HB.out|apply zl1|apply zl2|apply zl3|refine below_set ?_ GE230.out)|exact HB.out)));(case aF=>exact (fun _ _=>trivial));(case aO=>exact (by (with_reducible repeat (first|apply zk1|apply zk2|apply zk3));exact HO_4.out));(case aS=>exact (below_size (by repeat (first|(with_reducible first|exact HB.out|apply zl1|apply zl2|apply zl3|refine below_set ?_ GE230.out)|exact HB.out))));(case aL=>have:=LMc9.out;omega);intro v237 w11 ho hb hg hat;rw [← Ny236.out] at ho;have n0_:=Aside0.mk (blk_grown (g:=gb230) (o:=.cells #[.bool true,.slice (some ad234) l0_1.length c0_1,.slice A0_2 l0_2.length c0_2,.slice A0_3 l0_3.length c0_3] 26 (0,0)) (by (with_reducible repeat (first|apply zb1|apply zb2|apply zb3));exact BK230.out) hg (Kd.R_ne HO_4.out BK230.out (by decide)));have n1_:=Aside0.mk (hb);have n2_:=Aside0.mk (ho);clear BK230;clear HB;clear HO_4;have BK230:=n0_;have HB:=n1_;have HO238:=n2_;clear n0_ n1_ n2_;clear ho hb hg hat))
        go_roundg k1
        case measure=>have:=HK1.out;omega
        case rel=>exact ⟨(y236),(wrap64 (x5_1 + 1)),(by first|(with_reducible rfl)|(simp;done)|(simp [*];done)|rfl|(simp only [not_isEmpty_bne])),H',⟨by have:=HK1.out;omega⟩,⟨by (with_reducible repeat (first|apply zk1|apply zk2|apply zk3));exact HO238.out⟩,⟨by (with_reducible repeat (first|apply zb1|apply zb2|apply zb3));exact BK230.out⟩,⟨by repeat (first|(with_reducible first|exact HB.out|apply zl1|apply zl2|apply zl3|refine below_set ?_ GE230.out)|exact HB.out)⟩⟩
       ·rw [if_neg c9] at H
        exact absurd H (by simp)
     ·rw [if_neg c6] at H
      exact absurd H (by simp)
    ·rw [if_neg c5] at H
     have c5b0:decide (x5_1 < (l0_1.length:Int))=false:=decide_eq_false c5
     clear c5
     by_cases c12:(l0_2.length:Int)=0
     ·rw [if_pos c12] at H
      have c12b0:((l0_2.length:Int) == 0)=true:=beq_iff_eq.mpr c12
      have c12b1:((l0_2.length:Int) != 0)=false:=bne_eq_false_iff_eq.mpr c12
      clear c12
      by_cases c13:(l0_3.length:Int)=0
      ·rw [if_pos c13] at H
       have c13b0:((l0_3.length:Int) == 0)=true:=beq_iff_eq.mpr c13
       have c13b1:((l0_3.length:Int) != 0)=false:=bne_eq_false_iff_eq.mpr c13
       clear c13
       replace H:=Option.bind_eq_some_iff.mp H
       obtain ⟨t239,A140,H⟩:=H
       replace H:(some t239)=some r:=H
       have A14:=Aside0.mk A140
       clear A140
       obtain rfl:=Option.some.inj H
       obtain ⟨hcz15_0,hcz15_1,hcz15_2,hcz15_3⟩:=zc4 BK230.out
       obtain ⟨hfz15_0,hfz15_1,hfz15_2,hfz15_3⟩:=zf4 BK230.out
       obtain ⟨Ao16,co16,eo16⟩:=Kd.R_slice HO_4.out
       subst eo16
       go_wp2_with (first|(go_at_call 39;(with_reducible refine (factotumref09_ordered.calls k1 _ _ x4_1 t239 _ ?side1 ?side2 A14.out).mono ?_);(case side1=>repeat (first|exact (Kd.R_reads' HO_4.out).2.2|(with_reducible refine Kd.C_alloc ?_ _)|(with_reducible refine Kd.C_drewN ?_ _)|(with_reducible refine Kd.C_drew ?_)));(case side2=>exact (Kd.R_reads' HO_4.out).2.1);rintro e w17 ⟨rfl,hb⟩;replace HO_4:=Aside0.mk (Kd.R_below (by (with_reducible repeat (first|apply zk1|apply zk2|apply zk3));exact HO_4.out) hb);replace BK230:=Aside0.mk (blk_below (g:=gb230) (o:=.cells #[.bool true,.slice A0_1 l0_1.length c0_1,.slice A0_2 l0_2.length c0_2,.slice A0_3 l0_3.length c0_3] 26 (0,0)) (by (with_reducible repeat (first|apply zb1|apply zb2|apply zb3));exact BK230.out) hb);replace HB:=Aside0.mk (below_step (by repeat (first|(with_reducible first|exact HB.out|apply zl1|apply zl2|apply zl3|refine below_set ?_ GE230.out)|exact HB.out)) hb);(try clear hb)))
       go_ret
       exact ⟨by first|(with_reducible rfl)|(simp only [isEmpty_bne,Bool.not_not] <;> rfl)|rfl|(simp [*,errW_none,errW_some] <;> rfl),by repeat (first|(with_reducible first|exact HB.out|apply zl1|apply zl2|apply zl3|refine below_set ?_ GE230.out)|exact HB.out)⟩
      ·rw [if_neg c13] at H
       have c13b0:((l0_3.length:Int) == 0)=false:=beq_eq_false_iff_ne.mpr c13
       have c13b1:((l0_3.length:Int) != 0)=true:=bne_iff_ne.mpr c13
       have c13b2:¬ (l0_3=[]):=fun h_=>c13 (by rw [h_];rfl)
       obtain rfl:=Option.some.inj H
       obtain ⟨hcz18_0,hcz18_1,hcz18_2,hcz18_3⟩:=zc4 BK230.out
       obtain ⟨hfz18_0,hfz18_1,hfz18_2,hfz18_3⟩:=zf4 BK230.out
       go_wp2
       go_ret
       exact ⟨by first|(with_reducible rfl)|(simp only [isEmpty_bne,Bool.not_not] <;> rfl)|rfl|(simp [*,errW_none,errW_some] <;> rfl),by repeat (first|(with_reducible first|exact HB.out|apply zl1|apply zl2|apply zl3|refine below_set ?_ GE230.out)|exact HB.out)⟩
     ·rw [if_neg c12] at H
      have c12b0:((l0_2.length:Int) == 0)=false:=beq_eq_false_iff_ne.mpr c12
      have c12b1:((l0_2.length:Int) != 0)=true:=bne_iff_ne.mpr c12
      have c12b2:¬ (l0_2=[]):=fun h_=>c12 (by rw [h_];rfl)
      obtain rfl:=Option.some.inj H
      obtain ⟨hcz19_0,hcz19_1,hcz19_2,hcz19_3⟩:=zc4 BK230.out
      obtain ⟨hfz19_0,hfz19_1,hfz19_2,hfz19_3⟩:=zf4 BK230.out
      go_wp2
      go_ret
      exact ⟨by first|(with_reducible rfl)|(simp only [isEmpty_bne,Bool.not_not] <;> rfl)|rfl|(simp [*,errW_none,errW_some] <;> rfl),by repeat (first|(with_reducible first|exact HB.out|apply zl1|apply zl2|apply zl3|refine below_set ?_ GE230.out)|exact HB.out)⟩
 ·replace c2:=Bool.eq_false_iff.mpr c2
  subst c2
  have H1:(factotumref09_Right.l0 k 0 false l0_1 l0_2 l0_3)=some r:=by rw [if_neg (show ¬ (false=true) by decide)] at H;exact H
  clear H
  have H:=H1
  clear H1
  have H':=Aside0.mk H
  clear H
  go_enter Try.func21,Try.ntmps21
  go_wp2_with (first|((with_reducible refine gate_dst (N:=1) rfl ?_);(try (refine gate_guard (by rfl) ?_;dsimp only));refine box_event ?hg (N:=1) ?hd (cs:=#[.bool false,.slice A0_1 l0_1.length c0_1,.slice A0_2 l0_2.length c0_2,.slice A0_3 l0_3.length c0_3]) (t:=26) ?hr ?_;(case hd=>rfl);(case hg=>rfl);(case hr=>first|(go_simp;done)|(go_simp;rfl));intro gb230 hg w20 hbox hb;have BK230:=Aside0.mk (hbox);have GW230:=Aside0.mk ((by rw [hg];exact (below_size (by repeat (first|(with_reducible first|exact HB.out|apply zl1|apply zl2|apply zl3)|exact HB.out))):w.heap.size≤gb230));have GE230:=Aside0.mk ((by rw [hg];exact (below_size (by repeat (first|(with_reducible first|exact HB.out|apply zl1|apply zl2|apply zl3)|exact HB.out))):w.heap.size≤gb230));replace HB:=Aside0.mk (below_step (by repeat (first|(with_reducible first|exact HB.out|apply zl1|apply zl2|apply zl3)|exact HB.out)) hb);clear hb hbox hg;obtain ⟨hcz21_0,hcz21_1,hcz21_2,hcz21_3⟩:=zc4 BK230.out;obtain ⟨hfz21_0,hfz21_1,hfz21_2,hfz21_3⟩:=zf4 BK230.out))
  go_loopg [3] k (fun kq v3 w'=>∃ (x3_1:Int),v3=.int .i64 x3_1∧Aside0 (factotumref09_Right.l0 kq x3_1 false l0_1 l0_2 l0_3=some r)∧Aside0 (kq≤k)∧Aside0 (w'.heap[gb230]?=some (.cells #[.bool false,(.slice A0_1 l0_1.length c0_1),(.slice A0_2 l0_2.length c0_2),(.slice A0_3 l0_3.length c0_3)] 26 (0,0)))∧Aside0 (Below w.heap.size w w'))
  case atStart=>exact ⟨(0),(by first|(with_reducible rfl)|(simp;done)|(simp [*];done)|rfl|(simp only [not_isEmpty_bne])),H',⟨Nat.le_refl _⟩,⟨by (with_reducible repeat (first|apply zb1|apply zb2|apply zb3));exact BK230.out⟩,⟨by repeat (first|(with_reducible first|exact HB.out|apply zl1|apply zl2|apply zl3|refine below_set ?_ GE230.out)|exact HB.out)⟩⟩
  case round =>
   clear H'
   try clear hcz10_0 hcz10_1 hcz10_2 hcz10_3 hcz15_0 hcz15_1 hcz15_2
   try clear c1
   try clear c2
   try clear p2
   try clear q2
   try clear hx2
   try clear c5
   try clear c5b0
   try clear c6
   try clear c6b0
   try clear p6
   try clear c7
   try clear c7b0
   try clear c7b1
   try clear c9
   try clear c12
   try clear c12b0
   try clear c12b1
   try clear c12b2
   try clear c13
   try clear c13b0
   try clear c13b1
   try clear c13b2
   try clear c21
   try clear hfz10_0 hfz10_1 hfz10_2 hfz10_3 hfz15_0 hfz15_1 hfz15_2 hfz15_3 hfz18_0
   try clear hcz15_3 hcz18_0 hcz18_1 hcz18_2 hcz18_3 hcz19_0 hcz19_1 hcz19_2 hcz19_3 hcz21_0 hcz21_1 hcz21_2 hcz21_3 hcz4_0 hcz4_1 hcz4_2 hcz4_3 hcz8_0 hcz8_1 hcz8_2 hcz8_3
   try clear hfz18_1 hfz18_2 hfz18_3 hfz19_0 hfz19_1 hfz19_2 hfz19_3 hfz21_0 hfz21_1 hfz21_2 hfz21_3 hfz4_0 hfz4_1 hfz4_2 hfz4_3 hfz8_0 hfz8_1 hfz8_2 hfz8_3
   try clear hx234_0
   try clear hx234_1
   try clear hx235_0
   try clear hx235_1
   try clear p2
   try clear p234
   try clear p235
   try clear q234
   try clear q235
   obtain ⟨x3_1,rfl,HA,HK1,BK230,HB⟩:=hrel
   cases gk with
   | zero=>exact absurd HA.out (by simp [factotumref09_Right.l0])
   | succ k1 =>
    have H:=HA.out
    clear HA
    simp only [factotumref09_Right.l0] at H
    by_cases c22:x3_1 < (l0_3.length:Int)
    ·rw [if_pos c22] at H
     have c22b0:decide (x3_1 < (l0_3.length:Int))=true:=decide_eq_true c22
     clear c22
     by_cases c23:0≤x3_1
     ·rw [if_pos c23] at H
      have c23b0:decide (0≤x3_1)=true:=decide_eq_true c23
      clear c23
      by_cases c24:(rd l0_3 x3_1) < 1
      ·rw [if_pos c24] at H
       have c24b0:decide ((rd l0_3 x3_1) < 1)=true:=decide_eq_true c24
       clear c24
       obtain rfl:=Option.some.inj H
       obtain ⟨hcz25_0,hcz25_1,hcz25_2,hcz25_3⟩:=zc4 BK230.out
       obtain ⟨hfz25_0,hfz25_1,hfz25_2,hfz25_3⟩:=zf4 BK230.out
       have p231:0≤(x3_1:Int):=of_decide_eq_true (by first|(with_reducible assumption)|assumption)
       have q231:x3_1 < (l0_3.length:Int):=of_decide_eq_true (by first|(with_reducible assumption)|assumption)
       obtain ⟨ad231,e231,hx231_0⟩:=Kd.at_int HR0_3.out x3_1 p231 q231
       cases e231
       replace hx231_0:=(HB.out.cell (World.block_lt_of_cell? w _ hx231_0)).trans hx231_0
       replace p231:=eq_true p231
       replace q231:=eq_true q231
       go_wp2
       go_ret
       exact ⟨by first|(with_reducible rfl)|(simp only [isEmpty_bne,Bool.not_not] <;> rfl)|rfl|(simp [*,errW_none,errW_some] <;> rfl),by repeat (first|(with_reducible first|exact HB.out|apply zl1|apply zl2|apply zl3|refine below_set ?_ GE230.out)|exact HB.out)⟩
      ·rw [if_neg c24] at H
       have c24b0:decide ((rd l0_3 x3_1) < 1)=false:=decide_eq_false c24
       clear c24
       by_cases c26:(rd l0_3 x3_1) > 65535
       ·rw [if_pos c26] at H
        have c26b0:decide (65535 < (rd l0_3 x3_1))=true:=decide_eq_true c26
        clear c26
        obtain rfl:=Option.some.inj H
        obtain ⟨hcz27_0,hcz27_1,hcz27_2,hcz27_3⟩:=zc4 BK230.out
        obtain ⟨hfz27_0,hfz27_1,hfz27_2,hfz27_3⟩:=zf4 BK230.out
        have p231:0≤(x3_1:Int):=of_decide_eq_true (by first|(with_reducible assumption)|assumption)
        have q231:x3_1 < (l0_3.length:Int):=of_decide_eq_true (by first|(with_reducible assumption)|assumption)
        obtain ⟨ad231,e231,hx231_0⟩:=Kd.at_int HR0_3.out x3_1 p231 q231
        cases e231
        replace hx231_0:=(HB.out.cell (World.block_lt_of_cell? w _ hx231_0)).trans hx231_0
        replace p231:=eq_true p231
        replace q231:=eq_true q231
        have p232:0≤(x3_1:Int):=of_decide_eq_true (by first|(with_reducible assumption)|assumption)
        have q232:x3_1 < (l0_3.length:Int):=of_decide_eq_true (by first|(with_reducible assumption)|assumption)
        obtain ⟨ad232,e232,hx232_0⟩:=Kd.at_int HR0_3.out x3_1 p232 q232
        obtain rfl:ad231=ad232:=(by injection e232)
        replace hx232_0:=(HB.out.cell (World.block_lt_of_cell? w _ hx232_0)).trans hx232_0
        replace p232:=eq_true p232
        replace q232:=eq_true q232
        go_wp2
        go_ret
        exact ⟨by first|(with_reducible rfl)|(simp only [isEmpty_bne,Bool.not_not] <;> rfl)|rfl|(simp [*,errW_none,errW_some] <;> rfl),by repeat (first|(with_reducible first|exact HB.out|apply zl1|apply zl2|apply zl3|refine below_set ?_ GE230.out)|exact HB.out)⟩
       ·rw [if_neg c26] at H
        have c26b0:decide (65535 < (rd l0_3 x3_1))=false:=decide_eq_false c26
        clear c26
        have H':=Aside0.mk H
        clear H
        obtain ⟨hcz28_0,hcz28_1,hcz28_2,hcz28_3⟩:=zc4 BK230.out
        obtain ⟨hfz28_0,hfz28_1,hfz28_2,hfz28_3⟩:=zf4 BK230.out
        have p231:0≤(x3_1:Int):=of_decide_eq_true (by first|(with_reducible assumption)|assumption)
        have q231:x3_1 < (l0_3.length:Int):=of_decide_eq_true (by first|(with_reducible assumption)|assumption)
        obtain ⟨ad231,e231,hx231_0⟩:=Kd.at_int HR0_3.out x3_1 p231 q231
        cases e231
        replace hx231_0:=(HB.out.cell (World.block_lt_of_cell? w _ hx231_0)).trans hx231_0
        replace p231:=eq_true p231
        replace q231:=eq_true q231
        have p232:0≤(x3_1:Int):=of_decide_eq_true (by first|(with_reducible assumption)|assumption)
        have q232:x3_1 < (l0_3.length:Int):=of_decide_eq_true (by first|(with_reducible assumption)|assumption)
        obtain ⟨ad232,e232,hx232_0⟩:=Kd.at_int HR0_3.out x3_1 p232 q232
        obtain rfl:ad231=ad232:=(by injection e232)
        replace hx232_0:=(HB.out.cell (World.block_lt_of_cell? w _ hx232_0)).trans hx232_0
        replace p232:=eq_true p232
        replace q232:=eq_true q232
        go_wp2
        go_roundg k1
        case measure=>have:=HK1.out;omega
        case rel=>exact ⟨(wrap64 (x3_1 + 1)),(by first|(with_reducible rfl)|(simp;done)|(simp [*];done)|rfl|(simp only [not_isEmpty_bne])),H',⟨by have:=HK1.out;omega⟩,⟨by (with_reducible repeat (first|apply zb1|apply zb2|apply zb3));exact BK230.out⟩,⟨by repeat (first|(with_reducible first|exact HB.out|apply zl1|apply zl2|apply zl3|refine below_set ?_ GE230.out)|exact HB.out)⟩⟩
     ·rw [if_neg c23] at H
      exact absurd H (by simp)
    ·rw [if_neg c22] at H
     have c22b0:decide (x3_1 < (l0_3.length:Int))=false:=decide_eq_false c22
     clear c22
     by_cases c29:(l0_1.length:Int)=0
     ·rw [if_pos c29] at H
      have c29b0:((l0_1.length:Int) == 0)=true:=beq_iff_eq.mpr c29
      have c29b1:((l0_1.length:Int) != 0)=false:=bne_eq_false_iff_eq.mpr c29
      clear c29
      by_cases c30:(l0_3.length:Int)=(wrap64 ((l0_2.length:Int) + 1))
      ·rw [if_pos c30] at H
       have c30b0:((l0_3.length:Int) == (wrap64 ((l0_2.length:Int) + 1)))=true:=beq_iff_eq.mpr c30
       have c30b1:((l0_3.length:Int) != (wrap64 ((l0_2.length:Int) + 1)))=false:=bne_eq_false_iff_eq.mpr c30
       clear c30
       replace H:=Option.bind_eq_some_iff.mp H
       obtain ⟨t233,A310,H⟩:=H
       replace H:(some t233)=some r:=H
       have A31:=Aside0.mk A310
       clear A310
       obtain rfl:=Option.some.inj H
       obtain ⟨hcz32_0,hcz32_1,hcz32_2,hcz32_3⟩:=zc4 BK230.out
       obtain ⟨hfz32_0,hfz32_1,hfz32_2,hfz32_3⟩:=zf4 BK230.out
       go_wp2_with (first|(go_at_call 39;(with_reducible refine (factotumref09_ordered.calls k1 _ _ l0_2 t233 _ ?side1 ?side2 A31.out).mono ?_);(case side1=>repeat (first|exact (Kd.C_below HR0_2.out HB.out)|(with_reducible refine Kd.C_alloc ?_ _)|(with_reducible refine Kd.C_drewN ?_ _)|(with_reducible refine Kd.C_drew ?_)));(case side2=>exact HC0_2.out);rintro e w33 ⟨rfl,hb⟩;replace BK230:=Aside0.mk (blk_below (g:=gb230) (o:=.cells #[.bool false,.slice A0_1 l0_1.length c0_1,.slice A0_2 l0_2.length c0_2,.slice A0_3 l0_3.length c0_3] 26 (0,0)) (by (with_reducible repeat (first|apply zb1|apply zb2|apply zb3));exact BK230.out) hb);replace HB:=Aside0.mk (below_step (by repeat (first|(with_reducible first|exact HB.out|apply zl1|apply zl2|apply zl3|refine below_set ?_ GE230.out)|exact HB.out)) hb);(try clear hb)))
       go_ret
       exact ⟨by first|(with_reducible rfl)|(simp only [isEmpty_bne,Bool.not_not] <;> rfl)|rfl|(simp [*,errW_none,errW_some] <;> rfl),by repeat (first|(with_reducible first|exact HB.out|apply zl1|apply zl2|apply zl3|refine below_set ?_ GE230.out)|exact HB.out)⟩
      ·rw [if_neg c30] at H
       have c30b0:((l0_3.length:Int) == (wrap64 ((l0_2.length:Int) + 1)))=false:=beq_eq_false_iff_ne.mpr c30
       have c30b1:((l0_3.length:Int) != (wrap64 ((l0_2.length:Int) + 1)))=true:=bne_iff_ne.mpr c30
       obtain rfl:=Option.some.inj H
       obtain ⟨hcz34_0,hcz34_1,hcz34_2,hcz34_3⟩:=zc4 BK230.out
       obtain ⟨hfz34_0,hfz34_1,hfz34_2,hfz34_3⟩:=zf4 BK230.out
       go_wp2
       go_ret
       exact ⟨by first|(with_reducible rfl)|(simp only [isEmpty_bne,Bool.not_not] <;> rfl)|rfl|(simp [*,errW_none,errW_some] <;> rfl),by repeat (first|(with_reducible first|exact HB.out|apply zl1|apply zl2|apply zl3|refine below_set ?_ GE230.out)|exact HB.out)⟩
     ·rw [if_neg c29] at H
      have c29b0:((l0_1.length:Int) == 0)=false:=beq_eq_false_iff_ne.mpr c29
      have c29b1:((l0_1.length:Int) != 0)=true:=bne_iff_ne.mpr c29
      have c29b2:¬ (l0_1=[]):=fun h_=>c29 (by rw [h_];rfl)
      obtain rfl:=Option.some.inj H
      obtain ⟨hcz35_0,hcz35_1,hcz35_2,hcz35_3⟩:=zc4 BK230.out
      obtain ⟨hfz35_0,hfz35_1,hfz35_2,hfz35_3⟩:=zf4 BK230.out
      go_wp2
      go_ret
      exact ⟨by first|(with_reducible rfl)|(simp only [isEmpty_bne,Bool.not_not] <;> rfl)|rfl|(simp [*,errW_none,errW_some] <;> rfl),by repeat (first|(with_reducible first|exact HB.out|apply zl1|apply zl2|apply zl3|refine below_set ?_ GE230.out)|exact HB.out)⟩

end Go.Proofs.Ytokjbncjapndgaa.PAll
