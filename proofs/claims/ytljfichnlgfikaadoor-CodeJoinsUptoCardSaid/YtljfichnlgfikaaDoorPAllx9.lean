/- Printed walks of the functions that the laws reach: each function, what it computes, and that it does. No conditions. -/
import Derived.Test.YtljfichnlgfikaaDoorPAllx0
import Derived.Test.YtljfichnlgfikaaDoorPAllx6
import Derived.Test.YtljfichnlgfikaaDoorPAllx8
namespace Go.Proofs.YtljfichnlgfikaaDoor.PAll
open Go.RowKit Go.Proofs.YtljfichnlgfikaaDoor.XW Go.Proofs.YtljfichnlgfikaaDoor.XLib Go.Proofs.YtljfichnlgfikaaDoorW.PrintWords Go.Proofs.YtljfichnlgfikaaDoorW.PrintLast Go.Proofs.YtljfichnlgfikaaDoorW.PrintMore
attribute [local go_sem] max2_int min2_int max_two min_two max_three min_three max_four min_four   -- for this text's walks alone
set_option linter.unusedVariables false
set_option linter.unusedSimpArgs false

/-! ### code_Write: function 9 -/
def code_Write.l0:Nat→List Int→List (S42)→Int→Int→Option (ByteArray × Int)
 | 0,_,_,_,_=>none
 | k + 1,x4,x10,x11,x12=>if x12 < x11 then (if 0≤x12 then (if x12 < (x10.length:Int) then ((code_right.f k ((rd_T42 x10 x12).f0) ((rd_T42 x10 x12).f1) ((rd_T42 x10 x12).f2) ((rd_T42 x10 x12).f3) ((rd_T42 x10 x12).f4.f0) ((rd_T42 x10 x12).f4.f1) ((rd_T42 x10 x12).f4.f2)).bind fun t163=>(if t163=true then ((code_put.f k x4 ((rd_T42 x10 x12).f0) ((rd_T42 x10 x12).f1) ((rd_T42 x10 x12).f2) ((rd_T42 x10 x12).f3) ((rd_T42 x10 x12).f4.f0) ((rd_T42 x10 x12).f4.f1) ((rd_T42 x10 x12).f4.f2)).bind fun t164=>(code_Write.l0 k t164 x10 x11 (wrap64 (x12 + 1)))) else (some ((⟨#[]⟩:ByteArray),4)))) else (none)) else (none)) else (some (strOfNums x4,0))
def code_Write.f (k:Nat) (l0:List (S42)):Option (ByteArray × Int):=if (l0.length:Int) > 64 then (some ((⟨#[]⟩:ByteArray),3)) else (code_Write.l0 k ([]:List Int) l0 (l0.length:Int) 0)
theorem code_Write.mono_l:∀ k,(∀ y0 y1 y2 y3,LeO (code_Write.l0 k y0 y1 y2 y3) (code_Write.l0 (k + 1) y0 y1 y2 y3))
 | 0=>fun _ _ _ _ r h=>by simp [code_Write.l0] at h
 | k + 1=>by
  have ih0:=code_Write.mono_l k
  ·intro y0 y1 y2 y3
   unfold code_Write.l0
   repeat' first
   | (with_reducible exact ih0 _ _ _ _)
   | (with_reducible exact code_put.mono _ _ _ _ _ _ _ _ _)
   | (with_reducible exact code_right.mono _ _ _ _ _ _ _ _)
   | (with_reducible exact LeO.refl _)
   | (with_reducible exact LeO.none _)
   | (with_reducible refine LeO.ite ?_ ?_)
   | (with_reducible refine LeO.bind ?_ (fun _=>?_))
   | exact ih0 _ _ _ _
   | exact code_put.mono _ _ _ _ _ _ _ _ _
   | exact code_right.mono _ _ _ _ _ _ _ _
   | exact LeO.none _
   | refine LeO.ite ?_ ?_
   | refine LeO.bind ?_ (fun _=>?_)
theorem code_Write.mono:∀ a0 k,LeO (code_Write.f k a0) (code_Write.f (k + 1) a0):=by
 intro a0 k
 have ih0:=code_Write.mono_l k
 unfold code_Write.f
 repeat' first
   | (with_reducible exact ih0 _ _ _ _)
   | (with_reducible exact code_put.mono _ _ _ _ _ _ _ _ _)
   | (with_reducible exact code_right.mono _ _ _ _ _ _ _ _)
   | (with_reducible exact LeO.refl _)
   | (with_reducible exact LeO.none _)
   | (with_reducible refine LeO.ite ?_ ?_)
   | (with_reducible refine LeO.bind ?_ (fun _=>?_))
   | exact ih0 _ _ _ _
   | exact code_put.mono _ _ _ _ _ _ _ _ _
   | exact code_right.mono _ _ _ _ _ _ _ _
   | exact LeO.none _
   | refine LeO.ite ?_ ?_
   | refine LeO.bind ?_ (fun _=>?_)
set_option maxHeartbeats 8000000 in
set_option maxRecDepth 100000 in
theorem code_Write.calls (k:Nat) (A0:Option Addr) (c0:Nat) (l0:List (S42)) (r1:ByteArray) (r2:Int) (w:World) (hr0:Kd.C k42 w A0 l0.length l0) (hc0:l0.length≤c0) (h:code_Write.f k l0=some (r1,r2)) :
  Calls Tryd.prog 9 #[.slice A0 l0.length c0] w fun e w'=>e=.returned (.tuple #[.string r1,.int .i64 r2])∧Below w.heap.size w w':=by
 have hu42:=Tryd.underlying42
 have HR0:=Aside0.mk hr0
 have HC0:=Aside0.mk hc0
 clear hr0 hc0
 have HB:=Aside0.mk (Below.refl w.heap.size w)
 have H:(if (l0.length:Int) > 64 then (some ((⟨#[]⟩:ByteArray),3)) else (code_Write.l0 k ([]:List Int) l0 (l0.length:Int) 0))=some (r1,r2):=h
 clear h
 by_cases c2:(l0.length:Int) > 64
 ·rw [if_pos c2] at H
  have c2b0:decide (64 < (l0.length:Int))=true:=decide_eq_true c2
  have c2b1:decide (64 < l0.length)=true:=decide_eq_true (by omega)
  clear c2
  simp only [Option.some.injEq,Prod.mk.injEq] at H
  obtain ⟨rfl,rfl⟩:=H
  go_enter Tryd.func9,Tryd.ntmps9
  go_wp2
  go_ret2
  exact ⟨by first|(with_reducible rfl)|(simp only [isEmpty_bne,Bool.not_not] <;> rfl)|rfl|(simp [*,errW_none,errW_some] <;> rfl),by repeat (first|(with_reducible first|exact HB.out|apply zl1|apply zl2|apply zl3)|exact HB.out)⟩
 ·rw [if_neg c2] at H
  have c2b0:decide (64 < (l0.length:Int))=false:=decide_eq_false c2
  have c2b1:decide (64 < l0.length)=false:=decide_eq_false (by omega)
  clear c2
  have H':=Aside0.mk H
  clear H
  go_enter Tryd.func9,Tryd.ntmps9
  go_wp2
  go_loopg [4,12] k (fun kq v4 v12 w'=>∃ (x4_1:List Int) (x12_1:Int),v12=.int .i64 x12_1∧Aside0 (code_Write.l0 kq x4_1 l0 (l0.length:Int) x12_1=some (r1,r2))∧Aside0 (kq≤k)∧Aside0 (Kd.R (Kd.int .u8) 5 w' w.heap.size (fun _=>True) v4 x4_1)∧Aside0 (Below w.heap.size w w'))
  case atStart=>exact ⟨(([]:List Int)),(0),(by first|(with_reducible rfl)|(simp;done)|(simp [*];done)|rfl|(simp only [not_isEmpty_bne])),H',⟨Nat.le_refl _⟩,⟨by first|exact Kd.R_nil _ _ _ _ _|exact Kd.N_nil _ _ _ _ _|exact Kd.V_nil _ _ _ _ _|exact Kd.Q_nil _ _ _ _ _|exact Kd.S_nil _ _ _ _ _⟩,⟨by repeat (first|(with_reducible first|exact HB.out|apply zl1|apply zl2|apply zl3)|exact HB.out)⟩⟩
  case round =>
   clear H'
   try clear c2
   try clear c2b0
   try clear c2b1
   try clear p2
   obtain ⟨x4_1,x12_1,rfl,HA,HK1,HO_4,HB⟩:=hrel
   cases gk with
   | zero=>exact absurd HA.out (by simp [code_Write.l0])
   | succ k1 =>
    have H:=HA.out
    clear HA
    simp only [code_Write.l0] at H
    by_cases c3:x12_1 < (l0.length:Int)
    ·rw [if_pos c3] at H
     have c3b0:decide (x12_1 < (l0.length:Int))=true:=decide_eq_true c3
     clear c3
     by_cases c4:0≤x12_1
     ·rw [if_pos c4] at H
      have c4b0:decide (0≤x12_1)=true:=decide_eq_true c4
      clear c4
      by_cases c5:x12_1 < (l0.length:Int)
      ·rw [if_pos c5] at H
       have c5b0:decide (x12_1 < (l0.length:Int))=true:=decide_eq_true c5
       clear c5
       replace H:=Option.bind_eq_some_iff.mp H
       obtain ⟨t163,A60,H⟩:=H
       replace H:(if t163=true then ((code_put.f k1 x4_1 ((rd_T42 l0 x12_1).f0) ((rd_T42 l0 x12_1).f1) ((rd_T42 l0 x12_1).f2) ((rd_T42 l0 x12_1).f3) ((rd_T42 l0 x12_1).f4.f0) ((rd_T42 l0 x12_1).f4.f1) ((rd_T42 l0 x12_1).f4.f2)).bind fun t164=>(code_Write.l0 k1 t164 l0 (l0.length:Int) (wrap64 (x12_1 + 1)))) else (some ((⟨#[]⟩:ByteArray),4)))=some (r1,r2):=H
       have A6:=Aside0.mk A60
       clear A60
       by_cases c7:t163=true
       ·subst c7
        have H1:((code_put.f k1 x4_1 ((rd_T42 l0 x12_1).f0) ((rd_T42 l0 x12_1).f1) ((rd_T42 l0 x12_1).f2) ((rd_T42 l0 x12_1).f3) ((rd_T42 l0 x12_1).f4.f0) ((rd_T42 l0 x12_1).f4.f1) ((rd_T42 l0 x12_1).f4.f2)).bind fun t164=>(code_Write.l0 k1 t164 l0 (l0.length:Int) (wrap64 (x12_1 + 1))))=some (r1,r2):=by rw [if_pos rfl] at H;exact H
        clear H
        have H:=H1
        clear H1
        replace H:=Option.bind_eq_some_iff.mp H
        obtain ⟨t164,A80,H⟩:=H
        replace H:(code_Write.l0 k1 t164 l0 (l0.length:Int) (wrap64 (x12_1 + 1)))=some (r1,r2):=H
        have A8:=Aside0.mk A80
        clear A80
        have H':=Aside0.mk H
        clear H
        have p161:0≤(x12_1:Int):=of_decide_eq_true (by first|(with_reducible assumption)|assumption)
        have q161:x12_1 < (l0.length:Int):=of_decide_eq_true (by first|(with_reducible assumption)|assumption)
        obtain ⟨ad161,e161,hx161_0,hx161_1,hx161_2,hx161_3,hx161_4,hx161_5,hx161_6⟩:=at_T42 HR0.out x12_1 p161 q161
        cases e161
        replace hx161_0:=(HB.out.cell (World.block_lt_of_cell? w _ hx161_0)).trans hx161_0
        replace hx161_1:=(HB.out.cell (World.block_lt_of_cell? w _ hx161_1)).trans hx161_1
        replace hx161_2:=(HB.out.cell (World.block_lt_of_cell? w _ hx161_2)).trans hx161_2
        replace hx161_3:=(HB.out.cell (World.block_lt_of_cell? w _ hx161_3)).trans hx161_3
        replace hx161_4:=(HB.out.cell (World.block_lt_of_cell? w _ hx161_4)).trans hx161_4
        replace hx161_5:=(HB.out.cell (World.block_lt_of_cell? w _ hx161_5)).trans hx161_5
        replace hx161_6:=(HB.out.cell (World.block_lt_of_cell? w _ hx161_6)).trans hx161_6
        replace p161:=eq_true p161
        replace q161:=eq_true q161
        go_wp2_with (first|((with_reducible refine gate_dst (N:=6) rfl ?_);refine box_event ?hg (N:=6) ?hd (cs:=#[.int .i64 0,.int .i64 0,.int .i64 0,.int .i64 0,.int .i64 0,.int .i64 0,.string (⟨#[]⟩:ByteArray)]) (t:=42) ?hr ?_;(case hd=>rfl);(case hg=>rfl);(case hr=>first|(go_simp;done)|(go_simp;rfl));intro gb162 hg w9 hbox hb;replace HO_4:=Aside0.mk (Kd.R_below (by (with_reducible repeat (first|apply zk1|apply zk2|apply zk3));exact HO_4.out) hb);have BK162:=Aside0.mk (hbox);have GW162:=Aside0.mk ((by rw [hg];exact (below_size (by repeat (first|(with_reducible first|exact HB.out|apply zl1|apply zl2|apply zl3)|exact HB.out))):w.heap.size≤gb162));have GE162:=Aside0.mk ((by rw [hg];exact (below_size (by repeat (first|(with_reducible first|exact HB.out|apply zl1|apply zl2|apply zl3)|exact HB.out))):w.heap.size≤gb162));replace HB:=Aside0.mk (below_step (by repeat (first|(with_reducible first|exact HB.out|apply zl1|apply zl2|apply zl3)|exact HB.out)) hb);clear hb hbox hg;obtain ⟨hcz10_0,hcz10_1,hcz10_2,hcz10_3,hcz10_4,hcz10_5,hcz10_6⟩:=zc7 BK162.out;obtain ⟨hfz10_0,hfz10_1,hfz10_2,hfz10_3,hfz10_4,hfz10_5,hfz10_6⟩:=zf7 BK162.out)|((with_reducible refine gate_callee (f:=17) rfl ?_);refine goesL_ (some 17) rfl rfl Tryd.func17 (by kernel_rfl) rfl #[.agg #[.int .i64 ((rd_T42 l0 x12_1).f0),.int .i64 ((rd_T42 l0 x12_1).f1),.int .i64 ((rd_T42 l0 x12_1).f2),.int .i64 ((rd_T42 l0 x12_1).f3),.int .i64 ((rd_T42 l0 x12_1).f4.f0),.int .i64 ((rd_T42 l0 x12_1).f4.f1),.string ((rd_T42 l0 x12_1).f4.f2)]] rfl (by (try simp only [List.map_toArray,List.map_cons,List.map_nil]);first|done|rfl|(simp only [List.length_drop,List.length_take];rfl)|(simp (disch:=omega) only [u64_in];rfl)) ?_;(with_reducible refine (code_right.calls k1 ((rd_T42 l0 x12_1).f0) ((rd_T42 l0 x12_1).f1) ((rd_T42 l0 x12_1).f2) ((rd_T42 l0 x12_1).f3) ((rd_T42 l0 x12_1).f4.f0) ((rd_T42 l0 x12_1).f4.f1) ((rd_T42 l0 x12_1).f4.f2) true _ A6.out).mono ?_);rintro e w11 ⟨rfl,hb⟩;refine ⟨_,rfl,?_⟩;replace HO_4:=Aside0.mk (Kd.R_below (by (with_reducible repeat (first|apply zk1|apply zk2|apply zk3));exact (Kd.R_mono (Kd.R_far (p:=⟨gb162,6,none⟩) (Kd.R_far (p:=⟨gb162,5,none⟩) (Kd.R_far (p:=⟨gb162,4,none⟩) (Kd.R_far (p:=⟨gb162,3,none⟩) (Kd.R_far (p:=⟨gb162,2,none⟩) (Kd.R_far (p:=⟨gb162,1,none⟩) (Kd.R_far (p:=⟨gb162,0,none⟩) (Kd.R_types HO_4.out BK162.out (by decide)) (fun _ hk=>hk.2) (.int .i64 ((rd_T42 l0 x12_1).f0))) (fun _ hk=>hk.2) (.int .i64 ((rd_T42 l0 x12_1).f1))) (fun _ hk=>hk.2) (.int .i64 ((rd_T42 l0 x12_1).f2))) (fun _ hk=>hk.2) (.int .i64 ((rd_T42 l0 x12_1).f3))) (fun _ hk=>hk.2) (.int .i64 ((rd_T42 l0 x12_1).f4.f0))) (fun _ hk=>hk.2) (.int .i64 ((rd_T42 l0 x12_1).f4.f1))) (fun _ hk=>hk.2) (.string ((rd_T42 l0 x12_1).f4.f2))) (fun _ h_=>h_.1))) hb);replace BK162:=Aside0.mk (blk_below (g:=gb162) (o:=.cells #[.int .i64 ((rd_T42 l0 x12_1).f0),.int .i64 ((rd_T42 l0 x12_1).f1),.int .i64 ((rd_T42 l0 x12_1).f2),.int .i64 ((rd_T42 l0 x12_1).f3),.int .i64 ((rd_T42 l0 x12_1).f4.f0),.int .i64 ((rd_T42 l0 x12_1).f4.f1),.string ((rd_T42 l0 x12_1).f4.f2)] 42 (0,0)) (by apply zpe;(repeat (first|(with_reducible first|apply zb1|apply zb2|apply zb3|apply zpi|exact BK162.out)));rfl) hb);replace HB:=Aside0.mk (below_step (by repeat (first|(with_reducible first|exact HB.out|apply zl1|apply zl2|apply zl3|refine below_set ?_ GE162.out)|exact HB.out)) hb);(try clear hb);obtain ⟨hcz12_0,hcz12_1,hcz12_2,hcz12_3,hcz12_4,hcz12_5,hcz12_6⟩:=zc7 BK162.out;obtain ⟨hfz12_0,hfz12_1,hfz12_2,hfz12_3,hfz12_4,hfz12_5,hfz12_6⟩:=zf7 BK162.out;obtain ⟨Ao13,co13,eo13⟩:=Kd.R_slice HO_4.out;subst eo13)|((with_reducible refine gate_callee (f:=18) rfl ?_);refine goesL_ (some 21) rfl rfl Tryd.func18 (by kernel_rfl) rfl #[.slice Ao13 x4_1.length co13,.agg #[.int .i64 ((rd_T42 l0 x12_1).f0),.int .i64 ((rd_T42 l0 x12_1).f1),.int .i64 ((rd_T42 l0 x12_1).f2),.int .i64 ((rd_T42 l0 x12_1).f3),.int .i64 ((rd_T42 l0 x12_1).f4.f0),.int .i64 ((rd_T42 l0 x12_1).f4.f1),.string ((rd_T42 l0 x12_1).f4.f2)]] rfl (by (try simp only [List.map_toArray,List.map_cons,List.map_nil]);first|done|rfl|(simp only [List.length_drop,List.length_take];rfl)|(simp (disch:=omega) only [u64_in];rfl)) ?_;(with_reducible refine (code_put.calls k1 (fun k_=>some k_=(.slice Ao13 x4_1.length co13:Value).ownBlock) (.slice Ao13 x4_1.length co13) x4_1 ((rd_T42 l0 x12_1).f0) ((rd_T42 l0 x12_1).f1) ((rd_T42 l0 x12_1).f2) ((rd_T42 l0 x12_1).f3) ((rd_T42 l0 x12_1).f4.f0) ((rd_T42 l0 x12_1).f4.f1) ((rd_T42 l0 x12_1).f4.f2) t164 w _ ?side1 ?side2 A8.out).mono ?_);(case side1=>repeat (first|(with_reducible first|exact HB.out|apply zl1|apply zl2|apply zl3|refine below_set ?_ GE162.out)|exact HB.out));(case side2=>exact Kd.R_tight rfl HO_4.out);rintro e w14 ⟨v165,rfl,ho0,hb,hkp⟩;refine ⟨_,rfl,?_⟩;have n0_:=Aside0.mk (blk_kept (by (with_reducible repeat (first|apply zb1|apply zb2|apply zb3));exact BK162.out) hkp (fun hs_=>(fun e_=>(Kd.R_ne HO_4.out BK162.out (by decide)) e_) hs_));have n1_:=Aside0.mk (Kd.R_mono (ok':=fun k_=>True) ho0 (fun k_ hk_=>trivial));have n2_:=Aside0.mk (hb);clear BK162;clear HB;clear HO_4;have BK162:=n0_;have HO166:=n1_;have HB:=n2_;clear n0_ n1_ n2_;(try clear hb);(try clear hkp);(try clear ho0)))
        go_roundg k1
        case measure=>have:=HK1.out;omega
        case rel=>exact ⟨(t164),(wrap64 (x12_1 + 1)),(by first|(with_reducible rfl)|(simp;done)|(simp [*];done)|rfl|(simp only [not_isEmpty_bne])),H',⟨by have:=HK1.out;omega⟩,⟨by (with_reducible repeat (first|apply zk1|apply zk2|apply zk3));exact HO166.out⟩,⟨by repeat (first|(with_reducible first|exact HB.out|apply zl1|apply zl2|apply zl3|refine below_set ?_ GE162.out)|exact HB.out)⟩⟩
       ·replace c7:=Bool.eq_false_iff.mpr c7
        subst c7
        have H1:(some ((⟨#[]⟩:ByteArray),4))=some (r1,r2):=by rw [if_neg (show ¬ (false=true) by decide)] at H;exact H
        clear H
        have H:=H1
        clear H1
        simp only [Option.some.injEq,Prod.mk.injEq] at H
        obtain ⟨rfl,rfl⟩:=H
        have p161:0≤(x12_1:Int):=of_decide_eq_true (by first|(with_reducible assumption)|assumption)
        have q161:x12_1 < (l0.length:Int):=of_decide_eq_true (by first|(with_reducible assumption)|assumption)
        obtain ⟨ad161,e161,hx161_0,hx161_1,hx161_2,hx161_3,hx161_4,hx161_5,hx161_6⟩:=at_T42 HR0.out x12_1 p161 q161
        cases e161
        replace hx161_0:=(HB.out.cell (World.block_lt_of_cell? w _ hx161_0)).trans hx161_0
        replace hx161_1:=(HB.out.cell (World.block_lt_of_cell? w _ hx161_1)).trans hx161_1
        replace hx161_2:=(HB.out.cell (World.block_lt_of_cell? w _ hx161_2)).trans hx161_2
        replace hx161_3:=(HB.out.cell (World.block_lt_of_cell? w _ hx161_3)).trans hx161_3
        replace hx161_4:=(HB.out.cell (World.block_lt_of_cell? w _ hx161_4)).trans hx161_4
        replace hx161_5:=(HB.out.cell (World.block_lt_of_cell? w _ hx161_5)).trans hx161_5
        replace hx161_6:=(HB.out.cell (World.block_lt_of_cell? w _ hx161_6)).trans hx161_6
        replace p161:=eq_true p161
        replace q161:=eq_true q161
        go_wp2_with (first|((with_reducible refine gate_dst (N:=6) rfl ?_);refine box_event ?hg (N:=6) ?hd (cs:=#[.int .i64 0,.int .i64 0,.int .i64 0,.int .i64 0,.int .i64 0,.int .i64 0,.string (⟨#[]⟩:ByteArray)]) (t:=42) ?hr ?_;(case hd=>rfl);(case hg=>rfl);(case hr=>first|(go_simp;done)|(go_simp;rfl));intro gb162 hg w15 hbox hb;replace HO_4:=Aside0.mk (Kd.R_below (by (with_reducible repeat (first|apply zk1|apply zk2|apply zk3));exact HO_4.out) hb);have BK162:=Aside0.mk (hbox);have GW162:=Aside0.mk ((by rw [hg];exact (below_size (by repeat (first|(with_reducible first|exact HB.out|apply zl1|apply zl2|apply zl3)|exact HB.out))):w.heap.size≤gb162));have GE162:=Aside0.mk ((by rw [hg];exact (below_size (by repeat (first|(with_reducible first|exact HB.out|apply zl1|apply zl2|apply zl3)|exact HB.out))):w.heap.size≤gb162));replace HB:=Aside0.mk (below_step (by repeat (first|(with_reducible first|exact HB.out|apply zl1|apply zl2|apply zl3)|exact HB.out)) hb);clear hb hbox hg;obtain ⟨hcz16_0,hcz16_1,hcz16_2,hcz16_3,hcz16_4,hcz16_5,hcz16_6⟩:=zc7 BK162.out;obtain ⟨hfz16_0,hfz16_1,hfz16_2,hfz16_3,hfz16_4,hfz16_5,hfz16_6⟩:=zf7 BK162.out)|((with_reducible refine gate_callee (f:=17) rfl ?_);refine goesL_ (some 17) rfl rfl Tryd.func17 (by kernel_rfl) rfl #[.agg #[.int .i64 ((rd_T42 l0 x12_1).f0),.int .i64 ((rd_T42 l0 x12_1).f1),.int .i64 ((rd_T42 l0 x12_1).f2),.int .i64 ((rd_T42 l0 x12_1).f3),.int .i64 ((rd_T42 l0 x12_1).f4.f0),.int .i64 ((rd_T42 l0 x12_1).f4.f1),.string ((rd_T42 l0 x12_1).f4.f2)]] rfl (by (try simp only [List.map_toArray,List.map_cons,List.map_nil]);first|done|rfl|(simp only [List.length_drop,List.length_take];rfl)|(simp (disch:=omega) only [u64_in];rfl)) ?_;(with_reducible refine (code_right.calls k1 ((rd_T42 l0 x12_1).f0) ((rd_T42 l0 x12_1).f1) ((rd_T42 l0 x12_1).f2) ((rd_T42 l0 x12_1).f3) ((rd_T42 l0 x12_1).f4.f0) ((rd_T42 l0 x12_1).f4.f1) ((rd_T42 l0 x12_1).f4.f2) false _ A6.out).mono ?_);rintro e w17 ⟨rfl,hb⟩;refine ⟨_,rfl,?_⟩;replace HO_4:=Aside0.mk (Kd.R_below (by (with_reducible repeat (first|apply zk1|apply zk2|apply zk3));exact (Kd.R_mono (Kd.R_far (p:=⟨gb162,6,none⟩) (Kd.R_far (p:=⟨gb162,5,none⟩) (Kd.R_far (p:=⟨gb162,4,none⟩) (Kd.R_far (p:=⟨gb162,3,none⟩) (Kd.R_far (p:=⟨gb162,2,none⟩) (Kd.R_far (p:=⟨gb162,1,none⟩) (Kd.R_far (p:=⟨gb162,0,none⟩) (Kd.R_types HO_4.out BK162.out (by decide)) (fun _ hk=>hk.2) (.int .i64 ((rd_T42 l0 x12_1).f0))) (fun _ hk=>hk.2) (.int .i64 ((rd_T42 l0 x12_1).f1))) (fun _ hk=>hk.2) (.int .i64 ((rd_T42 l0 x12_1).f2))) (fun _ hk=>hk.2) (.int .i64 ((rd_T42 l0 x12_1).f3))) (fun _ hk=>hk.2) (.int .i64 ((rd_T42 l0 x12_1).f4.f0))) (fun _ hk=>hk.2) (.int .i64 ((rd_T42 l0 x12_1).f4.f1))) (fun _ hk=>hk.2) (.string ((rd_T42 l0 x12_1).f4.f2))) (fun _ h_=>h_.1))) hb);replace BK162:=Aside0.mk (blk_below (g:=gb162) (o:=.cells #[.int .i64 ((rd_T42 l0 x12_1).f0),.int .i64 ((rd_T42 l0 x12_1).f1),.int .i64 ((rd_T42 l0 x12_1).f2),.int .i64 ((rd_T42 l0 x12_1).f3),.int .i64 ((rd_T42 l0 x12_1).f4.f0),.int .i64 ((rd_T42 l0 x12_1).f4.f1),.string ((rd_T42 l0 x12_1).f4.f2)] 42 (0,0)) (by apply zpe;(repeat (first|(with_reducible first|apply zb1|apply zb2|apply zb3|apply zpi|exact BK162.out)));rfl) hb);replace HB:=Aside0.mk (below_step (by repeat (first|(with_reducible first|exact HB.out|apply zl1|apply zl2|apply zl3|refine below_set ?_ GE162.out)|exact HB.out)) hb);(try clear hb)))
        go_ret2
        exact ⟨by first|(with_reducible rfl)|(simp only [isEmpty_bne,Bool.not_not] <;> rfl)|rfl|(simp [*,errW_none,errW_some] <;> rfl),by repeat (first|(with_reducible first|exact HB.out|apply zl1|apply zl2|apply zl3|refine below_set ?_ GE162.out)|exact HB.out)⟩
      ·rw [if_neg c5] at H
       exact absurd H (by simp)
     ·rw [if_neg c4] at H
      exact absurd H (by simp)
    ·rw [if_neg c3] at H
     have c3b0:decide (x12_1 < (l0.length:Int))=false:=decide_eq_false c3
     clear c3
     simp only [Option.some.injEq,Prod.mk.injEq] at H
     obtain ⟨rfl,rfl⟩:=H
     have hcv18:=own_string (P:=Tryd.prog) Tryd.underlying43 Tryd.underlying5 Tryd.underlying9 (Kd.own_of_R HO_4.out)
     go_wp2
     go_ret2
     exact ⟨by first|(with_reducible rfl)|(simp only [isEmpty_bne,Bool.not_not] <;> rfl)|rfl|(simp [*,errW_none,errW_some] <;> rfl),by repeat (first|(with_reducible first|exact HB.out|apply zl1|apply zl2|apply zl3)|exact HB.out)⟩

end Go.Proofs.YtljfichnlgfikaaDoor.PAll
