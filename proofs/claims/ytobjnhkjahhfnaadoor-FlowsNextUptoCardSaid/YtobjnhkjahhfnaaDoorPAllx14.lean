/- Printed walks of the functions that the laws reach: each function, what it computes, and that it does. No conditions. -/
import Derived.Test.YtobjnhkjahhfnaaDoorPAllx0
import Derived.Test.YtobjnhkjahhfnaaDoorPAllx13
namespace Go.Proofs.YtobjnhkjahhfnaaDoor.PAll
open Go.RowKit Go.Proofs.YtobjnhkjahhfnaaDoor.XW Go.Proofs.YtobjnhkjahhfnaaDoor.XLib Go.Proofs.YtobjnhkjahhfnaaDoorW.PrintWords Go.Proofs.YtobjnhkjahhfnaaDoorW.PrintLast Go.Proofs.YtobjnhkjahhfnaaDoorW.PrintMore
attribute [local go_sem] max2_int min2_int max_two min_two max_three min_three max_four min_four   -- for this text's walks alone
set_option linter.unusedVariables false
set_option linter.unusedSimpArgs false

/-! ### factotumref21_frame: function 38 -/
mutual
def factotumref21_frame.j0:Nat→Bool→Int→List (S24)→Option (Bool)
 | 0,_,_,_=>none
 | k + 1,x17,x270000,x270001=>if x17=true then (some false) else (factotumref21_frame.l0 k 0 x270000 x270001)
def factotumref21_frame.l0:Nat→Int→Int→List (S24)→Option (Bool)
 | 0,_,_,_=>none
 | k + 1,x3,x270000,x270001=>if x3 < (x270001.length:Int) then (if 0≤x3 then ((factotumref16_Is.f ((rd_T24 x270001 x3).f0) ((rd_T24 x270001 x3).f1) ((rd_T24 x270001 x3).f2)).bind fun t271=>(if t271=true then (factotumref21_frame.l0 k (wrap64 (x3 + 1)) x270000 x270001) else (some false))) else (none)) else (some true)
end
def factotumref21_frame.f (k:Nat) (a0_0:Int) (l0_1:List (S24)):Option (Bool):=if a0_0 < 0 then (factotumref21_frame.j0 k true a0_0 l0_1) else (if a0_0 > 255 then (factotumref21_frame.j0 k true a0_0 l0_1) else (factotumref21_frame.j0 k ((l0_1.length:Int) != 6) a0_0 l0_1))
theorem factotumref21_frame.mono_l:∀ k,(∀ y0 y1 y2,LeO (factotumref21_frame.j0 k y0 y1 y2) (factotumref21_frame.j0 (k + 1) y0 y1 y2))∧(∀ y0 y1 y2,LeO (factotumref21_frame.l0 k y0 y1 y2) (factotumref21_frame.l0 (k + 1) y0 y1 y2))
 | 0=>⟨fun _ _ _ r h=>by simp [factotumref21_frame.j0] at h,fun _ _ _ r h=>by simp [factotumref21_frame.l0] at h⟩
 | k + 1=>by
  obtain ⟨ih0,ih1⟩:=factotumref21_frame.mono_l k
  refine ⟨?_,?_⟩
  ·intro y0 y1 y2
   unfold factotumref21_frame.j0
   repeat' first
   | (with_reducible exact ih0 _ _ _)
   | (with_reducible exact ih1 _ _ _)
   | (with_reducible exact LeO.refl _)
   | (with_reducible exact LeO.none _)
   | (with_reducible refine LeO.ite ?_ ?_)
   | (with_reducible refine LeO.bind ?_ (fun _=>?_))
   | exact ih0 _ _ _
   | exact ih1 _ _ _
   | exact LeO.none _
   | refine LeO.ite ?_ ?_
   | refine LeO.bind ?_ (fun _=>?_)
  ·intro y0 y1 y2
   unfold factotumref21_frame.l0
   repeat' first
   | (with_reducible exact ih0 _ _ _)
   | (with_reducible exact ih1 _ _ _)
   | (with_reducible exact LeO.refl _)
   | (with_reducible exact LeO.none _)
   | (with_reducible refine LeO.ite ?_ ?_)
   | (with_reducible refine LeO.bind ?_ (fun _=>?_))
   | exact ih0 _ _ _
   | exact ih1 _ _ _
   | exact LeO.none _
   | refine LeO.ite ?_ ?_
   | refine LeO.bind ?_ (fun _=>?_)
theorem factotumref21_frame.mono:∀ a0 a1 k,LeO (factotumref21_frame.f k a0 a1) (factotumref21_frame.f (k + 1) a0 a1):=by
 intro a0 a1 k
 obtain ⟨ih0,ih1⟩:=factotumref21_frame.mono_l k
 unfold factotumref21_frame.f
 repeat' first
   | (with_reducible exact ih0 _ _ _)
   | (with_reducible exact ih1 _ _ _)
   | (with_reducible exact LeO.refl _)
   | (with_reducible exact LeO.none _)
   | (with_reducible refine LeO.ite ?_ ?_)
   | (with_reducible refine LeO.bind ?_ (fun _=>?_))
   | exact ih0 _ _ _
   | exact ih1 _ _ _
   | exact LeO.none _
   | refine LeO.ite ?_ ?_
   | refine LeO.bind ?_ (fun _=>?_)
set_option maxHeartbeats 8000000 in
set_option maxRecDepth 100000 in
theorem factotumref21_frame.calls (k:Nat) (a0_0:Int) (A0_1:Option Addr) (c0_1:Nat) (l0_1:List (S24)) (r:Bool) (w:World) (hr0_1:Kd.C k24 w A0_1 l0_1.length l0_1) (hc0_1:l0_1.length≤c0_1) (h:factotumref21_frame.f k a0_0 l0_1=some r) :
  Calls Tryd.prog 38 #[.agg #[.int .i64 a0_0,.slice A0_1 l0_1.length c0_1]] w fun e w'=>e=.returned (.bool r)∧Below w.heap.size w w':=by
 have hu28:=Tryd.underlying28
 have hu24:=Tryd.underlying24
 have HR0_1:=Aside0.mk hr0_1
 have HC0_1:=Aside0.mk hc0_1
 clear hr0_1 hc0_1
 have HB:=Aside0.mk (Below.refl w.heap.size w)
 have H:(if a0_0 < 0 then (factotumref21_frame.j0 k true a0_0 l0_1) else (if a0_0 > 255 then (factotumref21_frame.j0 k true a0_0 l0_1) else (factotumref21_frame.j0 k ((l0_1.length:Int) != 6) a0_0 l0_1)))=some r:=h
 clear h
 have HC2:=Aside0.mk H
 clear H
 go_enter Tryd.func38,Tryd.ntmps38
 go_upto_region 1 with (first|((with_reducible refine gate_dst (N:=1) rfl ?_);(try (refine gate_guard (by rfl) ?_;dsimp only));refine box_event ?hg (N:=1) ?hd (cs:=#[.int .i64 a0_0,.slice A0_1 l0_1.length c0_1]) (t:=28) ?hr ?_;(case hd=>rfl);(case hg=>rfl);(case hr=>first|(go_simp;done)|(go_simp;rfl));intro gb269 hg w3 hbox hb;have BK269:=Aside0.mk (hbox);have GW269:=Aside0.mk ((by rw [hg];exact (below_size (by repeat (first|(with_reducible first|exact HB.out|apply zl1|apply zl2|apply zl3)|exact HB.out))):w.heap.size≤gb269));have GE269:=Aside0.mk ((by rw [hg];exact (below_size (by repeat (first|(with_reducible first|exact HB.out|apply zl1|apply zl2|apply zl3)|exact HB.out))):w.heap.size≤gb269));replace HB:=Aside0.mk (below_step (by repeat (first|(with_reducible first|exact HB.out|apply zl1|apply zl2|apply zl3)|exact HB.out)) hb);clear hb hbox hg))
 (try simp only [Act.put,List.setIfInBounds_toArray,List.set_cons_zero,List.set_cons_succ])
 go_cut [17] (fun v17 wc=>∃ (kq:Nat) (x17_1:Bool),v17=.bool x17_1∧Aside0 (factotumref21_frame.j0 kq x17_1 a0_0 l0_1=some r)∧Aside0 (kq≤k)∧Aside0 (wc.heap[gb269]?=some (.cells #[.int .i64 a0_0,(.slice A0_1 l0_1.length c0_1)] 28 (0,0)))∧Aside0 (Below w.heap.size w wc))
 case first =>
  have H:=HC2.out
  clear HC2
  by_cases c4:a0_0 < 0
  ·rw [if_pos c4] at H
   have c4b0:decide (a0_0 < 0)=true:=decide_eq_true c4
   clear c4
   (first|rw [c4b0]|(simp only [i64_w,i32_w];rw [c4b0])|skip)
   have H':=Aside0.mk H
   clear H
   have hcz5_0:w3.cell? ⟨gb269,0,none⟩=some (.int .i64 a0_0):=(blk_cell BK269.out 0).trans rfl
   have hcz5_1:w3.cell? ⟨gb269,1,none⟩=some (.slice A0_1 l0_1.length c0_1):=(blk_cell BK269.out 1).trans rfl
   have hfz5_0:=blk_frozen BK269.out 0
   have hfz5_1:=blk_frozen BK269.out 1
   go_wp2
   go_meet
   case rel=>exact ⟨_,(true),(by first|(with_reducible rfl)|(simp;done)|(simp [*];done)|rfl|(simp only [not_isEmpty_bne])),H',⟨by first|omega|exact Nat.le_refl _⟩,⟨by (with_reducible repeat (first|apply zb1|apply zb2|apply zb3));exact BK269.out⟩,⟨by repeat (first|(with_reducible first|exact HB.out|apply zl1|apply zl2|apply zl3|refine below_set ?_ GE269.out)|exact HB.out)⟩⟩
  ·rw [if_neg c4] at H
   have c4b0:decide (a0_0 < 0)=false:=decide_eq_false c4
   clear c4
   (first|rw [c4b0]|(simp only [i64_w,i32_w];rw [c4b0])|skip)
   by_cases c6:a0_0 > 255
   ·rw [if_pos c6] at H
    have c6b0:decide (255 < a0_0)=true:=decide_eq_true c6
    clear c6
    have H':=Aside0.mk H
    clear H
    have hcz7_0:w3.cell? ⟨gb269,0,none⟩=some (.int .i64 a0_0):=(blk_cell BK269.out 0).trans rfl
    have hcz7_1:w3.cell? ⟨gb269,1,none⟩=some (.slice A0_1 l0_1.length c0_1):=(blk_cell BK269.out 1).trans rfl
    have hfz7_0:=blk_frozen BK269.out 0
    have hfz7_1:=blk_frozen BK269.out 1
    go_wp2
    go_meet
    case rel=>exact ⟨_,(true),(by first|(with_reducible rfl)|(simp;done)|(simp [*];done)|rfl|(simp only [not_isEmpty_bne])),H',⟨by first|omega|exact Nat.le_refl _⟩,⟨by (with_reducible repeat (first|apply zb1|apply zb2|apply zb3));exact BK269.out⟩,⟨by repeat (first|(with_reducible first|exact HB.out|apply zl1|apply zl2|apply zl3|refine below_set ?_ GE269.out)|exact HB.out)⟩⟩
   ·rw [if_neg c6] at H
    have c6b0:decide (255 < a0_0)=false:=decide_eq_false c6
    clear c6
    have H':=Aside0.mk H
    clear H
    have hcz8_0:w3.cell? ⟨gb269,0,none⟩=some (.int .i64 a0_0):=(blk_cell BK269.out 0).trans rfl
    have hcz8_1:w3.cell? ⟨gb269,1,none⟩=some (.slice A0_1 l0_1.length c0_1):=(blk_cell BK269.out 1).trans rfl
    have hfz8_0:=blk_frozen BK269.out 0
    have hfz8_1:=blk_frozen BK269.out 1
    go_wp2
    go_meet
    case rel=>exact ⟨_,(((l0_1.length:Int) != 6)),(by first|(with_reducible rfl)|(simp;done)|(simp [*];done)|rfl|(simp only [not_isEmpty_bne])),H',⟨by first|omega|exact Nat.le_refl _⟩,⟨by (with_reducible repeat (first|apply zb1|apply zb2|apply zb3));exact BK269.out⟩,⟨by repeat (first|(with_reducible first|exact HB.out|apply zl1|apply zl2|apply zl3|refine below_set ?_ GE269.out)|exact HB.out)⟩⟩
 case rest =>
  clear HC2
  try clear hfz5_0 hfz5_1 hfz7_0 hfz7_1 hfz8_0 hfz8_1
  try clear hcz5_0 hcz5_1 hcz7_0 hcz7_1 hcz8_0 hcz8_1
  try clear p2
  try clear c3
  try clear c4
  try clear c4b0
  try clear c6
  try clear c6b0
  obtain ⟨kq,x17_1,rfl,HA,HJ1,BK269,HB⟩:=hcut
  cases kq with
  | zero=>exact absurd HA.out (by simp [factotumref21_frame.j0])
  | succ kj1 =>
   have H:=HA.out
   clear HA
   simp only [factotumref21_frame.j0] at H
   by_cases c9:x17_1=true
   ·subst c9
    have H1:(some false)=some r:=by rw [if_pos rfl] at H;exact H
    clear H
    have H:=H1
    clear H1
    obtain rfl:=Option.some.inj H
    go_wp2
    go_ret
    exact ⟨by first|(with_reducible rfl)|(simp only [isEmpty_bne,Bool.not_not] <;> rfl)|rfl|(simp [*,errW_none,errW_some] <;> rfl),by repeat (first|(with_reducible first|exact HB.out|apply zl1|apply zl2|apply zl3|refine below_set ?_ GE269.out)|exact HB.out)⟩
   ·replace c9:=Bool.eq_false_iff.mpr c9
    subst c9
    have H1:(factotumref21_frame.l0 kj1 0 a0_0 l0_1)=some r:=by rw [if_neg (show ¬ (false=true) by decide)] at H;exact H
    clear H
    have H:=H1
    clear H1
    have H':=Aside0.mk H
    clear H
    go_wp2
    go_loopg [3] kj1 (fun kq v3 w'=>∃ (x3_2:Int),v3=.int .i64 x3_2∧Aside0 (factotumref21_frame.l0 kq x3_2 a0_0 l0_1=some r)∧Aside0 (kq≤kj1)∧Aside0 (w'.heap[gb269]?=some (.cells #[.int .i64 a0_0,(.slice A0_1 l0_1.length c0_1)] 28 (0,0)))∧Aside0 (Below w.heap.size w w'))
    case atStart=>exact ⟨(0),(by first|(with_reducible rfl)|(simp;done)|(simp [*];done)|rfl|(simp only [not_isEmpty_bne])),H',⟨Nat.le_refl _⟩,⟨by (with_reducible repeat (first|apply zb1|apply zb2|apply zb3));exact BK269.out⟩,⟨by repeat (first|(with_reducible first|exact HB.out|apply zl1|apply zl2|apply zl3|refine below_set ?_ GE269.out)|exact HB.out)⟩⟩
    case round =>
     clear H'
     try clear hfz5_0 hfz5_1 hfz7_0 hfz7_1 hfz8_0 hfz8_1
     try clear hcz5_0 hcz5_1 hcz7_0 hcz7_1 hcz8_0 hcz8_1
     try clear p2
     try clear c3
     try clear c4
     try clear c4b0
     try clear c6
     try clear c6b0
     try clear c9
     try clear p2
     obtain ⟨x3_2,rfl,HA,HK2,BK269,HB⟩:=hrel
     cases gk with
     | zero=>exact absurd HA.out (by simp [factotumref21_frame.l0])
     | succ k2 =>
      have H:=HA.out
      clear HA
      simp only [factotumref21_frame.l0] at H
      by_cases c10:x3_2 < (l0_1.length:Int)
      ·rw [if_pos c10] at H
       have c10b0:decide (x3_2 < (l0_1.length:Int))=true:=decide_eq_true c10
       clear c10
       by_cases c11:0≤x3_2
       ·rw [if_pos c11] at H
        have c11b0:decide (0≤x3_2)=true:=decide_eq_true c11
        clear c11
        replace H:=Option.bind_eq_some_iff.mp H
        obtain ⟨t271,A120,H⟩:=H
        replace H:(if t271=true then (factotumref21_frame.l0 k2 (wrap64 (x3_2 + 1)) a0_0 l0_1) else (some false))=some r:=H
        have A12:=Aside0.mk A120
        clear A120
        by_cases c13:t271=true
        ·subst c13
         have H1:(factotumref21_frame.l0 k2 (wrap64 (x3_2 + 1)) a0_0 l0_1)=some r:=by rw [if_pos rfl] at H;exact H
         clear H
         have H:=H1
         clear H1
         have H':=Aside0.mk H
         clear H
         have hcz14_0:wr.cell? ⟨gb269,0,none⟩=some (.int .i64 a0_0):=(blk_cell BK269.out 0).trans rfl
         have hcz14_1:wr.cell? ⟨gb269,1,none⟩=some (.slice A0_1 l0_1.length c0_1):=(blk_cell BK269.out 1).trans rfl
         have hfz14_0:=blk_frozen BK269.out 0
         have hfz14_1:=blk_frozen BK269.out 1
         have p270:0≤(x3_2:Int):=of_decide_eq_true (by first|(with_reducible assumption)|assumption)
         have q270:x3_2 < (l0_1.length:Int):=of_decide_eq_true (by first|(with_reducible assumption)|assumption)
         obtain ⟨ad270,e270,hx270_0,hx270_1,hx270_2⟩:=at_T24 HR0_1.out x3_2 p270 q270
         cases e270
         replace hx270_0:=(HB.out.cell (World.block_lt_of_cell? w _ hx270_0)).trans hx270_0
         replace hx270_1:=(HB.out.cell (World.block_lt_of_cell? w _ hx270_1)).trans hx270_1
         replace hx270_2:=(HB.out.cell (World.block_lt_of_cell? w _ hx270_2)).trans hx270_2
         replace p270:=eq_true p270
         replace q270:=eq_true q270
         go_wp2_with (first|((with_reducible refine gate_callee (f:=14) rfl ?_);refine goesL_ (some 30) rfl rfl Tryd.func14 (by kernel_rfl) rfl #[.agg #[.int .i64 ((rd_T24 l0_1 x3_2).f0),.int .i64 ((rd_T24 l0_1 x3_2).f1),.string ((rd_T24 l0_1 x3_2).f2)]] rfl (by (try simp only [List.map_toArray,List.map_cons,List.map_nil]);first|done|rfl|(simp only [List.length_drop,List.length_take];rfl)|(simp (disch:=omega) only [u64_in];rfl)) ?_;(with_reducible refine (factotumref16_Is.calls ((rd_T24 l0_1 x3_2).f0) ((rd_T24 l0_1 x3_2).f1) ((rd_T24 l0_1 x3_2).f2) true _ A12.out).mono ?_);rintro e w15 ⟨rfl,hb⟩;refine ⟨_,rfl,?_⟩;replace BK269:=Aside0.mk (blk_below (g:=gb269) (o:=.cells #[.int .i64 a0_0,.slice (some ad270) l0_1.length c0_1] 28 (0,0)) (by (with_reducible repeat (first|apply zb1|apply zb2|apply zb3));exact BK269.out) hb);replace HB:=Aside0.mk (below_step (by repeat (first|(with_reducible first|exact HB.out|apply zl1|apply zl2|apply zl3|refine below_set ?_ GE269.out)|exact HB.out)) hb);(try clear hb)))
         go_roundg k2
         case measure=>have:=HJ1.out;have:=HK2.out;omega
         case rel=>exact ⟨(wrap64 (x3_2 + 1)),(by first|(with_reducible rfl)|(simp;done)|(simp [*];done)|rfl|(simp only [not_isEmpty_bne])),H',⟨by have:=HJ1.out;have:=HK2.out;omega⟩,⟨by (with_reducible repeat (first|apply zb1|apply zb2|apply zb3));exact BK269.out⟩,⟨by repeat (first|(with_reducible first|exact HB.out|apply zl1|apply zl2|apply zl3|refine below_set ?_ GE269.out)|exact HB.out)⟩⟩
        ·replace c13:=Bool.eq_false_iff.mpr c13
         subst c13
         have H1:(some false)=some r:=by rw [if_neg (show ¬ (false=true) by decide)] at H;exact H
         clear H
         have H:=H1
         clear H1
         obtain rfl:=Option.some.inj H
         have hcz16_0:wr.cell? ⟨gb269,0,none⟩=some (.int .i64 a0_0):=(blk_cell BK269.out 0).trans rfl
         have hcz16_1:wr.cell? ⟨gb269,1,none⟩=some (.slice A0_1 l0_1.length c0_1):=(blk_cell BK269.out 1).trans rfl
         have hfz16_0:=blk_frozen BK269.out 0
         have hfz16_1:=blk_frozen BK269.out 1
         have p270:0≤(x3_2:Int):=of_decide_eq_true (by first|(with_reducible assumption)|assumption)
         have q270:x3_2 < (l0_1.length:Int):=of_decide_eq_true (by first|(with_reducible assumption)|assumption)
         obtain ⟨ad270,e270,hx270_0,hx270_1,hx270_2⟩:=at_T24 HR0_1.out x3_2 p270 q270
         cases e270
         replace hx270_0:=(HB.out.cell (World.block_lt_of_cell? w _ hx270_0)).trans hx270_0
         replace hx270_1:=(HB.out.cell (World.block_lt_of_cell? w _ hx270_1)).trans hx270_1
         replace hx270_2:=(HB.out.cell (World.block_lt_of_cell? w _ hx270_2)).trans hx270_2
         replace p270:=eq_true p270
         replace q270:=eq_true q270
         go_wp2_with (first|((with_reducible refine gate_callee (f:=14) rfl ?_);refine goesL_ (some 30) rfl rfl Tryd.func14 (by kernel_rfl) rfl #[.agg #[.int .i64 ((rd_T24 l0_1 x3_2).f0),.int .i64 ((rd_T24 l0_1 x3_2).f1),.string ((rd_T24 l0_1 x3_2).f2)]] rfl (by (try simp only [List.map_toArray,List.map_cons,List.map_nil]);first|done|rfl|(simp only [List.length_drop,List.length_take];rfl)|(simp (disch:=omega) only [u64_in];rfl)) ?_;(with_reducible refine (factotumref16_Is.calls ((rd_T24 l0_1 x3_2).f0) ((rd_T24 l0_1 x3_2).f1) ((rd_T24 l0_1 x3_2).f2) false _ A12.out).mono ?_);rintro e w17 ⟨rfl,hb⟩;refine ⟨_,rfl,?_⟩;replace BK269:=Aside0.mk (blk_below (g:=gb269) (o:=.cells #[.int .i64 a0_0,.slice (some ad270) l0_1.length c0_1] 28 (0,0)) (by (with_reducible repeat (first|apply zb1|apply zb2|apply zb3));exact BK269.out) hb);replace HB:=Aside0.mk (below_step (by repeat (first|(with_reducible first|exact HB.out|apply zl1|apply zl2|apply zl3|refine below_set ?_ GE269.out)|exact HB.out)) hb);(try clear hb)))
         go_ret
         exact ⟨by first|(with_reducible rfl)|(simp only [isEmpty_bne,Bool.not_not] <;> rfl)|rfl|(simp [*,errW_none,errW_some] <;> rfl),by repeat (first|(with_reducible first|exact HB.out|apply zl1|apply zl2|apply zl3|refine below_set ?_ GE269.out)|exact HB.out)⟩
       ·rw [if_neg c11] at H
        exact absurd H (by simp)
      ·rw [if_neg c10] at H
       have c10b0:decide (x3_2 < (l0_1.length:Int))=false:=decide_eq_false c10
       clear c10
       obtain rfl:=Option.some.inj H
       have hcz18_0:wr.cell? ⟨gb269,0,none⟩=some (.int .i64 a0_0):=(blk_cell BK269.out 0).trans rfl
       have hcz18_1:wr.cell? ⟨gb269,1,none⟩=some (.slice A0_1 l0_1.length c0_1):=(blk_cell BK269.out 1).trans rfl
       have hfz18_0:=blk_frozen BK269.out 0
       have hfz18_1:=blk_frozen BK269.out 1
       go_wp2
       go_ret
       exact ⟨by first|(with_reducible rfl)|(simp only [isEmpty_bne,Bool.not_not] <;> rfl)|rfl|(simp [*,errW_none,errW_some] <;> rfl),by repeat (first|(with_reducible first|exact HB.out|apply zl1|apply zl2|apply zl3|refine below_set ?_ GE269.out)|exact HB.out)⟩

end Go.Proofs.YtobjnhkjahhfnaaDoor.PAll
