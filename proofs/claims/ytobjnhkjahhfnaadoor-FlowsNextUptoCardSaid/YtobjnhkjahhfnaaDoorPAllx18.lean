/- Printed walks of the functions that the laws reach: each function, what it computes, and that it does. No conditions. -/
import Derived.Test.YtobjnhkjahhfnaaDoorPAllx0
import Derived.Test.YtobjnhkjahhfnaaDoorPAllx1
namespace Go.Proofs.YtobjnhkjahhfnaaDoor.PAll
open Go.RowKit Go.Proofs.YtobjnhkjahhfnaaDoor.XW Go.Proofs.YtobjnhkjahhfnaaDoor.XLib Go.Proofs.YtobjnhkjahhfnaaDoorW.PrintWords Go.Proofs.YtobjnhkjahhfnaaDoorW.PrintLast Go.Proofs.YtobjnhkjahhfnaaDoorW.PrintMore
attribute [local go_sem] max2_int min2_int max_two min_two max_three min_three max_four min_four   -- for this text's walks alone
set_option linter.unusedVariables false
set_option linter.unusedSimpArgs false

attribute [local go_sem high] eqA24
/-! ### factotumref02_Same: function 57 -/
def factotumref02_Same.l0:Nat→List (S24)→List (S24)→Int→Option (Bool)
 | 0,_,_,_=>none
 | k + 1,x0,x1,x5=>if x5 < (x0.length:Int) then (if 0≤x5 then (if x5 < (x1.length:Int) then (if (!(((rd_T24 x0 x5).f0) == ((rd_T24 x1 x5).f0)) || (!(((rd_T24 x0 x5).f1) == ((rd_T24 x1 x5).f1)) || (!((((rd_T24 x0 x5).f2).toList) == (((rd_T24 x1 x5).f2).toList)))))=true then (some false) else (factotumref02_Same.l0 k x0 x1 (wrap64 (x5 + 1)))) else (none)) else (none)) else (some true)
def factotumref02_Same.f (k:Nat) (l0:List (S24)) (l1:List (S24)):Option (Bool):=if (l0.length:Int)=(l1.length:Int) then (factotumref02_Same.l0 k l0 l1 0) else (some false)
theorem factotumref02_Same.mono_l:∀ k,(∀ y0 y1 y2,LeO (factotumref02_Same.l0 k y0 y1 y2) (factotumref02_Same.l0 (k + 1) y0 y1 y2))
 | 0=>fun _ _ _ r h=>by simp [factotumref02_Same.l0] at h
 | k + 1=>by
  have ih0:=factotumref02_Same.mono_l k
  ·intro y0 y1 y2
   unfold factotumref02_Same.l0
   repeat' first
   | (with_reducible exact ih0 _ _ _)
   | (with_reducible exact LeO.refl _)
   | (with_reducible exact LeO.none _)
   | (with_reducible refine LeO.ite ?_ ?_)
   | (with_reducible refine LeO.bind ?_ (fun _=>?_))
   | exact ih0 _ _ _
   | exact LeO.none _
   | refine LeO.ite ?_ ?_
   | refine LeO.bind ?_ (fun _=>?_)
theorem factotumref02_Same.mono:∀ a0 a1 k,LeO (factotumref02_Same.f k a0 a1) (factotumref02_Same.f (k + 1) a0 a1):=by
 intro a0 a1 k
 have ih0:=factotumref02_Same.mono_l k
 unfold factotumref02_Same.f
 repeat' first
   | (with_reducible exact ih0 _ _ _)
   | (with_reducible exact LeO.refl _)
   | (with_reducible exact LeO.none _)
   | (with_reducible refine LeO.ite ?_ ?_)
   | (with_reducible refine LeO.bind ?_ (fun _=>?_))
   | exact ih0 _ _ _
   | exact LeO.none _
   | refine LeO.ite ?_ ?_
   | refine LeO.bind ?_ (fun _=>?_)
set_option maxHeartbeats 8000000 in
set_option maxRecDepth 100000 in
theorem factotumref02_Same.calls (k:Nat) (A0:Option Addr) (c0:Nat) (l0:List (S24)) (A1:Option Addr) (c1:Nat) (l1:List (S24)) (r:Bool) (w:World) (hr0:Kd.C k24 w A0 l0.length l0) (hc0:l0.length≤c0) (hr1:Kd.C k24 w A1 l1.length l1) (hc1:l1.length≤c1) (h:factotumref02_Same.f k l0 l1=some r) :
  Calls Tryd.prog 57 #[.slice A0 l0.length c0,.slice A1 l1.length c1] w fun e w'=>e=.returned (.bool r)∧Drawn0 w w':=by
 have hu24:=Tryd.underlying24
 have HR0:=Aside0.mk hr0
 have HC0:=Aside0.mk hc0
 clear hr0 hc0
 have HR1:=Aside0.mk hr1
 have HC1:=Aside0.mk hc1
 clear hr1 hc1
 have H:(if (l0.length:Int)=(l1.length:Int) then (factotumref02_Same.l0 k l0 l1 0) else (some false))=some r:=h
 clear h
 by_cases c3:(l0.length:Int)=(l1.length:Int)
 ·rw [if_pos c3] at H
  have c3b0:((l0.length:Int) == (l1.length:Int))=true:=beq_iff_eq.mpr c3
  have c3b1:((l0.length:Int) != (l1.length:Int))=false:=bne_eq_false_iff_eq.mpr c3
  have c3b2:(l0.length == l1.length)=true:=by first|simpa using c3|(simp at c3 ⊢;omega)
  clear c3
  have H':=Aside0.mk H
  clear H
  go_enter Tryd.func57,Tryd.ntmps57
  go_wp2
  repeat (go_quiet (fail);try go_wp2)
  go_loopg [5] k (fun kq v5 w'=>∃ (x5_1:Int),v5=.int .i64 x5_1∧Aside0 (factotumref02_Same.l0 kq l0 l1 x5_1=some r)∧Aside0 (kq≤k)∧Drawn0 w w')
  case atStart=>exact ⟨(0),(by first|(with_reducible rfl)|(simp;done)|(simp [*];done)|rfl|(simp only [not_isEmpty_bne])),H',⟨Nat.le_refl _⟩,by repeat (first|exact Drawn0.refl _|apply Drawn0.step)⟩
  case round =>
   clear H'
   try clear c1
   try clear p2
   try clear c3
   try clear c3b0
   try clear c3b1
   try clear c3b2
   obtain ⟨x5_1,rfl,HA,HK1,⟨m1,rfl⟩⟩:=hrel
   cases gk with
   | zero=>exact absurd HA.out (by simp [factotumref02_Same.l0])
   | succ k1 =>
    have H:=HA.out
    clear HA
    simp only [factotumref02_Same.l0] at H
    by_cases c4:x5_1 < (l0.length:Int)
    ·rw [if_pos c4] at H
     have c4b0:decide (x5_1 < (l0.length:Int))=true:=decide_eq_true c4
     clear c4
     by_cases c5:0≤x5_1
     ·rw [if_pos c5] at H
      have c5b0:decide (0≤x5_1)=true:=decide_eq_true c5
      clear c5
      by_cases c6:x5_1 < (l1.length:Int)
      ·rw [if_pos c6] at H
       have c6b0:decide (x5_1 < (l1.length:Int))=true:=decide_eq_true c6
       clear c6
       by_cases c7:(!(((rd_T24 l0 x5_1).f0) == ((rd_T24 l1 x5_1).f0)) || (!(((rd_T24 l0 x5_1).f1) == ((rd_T24 l1 x5_1).f1)) || (!((((rd_T24 l0 x5_1).f2).toList) == (((rd_T24 l1 x5_1).f2).toList)))))=true
       ·rw [if_pos c7] at H
        have c7b0:(!(((rd_T24 l0 x5_1).f0) == ((rd_T24 l1 x5_1).f0)) || (!(((rd_T24 l0 x5_1).f1) == ((rd_T24 l1 x5_1).f1)) || (!((((rd_T24 l0 x5_1).f2).toList) == (((rd_T24 l1 x5_1).f2).toList)))))=true:=c7
        clear c7
        obtain rfl:=Option.some.inj H
        have p296:0≤(x5_1:Int):=of_decide_eq_true (by first|(with_reducible assumption)|assumption)
        have q296:x5_1 < (l0.length:Int):=of_decide_eq_true (by first|(with_reducible assumption)|assumption)
        obtain ⟨ad296,e296,hx296_0,hx296_1,hx296_2⟩:=at_T24 HR0.out x5_1 p296 q296
        cases e296
        replace p296:=eq_true p296
        replace q296:=eq_true q296
        have p297:0≤(x5_1:Int):=of_decide_eq_true (by first|(with_reducible assumption)|assumption)
        have q297:x5_1 < (l1.length:Int):=of_decide_eq_true (by first|(with_reducible assumption)|assumption)
        obtain ⟨ad297,e297,hx297_0,hx297_1,hx297_2⟩:=at_T24 HR1.out x5_1 p297 q297
        cases e297
        replace p297:=eq_true p297
        replace q297:=eq_true q297
        go_wp2
        repeat (go_quiet (fail);try go_wp2)
        go_ret
        exact ⟨by first|(with_reducible rfl)|(simp;done)|(simp [*];done)|rfl|(simp only [not_isEmpty_bne]),by repeat (first|exact Drawn0.refl _|apply Drawn0.step)⟩
       ·rw [if_neg c7] at H
        have c7b0:(!(((rd_T24 l0 x5_1).f0) == ((rd_T24 l1 x5_1).f0)) || (!(((rd_T24 l0 x5_1).f1) == ((rd_T24 l1 x5_1).f1)) || (!((((rd_T24 l0 x5_1).f2).toList) == (((rd_T24 l1 x5_1).f2).toList)))))=false:=by simpa using c7
        clear c7
        have H':=Aside0.mk H
        clear H
        have p296:0≤(x5_1:Int):=of_decide_eq_true (by first|(with_reducible assumption)|assumption)
        have q296:x5_1 < (l0.length:Int):=of_decide_eq_true (by first|(with_reducible assumption)|assumption)
        obtain ⟨ad296,e296,hx296_0,hx296_1,hx296_2⟩:=at_T24 HR0.out x5_1 p296 q296
        cases e296
        replace p296:=eq_true p296
        replace q296:=eq_true q296
        have p297:0≤(x5_1:Int):=of_decide_eq_true (by first|(with_reducible assumption)|assumption)
        have q297:x5_1 < (l1.length:Int):=of_decide_eq_true (by first|(with_reducible assumption)|assumption)
        obtain ⟨ad297,e297,hx297_0,hx297_1,hx297_2⟩:=at_T24 HR1.out x5_1 p297 q297
        cases e297
        replace p297:=eq_true p297
        replace q297:=eq_true q297
        go_wp2
        repeat (go_quiet (fail);try go_wp2)
        go_roundg k1
        case measure=>have:=HK1.out;omega
        case rel=>exact ⟨(wrap64 (x5_1 + 1)),(by first|(with_reducible rfl)|(simp;done)|(simp [*];done)|rfl|(simp only [not_isEmpty_bne])),H',⟨by have:=HK1.out;omega⟩,by repeat (first|exact Drawn0.refl _|apply Drawn0.step)⟩
      ·rw [if_neg c6] at H
       exact absurd H (by simp)
     ·rw [if_neg c5] at H
      exact absurd H (by simp)
    ·rw [if_neg c4] at H
     have c4b0:decide (x5_1 < (l0.length:Int))=false:=decide_eq_false c4
     clear c4
     obtain rfl:=Option.some.inj H
     go_wp2
     repeat (go_quiet (fail);try go_wp2)
     go_ret
     exact ⟨by first|(with_reducible rfl)|(simp;done)|(simp [*];done)|rfl|(simp only [not_isEmpty_bne]),by repeat (first|exact Drawn0.refl _|apply Drawn0.step)⟩
 ·rw [if_neg c3] at H
  have c3b0:((l0.length:Int) == (l1.length:Int))=false:=beq_eq_false_iff_ne.mpr c3
  have c3b1:((l0.length:Int) != (l1.length:Int))=true:=bne_iff_ne.mpr c3
  have c3b2:(l0.length == l1.length)=false:=by first|simpa using c3|(simp at c3 ⊢;omega)
  obtain rfl:=Option.some.inj H
  go_enter Tryd.func57,Tryd.ntmps57
  go_wp2
  repeat (go_quiet (fail);try go_wp2)
  go_ret
  exact ⟨by first|(with_reducible rfl)|(simp;done)|(simp [*];done)|rfl|(simp only [not_isEmpty_bne]),by repeat (first|exact Drawn0.refl _|apply Drawn0.step)⟩

/-! ### factotumref16_SameFrame: function 31 -/
def factotumref16_SameFrame.f (k:Nat) (a0_0:Int) (l0_1:List (S24)) (a1_0:Int) (l1_1:List (S24)):Option (Bool):=if a0_0=a1_0 then ((factotumref02_Same.f k l0_1 l1_1).bind fun t300=>(some t300)) else (some false)
theorem factotumref16_SameFrame.mono:∀ a0 a1 a2 a3 k,LeO (factotumref16_SameFrame.f k a0 a1 a2 a3) (factotumref16_SameFrame.f (k + 1) a0 a1 a2 a3):=by
 intro a0 a1 a2 a3 k
 unfold factotumref16_SameFrame.f
 repeat' first
   | (with_reducible exact factotumref02_Same.mono _ _ _)
   | (with_reducible exact LeO.refl _)
   | (with_reducible exact LeO.none _)
   | (with_reducible refine LeO.ite ?_ ?_)
   | (with_reducible refine LeO.bind ?_ (fun _=>?_))
   | exact factotumref02_Same.mono _ _ _
   | exact LeO.none _
   | refine LeO.ite ?_ ?_
   | refine LeO.bind ?_ (fun _=>?_)
set_option maxHeartbeats 8000000 in
set_option maxRecDepth 100000 in
theorem factotumref16_SameFrame.calls (k:Nat) (a0_0:Int) (A0_1:Option Addr) (c0_1:Nat) (l0_1:List (S24)) (a1_0:Int) (A1_1:Option Addr) (c1_1:Nat) (l1_1:List (S24)) (r:Bool) (w:World) (hr0_1:Kd.C k24 w A0_1 l0_1.length l0_1) (hc0_1:l0_1.length≤c0_1) (hr1_1:Kd.C k24 w A1_1 l1_1.length l1_1) (hc1_1:l1_1.length≤c1_1) (h:factotumref16_SameFrame.f k a0_0 l0_1 a1_0 l1_1=some r) :
  Calls Tryd.prog 31 #[.agg #[.int .i64 a0_0,.slice A0_1 l0_1.length c0_1],.agg #[.int .i64 a1_0,.slice A1_1 l1_1.length c1_1]] w fun e w'=>e=.returned (.bool r)∧Below w.heap.size w w':=by
 have hu28:=Tryd.underlying28
 have HR0_1:=Aside0.mk hr0_1
 have HC0_1:=Aside0.mk hc0_1
 clear hr0_1 hc0_1
 have HR1_1:=Aside0.mk hr1_1
 have HC1_1:=Aside0.mk hc1_1
 clear hr1_1 hc1_1
 have HB:=Aside0.mk (Below.refl w.heap.size w)
 have H:(if a0_0=a1_0 then ((factotumref02_Same.f k l0_1 l1_1).bind fun t300=>(some t300)) else (some false))=some r:=h
 clear h
 by_cases c3:a0_0=a1_0
 ·rw [if_pos c3] at H
  have c3b0:(a0_0 == a1_0)=true:=beq_iff_eq.mpr c3
  have c3b1:(a0_0 != a1_0)=false:=bne_eq_false_iff_eq.mpr c3
  clear c3
  replace H:=Option.bind_eq_some_iff.mp H
  obtain ⟨t300,A40,H⟩:=H
  replace H:(some t300)=some r:=H
  have A4:=Aside0.mk A40
  clear A40
  obtain rfl:=Option.some.inj H
  go_enter Tryd.func31,Tryd.ntmps31
  go_wp2_with (first|((with_reducible refine gate_dst (N:=2) rfl ?_);refine box_event ?hg (N:=2) ?hd (cs:=#[.int .i64 a0_0,.slice A0_1 l0_1.length c0_1]) (t:=28) ?hr ?_;(case hd=>rfl);(case hg=>rfl);(case hr=>first|(go_simp;done)|(go_simp;rfl));intro gb298 hg w5 hbox hb;have BK298:=Aside0.mk (hbox);have GW298:=Aside0.mk ((by rw [hg];exact (below_size (by repeat (first|(with_reducible first|exact HB.out|apply zl1|apply zl2|apply zl3)|exact HB.out))):w.heap.size≤gb298));have GE298:=Aside0.mk ((by rw [hg];exact (below_size (by repeat (first|(with_reducible first|exact HB.out|apply zl1|apply zl2|apply zl3)|exact HB.out))):w.heap.size≤gb298));replace HB:=Aside0.mk (below_step (by repeat (first|(with_reducible first|exact HB.out|apply zl1|apply zl2|apply zl3)|exact HB.out)) hb);clear hb hbox hg)|((with_reducible refine gate_dst (N:=3) rfl ?_);refine box_event ?hg (N:=3) ?hd (cs:=#[.int .i64 a1_0,.slice A1_1 l1_1.length c1_1]) (t:=28) ?hr ?_;(case hd=>rfl);(case hg=>rfl);(case hr=>first|(go_simp;done)|(go_simp;rfl));intro gb299 hg w6 hbox hb;have BK299:=Aside0.mk (hbox);have GW299:=Aside0.mk ((by rw [hg];exact (below_size (by repeat (first|(with_reducible first|exact HB.out|apply zl1|apply zl2|apply zl3|refine below_set ?_ GE298.out)|exact HB.out))):w.heap.size≤gb299));have GE299:=Aside0.mk ((by rw [hg];exact (below_size (by repeat (first|(with_reducible first|exact HB.out|apply zl1|apply zl2|apply zl3|refine below_set ?_ GE298.out)|exact HB.out))):w.heap.size≤gb299));replace HB:=Aside0.mk (below_step (by repeat (first|(with_reducible first|exact HB.out|apply zl1|apply zl2|apply zl3|refine below_set ?_ GE298.out)|exact HB.out)) hb);have NB298_299:=Aside0.mk ((by rw [hg];exact Nat.ne_of_lt (blk_lt (g:=gb298) (o:=.cells #[.int .i64 a0_0,.slice A0_1 l0_1.length c0_1] 28 (0,0)) (by (with_reducible repeat (first|apply zb1|apply zb2|apply zb3));exact BK298.out)):gb298 ≠ gb299));have NB299_298:=Aside0.mk ((by rw [hg];exact Nat.ne_of_gt (blk_lt (g:=gb298) (o:=.cells #[.int .i64 a0_0,.slice A0_1 l0_1.length c0_1] 28 (0,0)) (by (with_reducible repeat (first|apply zb1|apply zb2|apply zb3));exact BK298.out)):gb299 ≠ gb298));replace BK298:=Aside0.mk (blk_below (g:=gb298) (o:=.cells #[.int .i64 a0_0,.slice A0_1 l0_1.length c0_1] 28 (0,0)) (by (with_reducible repeat (first|apply zb1|apply zb2|apply zb3));exact BK298.out) hb);clear hb hbox hg;have hnb7:=NB298_299.out;have hnc7:=NB299_298.out;have hcz8_0:w6.cell? ⟨gb298,0,none⟩=some (.int .i64 a0_0):=(blk_cell BK298.out 0).trans rfl;have hcz8_1:w6.cell? ⟨gb298,1,none⟩=some (.slice A0_1 l0_1.length c0_1):=(blk_cell BK298.out 1).trans rfl;have hfz8_0:=blk_frozen BK298.out 0;have hfz8_1:=blk_frozen BK298.out 1;have hcz9_0:w6.cell? ⟨gb299,0,none⟩=some (.int .i64 a1_0):=(blk_cell BK299.out 0).trans rfl;have hcz9_1:w6.cell? ⟨gb299,1,none⟩=some (.slice A1_1 l1_1.length c1_1):=(blk_cell BK299.out 1).trans rfl;have hfz9_0:=blk_frozen BK299.out 0;have hfz9_1:=blk_frozen BK299.out 1)|(go_at_call 57;(with_reducible refine (factotumref02_Same.calls k _ _ l0_1 _ _ l1_1 t300 _ ?side1 ?side2 ?side3 ?side4 A4.out).mono ?_);(case side1=>repeat (first|exact (Kd.C_below HR0_1.out HB.out)|(with_reducible refine Kd.C_alloc ?_ _)|(with_reducible refine Kd.C_drewN ?_ _)|(with_reducible refine Kd.C_drew ?_)));(case side2=>exact HC0_1.out);(case side3=>repeat (first|exact (Kd.C_below HR1_1.out HB.out)|(with_reducible refine Kd.C_alloc ?_ _)|(with_reducible refine Kd.C_drewN ?_ _)|(with_reducible refine Kd.C_drew ?_)));(case side4=>exact HC1_1.out);rintro e w' ⟨rfl,⟨nd,rfl⟩⟩))
  go_ret
  exact ⟨by first|(with_reducible rfl)|(simp only [isEmpty_bne,Bool.not_not] <;> rfl)|rfl|(simp [*,errW_none,errW_some] <;> rfl),by repeat (first|(with_reducible first|exact HB.out|apply zl1|apply zl2|apply zl3|refine below_set ?_ GE298.out|refine below_set ?_ GE299.out)|exact HB.out)⟩
 ·rw [if_neg c3] at H
  have c3b0:(a0_0 == a1_0)=false:=beq_eq_false_iff_ne.mpr c3
  have c3b1:(a0_0 != a1_0)=true:=bne_iff_ne.mpr c3
  obtain rfl:=Option.some.inj H
  go_enter Tryd.func31,Tryd.ntmps31
  go_wp2_with (first|((with_reducible refine gate_dst (N:=2) rfl ?_);refine box_event ?hg (N:=2) ?hd (cs:=#[.int .i64 a0_0,.slice A0_1 l0_1.length c0_1]) (t:=28) ?hr ?_;(case hd=>rfl);(case hg=>rfl);(case hr=>first|(go_simp;done)|(go_simp;rfl));intro gb298 hg w10 hbox hb;have BK298:=Aside0.mk (hbox);have GW298:=Aside0.mk ((by rw [hg];exact (below_size (by repeat (first|(with_reducible first|exact HB.out|apply zl1|apply zl2|apply zl3)|exact HB.out))):w.heap.size≤gb298));have GE298:=Aside0.mk ((by rw [hg];exact (below_size (by repeat (first|(with_reducible first|exact HB.out|apply zl1|apply zl2|apply zl3)|exact HB.out))):w.heap.size≤gb298));replace HB:=Aside0.mk (below_step (by repeat (first|(with_reducible first|exact HB.out|apply zl1|apply zl2|apply zl3)|exact HB.out)) hb);clear hb hbox hg)|((with_reducible refine gate_dst (N:=3) rfl ?_);refine box_event ?hg (N:=3) ?hd (cs:=#[.int .i64 a1_0,.slice A1_1 l1_1.length c1_1]) (t:=28) ?hr ?_;(case hd=>rfl);(case hg=>rfl);(case hr=>first|(go_simp;done)|(go_simp;rfl));intro gb299 hg w11 hbox hb;have BK299:=Aside0.mk (hbox);have GW299:=Aside0.mk ((by rw [hg];exact (below_size (by repeat (first|(with_reducible first|exact HB.out|apply zl1|apply zl2|apply zl3|refine below_set ?_ GE298.out)|exact HB.out))):w.heap.size≤gb299));have GE299:=Aside0.mk ((by rw [hg];exact (below_size (by repeat (first|(with_reducible first|exact HB.out|apply zl1|apply zl2|apply zl3|refine below_set ?_ GE298.out)|exact HB.out))):w.heap.size≤gb299));replace HB:=Aside0.mk (below_step (by repeat (first|(with_reducible first|exact HB.out|apply zl1|apply zl2|apply zl3|refine below_set ?_ GE298.out)|exact HB.out)) hb);have NB298_299:=Aside0.mk ((by rw [hg];exact Nat.ne_of_lt (blk_lt (g:=gb298) (o:=.cells #[.int .i64 a0_0,.slice A0_1 l0_1.length c0_1] 28 (0,0)) (by (with_reducible repeat (first|apply zb1|apply zb2|apply zb3));exact BK298.out)):gb298 ≠ gb299));have NB299_298:=Aside0.mk ((by rw [hg];exact Nat.ne_of_gt (blk_lt (g:=gb298) (o:=.cells #[.int .i64 a0_0,.slice A0_1 l0_1.length c0_1] 28 (0,0)) (by (with_reducible repeat (first|apply zb1|apply zb2|apply zb3));exact BK298.out)):gb299 ≠ gb298));replace BK298:=Aside0.mk (blk_below (g:=gb298) (o:=.cells #[.int .i64 a0_0,.slice A0_1 l0_1.length c0_1] 28 (0,0)) (by (with_reducible repeat (first|apply zb1|apply zb2|apply zb3));exact BK298.out) hb);clear hb hbox hg;have hnb12:=NB298_299.out;have hnc12:=NB299_298.out;have hcz13_0:w11.cell? ⟨gb298,0,none⟩=some (.int .i64 a0_0):=(blk_cell BK298.out 0).trans rfl;have hcz13_1:w11.cell? ⟨gb298,1,none⟩=some (.slice A0_1 l0_1.length c0_1):=(blk_cell BK298.out 1).trans rfl;have hfz13_0:=blk_frozen BK298.out 0;have hfz13_1:=blk_frozen BK298.out 1;have hcz14_0:w11.cell? ⟨gb299,0,none⟩=some (.int .i64 a1_0):=(blk_cell BK299.out 0).trans rfl;have hcz14_1:w11.cell? ⟨gb299,1,none⟩=some (.slice A1_1 l1_1.length c1_1):=(blk_cell BK299.out 1).trans rfl;have hfz14_0:=blk_frozen BK299.out 0;have hfz14_1:=blk_frozen BK299.out 1))
  go_ret
  exact ⟨by first|(with_reducible rfl)|(simp only [isEmpty_bne,Bool.not_not] <;> rfl)|rfl|(simp [*,errW_none,errW_some] <;> rfl),by repeat (first|(with_reducible first|exact HB.out|apply zl1|apply zl2|apply zl3|refine below_set ?_ GE298.out|refine below_set ?_ GE299.out)|exact HB.out)⟩

end Go.Proofs.YtobjnhkjahhfnaaDoor.PAll
