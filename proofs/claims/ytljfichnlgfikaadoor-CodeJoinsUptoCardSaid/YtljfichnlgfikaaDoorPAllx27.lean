/- Printed walks of the functions that the laws reach: each function, what it computes, and that it does. No conditions. -/
import Derived.Test.YtljfichnlgfikaaDoorPAllx0
import Derived.Test.YtljfichnlgfikaaDoorPAllx2
import Derived.Test.YtljfichnlgfikaaDoorPAllx12
import Derived.Test.YtljfichnlgfikaaDoorPAllx14
import Derived.Test.YtljfichnlgfikaaDoorPAllx26
namespace Go.Proofs.YtljfichnlgfikaaDoor.PAll
open Go.RowKit Go.Proofs.YtljfichnlgfikaaDoor.XW Go.Proofs.YtljfichnlgfikaaDoor.XLib Go.Proofs.YtljfichnlgfikaaDoorW.PrintWords Go.Proofs.YtljfichnlgfikaaDoorW.PrintLast Go.Proofs.YtljfichnlgfikaaDoorW.PrintMore
attribute [local go_sem] max2_int min2_int max_two min_two max_three min_three max_four min_four   -- for this text's walks alone
set_option linter.unusedVariables false
set_option linter.unusedSimpArgs false

attribute [local go_sem high] eqA42
/-! ### factotumref13_Same: function 13 -/
def factotumref13_Same.l0:Nat→List (S42)→List (S42)→Int→Option (Bool)
 | 0,_,_,_=>none
 | k + 1,x0,x1,x5=>if x5 < (x0.length:Int) then (if 0≤x5 then (if x5 < (x1.length:Int) then (if (!(((rd_T42 x0 x5).f0) == ((rd_T42 x1 x5).f0)) || (!(((rd_T42 x0 x5).f1) == ((rd_T42 x1 x5).f1)) || (!(((rd_T42 x0 x5).f2) == ((rd_T42 x1 x5).f2)) || (!(((rd_T42 x0 x5).f3) == ((rd_T42 x1 x5).f3)) || ((!(((rd_T42 x0 x5).f4.f0) == ((rd_T42 x1 x5).f4.f0)) || (!(((rd_T42 x0 x5).f4.f1) == ((rd_T42 x1 x5).f4.f1)) || (!((((rd_T42 x0 x5).f4.f2).toList) == (((rd_T42 x1 x5).f4.f2).toList))))))))))=true then (some false) else (factotumref13_Same.l0 k x0 x1 (wrap64 (x5 + 1)))) else (none)) else (none)) else (some true)
def factotumref13_Same.f (k:Nat) (l0:List (S42)) (l1:List (S42)):Option (Bool):=if (l0.length:Int)=(l1.length:Int) then (factotumref13_Same.l0 k l0 l1 0) else (some false)
theorem factotumref13_Same.mono_l:∀ k,(∀ y0 y1 y2,LeO (factotumref13_Same.l0 k y0 y1 y2) (factotumref13_Same.l0 (k + 1) y0 y1 y2))
 | 0=>fun _ _ _ r h=>by simp [factotumref13_Same.l0] at h
 | k + 1=>by
  have ih0:=factotumref13_Same.mono_l k
  ·intro y0 y1 y2
   unfold factotumref13_Same.l0
   repeat' first
   | (with_reducible exact ih0 _ _ _)
   | (with_reducible exact LeO.refl _)
   | (with_reducible exact LeO.none _)
   | (with_reducible refine LeO.ite ?_ ?_)
   | (with_reducible refine LeO.bind ?_ (fun _=>?_))
   | exact ih0 _ _ _
   | exact LeO.none _
   | refine LeO.ite ?_ ?_
   | refine LeO.bind ?_ (fun _=>?_)
theorem factotumref13_Same.mono:∀ a0 a1 k,LeO (factotumref13_Same.f k a0 a1) (factotumref13_Same.f (k + 1) a0 a1):=by
 intro a0 a1 k
 have ih0:=factotumref13_Same.mono_l k
 unfold factotumref13_Same.f
 repeat' first
   | (with_reducible exact ih0 _ _ _)
   | (with_reducible exact LeO.refl _)
   | (with_reducible exact LeO.none _)
   | (with_reducible refine LeO.ite ?_ ?_)
   | (with_reducible refine LeO.bind ?_ (fun _=>?_))
   | exact ih0 _ _ _
   | exact LeO.none _
   | refine LeO.ite ?_ ?_
   | refine LeO.bind ?_ (fun _=>?_)
set_option maxHeartbeats 8000000 in
set_option maxRecDepth 100000 in
theorem factotumref13_Same.calls (k:Nat) (A0:Option Addr) (c0:Nat) (l0:List (S42)) (A1:Option Addr) (c1:Nat) (l1:List (S42)) (r:Bool) (w:World) (hr0:Kd.C k42 w A0 l0.length l0) (hc0:l0.length≤c0) (hr1:Kd.C k42 w A1 l1.length l1) (hc1:l1.length≤c1) (h:factotumref13_Same.f k l0 l1=some r) :
  Calls Tryd.prog 13 #[.slice A0 l0.length c0,.slice A1 l1.length c1] w fun e w'=>e=.returned (.bool r)∧Drawn0 w w':=by
 have hu42:=Tryd.underlying42
 have HR0:=Aside0.mk hr0
 have HC0:=Aside0.mk hc0
 clear hr0 hc0
 have HR1:=Aside0.mk hr1
 have HC1:=Aside0.mk hc1
 clear hr1 hc1
 have H:(if (l0.length:Int)=(l1.length:Int) then (factotumref13_Same.l0 k l0 l1 0) else (some false))=some r:=h
 clear h
 by_cases c3:(l0.length:Int)=(l1.length:Int)
 ·rw [if_pos c3] at H
  have c3b0:((l0.length:Int) == (l1.length:Int))=true:=beq_iff_eq.mpr c3
  have c3b1:((l0.length:Int) != (l1.length:Int))=false:=bne_eq_false_iff_eq.mpr c3
  have c3b2:(l0.length == l1.length)=true:=by first|simpa using c3|(simp at c3 ⊢;omega)
  clear c3
  have H':=Aside0.mk H
  clear H
  go_enter Tryd.func13,Tryd.ntmps13
  go_wp2
  repeat (go_quiet (fail);try go_wp2)
  go_loopg [5] k (fun kq v5 w'=>∃ (x5_1:Int),v5=.int .i64 x5_1∧Aside0 (factotumref13_Same.l0 kq l0 l1 x5_1=some r)∧Aside0 (kq≤k)∧Drawn0 w w')
  case atStart=>exact ⟨(0),(by first|(with_reducible rfl)|(simp;done)|(simp [*];done)|rfl|(simp only [not_isEmpty_bne])),H',⟨Nat.le_refl _⟩,by repeat (first|exact Drawn0.refl _|apply Drawn0.step)⟩
  case round =>
   clear H'
   try clear c1
   try clear p2
   try clear c3
   try clear c3b0
   try clear c3b1
   try clear c3b2
   obtain ⟨x5_1,rfl,HA,HK1,⟨m1,rfl⟩⟩:=hrel
   cases gk with
   | zero=>exact absurd HA.out (by simp [factotumref13_Same.l0])
   | succ k1 =>
    have H:=HA.out
    clear HA
    simp only [factotumref13_Same.l0] at H
    by_cases c4:x5_1 < (l0.length:Int)
    ·rw [if_pos c4] at H
     have c4b0:decide (x5_1 < (l0.length:Int))=true:=decide_eq_true c4
     clear c4
     by_cases c5:0≤x5_1
     ·rw [if_pos c5] at H
      have c5b0:decide (0≤x5_1)=true:=decide_eq_true c5
      clear c5
      by_cases c6:x5_1 < (l1.length:Int)
      ·rw [if_pos c6] at H
       have c6b0:decide (x5_1 < (l1.length:Int))=true:=decide_eq_true c6
       clear c6
       by_cases c7:(!(((rd_T42 l0 x5_1).f0) == ((rd_T42 l1 x5_1).f0)) || (!(((rd_T42 l0 x5_1).f1) == ((rd_T42 l1 x5_1).f1)) || (!(((rd_T42 l0 x5_1).f2) == ((rd_T42 l1 x5_1).f2)) || (!(((rd_T42 l0 x5_1).f3) == ((rd_T42 l1 x5_1).f3)) || ((!(((rd_T42 l0 x5_1).f4.f0) == ((rd_T42 l1 x5_1).f4.f0)) || (!(((rd_T42 l0 x5_1).f4.f1) == ((rd_T42 l1 x5_1).f4.f1)) || (!((((rd_T42 l0 x5_1).f4.f2).toList) == (((rd_T42 l1 x5_1).f4.f2).toList))))))))))=true
       ·rw [if_pos c7] at H
        have c7b0:(!(((rd_T42 l0 x5_1).f0) == ((rd_T42 l1 x5_1).f0)) || (!(((rd_T42 l0 x5_1).f1) == ((rd_T42 l1 x5_1).f1)) || (!(((rd_T42 l0 x5_1).f2) == ((rd_T42 l1 x5_1).f2)) || (!(((rd_T42 l0 x5_1).f3) == ((rd_T42 l1 x5_1).f3)) || ((!(((rd_T42 l0 x5_1).f4.f0) == ((rd_T42 l1 x5_1).f4.f0)) || (!(((rd_T42 l0 x5_1).f4.f1) == ((rd_T42 l1 x5_1).f4.f1)) || (!((((rd_T42 l0 x5_1).f4.f2).toList) == (((rd_T42 l1 x5_1).f4.f2).toList))))))))))=true:=c7
        clear c7
        obtain rfl:=Option.some.inj H
        have p296:0≤(x5_1:Int):=of_decide_eq_true (by first|(with_reducible assumption)|assumption)
        have q296:x5_1 < (l0.length:Int):=of_decide_eq_true (by first|(with_reducible assumption)|assumption)
        obtain ⟨ad296,e296,hx296_0,hx296_1,hx296_2,hx296_3,hx296_4,hx296_5,hx296_6⟩:=at_T42 HR0.out x5_1 p296 q296
        cases e296
        replace p296:=eq_true p296
        replace q296:=eq_true q296
        have p297:0≤(x5_1:Int):=of_decide_eq_true (by first|(with_reducible assumption)|assumption)
        have q297:x5_1 < (l1.length:Int):=of_decide_eq_true (by first|(with_reducible assumption)|assumption)
        obtain ⟨ad297,e297,hx297_0,hx297_1,hx297_2,hx297_3,hx297_4,hx297_5,hx297_6⟩:=at_T42 HR1.out x5_1 p297 q297
        cases e297
        replace p297:=eq_true p297
        replace q297:=eq_true q297
        go_wp2
        repeat (go_quiet (fail);try go_wp2)
        go_ret
        exact ⟨by first|(with_reducible rfl)|(simp;done)|(simp [*];done)|rfl|(simp only [not_isEmpty_bne]),by repeat (first|exact Drawn0.refl _|apply Drawn0.step)⟩
       ·rw [if_neg c7] at H
        have c7b0:(!(((rd_T42 l0 x5_1).f0) == ((rd_T42 l1 x5_1).f0)) || (!(((rd_T42 l0 x5_1).f1) == ((rd_T42 l1 x5_1).f1)) || (!(((rd_T42 l0 x5_1).f2) == ((rd_T42 l1 x5_1).f2)) || (!(((rd_T42 l0 x5_1).f3) == ((rd_T42 l1 x5_1).f3)) || ((!(((rd_T42 l0 x5_1).f4.f0) == ((rd_T42 l1 x5_1).f4.f0)) || (!(((rd_T42 l0 x5_1).f4.f1) == ((rd_T42 l1 x5_1).f4.f1)) || (!((((rd_T42 l0 x5_1).f4.f2).toList) == (((rd_T42 l1 x5_1).f4.f2).toList))))))))))=false:=by simpa using c7
        clear c7
        have H':=Aside0.mk H
        clear H
        have p296:0≤(x5_1:Int):=of_decide_eq_true (by first|(with_reducible assumption)|assumption)
        have q296:x5_1 < (l0.length:Int):=of_decide_eq_true (by first|(with_reducible assumption)|assumption)
        obtain ⟨ad296,e296,hx296_0,hx296_1,hx296_2,hx296_3,hx296_4,hx296_5,hx296_6⟩:=at_T42 HR0.out x5_1 p296 q296
        cases e296
        replace p296:=eq_true p296
        replace q296:=eq_true q296
        have p297:0≤(x5_1:Int):=of_decide_eq_true (by first|(with_reducible assumption)|assumption)
        have q297:x5_1 < (l1.length:Int):=of_decide_eq_true (by first|(with_reducible assumption)|assumption)
        obtain ⟨ad297,e297,hx297_0,hx297_1,hx297_2,hx297_3,hx297_4,hx297_5,hx297_6⟩:=at_T42 HR1.out x5_1 p297 q297
        cases e297
        replace p297:=eq_true p297
        replace q297:=eq_true q297
        go_wp2
        repeat (go_quiet (fail);try go_wp2)
        go_roundg k1
        case measure=>have:=HK1.out;omega
        case rel=>exact ⟨(wrap64 (x5_1 + 1)),(by first|(with_reducible rfl)|(simp;done)|(simp [*];done)|rfl|(simp only [not_isEmpty_bne])),H',⟨by have:=HK1.out;omega⟩,by repeat (first|exact Drawn0.refl _|apply Drawn0.step)⟩
      ·rw [if_neg c6] at H
       exact absurd H (by simp)
     ·rw [if_neg c5] at H
      exact absurd H (by simp)
    ·rw [if_neg c4] at H
     have c4b0:decide (x5_1 < (l0.length:Int))=false:=decide_eq_false c4
     clear c4
     obtain rfl:=Option.some.inj H
     go_wp2
     repeat (go_quiet (fail);try go_wp2)
     go_ret
     exact ⟨by first|(with_reducible rfl)|(simp;done)|(simp [*];done)|rfl|(simp only [not_isEmpty_bne]),by repeat (first|exact Drawn0.refl _|apply Drawn0.step)⟩
 ·rw [if_neg c3] at H
  have c3b0:((l0.length:Int) == (l1.length:Int))=false:=beq_eq_false_iff_ne.mpr c3
  have c3b1:((l0.length:Int) != (l1.length:Int))=true:=bne_iff_ne.mpr c3
  have c3b2:(l0.length == l1.length)=false:=by first|simpa using c3|(simp at c3 ⊢;omega)
  obtain rfl:=Option.some.inj H
  go_enter Tryd.func13,Tryd.ntmps13
  go_wp2
  repeat (go_quiet (fail);try go_wp2)
  go_ret
  exact ⟨by first|(with_reducible rfl)|(simp;done)|(simp [*];done)|rfl|(simp only [not_isEmpty_bne]),by repeat (first|exact Drawn0.refl _|apply Drawn0.step)⟩

/-! ### factotumlaw13_CodeReads: function 4 -/
def factotumlaw13_CodeReads.f (k:Nat) (a0:ByteArray):Option (Bool):=(factotumlaw13_lives.f k).bind fun t298=>(if t298=true then ((code_Read.f k a0).bind fun bt299=>((factotumref13_Read.f k a0).bind fun bt303=>(if bt299.2=bt303.2 then ((factotumref13_Same.f k bt299.1 bt303.1).bind fun t307=>(some t307)) else (none)))) else (none))
theorem factotumlaw13_CodeReads.mono:∀ a0 k,LeO (factotumlaw13_CodeReads.f k a0) (factotumlaw13_CodeReads.f (k + 1) a0):=by
 intro a0 k
 unfold factotumlaw13_CodeReads.f
 repeat' first
   | (with_reducible exact code_Read.mono _ _)
   | (with_reducible exact factotumlaw13_lives.mono _)
   | (with_reducible exact factotumref13_Read.mono _ _)
   | (with_reducible exact factotumref13_Same.mono _ _ _)
   | (with_reducible exact LeO.refl _)
   | (with_reducible exact LeO.none _)
   | (with_reducible refine LeO.ite ?_ ?_)
   | (with_reducible refine LeO.bind ?_ (fun _=>?_))
   | exact code_Read.mono _ _
   | exact factotumlaw13_lives.mono _
   | exact factotumref13_Read.mono _ _
   | exact factotumref13_Same.mono _ _ _
   | exact LeO.none _
   | refine LeO.ite ?_ ?_
   | refine LeO.bind ?_ (fun _=>?_)
set_option maxHeartbeats 8000000 in
set_option maxRecDepth 100000 in
theorem factotumlaw13_CodeReads.calls (k:Nat) (a0:ByteArray) (r:Bool) (w:World) (h:factotumlaw13_CodeReads.f k a0=some r) :
  Calls Tryd.prog 4 #[.string a0] w fun e w'=>e=.returned (.bool r)∧Below w.heap.size w w':=by
 have HB:=Aside0.mk (Below.refl w.heap.size w)
 have H:((factotumlaw13_lives.f k).bind fun t298=>(if t298=true then ((code_Read.f k a0).bind fun bt299=>((factotumref13_Read.f k a0).bind fun bt303=>(if bt299.2=bt303.2 then ((factotumref13_Same.f k bt299.1 bt303.1).bind fun t307=>(some t307)) else (none)))) else (none)))=some r:=h
 clear h
 replace H:=Option.bind_eq_some_iff.mp H
 obtain ⟨t298,A20,H⟩:=H
 replace H:(if t298=true then ((code_Read.f k a0).bind fun bt299=>((factotumref13_Read.f k a0).bind fun bt303=>(if bt299.2=bt303.2 then ((factotumref13_Same.f k bt299.1 bt303.1).bind fun t307=>(some t307)) else (none)))) else (none))=some r:=H
 have A2:=Aside0.mk A20
 clear A20
 by_cases c3:t298=true
 ·subst c3
  have H1:((code_Read.f k a0).bind fun bt299=>((factotumref13_Read.f k a0).bind fun bt303=>(if bt299.2=bt303.2 then ((factotumref13_Same.f k bt299.1 bt303.1).bind fun t307=>(some t307)) else (none))))=some r:=by rw [if_pos rfl] at H;exact H
  clear H
  have H:=H1
  clear H1
  replace H:=Option.bind_eq_some_iff.mp H
  obtain ⟨⟨t299,t300⟩,A40,H⟩:=H
  replace H:((factotumref13_Read.f k a0).bind fun bt303=>(if t300=bt303.2 then ((factotumref13_Same.f k t299 bt303.1).bind fun t307=>(some t307)) else (none)))=some r:=H
  have A4:=Aside0.mk A40
  clear A40
  replace H:=Option.bind_eq_some_iff.mp H
  obtain ⟨⟨t303,t304⟩,A50,H⟩:=H
  replace H:(if t300=t304 then ((factotumref13_Same.f k t299 t303).bind fun t307=>(some t307)) else (none))=some r:=H
  have A5:=Aside0.mk A50
  clear A50
  by_cases c6:t300=t304
  ·rw [if_pos c6] at H
   have c6b0:(t300 == t304)=true:=beq_iff_eq.mpr c6
   have c6b1:(t300 != t304)=false:=bne_eq_false_iff_eq.mpr c6
   clear c6
   replace H:=Option.bind_eq_some_iff.mp H
   obtain ⟨t307,A70,H⟩:=H
   replace H:(some t307)=some r:=H
   have A7:=Aside0.mk A70
   clear A70
   obtain rfl:=Option.some.inj H
   go_enter Tryd.func4,Tryd.ntmps4
   go_wp2_with (first|((with_reducible refine gate_callee (f:=8) rfl ?_);refine goesL_ (some 7) rfl rfl Tryd.func8 (by kernel_rfl) rfl #[] rfl (by (try simp only [List.map_toArray,List.map_cons,List.map_nil]);first|done|rfl|(simp only [List.length_drop,List.length_take];rfl)|(simp (disch:=omega) only [u64_in];rfl)) ?_;(with_reducible refine (factotumlaw13_lives.calls k  true _ A2.out).mono ?_);rintro e w8 ⟨rfl,hb⟩;refine ⟨_,rfl,?_⟩;replace HB:=Aside0.mk (below_step (by repeat (first|(with_reducible first|exact HB.out|apply zl1|apply zl2|apply zl3)|exact HB.out)) hb);(try clear hb))|((with_reducible refine gate_callee (f:=11) rfl ?_);refine goesL_ (some 11) rfl rfl Tryd.func11 (by kernel_rfl) rfl #[.string a0] rfl (by (try simp only [List.map_toArray,List.map_cons,List.map_nil]);first|done|rfl|(simp only [List.length_drop,List.length_take];rfl)|(simp (disch:=omega) only [u64_in];rfl)) ?_;(with_reducible refine (code_Read.calls k a0 t299 t300 _ A4.out).mono ?_);rintro e w9 ⟨v301,rfl,ho0,hb⟩;refine ⟨_,rfl,?_⟩;have HO302:=Aside0.mk (Kd.R_lower ho0 (below_size (by repeat (first|(with_reducible first|exact HB.out|apply zl1|apply zl2|apply zl3)|exact HB.out))));replace HB:=Aside0.mk (below_step (by repeat (first|(with_reducible first|exact HB.out|apply zl1|apply zl2|apply zl3)|exact HB.out)) hb);(try clear hb);(try clear ho0))|((with_reducible refine gate_callee (f:=12) rfl ?_);refine goesL_ (some 16) rfl rfl Tryd.func12 (by kernel_rfl) rfl #[.string a0] rfl (by (try simp only [List.map_toArray,List.map_cons,List.map_nil]);first|done|rfl|(simp only [List.length_drop,List.length_take];rfl)|(simp (disch:=omega) only [u64_in];rfl)) ?_;(with_reducible refine (factotumref13_Read.calls k a0 t303 t304 _ A5.out).mono ?_);rintro e w10 ⟨v305,rfl,ho0,hb⟩;refine ⟨_,rfl,?_⟩;have HO306:=Aside0.mk (Kd.R_lower (Kd.R_new' ho0 (Kd.R_lt (by (with_reducible repeat (first|apply zk1|apply zk2|apply zk3));exact HO302.out))) (below_size (by repeat (first|(with_reducible first|exact HB.out|apply zl1|apply zl2|apply zl3)|exact HB.out))));replace HO302:=Aside0.mk (Kd.R_elder' (by (with_reducible repeat (first|apply zk1|apply zk2|apply zk3));exact HO302.out) (Kd.R_base ho0) hb);replace HB:=Aside0.mk (below_step (by repeat (first|(with_reducible first|exact HB.out|apply zl1|apply zl2|apply zl3)|exact HB.out)) hb);(try clear hb);(try clear ho0);obtain ⟨Ao11,co11,eo11⟩:=Kd.R_slice HO302.out;subst eo11;obtain ⟨Ao12,co12,eo12⟩:=Kd.R_slice HO306.out;subst eo12)|(go_at_call 13;(with_reducible refine (factotumref13_Same.calls k _ _ t299 _ _ t303 t307 _ ?side1 ?side2 ?side3 ?side4 A7.out).mono ?_);(case side1=>repeat (first|exact (Kd.R_reads' HO302.out).2.2|(with_reducible refine Kd.C_alloc ?_ _)|(with_reducible refine Kd.C_drewN ?_ _)|(with_reducible refine Kd.C_drew ?_)));(case side2=>exact (Kd.R_reads' HO302.out).2.1);(case side3=>repeat (first|exact (Kd.R_reads' HO306.out).2.2|(with_reducible refine Kd.C_alloc ?_ _)|(with_reducible refine Kd.C_drewN ?_ _)|(with_reducible refine Kd.C_drew ?_)));(case side4=>exact (Kd.R_reads' HO306.out).2.1);rintro e w' ⟨rfl,⟨nd,rfl⟩⟩))
   go_ret
   exact ⟨by first|(with_reducible rfl)|(simp only [isEmpty_bne,Bool.not_not] <;> rfl)|rfl|(simp [*,errW_none,errW_some] <;> rfl),by repeat (first|(with_reducible first|exact HB.out|apply zl1|apply zl2|apply zl3)|exact HB.out)⟩
  ·rw [if_neg c6] at H
   exact absurd H (by simp)
 ·replace c3:=Bool.eq_false_iff.mpr c3
  subst c3
  have H1:(none)=some r:=by rw [if_neg (show ¬ (false=true) by decide)] at H;exact H
  clear H
  have H:=H1
  clear H1
  exact absurd H (by simp)

/-- THE ONE PURE STATEMENT of factotumlaw13_CodeReads: yours. -/
def factotumlaw13_CodeReads.Pure:Prop:=∀ (a0:ByteArray),a0.size≤140737488351232→∃ k,factotumlaw13_CodeReads.f k a0=some true
theorem factotumlaw13_CodeReads.walk (P:factotumlaw13_CodeReads.Pure) (a0:ByteArray) (w:World) (w0:a0.size≤140737488351232) :
  Calls Tryd.prog 4 #[.string a0] w fun e w'=>e=.returned (.bool true)∧Below w.heap.size w w':=by
 obtain ⟨k,h⟩:=P a0 w0
 refine (factotumlaw13_CodeReads.calls k a0 true w h).mono ?_
 rintro e w' ⟨rfl,hd⟩
 exact ⟨rfl,hd⟩

end Go.Proofs.YtljfichnlgfikaaDoor.PAll
