/- Printed walks of the functions that the laws reach: each function, what it computes, and that it does. No conditions. -/
import Derived.Test.YtljfichnlgfikaaDoorPAllx0
import Derived.Test.YtljfichnlgfikaaDoorPAllx3
import Derived.Test.YtljfichnlgfikaaDoorPAllx13
import Derived.Test.YtljfichnlgfikaaDoorPAllx14
import Derived.Test.YtljfichnlgfikaaDoorPAllx15
import Derived.Test.YtljfichnlgfikaaDoorPAllx27
namespace Go.Proofs.YtljfichnlgfikaaDoor.PAll
open Go.RowKit Go.Proofs.YtljfichnlgfikaaDoor.XW Go.Proofs.YtljfichnlgfikaaDoor.XLib Go.Proofs.YtljfichnlgfikaaDoorW.PrintWords Go.Proofs.YtljfichnlgfikaaDoorW.PrintLast Go.Proofs.YtljfichnlgfikaaDoorW.PrintMore
attribute [local go_sem] max2_int min2_int max_two min_two max_three min_three max_four min_four   -- for this text's walks alone
set_option linter.unusedVariables false
set_option linter.unusedSimpArgs false

/-! ### factotumlaw13_CodeOperands: function 6 -/
def factotumlaw13_CodeOperands.f (k:Nat) (a0:Int) (l1:List (S42)) (l2:List (S42)):Option (Bool):=(factotumlaw13_lives.f k).bind fun t322=>(if t322=true then ((code_Operands.f a0).bind fun bt323=>((factotumref13_Operands.f k a0).bind fun bt325=>(if bt323.1=bt325.1 then (if (bt323.2 == bt325.2)=true then ((code_Same.f k l1 l2).bind fun t327=>((factotumref13_Same.f k l1 l2).bind fun t328=>(if (t327 == t328)=true then ((code_Same.f k l1 l1).bind fun t329=>(some t329)) else (none)))) else (none)) else (none)))) else (none))
theorem factotumlaw13_CodeOperands.mono:∀ a0 a1 a2 k,LeO (factotumlaw13_CodeOperands.f k a0 a1 a2) (factotumlaw13_CodeOperands.f (k + 1) a0 a1 a2):=by
 intro a0 a1 a2 k
 unfold factotumlaw13_CodeOperands.f
 repeat' first
   | (with_reducible exact code_Same.mono _ _ _)
   | (with_reducible exact factotumlaw13_lives.mono _)
   | (with_reducible exact factotumref13_Operands.mono _ _)
   | (with_reducible exact factotumref13_Same.mono _ _ _)
   | (with_reducible exact LeO.refl _)
   | (with_reducible exact LeO.none _)
   | (with_reducible refine LeO.ite ?_ ?_)
   | (with_reducible refine LeO.bind ?_ (fun _=>?_))
   | exact code_Same.mono _ _ _
   | exact factotumlaw13_lives.mono _
   | exact factotumref13_Operands.mono _ _
   | exact factotumref13_Same.mono _ _ _
   | exact LeO.none _
   | refine LeO.ite ?_ ?_
   | refine LeO.bind ?_ (fun _=>?_)
set_option maxHeartbeats 8000000 in
set_option maxRecDepth 100000 in
theorem factotumlaw13_CodeOperands.calls (k:Nat) (a0:Int) (A1:Option Addr) (c1:Nat) (l1:List (S42)) (A2:Option Addr) (c2:Nat) (l2:List (S42)) (r:Bool) (w:World) (hr1:Kd.C k42 w A1 l1.length l1) (hc1:l1.length≤c1) (hr2:Kd.C k42 w A2 l2.length l2) (hc2:l2.length≤c2) (h:factotumlaw13_CodeOperands.f k a0 l1 l2=some r) :
  Calls Tryd.prog 6 #[.int .i64 a0,.slice A1 l1.length c1,.slice A2 l2.length c2] w fun e w'=>e=.returned (.bool r)∧Below w.heap.size w w':=by
 have HR1:=Aside0.mk hr1
 have HC1:=Aside0.mk hc1
 clear hr1 hc1
 have HR2:=Aside0.mk hr2
 have HC2:=Aside0.mk hc2
 clear hr2 hc2
 have HB:=Aside0.mk (Below.refl w.heap.size w)
 have H:((factotumlaw13_lives.f k).bind fun t322=>(if t322=true then ((code_Operands.f a0).bind fun bt323=>((factotumref13_Operands.f k a0).bind fun bt325=>(if bt323.1=bt325.1 then (if (bt323.2 == bt325.2)=true then ((code_Same.f k l1 l2).bind fun t327=>((factotumref13_Same.f k l1 l2).bind fun t328=>(if (t327 == t328)=true then ((code_Same.f k l1 l1).bind fun t329=>(some t329)) else (none)))) else (none)) else (none)))) else (none)))=some r:=h
 clear h
 replace H:=Option.bind_eq_some_iff.mp H
 obtain ⟨t322,A40,H⟩:=H
 replace H:(if t322=true then ((code_Operands.f a0).bind fun bt323=>((factotumref13_Operands.f k a0).bind fun bt325=>(if bt323.1=bt325.1 then (if (bt323.2 == bt325.2)=true then ((code_Same.f k l1 l2).bind fun t327=>((factotumref13_Same.f k l1 l2).bind fun t328=>(if (t327 == t328)=true then ((code_Same.f k l1 l1).bind fun t329=>(some t329)) else (none)))) else (none)) else (none)))) else (none))=some r:=H
 have A4:=Aside0.mk A40
 clear A40
 by_cases c5:t322=true
 ·subst c5
  have H1:((code_Operands.f a0).bind fun bt323=>((factotumref13_Operands.f k a0).bind fun bt325=>(if bt323.1=bt325.1 then (if (bt323.2 == bt325.2)=true then ((code_Same.f k l1 l2).bind fun t327=>((factotumref13_Same.f k l1 l2).bind fun t328=>(if (t327 == t328)=true then ((code_Same.f k l1 l1).bind fun t329=>(some t329)) else (none)))) else (none)) else (none))))=some r:=by rw [if_pos rfl] at H;exact H
  clear H
  have H:=H1
  clear H1
  replace H:=Option.bind_eq_some_iff.mp H
  obtain ⟨⟨t323,t324⟩,A60,H⟩:=H
  replace H:((factotumref13_Operands.f k a0).bind fun bt325=>(if t323=bt325.1 then (if (t324 == bt325.2)=true then ((code_Same.f k l1 l2).bind fun t327=>((factotumref13_Same.f k l1 l2).bind fun t328=>(if (t327 == t328)=true then ((code_Same.f k l1 l1).bind fun t329=>(some t329)) else (none)))) else (none)) else (none)))=some r:=H
  have A6:=Aside0.mk A60
  clear A60
  replace H:=Option.bind_eq_some_iff.mp H
  obtain ⟨⟨t325,t326⟩,A70,H⟩:=H
  replace H:(if t323=t325 then (if (t324 == t326)=true then ((code_Same.f k l1 l2).bind fun t327=>((factotumref13_Same.f k l1 l2).bind fun t328=>(if (t327 == t328)=true then ((code_Same.f k l1 l1).bind fun t329=>(some t329)) else (none)))) else (none)) else (none))=some r:=H
  have A7:=Aside0.mk A70
  clear A70
  by_cases c8:t323=t325
  ·rw [if_pos c8] at H
   have c8b0:(t323 == t325)=true:=beq_iff_eq.mpr c8
   have c8b1:(t323 != t325)=false:=bne_eq_false_iff_eq.mpr c8
   clear c8
   by_cases c9:(t324 == t326)=true
   ·rw [if_pos c9] at H
    have c9b0:(t324 == t326)=true:=c9
    (try (have c9b1:decide (t324=t326)=true:=by simpa using c9))
    (try (have c9b2:(t324 == t326)=true:=by simpa using c9))
    clear c9
    replace H:=Option.bind_eq_some_iff.mp H
    obtain ⟨t327,A100,H⟩:=H
    replace H:((factotumref13_Same.f k l1 l2).bind fun t328=>(if (t327 == t328)=true then ((code_Same.f k l1 l1).bind fun t329=>(some t329)) else (none)))=some r:=H
    have A10:=Aside0.mk A100
    clear A100
    replace H:=Option.bind_eq_some_iff.mp H
    obtain ⟨t328,A110,H⟩:=H
    replace H:(if (t327 == t328)=true then ((code_Same.f k l1 l1).bind fun t329=>(some t329)) else (none))=some r:=H
    have A11:=Aside0.mk A110
    clear A110
    by_cases c12:(t327 == t328)=true
    ·rw [if_pos c12] at H
     have c12b0:(t327 == t328)=true:=c12
     (try (have c12b1:decide (t327=t328)=true:=by simpa using c12))
     (try (have c12b2:(t327 == t328)=true:=by simpa using c12))
     clear c12
     replace H:=Option.bind_eq_some_iff.mp H
     obtain ⟨t329,A130,H⟩:=H
     replace H:(some t329)=some r:=H
     have A13:=Aside0.mk A130
     clear A130
     obtain rfl:=Option.some.inj H
     go_enter Tryd.func6,Tryd.ntmps6
     go_wp2_with (first|((with_reducible refine gate_callee (f:=8) rfl ?_);refine goesL_ (some 11) rfl rfl Tryd.func8 (by kernel_rfl) rfl #[] rfl (by (try simp only [List.map_toArray,List.map_cons,List.map_nil]);first|done|rfl|(simp only [List.length_drop,List.length_take];rfl)|(simp (disch:=omega) only [u64_in];rfl)) ?_;(with_reducible refine (factotumlaw13_lives.calls k  true _ A4.out).mono ?_);rintro e w14 ⟨rfl,hb⟩;refine ⟨_,rfl,?_⟩;replace HB:=Aside0.mk (below_step (by repeat (first|(with_reducible first|exact HB.out|apply zl1|apply zl2|apply zl3)|exact HB.out)) hb);(try clear hb))|((with_reducible refine gate_callee (f:=14) rfl ?_);refine goesL_ (some 15) rfl rfl Tryd.func14 (by kernel_rfl) rfl #[.int .i64 a0] rfl (by (try simp only [List.map_toArray,List.map_cons,List.map_nil]);first|done|rfl|(simp only [List.length_drop,List.length_take];rfl)|(simp (disch:=omega) only [u64_in];rfl)) ?_;(with_reducible refine (code_Operands.calls a0 t323 t324 _ A6.out).mono ?_);rintro e w15 ⟨rfl,hb⟩;refine ⟨_,rfl,?_⟩;replace HB:=Aside0.mk (below_step (by repeat (first|(with_reducible first|exact HB.out|apply zl1|apply zl2|apply zl3)|exact HB.out)) hb);(try clear hb))|((with_reducible refine gate_callee (f:=15) rfl ?_);refine goesL_ (some 20) rfl rfl Tryd.func15 (by kernel_rfl) rfl #[.int .i64 a0] rfl (by (try simp only [List.map_toArray,List.map_cons,List.map_nil]);first|done|rfl|(simp only [List.length_drop,List.length_take];rfl)|(simp (disch:=omega) only [u64_in];rfl)) ?_;(with_reducible refine (factotumref13_Operands.calls k a0 t325 t326 _ A7.out).mono ?_);rintro e w' ⟨rfl,⟨nd,rfl⟩⟩;refine ⟨_,rfl,?_⟩)|(go_at_call 16;(with_reducible refine (code_Same.calls k _ _ l1 _ _ l2 t327 _ ?side1 ?side2 ?side3 ?side4 A10.out).mono ?_);(case side1=>repeat (first|exact (Kd.C_below HR1.out (by repeat (first|(with_reducible first|exact HB.out|apply zl1|apply zl2|apply zl3)|exact HB.out)))|(with_reducible refine Kd.C_alloc ?_ _)|(with_reducible refine Kd.C_drewN ?_ _)|(with_reducible refine Kd.C_drew ?_)));(case side2=>exact HC1.out);(case side3=>repeat (first|exact (Kd.C_below HR2.out (by repeat (first|(with_reducible first|exact HB.out|apply zl1|apply zl2|apply zl3)|exact HB.out)))|(with_reducible refine Kd.C_alloc ?_ _)|(with_reducible refine Kd.C_drewN ?_ _)|(with_reducible refine Kd.C_drew ?_)));(case side4=>exact HC2.out);rintro e w' ⟨rfl,⟨nd,rfl⟩⟩)|(go_at_call 13;(with_reducible refine (factotumref13_Same.calls k _ _ l1 _ _ l2 t328 _ ?side1 ?side2 ?side3 ?side4 A11.out).mono ?_);(case side1=>repeat (first|exact (Kd.C_below HR1.out (by repeat (first|(with_reducible first|exact HB.out|apply zl1|apply zl2|apply zl3)|exact HB.out)))|(with_reducible refine Kd.C_alloc ?_ _)|(with_reducible refine Kd.C_drewN ?_ _)|(with_reducible refine Kd.C_drew ?_)));(case side2=>exact HC1.out);(case side3=>repeat (first|exact (Kd.C_below HR2.out (by repeat (first|(with_reducible first|exact HB.out|apply zl1|apply zl2|apply zl3)|exact HB.out)))|(with_reducible refine Kd.C_alloc ?_ _)|(with_reducible refine Kd.C_drewN ?_ _)|(with_reducible refine Kd.C_drew ?_)));(case side4=>exact HC2.out);rintro e w' ⟨rfl,⟨nd,rfl⟩⟩)|(go_at_call 16;(with_reducible refine (code_Same.calls k _ _ l1 _ _ l1 t329 _ ?side1 ?side2 ?side3 ?side4 A13.out).mono ?_);(case side1=>repeat (first|exact (Kd.C_below HR1.out (by repeat (first|(with_reducible first|exact HB.out|apply zl1|apply zl2|apply zl3)|exact HB.out)))|(with_reducible refine Kd.C_alloc ?_ _)|(with_reducible refine Kd.C_drewN ?_ _)|(with_reducible refine Kd.C_drew ?_)));(case side2=>exact HC1.out);(case side3=>repeat (first|exact (Kd.C_below HR1.out (by repeat (first|(with_reducible first|exact HB.out|apply zl1|apply zl2|apply zl3)|exact HB.out)))|(with_reducible refine Kd.C_alloc ?_ _)|(with_reducible refine Kd.C_drewN ?_ _)|(with_reducible refine Kd.C_drew ?_)));(case side4=>exact HC1.out);rintro e w' ⟨rfl,⟨nd,rfl⟩⟩))
     go_ret
     exact ⟨by first|(with_reducible rfl)|(simp only [isEmpty_bne,Bool.not_not] <;> rfl)|rfl|(simp [*,errW_none,errW_some] <;> rfl),by repeat (first|(with_reducible first|exact HB.out|apply zl1|apply zl2|apply zl3)|exact HB.out)⟩
    ·rw [if_neg c12] at H
     exact absurd H (by simp)
   ·rw [if_neg c9] at H
    exact absurd H (by simp)
  ·rw [if_neg c8] at H
   exact absurd H (by simp)
 ·replace c5:=Bool.eq_false_iff.mpr c5
  subst c5
  have H1:(none)=some r:=by rw [if_neg (show ¬ (false=true) by decide)] at H;exact H
  clear H
  have H:=H1
  clear H1
  exact absurd H (by simp)

end Go.Proofs.YtljfichnlgfikaaDoor.PAll
