/- Printed walks of the functions that the laws reach: each function, what it computes, and that it does. No conditions. -/
import Derived.Test.YtljfichnlgfikaaDoorPAllx0
import Derived.Test.YtljfichnlgfikaaDoorPAllx9
import Derived.Test.YtljfichnlgfikaaDoorPAllx12
import Derived.Test.YtljfichnlgfikaaDoorPAllx14
import Derived.Test.YtljfichnlgfikaaDoorPAllx27
namespace Go.Proofs.YtljfichnlgfikaaDoor.PAll
open Go.RowKit Go.Proofs.YtljfichnlgfikaaDoor.XW Go.Proofs.YtljfichnlgfikaaDoor.XLib Go.Proofs.YtljfichnlgfikaaDoorW.PrintWords Go.Proofs.YtljfichnlgfikaaDoorW.PrintLast Go.Proofs.YtljfichnlgfikaaDoorW.PrintMore
attribute [local go_sem] max2_int min2_int max_two min_two max_three min_three max_four min_four   -- for this text's walks alone
set_option linter.unusedVariables false
set_option linter.unusedSimpArgs false

/-! ### factotumlaw13_CodeBack: function 5 -/
def factotumlaw13_CodeBack.j0:Nat→ByteArray→Bool→Option (Bool)
 | 0,_,_=>none
 | k + 1,x1,x36=>if x36=true then (none) else ((code_Read.f k x1).bind fun bt316=>((code_Write.f k bt316.1).bind fun bt320=>(if bt316.2=0 then (if bt320.2=0 then (some (bt320.1.toList == x1.toList)) else (none)) else (some true))))
def factotumlaw13_CodeBack.f (k:Nat) (l0:List (S42)) (a1:ByteArray):Option (Bool):=(factotumlaw13_lives.f k).bind fun t308=>(if t308=true then ((code_Write.f k l0).bind fun bt309=>((code_Read.f k bt309.1).bind fun bt311=>(if bt309.2=0 then (if bt311.2=0 then ((factotumref13_Same.f k bt311.1 l0).bind fun t315=>(factotumlaw13_CodeBack.j0 k a1 (!t315))) else (factotumlaw13_CodeBack.j0 k a1 true)) else (factotumlaw13_CodeBack.j0 k a1 false)))) else (none))
theorem factotumlaw13_CodeBack.mono_l:∀ k,(∀ y0 y1,LeO (factotumlaw13_CodeBack.j0 k y0 y1) (factotumlaw13_CodeBack.j0 (k + 1) y0 y1))
 | 0=>fun _ _ r h=>by simp [factotumlaw13_CodeBack.j0] at h
 | k + 1=>by
  have ih0:=factotumlaw13_CodeBack.mono_l k
  ·intro y0 y1
   unfold factotumlaw13_CodeBack.j0
   repeat' first
   | (with_reducible exact ih0 _ _)
   | (with_reducible exact code_Read.mono _ _)
   | (with_reducible exact code_Write.mono _ _)
   | (with_reducible exact factotumlaw13_lives.mono _)
   | (with_reducible exact factotumref13_Same.mono _ _ _)
   | (with_reducible exact LeO.refl _)
   | (with_reducible exact LeO.none _)
   | (with_reducible refine LeO.ite ?_ ?_)
   | (with_reducible refine LeO.bind ?_ (fun _=>?_))
   | exact ih0 _ _
   | exact code_Read.mono _ _
   | exact code_Write.mono _ _
   | exact factotumlaw13_lives.mono _
   | exact factotumref13_Same.mono _ _ _
   | exact LeO.none _
   | refine LeO.ite ?_ ?_
   | refine LeO.bind ?_ (fun _=>?_)
theorem factotumlaw13_CodeBack.mono:∀ a0 a1 k,LeO (factotumlaw13_CodeBack.f k a0 a1) (factotumlaw13_CodeBack.f (k + 1) a0 a1):=by
 intro a0 a1 k
 have ih0:=factotumlaw13_CodeBack.mono_l k
 unfold factotumlaw13_CodeBack.f
 repeat' first
   | (with_reducible exact ih0 _ _)
   | (with_reducible exact code_Read.mono _ _)
   | (with_reducible exact code_Write.mono _ _)
   | (with_reducible exact factotumlaw13_lives.mono _)
   | (with_reducible exact factotumref13_Same.mono _ _ _)
   | (with_reducible exact LeO.refl _)
   | (with_reducible exact LeO.none _)
   | (with_reducible refine LeO.ite ?_ ?_)
   | (with_reducible refine LeO.bind ?_ (fun _=>?_))
   | exact ih0 _ _
   | exact code_Read.mono _ _
   | exact code_Write.mono _ _
   | exact factotumlaw13_lives.mono _
   | exact factotumref13_Same.mono _ _ _
   | exact LeO.none _
   | refine LeO.ite ?_ ?_
   | refine LeO.bind ?_ (fun _=>?_)
set_option maxHeartbeats 8000000 in
set_option maxRecDepth 100000 in
theorem factotumlaw13_CodeBack.calls (k:Nat) (A0:Option Addr) (c0:Nat) (l0:List (S42)) (a1:ByteArray) (r:Bool) (w:World) (hr0:Kd.C k42 w A0 l0.length l0) (hc0:l0.length≤c0) (h:factotumlaw13_CodeBack.f k l0 a1=some r) :
  Calls Tryd.prog 5 #[.slice A0 l0.length c0,.string a1] w fun e w'=>e=.returned (.bool r)∧Below w.heap.size w w':=by
 have HR0:=Aside0.mk hr0
 have HC0:=Aside0.mk hc0
 clear hr0 hc0
 have HB:=Aside0.mk (Below.refl w.heap.size w)
 have H:((factotumlaw13_lives.f k).bind fun t308=>(if t308=true then ((code_Write.f k l0).bind fun bt309=>((code_Read.f k bt309.1).bind fun bt311=>(if bt309.2=0 then (if bt311.2=0 then ((factotumref13_Same.f k bt311.1 l0).bind fun t315=>(factotumlaw13_CodeBack.j0 k a1 (!t315))) else (factotumlaw13_CodeBack.j0 k a1 true)) else (factotumlaw13_CodeBack.j0 k a1 false)))) else (none)))=some r:=h
 clear h
 replace H:=Option.bind_eq_some_iff.mp H
 obtain ⟨t308,A30,H⟩:=H
 replace H:(if t308=true then ((code_Write.f k l0).bind fun bt309=>((code_Read.f k bt309.1).bind fun bt311=>(if bt309.2=0 then (if bt311.2=0 then ((factotumref13_Same.f k bt311.1 l0).bind fun t315=>(factotumlaw13_CodeBack.j0 k a1 (!t315))) else (factotumlaw13_CodeBack.j0 k a1 true)) else (factotumlaw13_CodeBack.j0 k a1 false)))) else (none))=some r:=H
 have A3:=Aside0.mk A30
 clear A30
 by_cases c4:t308=true
 ·subst c4
  have H1:((code_Write.f k l0).bind fun bt309=>((code_Read.f k bt309.1).bind fun bt311=>(if bt309.2=0 then (if bt311.2=0 then ((factotumref13_Same.f k bt311.1 l0).bind fun t315=>(factotumlaw13_CodeBack.j0 k a1 (!t315))) else (factotumlaw13_CodeBack.j0 k a1 true)) else (factotumlaw13_CodeBack.j0 k a1 false))))=some r:=by rw [if_pos rfl] at H;exact H
  clear H
  have H:=H1
  clear H1
  replace H:=Option.bind_eq_some_iff.mp H
  obtain ⟨⟨t309,t310⟩,A50,H⟩:=H
  replace H:((code_Read.f k t309).bind fun bt311=>(if t310=0 then (if bt311.2=0 then ((factotumref13_Same.f k bt311.1 l0).bind fun t315=>(factotumlaw13_CodeBack.j0 k a1 (!t315))) else (factotumlaw13_CodeBack.j0 k a1 true)) else (factotumlaw13_CodeBack.j0 k a1 false)))=some r:=H
  have A5:=Aside0.mk A50
  clear A50
  replace H:=Option.bind_eq_some_iff.mp H
  obtain ⟨⟨t311,t312⟩,A60,H⟩:=H
  replace H:(if t310=0 then (if t312=0 then ((factotumref13_Same.f k t311 l0).bind fun t315=>(factotumlaw13_CodeBack.j0 k a1 (!t315))) else (factotumlaw13_CodeBack.j0 k a1 true)) else (factotumlaw13_CodeBack.j0 k a1 false))=some r:=H
  have A6:=Aside0.mk A60
  clear A60
  have HC7:=Aside0.mk H
  clear H
  go_enter Tryd.func5,Tryd.ntmps5
  go_upto_region 5 with (first|((with_reducible refine gate_callee (f:=8) rfl ?_);refine goesL_ (some 13) rfl rfl Tryd.func8 (by kernel_rfl) rfl #[] rfl (by (try simp only [List.map_toArray,List.map_cons,List.map_nil]);first|done|rfl|(simp only [List.length_drop,List.length_take];rfl)|(simp (disch:=omega) only [u64_in];rfl)) ?_;(with_reducible refine (factotumlaw13_lives.calls k  true _ A3.out).mono ?_);rintro e w8 ⟨rfl,hb⟩;refine ⟨_,rfl,?_⟩;replace HB:=Aside0.mk (below_step (by repeat (first|(with_reducible first|exact HB.out|apply zl1|apply zl2|apply zl3)|exact HB.out)) hb);(try clear hb))|((with_reducible refine gate_callee (f:=9) rfl ?_);refine goesL_ (some 17) rfl rfl Tryd.func9 (by kernel_rfl) rfl #[.slice A0 l0.length c0] rfl (by (try simp only [List.map_toArray,List.map_cons,List.map_nil]);first|done|rfl|(simp only [List.length_drop,List.length_take];rfl)|(simp (disch:=omega) only [u64_in];rfl)) ?_;(with_reducible refine (code_Write.calls k _ _ l0 t309 t310 _ ?side1 ?side2 A5.out).mono ?_);(case side1=>repeat (first|exact (Kd.C_below HR0.out HB.out)|(with_reducible refine Kd.C_alloc ?_ _)|(with_reducible refine Kd.C_drewN ?_ _)|(with_reducible refine Kd.C_drew ?_)));(case side2=>exact HC0.out);rintro e w9 ⟨rfl,hb⟩;refine ⟨_,rfl,?_⟩;replace HB:=Aside0.mk (below_step (by repeat (first|(with_reducible first|exact HB.out|apply zl1|apply zl2|apply zl3)|exact HB.out)) hb);(try clear hb))|((with_reducible refine gate_callee (f:=11) rfl ?_);refine goesL_ (some 22) rfl rfl Tryd.func11 (by kernel_rfl) rfl #[.string t309] rfl (by (try simp only [List.map_toArray,List.map_cons,List.map_nil]);first|done|rfl|(simp only [List.length_drop,List.length_take];rfl)|(simp (disch:=omega) only [u64_in];rfl)) ?_;(with_reducible refine (code_Read.calls k t309 t311 t312 _ A6.out).mono ?_);rintro e w10 ⟨v313,rfl,ho0,hb⟩;refine ⟨_,rfl,?_⟩;have HO314:=Aside0.mk (Kd.R_lower ho0 (below_size (by repeat (first|(with_reducible first|exact HB.out|apply zl1|apply zl2|apply zl3)|exact HB.out))));replace HB:=Aside0.mk (below_step (by repeat (first|(with_reducible first|exact HB.out|apply zl1|apply zl2|apply zl3)|exact HB.out)) hb);(try clear hb);(try clear ho0)))
  (try simp only [Act.put,List.setIfInBounds_toArray,List.set_cons_zero,List.set_cons_succ])
  go_cut [36] (fun v36 wc=>∃ (kq:Nat) (x36_6:Bool),v36=.bool x36_6∧Aside0 (factotumlaw13_CodeBack.j0 kq a1 x36_6=some r)∧Aside0 (kq≤k)∧Aside0 (Below w.heap.size w wc))
  case first =>
   have H:=HC7.out
   clear HC7
   by_cases c11:t310=0
   ·rw [if_pos c11] at H
    have c11b0:(t310 == 0)=true:=beq_iff_eq.mpr c11
    have c11b1:(t310 != 0)=false:=bne_eq_false_iff_eq.mpr c11
    clear c11
    (first|rw [c11b0]|(simp only [i64_w,i32_w];rw [c11b0])|skip)
    by_cases c12:t312=0
    ·rw [if_pos c12] at H
     have c12b0:(t312 == 0)=true:=beq_iff_eq.mpr c12
     have c12b1:(t312 != 0)=false:=bne_eq_false_iff_eq.mpr c12
     clear c12
     replace H:=Option.bind_eq_some_iff.mp H
     obtain ⟨t315,A130,H⟩:=H
     replace H:(factotumlaw13_CodeBack.j0 k a1 (!t315))=some r:=H
     have A13:=Aside0.mk A130
     clear A130
     have H':=Aside0.mk H
     clear H
     obtain ⟨Ao14,co14,eo14⟩:=Kd.R_slice HO314.out
     subst eo14
     go_wp2_with (first|(go_at_call 13;(with_reducible refine (factotumref13_Same.calls k _ _ t311 _ _ l0 t315 _ ?side1 ?side2 ?side3 ?side4 A13.out).mono ?_);(case side1=>repeat (first|exact (Kd.R_reads' HO314.out).2.2|(with_reducible refine Kd.C_alloc ?_ _)|(with_reducible refine Kd.C_drewN ?_ _)|(with_reducible refine Kd.C_drew ?_)));(case side2=>exact (Kd.R_reads' HO314.out).2.1);(case side3=>repeat (first|exact (Kd.C_below HR0.out HB.out)|(with_reducible refine Kd.C_alloc ?_ _)|(with_reducible refine Kd.C_drewN ?_ _)|(with_reducible refine Kd.C_drew ?_)));(case side4=>exact HC0.out);rintro e w' ⟨rfl,⟨nd,rfl⟩⟩))
     go_meet
     case rel=>exact ⟨_,(!t315),(by first|(with_reducible rfl)|(simp;done)|(simp [*];done)|rfl|(simp only [not_isEmpty_bne])),H',⟨by first|omega|exact Nat.le_refl _⟩,⟨by repeat (first|(with_reducible first|exact HB.out|apply zl1|apply zl2|apply zl3)|exact HB.out)⟩⟩
    ·rw [if_neg c12] at H
     have c12b0:(t312 == 0)=false:=beq_eq_false_iff_ne.mpr c12
     have c12b1:(t312 != 0)=true:=bne_iff_ne.mpr c12
     have H':=Aside0.mk H
     clear H
     go_wp2
     go_meet
     case rel=>exact ⟨_,(true),(by first|(with_reducible rfl)|(simp;done)|(simp [*];done)|rfl|(simp only [not_isEmpty_bne])),H',⟨by first|omega|exact Nat.le_refl _⟩,⟨by repeat (first|(with_reducible first|exact HB.out|apply zl1|apply zl2|apply zl3)|exact HB.out)⟩⟩
   ·rw [if_neg c11] at H
    have c11b0:(t310 == 0)=false:=beq_eq_false_iff_ne.mpr c11
    have c11b1:(t310 != 0)=true:=bne_iff_ne.mpr c11
    (first|rw [c11b0]|(simp only [i64_w,i32_w];rw [c11b0])|skip)
    have H':=Aside0.mk H
    clear H
    go_wp2
    go_meet
    case rel=>exact ⟨_,(false),(by first|(with_reducible rfl)|(simp;done)|(simp [*];done)|rfl|(simp only [not_isEmpty_bne])),H',⟨by first|omega|exact Nat.le_refl _⟩,⟨by repeat (first|(with_reducible first|exact HB.out|apply zl1|apply zl2|apply zl3)|exact HB.out)⟩⟩
  case rest =>
   clear HC7
   try clear c1
   try clear p2
   try clear c4
   try clear c5
   try clear c8
   try clear c9
   try clear c11
   try clear c11b0
   try clear c11b1
   try clear c12
   try clear c12b0
   try clear c12b1
   obtain ⟨kq,x36_6,rfl,HA,HJ6,HB⟩:=hcut
   cases kq with
   | zero=>exact absurd HA.out (by simp [factotumlaw13_CodeBack.j0])
   | succ kj6 =>
    have H:=HA.out
    clear HA
    simp only [factotumlaw13_CodeBack.j0] at H
    by_cases c15:x36_6=true
    ·subst c15
     have H1:(none)=some r:=by rw [if_pos rfl] at H;exact H
     clear H
     have H:=H1
     clear H1
     exact absurd H (by simp)
    ·replace c15:=Bool.eq_false_iff.mpr c15
     subst c15
     have H1:((code_Read.f kj6 a1).bind fun bt316=>((code_Write.f kj6 bt316.1).bind fun bt320=>(if bt316.2=0 then (if bt320.2=0 then (some (bt320.1.toList == a1.toList)) else (none)) else (some true))))=some r:=by rw [if_neg (show ¬ (false=true) by decide)] at H;exact H
     clear H
     have H:=H1
     clear H1
     replace H:=Option.bind_eq_some_iff.mp H
     obtain ⟨⟨t316,t317⟩,A160,H⟩:=H
     replace H:((code_Write.f kj6 t316).bind fun bt320=>(if t317=0 then (if bt320.2=0 then (some (bt320.1.toList == a1.toList)) else (none)) else (some true)))=some r:=H
     have A16:=Aside0.mk A160
     clear A160
     replace H:=Option.bind_eq_some_iff.mp H
     obtain ⟨⟨t320,t321⟩,A170,H⟩:=H
     replace H:(if t317=0 then (if t321=0 then (some (t320.toList == a1.toList)) else (none)) else (some true))=some r:=H
     have A17:=Aside0.mk A170
     clear A170
     by_cases c18:t317=0
     ·rw [if_pos c18] at H
      have c18b0:(t317 == 0)=true:=beq_iff_eq.mpr c18
      have c18b1:(t317 != 0)=false:=bne_eq_false_iff_eq.mpr c18
      clear c18
      by_cases c19:t321=0
      ·rw [if_pos c19] at H
       have c19b0:(t321 == 0)=true:=beq_iff_eq.mpr c19
       have c19b1:(t321 != 0)=false:=bne_eq_false_iff_eq.mpr c19
       clear c19
       obtain rfl:=Option.some.inj H
       go_wp2_with (first|((with_reducible refine gate_callee (f:=11) rfl ?_);refine goesL_ (some 39) rfl rfl Tryd.func11 (by kernel_rfl) rfl #[.string a1] rfl (by (try simp only [List.map_toArray,List.map_cons,List.map_nil]);first|done|rfl|(simp only [List.length_drop,List.length_take];rfl)|(simp (disch:=omega) only [u64_in];rfl)) ?_;(with_reducible refine (code_Read.calls kj6 a1 t316 t317 _ A16.out).mono ?_);rintro e w20 ⟨v318,rfl,ho0,hb⟩;refine ⟨_,rfl,?_⟩;have HO319:=Aside0.mk (Kd.R_lower ho0 (below_size (by repeat (first|(with_reducible first|exact HB.out|apply zl1|apply zl2|apply zl3)|exact HB.out))));replace HB:=Aside0.mk (below_step (by repeat (first|(with_reducible first|exact HB.out|apply zl1|apply zl2|apply zl3)|exact HB.out)) hb);(try clear hb);(try clear ho0);obtain ⟨Ao21,co21,eo21⟩:=Kd.R_slice HO319.out;subst eo21)|((with_reducible refine gate_callee (f:=9) rfl ?_);refine goesL_ (some 44) rfl rfl Tryd.func9 (by kernel_rfl) rfl #[.slice Ao21 t316.length co21] rfl (by (try simp only [List.map_toArray,List.map_cons,List.map_nil]);first|done|rfl|(simp only [List.length_drop,List.length_take];rfl)|(simp (disch:=omega) only [u64_in];rfl)) ?_;(with_reducible refine (code_Write.calls kj6 _ _ t316 t320 t321 _ ?side1 ?side2 A17.out).mono ?_);(case side1=>repeat (first|exact (Kd.R_reads' HO319.out).2.2|(with_reducible refine Kd.C_alloc ?_ _)|(with_reducible refine Kd.C_drewN ?_ _)|(with_reducible refine Kd.C_drew ?_)));(case side2=>exact (Kd.R_reads' HO319.out).2.1);rintro e w22 ⟨rfl,hb⟩;refine ⟨_,rfl,?_⟩;replace HO319:=Aside0.mk (Kd.R_below (by (with_reducible repeat (first|apply zk1|apply zk2|apply zk3));exact HO319.out) hb);replace HB:=Aside0.mk (below_step (by repeat (first|(with_reducible first|exact HB.out|apply zl1|apply zl2|apply zl3)|exact HB.out)) hb);(try clear hb)))
       go_ret
       exact ⟨by first|(with_reducible rfl)|(simp only [isEmpty_bne,Bool.not_not] <;> rfl)|rfl|(simp [*,errW_none,errW_some] <;> rfl),by repeat (first|(with_reducible first|exact HB.out|apply zl1|apply zl2|apply zl3)|exact HB.out)⟩
      ·rw [if_neg c19] at H
       exact absurd H (by simp)
     ·rw [if_neg c18] at H
      have c18b0:(t317 == 0)=false:=beq_eq_false_iff_ne.mpr c18
      have c18b1:(t317 != 0)=true:=bne_iff_ne.mpr c18
      obtain rfl:=Option.some.inj H
      go_wp2_with (first|((with_reducible refine gate_callee (f:=11) rfl ?_);refine goesL_ (some 39) rfl rfl Tryd.func11 (by kernel_rfl) rfl #[.string a1] rfl (by (try simp only [List.map_toArray,List.map_cons,List.map_nil]);first|done|rfl|(simp only [List.length_drop,List.length_take];rfl)|(simp (disch:=omega) only [u64_in];rfl)) ?_;(with_reducible refine (code_Read.calls kj6 a1 t316 t317 _ A16.out).mono ?_);rintro e w23 ⟨v318,rfl,ho0,hb⟩;refine ⟨_,rfl,?_⟩;have HO319:=Aside0.mk (Kd.R_lower ho0 (below_size (by repeat (first|(with_reducible first|exact HB.out|apply zl1|apply zl2|apply zl3)|exact HB.out))));replace HB:=Aside0.mk (below_step (by repeat (first|(with_reducible first|exact HB.out|apply zl1|apply zl2|apply zl3)|exact HB.out)) hb);(try clear hb);(try clear ho0);obtain ⟨Ao24,co24,eo24⟩:=Kd.R_slice HO319.out;subst eo24)|((with_reducible refine gate_callee (f:=9) rfl ?_);refine goesL_ (some 44) rfl rfl Tryd.func9 (by kernel_rfl) rfl #[.slice Ao24 t316.length co24] rfl (by (try simp only [List.map_toArray,List.map_cons,List.map_nil]);first|done|rfl|(simp only [List.length_drop,List.length_take];rfl)|(simp (disch:=omega) only [u64_in];rfl)) ?_;(with_reducible refine (code_Write.calls kj6 _ _ t316 t320 t321 _ ?side1 ?side2 A17.out).mono ?_);(case side1=>repeat (first|exact (Kd.R_reads' HO319.out).2.2|(with_reducible refine Kd.C_alloc ?_ _)|(with_reducible refine Kd.C_drewN ?_ _)|(with_reducible refine Kd.C_drew ?_)));(case side2=>exact (Kd.R_reads' HO319.out).2.1);rintro e w25 ⟨rfl,hb⟩;refine ⟨_,rfl,?_⟩;replace HO319:=Aside0.mk (Kd.R_below (by (with_reducible repeat (first|apply zk1|apply zk2|apply zk3));exact HO319.out) hb);replace HB:=Aside0.mk (below_step (by repeat (first|(with_reducible first|exact HB.out|apply zl1|apply zl2|apply zl3)|exact HB.out)) hb);(try clear hb)))
      go_ret
      exact ⟨by first|(with_reducible rfl)|(simp only [isEmpty_bne,Bool.not_not] <;> rfl)|rfl|(simp [*,errW_none,errW_some] <;> rfl),by repeat (first|(with_reducible first|exact HB.out|apply zl1|apply zl2|apply zl3)|exact HB.out)⟩
 ·replace c4:=Bool.eq_false_iff.mpr c4
  subst c4
  have H1:(none)=some r:=by rw [if_neg (show ¬ (false=true) by decide)] at H;exact H
  clear H
  have H:=H1
  clear H1
  exact absurd H (by simp)

end Go.Proofs.YtljfichnlgfikaaDoor.PAll
