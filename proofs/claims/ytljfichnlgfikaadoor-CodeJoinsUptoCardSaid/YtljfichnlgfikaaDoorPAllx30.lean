/- Printed walks of the functions that the laws reach: each function, what it computes, and that it does. No conditions. -/
import Derived.Test.YtljfichnlgfikaaDoorPAllx0
import Derived.Test.YtljfichnlgfikaaDoorPAllx9
import Derived.Test.YtljfichnlgfikaaDoorPAllx12
import Derived.Test.YtljfichnlgfikaaDoorPAllx14
import Derived.Test.YtljfichnlgfikaaDoorPAllx27
namespace Go.Proofs.YtljfichnlgfikaaDoor.PAll
open Go.RowKit Go.Proofs.YtljfichnlgfikaaDoor.XW Go.Proofs.YtljfichnlgfikaaDoor.XLib Go.Proofs.YtljfichnlgfikaaDoorW.PrintWords Go.Proofs.YtljfichnlgfikaaDoorW.PrintLast Go.Proofs.YtljfichnlgfikaaDoorW.PrintMore
attribute [local go_sem] max2_int min2_int max_two min_two max_three min_three max_four min_four   -- for this text's walks alone
set_option linter.unusedVariables false
set_option linter.unusedSimpArgs false

/-! ### factotumlaw13_CodeJoins: function 7 -/
def factotumlaw13_CodeJoins.j0:Nat→List (S42)→List (S42)→Int→ByteArray→ByteArray→Bool→Option (Bool)
 | 0,_,_,_,_,_,_=>none
 | k + 1,x0,x1,x2,x7,x9,x34=>if x34=true then (some true) else (if x7.size + x9.size≤9223372036854775807 then ((code_Read.f k (x7 ++ x9)).bind fun bt335=>(if (wrap64 ((x0.length:Int) + (x1.length:Int))) > 64 then (some (bt335.2 == 3)) else (if (IntKind.u64.wrap (wrap64 ((x7.size:Int) + 1)))=0 then (none) else (if 0≤(wrap64 (Int.tmod (IntKind.u64.wrap (x2)) (IntKind.u64.wrap (wrap64 ((x7.size:Int) + 1))))) then (if (wrap64 (Int.tmod (IntKind.u64.wrap (x2)) (IntKind.u64.wrap (wrap64 ((x7.size:Int) + 1)))))≤(x7.size:Int) then ((code_Read.f k (x7.extract 0 ((wrap64 (Int.tmod (IntKind.u64.wrap (x2)) (IntKind.u64.wrap (wrap64 ((x7.size:Int) + 1))))):Int).toNat)).bind fun bt339=>(if bt339.2=0 then (if (bt339.1.length:Int)≤(x0.length:Int) then (if 0≤(mn (bt339.1.length:Int) (x0.length:Int)) then (if (mn (bt339.1.length:Int) (x0.length:Int))≤(x0.length:Int) then ((factotumref13_Same.f k bt339.1 (x0.take ((mn (bt339.1.length:Int) (x0.length:Int)):Int).toNat)).bind fun t347=>(if bt335.2=0 then (if ([]:List (S42)).length + x0.length < 2199023255552 then ((some (([]:List (S42)) ++ x0:List (S42))).bind fun y348=>(if y348.length + x1.length < 2199023255552 then ((factotumref13_Same.f k bt335.1 (y348 ++ x1)).bind fun t354=>(if t354=true then (if t347=true then (some true) else (if bt339.2=2 then (some (decide ((wrap64 (Int.tmod (IntKind.u64.wrap (x2)) (IntKind.u64.wrap (wrap64 ((x7.size:Int) + 1))))) < (x7.size:Int)))) else (none))) else (none))) else (none))) else (none)) else (none))) else (none)) else (none)) else (if bt335.2=0 then (if ([]:List (S42)).length + x0.length < 2199023255552 then ((some (([]:List (S42)) ++ x0:List (S42))).bind fun y355=>(if y355.length + x1.length < 2199023255552 then ((factotumref13_Same.f k bt335.1 (y355 ++ x1)).bind fun t361=>(if t361=true then (if bt339.2=2 then (some (decide ((wrap64 (Int.tmod (IntKind.u64.wrap (x2)) (IntKind.u64.wrap (wrap64 ((x7.size:Int) + 1))))) < (x7.size:Int)))) else (none)) else (none))) else (none))) else (none)) else (none))) else (if bt335.2=0 then (if ([]:List (S42)).length + x0.length < 2199023255552 then ((some (([]:List (S42)) ++ x0:List (S42))).bind fun y362=>(if y362.length + x1.length < 2199023255552 then ((factotumref13_Same.f k bt335.1 (y362 ++ x1)).bind fun t368=>(if t368=true then (if bt339.2=2 then (some (decide ((wrap64 (Int.tmod (IntKind.u64.wrap (x2)) (IntKind.u64.wrap (wrap64 ((x7.size:Int) + 1))))) < (x7.size:Int)))) else (none)) else (none))) else (none))) else (none)) else (none)))) else (none)) else (none))))) else (none))
def factotumlaw13_CodeJoins.f (k:Nat) (l0:List (S42)) (l1:List (S42)) (a2:Int):Option (Bool):=(factotumlaw13_lives.f k).bind fun t330=>(if t330=true then ((code_Write.f k l0).bind fun bt331=>((code_Write.f k l1).bind fun bt333=>(if bt331.2=0 then (factotumlaw13_CodeJoins.j0 k l0 l1 a2 bt331.1 bt333.1 (bt333.2 != 0)) else (factotumlaw13_CodeJoins.j0 k l0 l1 a2 bt331.1 bt333.1 true)))) else (none))
theorem factotumlaw13_CodeJoins.mono_l:∀ k,(∀ y0 y1 y2 y3 y4 y5,LeO (factotumlaw13_CodeJoins.j0 k y0 y1 y2 y3 y4 y5) (factotumlaw13_CodeJoins.j0 (k + 1) y0 y1 y2 y3 y4 y5))
 | 0=>fun _ _ _ _ _ _ r h=>by simp [factotumlaw13_CodeJoins.j0] at h
 | k + 1=>by
  have ih0:=factotumlaw13_CodeJoins.mono_l k
  ·intro y0 y1 y2 y3 y4 y5
   unfold factotumlaw13_CodeJoins.j0
   repeat' first
   | (with_reducible exact ih0 _ _ _ _ _ _)
   | (with_reducible exact code_Read.mono _ _)
   | (with_reducible exact code_Write.mono _ _)
   | (with_reducible exact factotumlaw13_lives.mono _)
   | (with_reducible exact factotumref13_Same.mono _ _ _)
   | (with_reducible exact LeO.refl _)
   | (with_reducible exact LeO.none _)
   | (with_reducible refine LeO.ite ?_ ?_)
   | (with_reducible refine LeO.bind ?_ (fun _=>?_))
   | exact ih0 _ _ _ _ _ _
   | exact code_Read.mono _ _
   | exact code_Write.mono _ _
   | exact factotumlaw13_lives.mono _
   | exact factotumref13_Same.mono _ _ _
   | exact LeO.none _
   | refine LeO.ite ?_ ?_
   | refine LeO.bind ?_ (fun _=>?_)
theorem factotumlaw13_CodeJoins.mono:∀ a0 a1 a2 k,LeO (factotumlaw13_CodeJoins.f k a0 a1 a2) (factotumlaw13_CodeJoins.f (k + 1) a0 a1 a2):=by
 intro a0 a1 a2 k
 have ih0:=factotumlaw13_CodeJoins.mono_l k
 unfold factotumlaw13_CodeJoins.f
 repeat' first
   | (with_reducible exact ih0 _ _ _ _ _ _)
   | (with_reducible exact code_Read.mono _ _)
   | (with_reducible exact code_Write.mono _ _)
   | (with_reducible exact factotumlaw13_lives.mono _)
   | (with_reducible exact factotumref13_Same.mono _ _ _)
   | (with_reducible exact LeO.refl _)
   | (with_reducible exact LeO.none _)
   | (with_reducible refine LeO.ite ?_ ?_)
   | (with_reducible refine LeO.bind ?_ (fun _=>?_))
   | exact ih0 _ _ _ _ _ _
   | exact code_Read.mono _ _
   | exact code_Write.mono _ _
   | exact factotumlaw13_lives.mono _
   | exact factotumref13_Same.mono _ _ _
   | exact LeO.none _
   | refine LeO.ite ?_ ?_
   | refine LeO.bind ?_ (fun _=>?_)
set_option maxHeartbeats 8000000 in
set_option maxRecDepth 100000 in
theorem factotumlaw13_CodeJoins.calls (k:Nat) (A0:Option Addr) (c0:Nat) (l0:List (S42)) (A1:Option Addr) (c1:Nat) (l1:List (S42)) (a2:Int) (r:Bool) (w:World) (hr0:Kd.C k42 w A0 l0.length l0) (hc0:l0.length≤c0) (hr1:Kd.C k42 w A1 l1.length l1) (hc1:l1.length≤c1) (h:factotumlaw13_CodeJoins.f k l0 l1 a2=some r) :
  Calls Tryd.prog 7 #[.slice A0 l0.length c0,.slice A1 l1.length c1,.int .i64 a2] w fun e w'=>e=.returned (.bool r)∧Below w.heap.size w w':=by
 have HR0:=Aside0.mk hr0
 have HC0:=Aside0.mk hc0
 clear hr0 hc0
 have HR1:=Aside0.mk hr1
 have HC1:=Aside0.mk hc1
 clear hr1 hc1
 have HB:=Aside0.mk (Below.refl w.heap.size w)
 have H:((factotumlaw13_lives.f k).bind fun t330=>(if t330=true then ((code_Write.f k l0).bind fun bt331=>((code_Write.f k l1).bind fun bt333=>(if bt331.2=0 then (factotumlaw13_CodeJoins.j0 k l0 l1 a2 bt331.1 bt333.1 (bt333.2 != 0)) else (factotumlaw13_CodeJoins.j0 k l0 l1 a2 bt331.1 bt333.1 true)))) else (none)))=some r:=h
 clear h
 replace H:=Option.bind_eq_some_iff.mp H
 obtain ⟨t330,A40,H⟩:=H
 replace H:(if t330=true then ((code_Write.f k l0).bind fun bt331=>((code_Write.f k l1).bind fun bt333=>(if bt331.2=0 then (factotumlaw13_CodeJoins.j0 k l0 l1 a2 bt331.1 bt333.1 (bt333.2 != 0)) else (factotumlaw13_CodeJoins.j0 k l0 l1 a2 bt331.1 bt333.1 true)))) else (none))=some r:=H
 have A4:=Aside0.mk A40
 clear A40
 by_cases c5:t330=true
 ·subst c5
  have H1:((code_Write.f k l0).bind fun bt331=>((code_Write.f k l1).bind fun bt333=>(if bt331.2=0 then (factotumlaw13_CodeJoins.j0 k l0 l1 a2 bt331.1 bt333.1 (bt333.2 != 0)) else (factotumlaw13_CodeJoins.j0 k l0 l1 a2 bt331.1 bt333.1 true))))=some r:=by rw [if_pos rfl] at H;exact H
  clear H
  have H:=H1
  clear H1
  replace H:=Option.bind_eq_some_iff.mp H
  obtain ⟨⟨t331,t332⟩,A60,H⟩:=H
  replace H:((code_Write.f k l1).bind fun bt333=>(if t332=0 then (factotumlaw13_CodeJoins.j0 k l0 l1 a2 t331 bt333.1 (bt333.2 != 0)) else (factotumlaw13_CodeJoins.j0 k l0 l1 a2 t331 bt333.1 true)))=some r:=H
  have A6:=Aside0.mk A60
  clear A60
  replace H:=Option.bind_eq_some_iff.mp H
  obtain ⟨⟨t333,t334⟩,A70,H⟩:=H
  replace H:(if t332=0 then (factotumlaw13_CodeJoins.j0 k l0 l1 a2 t331 t333 (t334 != 0)) else (factotumlaw13_CodeJoins.j0 k l0 l1 a2 t331 t333 true))=some r:=H
  have A7:=Aside0.mk A70
  clear A70
  have HC8:=Aside0.mk H
  clear H
  go_enter Tryd.func7,Tryd.ntmps7
  go_upto_region 5 with (first|((with_reducible refine gate_callee (f:=8) rfl ?_);refine goesL_ (some 17) rfl rfl Tryd.func8 (by kernel_rfl) rfl #[] rfl (by (try simp only [List.map_toArray,List.map_cons,List.map_nil]);first|done|rfl|(simp only [List.length_drop,List.length_take];rfl)|(simp (disch:=omega) only [u64_in];rfl)) ?_;(with_reducible refine (factotumlaw13_lives.calls k  true _ A4.out).mono ?_);rintro e w9 ⟨rfl,hb⟩;refine ⟨_,rfl,?_⟩;replace HB:=Aside0.mk (below_step (by repeat (first|(with_reducible first|exact HB.out|apply zl1|apply zl2|apply zl3)|exact HB.out)) hb);(try clear hb))|((with_reducible refine gate_callee (f:=9) rfl ?_);refine goesL_ (some 21) rfl rfl Tryd.func9 (by kernel_rfl) rfl #[.slice A0 l0.length c0] rfl (by (try simp only [List.map_toArray,List.map_cons,List.map_nil]);first|done|rfl|(simp only [List.length_drop,List.length_take];rfl)|(simp (disch:=omega) only [u64_in];rfl)) ?_;(with_reducible refine (code_Write.calls k _ _ l0 t331 t332 _ ?side1 ?side2 A6.out).mono ?_);(case side1=>repeat (first|exact (Kd.C_below HR0.out HB.out)|(with_reducible refine Kd.C_alloc ?_ _)|(with_reducible refine Kd.C_drewN ?_ _)|(with_reducible refine Kd.C_drew ?_)));(case side2=>exact HC0.out);rintro e w10 ⟨rfl,hb⟩;refine ⟨_,rfl,?_⟩;replace HB:=Aside0.mk (below_step (by repeat (first|(with_reducible first|exact HB.out|apply zl1|apply zl2|apply zl3)|exact HB.out)) hb);(try clear hb))|((with_reducible refine gate_callee (f:=9) rfl ?_);refine goesL_ (some 26) rfl rfl Tryd.func9 (by kernel_rfl) rfl #[.slice A1 l1.length c1] rfl (by (try simp only [List.map_toArray,List.map_cons,List.map_nil]);first|done|rfl|(simp only [List.length_drop,List.length_take];rfl)|(simp (disch:=omega) only [u64_in];rfl)) ?_;(with_reducible refine (code_Write.calls k _ _ l1 t333 t334 _ ?side1 ?side2 A7.out).mono ?_);(case side1=>repeat (first|exact (Kd.C_below HR1.out HB.out)|(with_reducible refine Kd.C_alloc ?_ _)|(with_reducible refine Kd.C_drewN ?_ _)|(with_reducible refine Kd.C_drew ?_)));(case side2=>exact HC1.out);rintro e w11 ⟨rfl,hb⟩;refine ⟨_,rfl,?_⟩;replace HB:=Aside0.mk (below_step (by repeat (first|(with_reducible first|exact HB.out|apply zl1|apply zl2|apply zl3)|exact HB.out)) hb);(try clear hb)))
  (try simp only [Act.put,List.setIfInBounds_toArray,List.set_cons_zero,List.set_cons_succ])
  go_cut [34] (fun v34 wc=>∃ (kq:Nat) (x34_7:Bool),v34=.bool x34_7∧Aside0 (factotumlaw13_CodeJoins.j0 kq l0 l1 a2 t331 t333 x34_7=some r)∧Aside0 (kq≤k)∧Aside0 (Below w.heap.size w wc))
  case first =>
   have H:=HC8.out
   clear HC8
   by_cases c12:t332=0
   ·rw [if_pos c12] at H
    have c12b0:(t332 == 0)=true:=beq_iff_eq.mpr c12
    have c12b1:(t332 != 0)=false:=bne_eq_false_iff_eq.mpr c12
    clear c12
    (first|rw [c12b0]|(simp only [i64_w,i32_w];rw [c12b0])|skip)
    have H':=Aside0.mk H
    clear H
    go_wp2
    go_meet
    case rel=>exact ⟨_,((t334 != 0)),(by first|(with_reducible rfl)|(simp;done)|(simp [*];done)|rfl|(simp only [not_isEmpty_bne])),H',⟨by first|omega|exact Nat.le_refl _⟩,⟨by repeat (first|(with_reducible first|exact HB.out|apply zl1|apply zl2|apply zl3)|exact HB.out)⟩⟩
   ·rw [if_neg c12] at H
    have c12b0:(t332 == 0)=false:=beq_eq_false_iff_ne.mpr c12
    have c12b1:(t332 != 0)=true:=bne_iff_ne.mpr c12
    (first|rw [c12b0]|(simp only [i64_w,i32_w];rw [c12b0])|skip)
    have H':=Aside0.mk H
    clear H
    go_wp2
    go_meet
    case rel=>exact ⟨_,(true),(by first|(with_reducible rfl)|(simp;done)|(simp [*];done)|rfl|(simp only [not_isEmpty_bne])),H',⟨by first|omega|exact Nat.le_refl _⟩,⟨by repeat (first|(with_reducible first|exact HB.out|apply zl1|apply zl2|apply zl3)|exact HB.out)⟩⟩
  case rest =>
   clear HC8
   try clear c1
   try clear p2
   try clear c5
   try clear c7
   try clear c8
   try clear c9
   try clear c12
   try clear c12b0
   try clear c12b1
   obtain ⟨kq,x34_7,rfl,HA,HJ7,HB⟩:=hcut
   cases kq with
   | zero=>exact absurd HA.out (by simp [factotumlaw13_CodeJoins.j0])
   | succ kj7 =>
    have H:=HA.out
    clear HA
    simp only [factotumlaw13_CodeJoins.j0] at H
    by_cases c13:x34_7=true
    ·subst c13
     have H1:(some true)=some r:=by rw [if_pos rfl] at H;exact H
     clear H
     have H:=H1
     clear H1
     obtain rfl:=Option.some.inj H
     go_wp2
     go_ret
     exact ⟨by first|(with_reducible rfl)|(simp only [isEmpty_bne,Bool.not_not] <;> rfl)|rfl|(simp [*,errW_none,errW_some] <;> rfl),by repeat (first|(with_reducible first|exact HB.out|apply zl1|apply zl2|apply zl3)|exact HB.out)⟩
    ·replace c13:=Bool.eq_false_iff.mpr c13
     subst c13
     have H1:(if t331.size + t333.size≤9223372036854775807 then ((code_Read.f kj7 (t331 ++ t333)).bind fun bt335=>(if (wrap64 ((l0.length:Int) + (l1.length:Int))) > 64 then (some (bt335.2 == 3)) else (if (IntKind.u64.wrap (wrap64 ((t331.size:Int) + 1)))=0 then (none) else (if 0≤(wrap64 (Int.tmod (IntKind.u64.wrap (a2)) (IntKind.u64.wrap (wrap64 ((t331.size:Int) + 1))))) then (if (wrap64 (Int.tmod (IntKind.u64.wrap (a2)) (IntKind.u64.wrap (wrap64 ((t331.size:Int) + 1)))))≤(t331.size:Int) then ((code_Read.f kj7 (t331.extract 0 ((wrap64 (Int.tmod (IntKind.u64.wrap (a2)) (IntKind.u64.wrap (wrap64 ((t331.size:Int) + 1))))):Int).toNat)).bind fun bt339=>(if bt339.2=0 then (if (bt339.1.length:Int)≤(l0.length:Int) then (if 0≤(mn (bt339.1.length:Int) (l0.length:Int)) then (if (mn (bt339.1.length:Int) (l0.length:Int))≤(l0.length:Int) then ((factotumref13_Same.f kj7 bt339.1 (l0.take ((mn (bt339.1.length:Int) (l0.length:Int)):Int).toNat)).bind fun t347=>(if bt335.2=0 then (if ([]:List (S42)).length + l0.length < 2199023255552 then ((some (([]:List (S42)) ++ l0:List (S42))).bind fun y348=>(if y348.length + l1.length < 2199023255552 then ((factotumref13_Same.f kj7 bt335.1 (y348 ++ l1)).bind fun t354=>(if t354=true then (if t347=true then (some true) else (if bt339.2=2 then (some (decide ((wrap64 (Int.tmod (IntKind.u64.wrap (a2)) (IntKind.u64.wrap (wrap64 ((t331.size:Int) + 1))))) < (t331.size:Int)))) else (none))) else (none))) else (none))) else (none)) else (none))) else (none)) else (none)) else (if bt335.2=0 then (if ([]:List (S42)).length + l0.length < 2199023255552 then ((some (([]:List (S42)) ++ l0:List (S42))).bind fun y355=>(if y355.length + l1.length < 2199023255552 then ((factotumref13_Same.f kj7 bt335.1 (y355 ++ l1)).bind fun t361=>(if t361=true then (if bt339.2=2 then (some (decide ((wrap64 (Int.tmod (IntKind.u64.wrap (a2)) (IntKind.u64.wrap (wrap64 ((t331.size:Int) + 1))))) < (t331.size:Int)))) else (none)) else (none))) else (none))) else (none)) else (none))) else (if bt335.2=0 then (if ([]:List (S42)).length + l0.length < 2199023255552 then ((some (([]:List (S42)) ++ l0:List (S42))).bind fun y362=>(if y362.length + l1.length < 2199023255552 then ((factotumref13_Same.f kj7 bt335.1 (y362 ++ l1)).bind fun t368=>(if t368=true then (if bt339.2=2 then (some (decide ((wrap64 (Int.tmod (IntKind.u64.wrap (a2)) (IntKind.u64.wrap (wrap64 ((t331.size:Int) + 1))))) < (t331.size:Int)))) else (none)) else (none))) else (none))) else (none)) else (none)))) else (none)) else (none))))) else (none))=some r:=by rw [if_neg (show ¬ (false=true) by decide)] at H;exact H
     clear H
     have H:=H1
     clear H1
     by_cases c14:t331.size + t333.size≤9223372036854775807
     ·rw [if_pos c14] at H
      have c14b0:=eq_true c14
      have c14b1:decide (t331.size + t333.size≤9223372036854775807)=true:=decide_eq_true c14
      try have c14b2:(9223372036854775807 < t331.size + t333.size)=False:=eq_false (Nat.not_lt.2 c14)
      replace H:=Option.bind_eq_some_iff.mp H
      obtain ⟨⟨t335,t336⟩,A150,H⟩:=H
      replace H:(if (wrap64 ((l0.length:Int) + (l1.length:Int))) > 64 then (some (t336 == 3)) else (if (IntKind.u64.wrap (wrap64 ((t331.size:Int) + 1)))=0 then (none) else (if 0≤(wrap64 (Int.tmod (IntKind.u64.wrap (a2)) (IntKind.u64.wrap (wrap64 ((t331.size:Int) + 1))))) then (if (wrap64 (Int.tmod (IntKind.u64.wrap (a2)) (IntKind.u64.wrap (wrap64 ((t331.size:Int) + 1)))))≤(t331.size:Int) then ((code_Read.f kj7 (t331.extract 0 ((wrap64 (Int.tmod (IntKind.u64.wrap (a2)) (IntKind.u64.wrap (wrap64 ((t331.size:Int) + 1))))):Int).toNat)).bind fun bt339=>(if bt339.2=0 then (if (bt339.1.length:Int)≤(l0.length:Int) then (if 0≤(mn (bt339.1.length:Int) (l0.length:Int)) then (if (mn (bt339.1.length:Int) (l0.length:Int))≤(l0.length:Int) then ((factotumref13_Same.f kj7 bt339.1 (l0.take ((mn (bt339.1.length:Int) (l0.length:Int)):Int).toNat)).bind fun t347=>(if t336=0 then (if ([]:List (S42)).length + l0.length < 2199023255552 then ((some (([]:List (S42)) ++ l0:List (S42))).bind fun y348=>(if y348.length + l1.length < 2199023255552 then ((factotumref13_Same.f kj7 t335 (y348 ++ l1)).bind fun t354=>(if t354=true then (if t347=true then (some true) else (if bt339.2=2 then (some (decide ((wrap64 (Int.tmod (IntKind.u64.wrap (a2)) (IntKind.u64.wrap (wrap64 ((t331.size:Int) + 1))))) < (t331.size:Int)))) else (none))) else (none))) else (none))) else (none)) else (none))) else (none)) else (none)) else (if t336=0 then (if ([]:List (S42)).length + l0.length < 2199023255552 then ((some (([]:List (S42)) ++ l0:List (S42))).bind fun y355=>(if y355.length + l1.length < 2199023255552 then ((factotumref13_Same.f kj7 t335 (y355 ++ l1)).bind fun t361=>(if t361=true then (if bt339.2=2 then (some (decide ((wrap64 (Int.tmod (IntKind.u64.wrap (a2)) (IntKind.u64.wrap (wrap64 ((t331.size:Int) + 1))))) < (t331.size:Int)))) else (none)) else (none))) else (none))) else (none)) else (none))) else (if t336=0 then (if ([]:List (S42)).length + l0.length < 2199023255552 then ((some (([]:List (S42)) ++ l0:List (S42))).bind fun y362=>(if y362.length + l1.length < 2199023255552 then ((factotumref13_Same.f kj7 t335 (y362 ++ l1)).bind fun t368=>(if t368=true then (if bt339.2=2 then (some (decide ((wrap64 (Int.tmod (IntKind.u64.wrap (a2)) (IntKind.u64.wrap (wrap64 ((t331.size:Int) + 1))))) < (t331.size:Int)))) else (none)) else (none))) else (none))) else (none)) else (none)))) else (none)) else (none))))=some r:=H
      have A15:=Aside0.mk A150
      clear A150
      by_cases c16:(wrap64 ((l0.length:Int) + (l1.length:Int))) > 64
      ·rw [if_pos c16] at H
       have c16b0:decide (64 < (wrap64 ((l0.length:Int) + (l1.length:Int))))=true:=decide_eq_true c16
       clear c16
       obtain rfl:=Option.some.inj H
       go_wp2_with (first|((with_reducible refine gate_callee (f:=11) rfl ?_);refine goesL_ (some 39) rfl rfl Tryd.func11 (by kernel_rfl) rfl #[.string (t331 ++ t333)] rfl (by (try simp only [List.map_toArray,List.map_cons,List.map_nil]);first|done|rfl|(simp only [List.length_drop,List.length_take];rfl)|(simp (disch:=omega) only [u64_in];rfl)) ?_;(with_reducible refine (code_Read.calls kj7 (t331 ++ t333) t335 t336 _ A15.out).mono ?_);rintro e w17 ⟨v337,rfl,ho0,hb⟩;refine ⟨_,rfl,?_⟩;have HO338:=Aside0.mk (Kd.R_lower ho0 (below_size (by repeat (first|(with_reducible first|exact HB.out|apply zl1|apply zl2|apply zl3)|exact HB.out))));replace HB:=Aside0.mk (below_step (by repeat (first|(with_reducible first|exact HB.out|apply zl1|apply zl2|apply zl3)|exact HB.out)) hb);(try clear hb);(try clear ho0)))
       go_ret
       exact ⟨by first|(with_reducible rfl)|(simp only [isEmpty_bne,Bool.not_not] <;> rfl)|rfl|(simp [*,errW_none,errW_some] <;> rfl),by repeat (first|(with_reducible first|exact HB.out|apply zl1|apply zl2|apply zl3)|exact HB.out)⟩
      ·rw [if_neg c16] at H
       have c16b0:decide (64 < (wrap64 ((l0.length:Int) + (l1.length:Int))))=false:=decide_eq_false c16
       clear c16
       by_cases c18:(IntKind.u64.wrap (wrap64 ((t331.size:Int) + 1)))=0
       ·rw [if_pos c18] at H
        exact absurd H (by simp)
       ·rw [if_neg c18] at H
        have c18b0:((IntKind.u64.wrap (wrap64 ((t331.size:Int) + 1))) == 0)=false:=beq_eq_false_iff_ne.mpr c18
        have c18b1:((IntKind.u64.wrap (wrap64 ((t331.size:Int) + 1))) != 0)=true:=bne_iff_ne.mpr c18
        obtain ⟨ji19,hji19⟩:∃ j_:Int,(wrap64 (Int.tmod (IntKind.u64.wrap (a2)) (IntKind.u64.wrap (wrap64 ((t331.size:Int) + 1)))))=j_:=⟨_,rfl⟩
        replace H:(if 0≤(ji19) then (if (ji19)≤(t331.size:Int) then ((code_Read.f kj7 (t331.extract 0 ((ji19):Int).toNat)).bind fun bt339=>(if bt339.2=0 then (if (bt339.1.length:Int)≤(l0.length:Int) then (if 0≤(mn (bt339.1.length:Int) (l0.length:Int)) then (if (mn (bt339.1.length:Int) (l0.length:Int))≤(l0.length:Int) then ((factotumref13_Same.f kj7 bt339.1 (l0.take ((mn (bt339.1.length:Int) (l0.length:Int)):Int).toNat)).bind fun t347=>(if t336=0 then (if ([]:List (S42)).length + l0.length < 2199023255552 then ((some (([]:List (S42)) ++ l0:List (S42))).bind fun y348=>(if y348.length + l1.length < 2199023255552 then ((factotumref13_Same.f kj7 t335 (y348 ++ l1)).bind fun t354=>(if t354=true then (if t347=true then (some true) else (if bt339.2=2 then (some (decide ((ji19) < (t331.size:Int)))) else (none))) else (none))) else (none))) else (none)) else (none))) else (none)) else (none)) else (if t336=0 then (if ([]:List (S42)).length + l0.length < 2199023255552 then ((some (([]:List (S42)) ++ l0:List (S42))).bind fun y355=>(if y355.length + l1.length < 2199023255552 then ((factotumref13_Same.f kj7 t335 (y355 ++ l1)).bind fun t361=>(if t361=true then (if bt339.2=2 then (some (decide ((ji19) < (t331.size:Int)))) else (none)) else (none))) else (none))) else (none)) else (none))) else (if t336=0 then (if ([]:List (S42)).length + l0.length < 2199023255552 then ((some (([]:List (S42)) ++ l0:List (S42))).bind fun y362=>(if y362.length + l1.length < 2199023255552 then ((factotumref13_Same.f kj7 t335 (y362 ++ l1)).bind fun t368=>(if t368=true then (if bt339.2=2 then (some (decide ((ji19) < (t331.size:Int)))) else (none)) else (none))) else (none))) else (none)) else (none)))) else (none)) else (none))=some r:=by first|(rw [hji19] at H;exact H)|(simp only [hji19] at H ⊢;exact H)
        (try rw [hji19] at A15)
        have hji19w:(IntKind.i64.wrap (Int.tmod (IntKind.u64.wrap (a2)) (IntKind.u64.wrap (wrap64 ((t331.size:Int) + 1)))))=ji19:=(i64_w _).trans hji19
        by_cases c20:0≤(ji19)
        ·rw [if_pos c20] at H
         have c20b0:=eq_true c20
         have c20b1:decide (0≤(ji19))=true:=decide_eq_true c20
         clear c20
         by_cases c21:(ji19)≤(t331.size:Int)
         ·rw [if_pos c21] at H
          have c21b0:=eq_true c21
          have c21b1:decide ((ji19)≤(t331.size:Int))=true:=decide_eq_true c21
          clear c21
          replace H:=Option.bind_eq_some_iff.mp H
          obtain ⟨⟨t339,t340⟩,A220,H⟩:=H
          replace H:(if t340=0 then (if (t339.length:Int)≤(l0.length:Int) then (if 0≤(mn (t339.length:Int) (l0.length:Int)) then (if (mn (t339.length:Int) (l0.length:Int))≤(l0.length:Int) then ((factotumref13_Same.f kj7 t339 (l0.take ((mn (t339.length:Int) (l0.length:Int)):Int).toNat)).bind fun t347=>(if t336=0 then (if ([]:List (S42)).length + l0.length < 2199023255552 then ((some (([]:List (S42)) ++ l0:List (S42))).bind fun y348=>(if y348.length + l1.length < 2199023255552 then ((factotumref13_Same.f kj7 t335 (y348 ++ l1)).bind fun t354=>(if t354=true then (if t347=true then (some true) else (if t340=2 then (some (decide ((ji19) < (t331.size:Int)))) else (none))) else (none))) else (none))) else (none)) else (none))) else (none)) else (none)) else (if t336=0 then (if ([]:List (S42)).length + l0.length < 2199023255552 then ((some (([]:List (S42)) ++ l0:List (S42))).bind fun y355=>(if y355.length + l1.length < 2199023255552 then ((factotumref13_Same.f kj7 t335 (y355 ++ l1)).bind fun t361=>(if t361=true then (if t340=2 then (some (decide ((ji19) < (t331.size:Int)))) else (none)) else (none))) else (none))) else (none)) else (none))) else (if t336=0 then (if ([]:List (S42)).length + l0.length < 2199023255552 then ((some (([]:List (S42)) ++ l0:List (S42))).bind fun y362=>(if y362.length + l1.length < 2199023255552 then ((factotumref13_Same.f kj7 t335 (y362 ++ l1)).bind fun t368=>(if t368=true then (if t340=2 then (some (decide ((ji19) < (t331.size:Int)))) else (none)) else (none))) else (none))) else (none)) else (none)))=some r:=H
          have A22:=Aside0.mk A220
          clear A220
          by_cases c23:t340=0
          ·rw [if_pos c23] at H
           have c23b0:(t340 == 0)=true:=beq_iff_eq.mpr c23
           have c23b1:(t340 != 0)=false:=bne_eq_false_iff_eq.mpr c23
           clear c23
           by_cases c24:(t339.length:Int)≤(l0.length:Int)
           ·rw [if_pos c24] at H
            have c24b0:decide ((t339.length:Int)≤(l0.length:Int))=true:=decide_eq_true c24
            have c24b1:decide (t339.length≤l0.length)=true:=decide_eq_true (Int.ofNat_le.mp c24)
            clear c24
            obtain ⟨ji25,hji25⟩:∃ j_:Int,(mn (t339.length:Int) (l0.length:Int))=j_:=⟨_,rfl⟩
            replace H:(if 0≤(ji25) then (if (ji25)≤(l0.length:Int) then ((factotumref13_Same.f kj7 t339 (l0.take ((ji25):Int).toNat)).bind fun t347=>(if t336=0 then (if ([]:List (S42)).length + l0.length < 2199023255552 then ((some (([]:List (S42)) ++ l0:List (S42))).bind fun y348=>(if y348.length + l1.length < 2199023255552 then ((factotumref13_Same.f kj7 t335 (y348 ++ l1)).bind fun t354=>(if t354=true then (if t347=true then (some true) else (if t340=2 then (some (decide ((ji19) < (t331.size:Int)))) else (none))) else (none))) else (none))) else (none)) else (none))) else (none)) else (none))=some r:=by first|(rw [hji25] at H;exact H)|(simp only [hji25] at H ⊢;exact H)
            (try rw [hji25] at A15)
            (try rw [hji25] at A22)
            have hji25_:(if (l0.length:Int) < (t339.length:Int) then (l0.length:Int) else (t339.length:Int))=ji25:=hji25
            (try have hji25n:(if l0.length < t339.length then (l0.length:Int) else (t339.length:Int))=ji25:=by rw [← hji25_];simp only [Int.ofNat_lt])
            by_cases c26:0≤(ji25)
            ·rw [if_pos c26] at H
             have c26b0:=eq_true c26
             have c26b1:decide (0≤(ji25))=true:=decide_eq_true c26
             clear c26
             by_cases c27:(ji25)≤(l0.length:Int)
             ·rw [if_pos c27] at H
              have c27b0:=eq_true c27
              have c27b1:decide ((ji25)≤(l0.length:Int))=true:=decide_eq_true c27
              clear c27
              obtain ⟨y343,hy343⟩:∃ y_:List (S42),y_=(l0.take ((ji25):Int).toNat):=⟨_,rfl⟩
              replace H:((factotumref13_Same.f kj7 t339 y343).bind fun t347=>(if t336=0 then (if ([]:List (S42)).length + l0.length < 2199023255552 then ((some (([]:List (S42)) ++ l0:List (S42))).bind fun y348=>(if y348.length + l1.length < 2199023255552 then ((factotumref13_Same.f kj7 t335 (y348 ++ l1)).bind fun t354=>(if t354=true then (if t347=true then (some true) else (if t340=2 then (some (decide ((ji19) < (t331.size:Int)))) else (none))) else (none))) else (none))) else (none)) else (none)))=some r:=by first|(rw [hy343];with_reducible exact H)|(have H2_:=(Option.bind_some _ _).symm.trans H;rw [hy343];with_reducible exact H2_)|(have H2_:=(Option.bind_some _ _).symm.trans H;with_reducible exact H2_)|with_reducible exact H|(rw [hy343];exact H)|exact H
              have Ny343:=Aside0.mk hy343
              clear hy343
              replace H:=Option.bind_eq_some_iff.mp H
              obtain ⟨t347,A280,H⟩:=H
              replace H:(if t336=0 then (if ([]:List (S42)).length + l0.length < 2199023255552 then ((some (([]:List (S42)) ++ l0:List (S42))).bind fun y348=>(if y348.length + l1.length < 2199023255552 then ((factotumref13_Same.f kj7 t335 (y348 ++ l1)).bind fun t354=>(if t354=true then (if t347=true then (some true) else (if t340=2 then (some (decide ((ji19) < (t331.size:Int)))) else (none))) else (none))) else (none))) else (none)) else (none))=some r:=H
              have A28:=Aside0.mk A280
              clear A280
              by_cases c29:t336=0
              ·rw [if_pos c29] at H
               have c29b0:(t336 == 0)=true:=beq_iff_eq.mpr c29
               have c29b1:(t336 != 0)=false:=bne_eq_false_iff_eq.mpr c29
               clear c29
               by_cases c30:([]:List (S42)).length + l0.length < 2199023255552
               ·rw [if_pos c30] at H
                have LMc30:=Aside0.mk c30
                clear c30
                obtain ⟨y348,hy348⟩:∃ y_:List (S42),y_=(([]:List (S42)) ++ l0):=⟨_,rfl⟩
                replace H:(if y348.length + l1.length < 2199023255552 then ((factotumref13_Same.f kj7 t335 (y348 ++ l1)).bind fun t354=>(if t354=true then (if t347=true then (some true) else (if t340=2 then (some (decide ((ji19) < (t331.size:Int)))) else (none))) else (none))) else (none))=some r:=by first|(rw [hy348];with_reducible exact H)|(have H2_:=(Option.bind_some _ _).symm.trans H;rw [hy348];with_reducible exact H2_)|(have H2_:=(Option.bind_some _ _).symm.trans H;with_reducible exact H2_)|with_reducible exact H|(rw [hy348];exact H)|exact H
                have Ny348:=Aside0.mk hy348
                clear hy348
                by_cases c31:y348.length + l1.length < 2199023255552
                ·rw [if_pos c31] at H
                 have LMc31:=Aside0.mk c31
                 clear c31
                 obtain ⟨y351,hy351⟩:∃ y_:List (S42),y_=(y348 ++ l1):=⟨_,rfl⟩
                 replace H:((factotumref13_Same.f kj7 t335 y351).bind fun t354=>(if t354=true then (if t347=true then (some true) else (if t340=2 then (some (decide ((ji19) < (t331.size:Int)))) else (none))) else (none)))=some r:=by first|(rw [hy351];with_reducible exact H)|(have H2_:=(Option.bind_some _ _).symm.trans H;rw [hy351];with_reducible exact H2_)|(have H2_:=(Option.bind_some _ _).symm.trans H;with_reducible exact H2_)|with_reducible exact H|(rw [hy351];exact H)|exact H
                 have Ny351:=Aside0.mk hy351
                 clear hy351
                 replace H:=Option.bind_eq_some_iff.mp H
                 obtain ⟨t354,A320,H⟩:=H
                 replace H:(if t354=true then (if t347=true then (some true) else (if t340=2 then (some (decide ((ji19) < (t331.size:Int)))) else (none))) else (none))=some r:=H
                 have A32:=Aside0.mk A320
                 clear A320
                 by_cases c33:t354=true
                 ·subst c33
                  have H1:(if t347=true then (some true) else (if t340=2 then (some (decide ((ji19) < (t331.size:Int)))) else (none)))=some r:=by rw [if_pos rfl] at H;exact H
                  clear H
                  have H:=H1
                  clear H1
                  by_cases c34:t347=true
                  ·subst c34
                   have H1:(some true)=some r:=by rw [if_pos rfl] at H;exact H
                   clear H
                   have H:=H1
                   clear H1
                   obtain rfl:=Option.some.inj H
                   go_wp2_with (first|((with_reducible refine gate_callee (f:=11) rfl ?_);refine goesL_ (some 39) rfl rfl Tryd.func11 (by kernel_rfl) rfl #[.string (t331 ++ t333)] rfl (by (try simp only [List.map_toArray,List.map_cons,List.map_nil]);first|done|rfl|(simp only [List.length_drop,List.length_take];rfl)|(simp (disch:=omega) only [u64_in];rfl)) ?_;(with_reducible refine (code_Read.calls kj7 (t331 ++ t333) t335 t336 _ A15.out).mono ?_);rintro e w35 ⟨v337,rfl,ho0,hb⟩;refine ⟨_,rfl,?_⟩;have HO338:=Aside0.mk (Kd.R_lower ho0 (below_size (by repeat (first|(with_reducible first|exact HB.out|apply zl1|apply zl2|apply zl3)|exact HB.out))));replace HB:=Aside0.mk (below_step (by repeat (first|(with_reducible first|exact HB.out|apply zl1|apply zl2|apply zl3)|exact HB.out)) hb);(try clear hb);(try clear ho0))|((with_reducible refine gate_callee (f:=11) rfl ?_);refine goesL_ (some 62) rfl rfl Tryd.func11 (by kernel_rfl) rfl #[.string (t331.extract 0 ((ji19):Int).toNat)] rfl (by (try simp only [List.map_toArray,List.map_cons,List.map_nil]);first|done|(simp only [hji19];rfl)|rfl|(simp only [List.length_drop,List.length_take];rfl)|(simp (disch:=omega) only [u64_in];rfl)) ?_;(with_reducible refine (code_Read.calls kj7 (t331.extract 0 ((ji19):Int).toNat) t339 t340 _ A22.out).mono ?_);rintro e w36 ⟨v341,rfl,ho0,hb⟩;refine ⟨_,rfl,?_⟩;have HO342:=Aside0.mk (Kd.R_lower (Kd.R_new' ho0 (Kd.R_lt (by (with_reducible repeat (first|apply zk1|apply zk2|apply zk3));exact HO338.out))) (below_size (by repeat (first|(with_reducible first|exact HB.out|apply zl1|apply zl2|apply zl3)|exact HB.out))));replace HO338:=Aside0.mk (Kd.R_elder' (by (with_reducible repeat (first|apply zk1|apply zk2|apply zk3));exact HO338.out) (Kd.R_base ho0) hb);replace HB:=Aside0.mk (below_step (by repeat (first|(with_reducible first|exact HB.out|apply zl1|apply zl2|apply zl3)|exact HB.out)) hb);(try clear hb);(try clear ho0);obtain ⟨Ao37,co37,eo37⟩:=Kd.R_slice HO342.out;subst eo37;have q38:((ji25):Int)≤((l0.length:Int):Int):=of_decide_eq_true (by first|(with_reducible assumption)|assumption);obtain ⟨i038,hi038,_,hsz38,_⟩:=info_parts info42;have hroom38:l0.length≤c0:=HC0.out;have hC38:Kd.C k42 _ A0 l0.length l0:=HR0.out;have hcut38:=cut_to (P:=Tryd.prog) 22 42 .i64 Tryd.underlying22 hi038 A0 l0.length c0 (ji25) (of_decide_eq_true (by first|(with_reducible assumption)|assumption)) q38 hroom38;have hr38:=Kd.C_take (m:=((ji25):Int).toNat) hC38 (by omega);have hy38:y343.length=((ji25):Int).toNat:=(by rw [Ny343.out,List.length_take];omega);rw [← Ny343.out] at hr38;rw [← hy38] at hcut38;have HR346:=Aside0.mk hr38;have HC346:=Aside0.mk (show y343.length≤c0 from by omega);clear hr38 hC38 hroom38 hi038 hsz38;have KY38:=Aside0.mk hy38;clear hy38;replace q38:=eq_true q38)|(go_at_call 13;(with_reducible refine (factotumref13_Same.calls kj7 _ _ t339 _ _ y343 true _ ?side1 ?side2 ?side3 ?side4 A28.out).mono ?_);(case side1=>repeat (first|exact (Kd.R_reads' HO342.out).2.2|(with_reducible refine Kd.C_alloc ?_ _)|(with_reducible refine Kd.C_drewN ?_ _)|(with_reducible refine Kd.C_drew ?_)));(case side2=>exact (Kd.R_reads' HO342.out).2.1);(case side3=>repeat (first|exact (Kd.C_below HR346.out HB.out)|(with_reducible refine Kd.C_alloc ?_ _)|(with_reducible refine Kd.C_drewN ?_ _)|(with_reducible refine Kd.C_drew ?_)));(case side4=>exact HC346.out);rintro e w' ⟨rfl,⟨nd,rfl⟩⟩)|((with_reducible refine gate_builtin (b:=.append) (xs:=#[.const (.slice none 0 0),.tmp 89]) rfl ?_);(try (refine gate_guard (by rfl) ?_;dsimp only));at_builtin;refine Kd.R_append_rows k42 (w0:=w) w.heap.size rfl (.const (.slice none 0 0)) (.tmp 89) 22 42 (.agg #[(.int .i64 0),(.int .i64 0),(.int .i64 0),(.int .i64 0),(.int .i64 0),(.int .i64 0),(.string ⟨#[]⟩)]) 64 rfl Tryd.underlying22 info42 rfl (by decide) (by omega) (.slice none 0 0) ([]:List (S42)) l0 _ _ _ (fun k_=>some k_ ≠ (v337:Value).ownBlock∧some k_ ≠ (.slice Ao37 t339.length co37:Value).ownBlock) (fun _=>False) rfl rfl ?aO ?aR (fun _ _ h=>h) (fun _ h=>h.elim) ?aF ?aB ?aS ?aL ?_;(case aR=>repeat (first|exact (Kd.C_below HR0.out (by repeat (first|(with_reducible first|exact HB.out|apply zl1|apply zl2|apply zl3)|exact HB.out)))|(with_reducible refine Kd.C_alloc ?_ _)|(with_reducible refine Kd.C_drewN ?_ _)|(with_reducible refine Kd.C_drew ?_)));(case aB=>exact (by repeat (first|(with_reducible first|exact HB.out|apply zl1|apply zl2|apply zl3)|exact HB.out)));(case aF=>exact (fun k_ hk=>⟨Kd.fresh' (Kd.R_lt (by (with_reducible repeat (first|apply zk1|apply zk2|apply zk3));exact HO338.out)) k_ hk,Kd.fresh' (Kd.R_lt (by (with_reducible repeat (first|apply zk1|apply zk2|apply zk3));exact HO342.out)) k_ hk⟩));(case aO=>exact ((Kd.R_nil _ _ _ _ (fun k_=>some k_ ≠ (v337:Value).ownBlock∧some k_ ≠ (.slice Ao37 t339.length co37:Value).ownBlock))));(case aS=>exact (below_size (by repeat (first|(with_reducible first|exact HB.out|apply zl1|apply zl2|apply zl3)|exact HB.out))));(case aL=>have:=LMc30.out;omega);intro v349 w39 ho hb hg hat;rw [← Ny348.out] at ho;replace HO338:=Aside0.mk (Kd.R_after (Kd.R_apart_nil (by (with_reducible repeat (first|apply zk1|apply zk2|apply zk3));exact HO338.out)) hg hat);replace HO342:=Aside0.mk (Kd.R_after (Kd.R_apart_nil (by (with_reducible repeat (first|apply zk1|apply zk2|apply zk3));exact HO342.out)) hg hat);replace HB:=Aside0.mk (hb);have HO350:=Aside0.mk (ho);clear ho hb hg hat)|((with_reducible refine gate_builtin (b:=.append) (xs:=#[.tmp 90,.tmp 91]) rfl ?_);(try (refine gate_guard (by rfl) ?_;dsimp only));at_builtin;refine Kd.R_append_rows k42 (w0:=w) w.heap.size rfl (.tmp 90) (.tmp 91) 22 42 (.agg #[(.int .i64 0),(.int .i64 0),(.int .i64 0),(.int .i64 0),(.int .i64 0),(.int .i64 0),(.string ⟨#[]⟩)]) 64 rfl Tryd.underlying22 info42 rfl (by decide) (by omega) v349 y348 l1 _ _ _ (fun k_=>some k_ ≠ (v337:Value).ownBlock∧some k_ ≠ (.slice Ao37 t339.length co37:Value).ownBlock) (fun _=>False) rfl rfl ?aO ?aR (fun _ _ h=>h) (fun _ h=>h.elim) ?aF ?aB ?aS ?aL ?_;(case aR=>repeat (first|exact (Kd.C_below HR1.out HB.out)|(with_reducible refine Kd.C_alloc ?_ _)|(with_reducible refine Kd.C_drewN ?_ _)|(with_reducible refine Kd.C_drew ?_)));(case aB=>exact (by repeat (first|(with_reducible first|exact HB.out|apply zl1|apply zl2|apply zl3)|exact HB.out)));(case aF=>exact (fun k_ hk=>⟨Kd.fresh' (Kd.R_lt (by (with_reducible repeat (first|apply zk1|apply zk2|apply zk3));exact HO338.out)) k_ hk,Kd.fresh' (Kd.R_lt (by (with_reducible repeat (first|apply zk1|apply zk2|apply zk3));exact HO342.out)) k_ hk⟩));(case aO=>exact (by (with_reducible repeat (first|apply zk1|apply zk2|apply zk3));exact HO350.out));(case aS=>exact (below_size (by repeat (first|(with_reducible first|exact HB.out|apply zl1|apply zl2|apply zl3)|exact HB.out))));(case aL=>have:=LMc31.out;omega);intro v352 w40 ho hb hg hat;rw [← Ny351.out] at ho;have n0_:=Aside0.mk (Kd.R_after (ok:=(fun k_=>some k_ ≠ (.slice Ao37 t339.length co37:Value).ownBlock)) (by (with_reducible repeat (first|apply zk1|apply zk2|apply zk3));exact Kd.R_mono HO338.out (fun _ hk=>⟨hk.1.2,hk.2⟩)) hg hat);have n1_:=Aside0.mk (Kd.R_after (ok:=(fun k_=>some k_ ≠ (v337:Value).ownBlock)) (by (with_reducible repeat (first|apply zk1|apply zk2|apply zk3));exact Kd.R_mono HO342.out (fun _ hk=>⟨hk.1.2,hk.2⟩)) hg hat);have n2_:=Aside0.mk (hb);have n3_:=Aside0.mk (ho);clear HO338;clear HO342;clear HB;clear HO350;have HO338:=n0_;have HO342:=n1_;have HB:=n2_;have HO353:=n3_;clear n0_ n1_ n2_ n3_;clear ho hb hg hat;obtain ⟨Ao41,co41,eo41⟩:=Kd.R_slice HO338.out;subst eo41;obtain ⟨Ao42,co42,eo42⟩:=Kd.R_slice HO353.out;subst eo42)|(go_at_call 13;(with_reducible refine (factotumref13_Same.calls kj7 _ _ t335 _ _ y351 true _ ?side1 ?side2 ?side3 ?side4 A32.out).mono ?_);(case side1=>repeat (first|exact (Kd.R_reads' HO338.out).2.2|(with_reducible refine Kd.C_alloc ?_ _)|(with_reducible refine Kd.C_drewN ?_ _)|(with_reducible refine Kd.C_drew ?_)));(case side2=>exact (Kd.R_reads' HO338.out).2.1);(case side3=>repeat (first|exact (Kd.R_reads' HO353.out).2.2|(with_reducible refine Kd.C_alloc ?_ _)|(with_reducible refine Kd.C_drewN ?_ _)|(with_reducible refine Kd.C_drew ?_)));(case side4=>exact (Kd.R_reads' HO353.out).2.1);rintro e w' ⟨rfl,⟨nd,rfl⟩⟩))
                   go_ret
                   exact ⟨by first|(with_reducible rfl)|(simp only [isEmpty_bne,Bool.not_not] <;> with_reducible rfl)|(simp [errW_none,errW_some] <;> with_reducible rfl)|(simp only [isEmpty_bne,Bool.not_not] <;> rfl)|rfl|(simp [errW_none,errW_some] <;> rfl)|(simp only [← hji19,← hji25];first|rfl|(simp [errW_none,errW_some] <;> rfl))|(simp [*,errW_none,errW_some] <;> rfl),by repeat (first|(with_reducible first|exact HB.out|apply zl1|apply zl2|apply zl3)|exact HB.out)⟩
                  ·replace c34:=Bool.eq_false_iff.mpr c34
                   subst c34
                   have H1:(if t340=2 then (some (decide ((ji19) < (t331.size:Int)))) else (none))=some r:=by rw [if_neg (show ¬ (false=true) by decide)] at H;exact H
                   clear H
                   have H:=H1
                   clear H1
                   by_cases c43:t340=2
                   ·rw [if_pos c43] at H
                    have c43b0:(t340 == 2)=true:=beq_iff_eq.mpr c43
                    have c43b1:(t340 != 2)=false:=bne_eq_false_iff_eq.mpr c43
                    clear c43
                    obtain rfl:=Option.some.inj H
                    go_wp2_with (first|((with_reducible refine gate_callee (f:=11) rfl ?_);refine goesL_ (some 39) rfl rfl Tryd.func11 (by kernel_rfl) rfl #[.string (t331 ++ t333)] rfl (by (try simp only [List.map_toArray,List.map_cons,List.map_nil]);first|done|rfl|(simp only [List.length_drop,List.length_take];rfl)|(simp (disch:=omega) only [u64_in];rfl)) ?_;(with_reducible refine (code_Read.calls kj7 (t331 ++ t333) t335 t336 _ A15.out).mono ?_);rintro e w44 ⟨v337,rfl,ho0,hb⟩;refine ⟨_,rfl,?_⟩;have HO338:=Aside0.mk (Kd.R_lower ho0 (below_size (by repeat (first|(with_reducible first|exact HB.out|apply zl1|apply zl2|apply zl3)|exact HB.out))));replace HB:=Aside0.mk (below_step (by repeat (first|(with_reducible first|exact HB.out|apply zl1|apply zl2|apply zl3)|exact HB.out)) hb);(try clear hb);(try clear ho0))|((with_reducible refine gate_callee (f:=11) rfl ?_);refine goesL_ (some 62) rfl rfl Tryd.func11 (by kernel_rfl) rfl #[.string (t331.extract 0 ((ji19):Int).toNat)] rfl (by (try simp only [List.map_toArray,List.map_cons,List.map_nil]);first|done|(simp only [hji19];rfl)|rfl|(simp only [List.length_drop,List.length_take];rfl)|(simp (disch:=omega) only [u64_in];rfl)) ?_;(with_reducible refine (code_Read.calls kj7 (t331.extract 0 ((ji19):Int).toNat) t339 t340 _ A22.out).mono ?_);rintro e w45 ⟨v341,rfl,ho0,hb⟩;refine ⟨_,rfl,?_⟩;have HO342:=Aside0.mk (Kd.R_lower (Kd.R_new' ho0 (Kd.R_lt (by (with_reducible repeat (first|apply zk1|apply zk2|apply zk3));exact HO338.out))) (below_size (by repeat (first|(with_reducible first|exact HB.out|apply zl1|apply zl2|apply zl3)|exact HB.out))));replace HO338:=Aside0.mk (Kd.R_elder' (by (with_reducible repeat (first|apply zk1|apply zk2|apply zk3));exact HO338.out) (Kd.R_base ho0) hb);replace HB:=Aside0.mk (below_step (by repeat (first|(with_reducible first|exact HB.out|apply zl1|apply zl2|apply zl3)|exact HB.out)) hb);(try clear hb);(try clear ho0);obtain ⟨Ao46,co46,eo46⟩:=Kd.R_slice HO342.out;subst eo46;have q47:((ji25):Int)≤((l0.length:Int):Int):=of_decide_eq_true (by first|(with_reducible assumption)|assumption);obtain ⟨i047,hi047,_,hsz47,_⟩:=info_parts info42;have hroom47:l0.length≤c0:=HC0.out;have hC47:Kd.C k42 _ A0 l0.length l0:=HR0.out;have hcut47:=cut_to (P:=Tryd.prog) 22 42 .i64 Tryd.underlying22 hi047 A0 l0.length c0 (ji25) (of_decide_eq_true (by first|(with_reducible assumption)|assumption)) q47 hroom47;have hr47:=Kd.C_take (m:=((ji25):Int).toNat) hC47 (by omega);have hy47:y343.length=((ji25):Int).toNat:=(by rw [Ny343.out,List.length_take];omega);rw [← Ny343.out] at hr47;rw [← hy47] at hcut47;have HR346:=Aside0.mk hr47;have HC346:=Aside0.mk (show y343.length≤c0 from by omega);clear hr47 hC47 hroom47 hi047 hsz47;have KY47:=Aside0.mk hy47;clear hy47;replace q47:=eq_true q47)|(go_at_call 13;(with_reducible refine (factotumref13_Same.calls kj7 _ _ t339 _ _ y343 false _ ?side1 ?side2 ?side3 ?side4 A28.out).mono ?_);(case side1=>repeat (first|exact (Kd.R_reads' HO342.out).2.2|(with_reducible refine Kd.C_alloc ?_ _)|(with_reducible refine Kd.C_drewN ?_ _)|(with_reducible refine Kd.C_drew ?_)));(case side2=>exact (Kd.R_reads' HO342.out).2.1);(case side3=>repeat (first|exact (Kd.C_below HR346.out HB.out)|(with_reducible refine Kd.C_alloc ?_ _)|(with_reducible refine Kd.C_drewN ?_ _)|(with_reducible refine Kd.C_drew ?_)));(case side4=>exact HC346.out);rintro e w' ⟨rfl,⟨nd,rfl⟩⟩)|((with_reducible refine gate_builtin (b:=.append) (xs:=#[.const (.slice none 0 0),.tmp 89]) rfl ?_);(try (refine gate_guard (by rfl) ?_;dsimp only));at_builtin;refine Kd.R_append_rows k42 (w0:=w) w.heap.size rfl (.const (.slice none 0 0)) (.tmp 89) 22 42 (.agg #[(.int .i64 0),(.int .i64 0),(.int .i64 0),(.int .i64 0),(.int .i64 0),(.int .i64 0),(.string ⟨#[]⟩)]) 64 rfl Tryd.underlying22 info42 rfl (by decide) (by omega) (.slice none 0 0) ([]:List (S42)) l0 _ _ _ (fun k_=>some k_ ≠ (v337:Value).ownBlock∧some k_ ≠ (.slice Ao46 t339.length co46:Value).ownBlock) (fun _=>False) rfl rfl ?aO ?aR (fun _ _ h=>h) (fun _ h=>h.elim) ?aF ?aB ?aS ?aL ?_;(case aR=>repeat (first|exact (Kd.C_below HR0.out (by repeat (first|(with_reducible first|exact HB.out|apply zl1|apply zl2|apply zl3)|exact HB.out)))|(with_reducible refine Kd.C_alloc ?_ _)|(with_reducible refine Kd.C_drewN ?_ _)|(with_reducible refine Kd.C_drew ?_)));(case aB=>exact (by repeat (first|(with_reducible first|exact HB.out|apply zl1|apply zl2|apply zl3)|exact HB.out)));(case aF=>exact (fun k_ hk=>⟨Kd.fresh' (Kd.R_lt (by (with_reducible repeat (first|apply zk1|apply zk2|apply zk3));exact HO338.out)) k_ hk,Kd.fresh' (Kd.R_lt (by (with_reducible repeat (first|apply zk1|apply zk2|apply zk3));exact HO342.out)) k_ hk⟩));(case aO=>exact ((Kd.R_nil _ _ _ _ (fun k_=>some k_ ≠ (v337:Value).ownBlock∧some k_ ≠ (.slice Ao46 t339.length co46:Value).ownBlock))));(case aS=>exact (below_size (by repeat (first|(with_reducible first|exact HB.out|apply zl1|apply zl2|apply zl3)|exact HB.out))));(case aL=>have:=LMc30.out;omega);intro v349 w48 ho hb hg hat;rw [← Ny348.out] at ho;replace HO338:=Aside0.mk (Kd.R_after (Kd.R_apart_nil (by (with_reducible repeat (first|apply zk1|apply zk2|apply zk3));exact HO338.out)) hg hat);replace HO342:=Aside0.mk (Kd.R_after (Kd.R_apart_nil (by (with_reducible repeat (first|apply zk1|apply zk2|apply zk3));exact HO342.out)) hg hat);replace HB:=Aside0.mk (hb);have HO350:=Aside0.mk (ho);clear ho hb hg hat)|((with_reducible refine gate_builtin (b:=.append) (xs:=#[.tmp 90,.tmp 91]) rfl ?_);(try (refine gate_guard (by rfl) ?_;dsimp only));at_builtin;refine Kd.R_append_rows k42 (w0:=w) w.heap.size rfl (.tmp 90) (.tmp 91) 22 42 (.agg #[(.int .i64 0),(.int .i64 0),(.int .i64 0),(.int .i64 0),(.int .i64 0),(.int .i64 0),(.string ⟨#[]⟩)]) 64 rfl Tryd.underlying22 info42 rfl (by decide) (by omega) v349 y348 l1 _ _ _ (fun k_=>some k_ ≠ (v337:Value).ownBlock∧some k_ ≠ (.slice Ao46 t339.length co46:Value).ownBlock) (fun _=>False) rfl rfl ?aO ?aR (fun _ _ h=>h) (fun _ h=>h.elim) ?aF ?aB ?aS ?aL ?_;(case aR=>repeat (first|exact (Kd.C_below HR1.out HB.out)|(with_reducible refine Kd.C_alloc ?_ _)|(with_reducible refine Kd.C_drewN ?_ _)|(with_reducible refine Kd.C_drew ?_)));(case aB=>exact (by repeat (first|(with_reducible first|exact HB.out|apply zl1|apply zl2|apply zl3)|exact HB.out)));(case aF=>exact (fun k_ hk=>⟨Kd.fresh' (Kd.R_lt (by (with_reducible repeat (first|apply zk1|apply zk2|apply zk3));exact HO338.out)) k_ hk,Kd.fresh' (Kd.R_lt (by (with_reducible repeat (first|apply zk1|apply zk2|apply zk3));exact HO342.out)) k_ hk⟩));(case aO=>exact (by (with_reducible repeat (first|apply zk1|apply zk2|apply zk3));exact HO350.out));(case aS=>exact (below_size (by repeat (first|(with_reducible first|exact HB.out|apply zl1|apply zl2|apply zl3)|exact HB.out))));(case aL=>have:=LMc31.out;omega);intro v352 w49 ho hb hg hat;rw [← Ny351.out] at ho;have n0_:=Aside0.mk (Kd.R_after (ok:=(fun k_=>some k_ ≠ (.slice Ao46 t339.length co46:Value).ownBlock)) (by (with_reducible repeat (first|apply zk1|apply zk2|apply zk3));exact Kd.R_mono HO338.out (fun _ hk=>⟨hk.1.2,hk.2⟩)) hg hat);have n1_:=Aside0.mk (Kd.R_after (ok:=(fun k_=>some k_ ≠ (v337:Value).ownBlock)) (by (with_reducible repeat (first|apply zk1|apply zk2|apply zk3));exact Kd.R_mono HO342.out (fun _ hk=>⟨hk.1.2,hk.2⟩)) hg hat);have n2_:=Aside0.mk (hb);have n3_:=Aside0.mk (ho);clear HO338;clear HO342;clear HB;clear HO350;have HO338:=n0_;have HO342:=n1_;have HB:=n2_;have HO353:=n3_;clear n0_ n1_ n2_ n3_;clear ho hb hg hat;obtain ⟨Ao50,co50,eo50⟩:=Kd.R_slice HO338.out;subst eo50;obtain ⟨Ao51,co51,eo51⟩:=Kd.R_slice HO353.out;subst eo51)|(go_at_call 13;(with_reducible refine (factotumref13_Same.calls kj7 _ _ t335 _ _ y351 true _ ?side1 ?side2 ?side3 ?side4 A32.out).mono ?_);(case side1=>repeat (first|exact (Kd.R_reads' HO338.out).2.2|(with_reducible refine Kd.C_alloc ?_ _)|(with_reducible refine Kd.C_drewN ?_ _)|(with_reducible refine Kd.C_drew ?_)));(case side2=>exact (Kd.R_reads' HO338.out).2.1);(case side3=>repeat (first|exact (Kd.R_reads' HO353.out).2.2|(with_reducible refine Kd.C_alloc ?_ _)|(with_reducible refine Kd.C_drewN ?_ _)|(with_reducible refine Kd.C_drew ?_)));(case side4=>exact (Kd.R_reads' HO353.out).2.1);rintro e w' ⟨rfl,⟨nd,rfl⟩⟩))
                    go_ret
                    exact ⟨by first|(with_reducible rfl)|(simp only [isEmpty_bne,Bool.not_not] <;> with_reducible rfl)|(simp [errW_none,errW_some] <;> with_reducible rfl)|(simp only [isEmpty_bne,Bool.not_not] <;> rfl)|rfl|(simp [errW_none,errW_some] <;> rfl)|(simp only [← hji19,← hji25];first|rfl|(simp [errW_none,errW_some] <;> rfl))|(simp [*,errW_none,errW_some] <;> rfl),by repeat (first|(with_reducible first|exact HB.out|apply zl1|apply zl2|apply zl3)|exact HB.out)⟩
                   ·rw [if_neg c43] at H
                    exact absurd H (by simp)
                 ·replace c33:=Bool.eq_false_iff.mpr c33
                  subst c33
                  have H1:(none)=some r:=by rw [if_neg (show ¬ (false=true) by decide)] at H;exact H
                  clear H
                  have H:=H1
                  clear H1
                  exact absurd H (by simp)
                ·rw [if_neg c31] at H
                 exact absurd H (by simp)
               ·rw [if_neg c30] at H
                exact absurd H (by simp)
              ·rw [if_neg c29] at H
               exact absurd H (by simp)
             ·rw [if_neg c27] at H
              exact absurd H (by simp)
            ·rw [if_neg c26] at H
             exact absurd H (by simp)
           ·rw [if_neg c24] at H
            have c24b0:decide ((t339.length:Int)≤(l0.length:Int))=false:=decide_eq_false c24
            have c24b1:decide (t339.length≤l0.length)=false:=decide_eq_false (fun h=>c24 (Int.ofNat_le.mpr h))
            clear c24
            by_cases c52:t336=0
            ·rw [if_pos c52] at H
             have c52b0:(t336 == 0)=true:=beq_iff_eq.mpr c52
             have c52b1:(t336 != 0)=false:=bne_eq_false_iff_eq.mpr c52
             clear c52
             by_cases c53:([]:List (S42)).length + l0.length < 2199023255552
             ·rw [if_pos c53] at H
              have LMc53:=Aside0.mk c53
              clear c53
              obtain ⟨y355,hy355⟩:∃ y_:List (S42),y_=(([]:List (S42)) ++ l0):=⟨_,rfl⟩
              replace H:(if y355.length + l1.length < 2199023255552 then ((factotumref13_Same.f kj7 t335 (y355 ++ l1)).bind fun t361=>(if t361=true then (if t340=2 then (some (decide ((ji19) < (t331.size:Int)))) else (none)) else (none))) else (none))=some r:=by first|(rw [hy355];with_reducible exact H)|(have H2_:=(Option.bind_some _ _).symm.trans H;rw [hy355];with_reducible exact H2_)|(have H2_:=(Option.bind_some _ _).symm.trans H;with_reducible exact H2_)|with_reducible exact H|(rw [hy355];exact H)|exact H
              have Ny355:=Aside0.mk hy355
              clear hy355
              by_cases c54:y355.length + l1.length < 2199023255552
              ·rw [if_pos c54] at H
               have LMc54:=Aside0.mk c54
               clear c54
               obtain ⟨y358,hy358⟩:∃ y_:List (S42),y_=(y355 ++ l1):=⟨_,rfl⟩
               replace H:((factotumref13_Same.f kj7 t335 y358).bind fun t361=>(if t361=true then (if t340=2 then (some (decide ((ji19) < (t331.size:Int)))) else (none)) else (none)))=some r:=by first|(rw [hy358];with_reducible exact H)|(have H2_:=(Option.bind_some _ _).symm.trans H;rw [hy358];with_reducible exact H2_)|(have H2_:=(Option.bind_some _ _).symm.trans H;with_reducible exact H2_)|with_reducible exact H|(rw [hy358];exact H)|exact H
               have Ny358:=Aside0.mk hy358
               clear hy358
               replace H:=Option.bind_eq_some_iff.mp H
               obtain ⟨t361,A550,H⟩:=H
               replace H:(if t361=true then (if t340=2 then (some (decide ((ji19) < (t331.size:Int)))) else (none)) else (none))=some r:=H
               have A55:=Aside0.mk A550
               clear A550
               by_cases c56:t361=true
               ·subst c56
                have H1:(if t340=2 then (some (decide ((ji19) < (t331.size:Int)))) else (none))=some r:=by rw [if_pos rfl] at H;exact H
                clear H
                have H:=H1
                clear H1
                by_cases c57:t340=2
                ·rw [if_pos c57] at H
                 have c57b0:(t340 == 2)=true:=beq_iff_eq.mpr c57
                 have c57b1:(t340 != 2)=false:=bne_eq_false_iff_eq.mpr c57
                 clear c57
                 obtain rfl:=Option.some.inj H
                 go_wp2_with (first|((with_reducible refine gate_callee (f:=11) rfl ?_);refine goesL_ (some 39) rfl rfl Tryd.func11 (by kernel_rfl) rfl #[.string (t331 ++ t333)] rfl (by (try simp only [List.map_toArray,List.map_cons,List.map_nil]);first|done|rfl|(simp only [List.length_drop,List.length_take];rfl)|(simp (disch:=omega) only [u64_in];rfl)) ?_;(with_reducible refine (code_Read.calls kj7 (t331 ++ t333) t335 t336 _ A15.out).mono ?_);rintro e w58 ⟨v337,rfl,ho0,hb⟩;refine ⟨_,rfl,?_⟩;have HO338:=Aside0.mk (Kd.R_lower ho0 (below_size (by repeat (first|(with_reducible first|exact HB.out|apply zl1|apply zl2|apply zl3)|exact HB.out))));replace HB:=Aside0.mk (below_step (by repeat (first|(with_reducible first|exact HB.out|apply zl1|apply zl2|apply zl3)|exact HB.out)) hb);(try clear hb);(try clear ho0))|((with_reducible refine gate_callee (f:=11) rfl ?_);refine goesL_ (some 62) rfl rfl Tryd.func11 (by kernel_rfl) rfl #[.string (t331.extract 0 ((ji19):Int).toNat)] rfl (by (try simp only [List.map_toArray,List.map_cons,List.map_nil]);first|done|(simp only [hji19];rfl)|rfl|(simp only [List.length_drop,List.length_take];rfl)|(simp (disch:=omega) only [u64_in];rfl)) ?_;(with_reducible refine (code_Read.calls kj7 (t331.extract 0 ((ji19):Int).toNat) t339 t340 _ A22.out).mono ?_);rintro e w59 ⟨v341,rfl,ho0,hb⟩;refine ⟨_,rfl,?_⟩;have HO342:=Aside0.mk (Kd.R_lower (Kd.R_new' ho0 (Kd.R_lt (by (with_reducible repeat (first|apply zk1|apply zk2|apply zk3));exact HO338.out))) (below_size (by repeat (first|(with_reducible first|exact HB.out|apply zl1|apply zl2|apply zl3)|exact HB.out))));replace HO338:=Aside0.mk (Kd.R_elder' (by (with_reducible repeat (first|apply zk1|apply zk2|apply zk3));exact HO338.out) (Kd.R_base ho0) hb);replace HB:=Aside0.mk (below_step (by repeat (first|(with_reducible first|exact HB.out|apply zl1|apply zl2|apply zl3)|exact HB.out)) hb);(try clear hb);(try clear ho0);obtain ⟨Ao60,co60,eo60⟩:=Kd.R_slice HO342.out;subst eo60)|((with_reducible refine gate_builtin (b:=.append) (xs:=#[.const (.slice none 0 0),.tmp 89]) rfl ?_);(try (refine gate_guard (by rfl) ?_;dsimp only));at_builtin;refine Kd.R_append_rows k42 (w0:=w) w.heap.size rfl (.const (.slice none 0 0)) (.tmp 89) 22 42 (.agg #[(.int .i64 0),(.int .i64 0),(.int .i64 0),(.int .i64 0),(.int .i64 0),(.int .i64 0),(.string ⟨#[]⟩)]) 64 rfl Tryd.underlying22 info42 rfl (by decide) (by omega) (.slice none 0 0) ([]:List (S42)) l0 _ _ _ (fun k_=>some k_ ≠ (v337:Value).ownBlock∧some k_ ≠ (.slice Ao60 t339.length co60:Value).ownBlock) (fun _=>False) rfl rfl ?aO ?aR (fun _ _ h=>h) (fun _ h=>h.elim) ?aF ?aB ?aS ?aL ?_;(case aR=>repeat (first|exact (Kd.C_below HR0.out HB.out)|(with_reducible refine Kd.C_alloc ?_ _)|(with_reducible refine Kd.C_drewN ?_ _)|(with_reducible refine Kd.C_drew ?_)));(case aB=>exact (by repeat (first|(with_reducible first|exact HB.out|apply zl1|apply zl2|apply zl3)|exact HB.out)));(case aF=>exact (fun k_ hk=>⟨Kd.fresh' (Kd.R_lt (by (with_reducible repeat (first|apply zk1|apply zk2|apply zk3));exact HO338.out)) k_ hk,Kd.fresh' (Kd.R_lt (by (with_reducible repeat (first|apply zk1|apply zk2|apply zk3));exact HO342.out)) k_ hk⟩));(case aO=>exact ((Kd.R_nil _ _ _ _ (fun k_=>some k_ ≠ (v337:Value).ownBlock∧some k_ ≠ (.slice Ao60 t339.length co60:Value).ownBlock))));(case aS=>exact (below_size (by repeat (first|(with_reducible first|exact HB.out|apply zl1|apply zl2|apply zl3)|exact HB.out))));(case aL=>have:=LMc53.out;omega);intro v356 w61 ho hb hg hat;rw [← Ny355.out] at ho;replace HO338:=Aside0.mk (Kd.R_after (Kd.R_apart_nil (by (with_reducible repeat (first|apply zk1|apply zk2|apply zk3));exact HO338.out)) hg hat);replace HO342:=Aside0.mk (Kd.R_after (Kd.R_apart_nil (by (with_reducible repeat (first|apply zk1|apply zk2|apply zk3));exact HO342.out)) hg hat);replace HB:=Aside0.mk (hb);have HO357:=Aside0.mk (ho);clear ho hb hg hat)|((with_reducible refine gate_builtin (b:=.append) (xs:=#[.tmp 90,.tmp 91]) rfl ?_);(try (refine gate_guard (by rfl) ?_;dsimp only));at_builtin;refine Kd.R_append_rows k42 (w0:=w) w.heap.size rfl (.tmp 90) (.tmp 91) 22 42 (.agg #[(.int .i64 0),(.int .i64 0),(.int .i64 0),(.int .i64 0),(.int .i64 0),(.int .i64 0),(.string ⟨#[]⟩)]) 64 rfl Tryd.underlying22 info42 rfl (by decide) (by omega) v356 y355 l1 _ _ _ (fun k_=>some k_ ≠ (v337:Value).ownBlock∧some k_ ≠ (.slice Ao60 t339.length co60:Value).ownBlock) (fun _=>False) rfl rfl ?aO ?aR (fun _ _ h=>h) (fun _ h=>h.elim) ?aF ?aB ?aS ?aL ?_;(case aR=>repeat (first|exact (Kd.C_below HR1.out HB.out)|(with_reducible refine Kd.C_alloc ?_ _)|(with_reducible refine Kd.C_drewN ?_ _)|(with_reducible refine Kd.C_drew ?_)));(case aB=>exact (by repeat (first|(with_reducible first|exact HB.out|apply zl1|apply zl2|apply zl3)|exact HB.out)));(case aF=>exact (fun k_ hk=>⟨Kd.fresh' (Kd.R_lt (by (with_reducible repeat (first|apply zk1|apply zk2|apply zk3));exact HO338.out)) k_ hk,Kd.fresh' (Kd.R_lt (by (with_reducible repeat (first|apply zk1|apply zk2|apply zk3));exact HO342.out)) k_ hk⟩));(case aO=>exact (by (with_reducible repeat (first|apply zk1|apply zk2|apply zk3));exact HO357.out));(case aS=>exact (below_size (by repeat (first|(with_reducible first|exact HB.out|apply zl1|apply zl2|apply zl3)|exact HB.out))));(case aL=>have:=LMc54.out;omega);intro v359 w62 ho hb hg hat;rw [← Ny358.out] at ho;have n0_:=Aside0.mk (Kd.R_after (ok:=(fun k_=>some k_ ≠ (.slice Ao60 t339.length co60:Value).ownBlock)) (by (with_reducible repeat (first|apply zk1|apply zk2|apply zk3));exact Kd.R_mono HO338.out (fun _ hk=>⟨hk.1.2,hk.2⟩)) hg hat);have n1_:=Aside0.mk (Kd.R_after (ok:=(fun k_=>some k_ ≠ (v337:Value).ownBlock)) (by (with_reducible repeat (first|apply zk1|apply zk2|apply zk3));exact Kd.R_mono HO342.out (fun _ hk=>⟨hk.1.2,hk.2⟩)) hg hat);have n2_:=Aside0.mk (hb);have n3_:=Aside0.mk (ho);clear HO338;clear HO342;clear HB;clear HO357;have HO338:=n0_;have HO342:=n1_;have HB:=n2_;have HO360:=n3_;clear n0_ n1_ n2_ n3_;clear ho hb hg hat;obtain ⟨Ao63,co63,eo63⟩:=Kd.R_slice HO338.out;subst eo63;obtain ⟨Ao64,co64,eo64⟩:=Kd.R_slice HO360.out;subst eo64)|(go_at_call 13;(with_reducible refine (factotumref13_Same.calls kj7 _ _ t335 _ _ y358 true _ ?side1 ?side2 ?side3 ?side4 A55.out).mono ?_);(case side1=>repeat (first|exact (Kd.R_reads' HO338.out).2.2|(with_reducible refine Kd.C_alloc ?_ _)|(with_reducible refine Kd.C_drewN ?_ _)|(with_reducible refine Kd.C_drew ?_)));(case side2=>exact (Kd.R_reads' HO338.out).2.1);(case side3=>repeat (first|exact (Kd.R_reads' HO360.out).2.2|(with_reducible refine Kd.C_alloc ?_ _)|(with_reducible refine Kd.C_drewN ?_ _)|(with_reducible refine Kd.C_drew ?_)));(case side4=>exact (Kd.R_reads' HO360.out).2.1);rintro e w' ⟨rfl,⟨nd,rfl⟩⟩))
                 go_ret
                 exact ⟨by first|(with_reducible rfl)|(simp only [isEmpty_bne,Bool.not_not] <;> with_reducible rfl)|(simp [errW_none,errW_some] <;> with_reducible rfl)|(simp only [isEmpty_bne,Bool.not_not] <;> rfl)|rfl|(simp [errW_none,errW_some] <;> rfl)|(simp only [← hji19];first|rfl|(simp [errW_none,errW_some] <;> rfl))|(simp [*,errW_none,errW_some] <;> rfl),by repeat (first|(with_reducible first|exact HB.out|apply zl1|apply zl2|apply zl3)|exact HB.out)⟩
                ·rw [if_neg c57] at H
                 exact absurd H (by simp)
               ·replace c56:=Bool.eq_false_iff.mpr c56
                subst c56
                have H1:(none)=some r:=by rw [if_neg (show ¬ (false=true) by decide)] at H;exact H
                clear H
                have H:=H1
                clear H1
                exact absurd H (by simp)
              ·rw [if_neg c54] at H
               exact absurd H (by simp)
             ·rw [if_neg c53] at H
              exact absurd H (by simp)
            ·rw [if_neg c52] at H
             exact absurd H (by simp)
          ·rw [if_neg c23] at H
           have c23b0:(t340 == 0)=false:=beq_eq_false_iff_ne.mpr c23
           have c23b1:(t340 != 0)=true:=bne_iff_ne.mpr c23
           by_cases c65:t336=0
           ·rw [if_pos c65] at H
            have c65b0:(t336 == 0)=true:=beq_iff_eq.mpr c65
            have c65b1:(t336 != 0)=false:=bne_eq_false_iff_eq.mpr c65
            clear c65
            by_cases c66:([]:List (S42)).length + l0.length < 2199023255552
            ·rw [if_pos c66] at H
             have LMc66:=Aside0.mk c66
             clear c66
             obtain ⟨y362,hy362⟩:∃ y_:List (S42),y_=(([]:List (S42)) ++ l0):=⟨_,rfl⟩
             replace H:(if y362.length + l1.length < 2199023255552 then ((factotumref13_Same.f kj7 t335 (y362 ++ l1)).bind fun t368=>(if t368=true then (if t340=2 then (some (decide ((ji19) < (t331.size:Int)))) else (none)) else (none))) else (none))=some r:=by first|(rw [hy362];with_reducible exact H)|(have H2_:=(Option.bind_some _ _).symm.trans H;rw [hy362];with_reducible exact H2_)|(have H2_:=(Option.bind_some _ _).symm.trans H;with_reducible exact H2_)|with_reducible exact H|(rw [hy362];exact H)|exact H
             have Ny362:=Aside0.mk hy362
             clear hy362
             by_cases c67:y362.length + l1.length < 2199023255552
             ·rw [if_pos c67] at H
              have LMc67:=Aside0.mk c67
              clear c67
              obtain ⟨y365,hy365⟩:∃ y_:List (S42),y_=(y362 ++ l1):=⟨_,rfl⟩
              replace H:((factotumref13_Same.f kj7 t335 y365).bind fun t368=>(if t368=true then (if t340=2 then (some (decide ((ji19) < (t331.size:Int)))) else (none)) else (none)))=some r:=by first|(rw [hy365];with_reducible exact H)|(have H2_:=(Option.bind_some _ _).symm.trans H;rw [hy365];with_reducible exact H2_)|(have H2_:=(Option.bind_some _ _).symm.trans H;with_reducible exact H2_)|with_reducible exact H|(rw [hy365];exact H)|exact H
              have Ny365:=Aside0.mk hy365
              clear hy365
              replace H:=Option.bind_eq_some_iff.mp H
              obtain ⟨t368,A680,H⟩:=H
              replace H:(if t368=true then (if t340=2 then (some (decide ((ji19) < (t331.size:Int)))) else (none)) else (none))=some r:=H
              have A68:=Aside0.mk A680
              clear A680
              by_cases c69:t368=true
              ·subst c69
               have H1:(if t340=2 then (some (decide ((ji19) < (t331.size:Int)))) else (none))=some r:=by rw [if_pos rfl] at H;exact H
               clear H
               have H:=H1
               clear H1
               by_cases c70:t340=2
               ·rw [if_pos c70] at H
                have c70b0:(t340 == 2)=true:=beq_iff_eq.mpr c70
                have c70b1:(t340 != 2)=false:=bne_eq_false_iff_eq.mpr c70
                clear c70
                obtain rfl:=Option.some.inj H
                go_wp2_with (first|((with_reducible refine gate_callee (f:=11) rfl ?_);refine goesL_ (some 39) rfl rfl Tryd.func11 (by kernel_rfl) rfl #[.string (t331 ++ t333)] rfl (by (try simp only [List.map_toArray,List.map_cons,List.map_nil]);first|done|rfl|(simp only [List.length_drop,List.length_take];rfl)|(simp (disch:=omega) only [u64_in];rfl)) ?_;(with_reducible refine (code_Read.calls kj7 (t331 ++ t333) t335 t336 _ A15.out).mono ?_);rintro e w71 ⟨v337,rfl,ho0,hb⟩;refine ⟨_,rfl,?_⟩;have HO338:=Aside0.mk (Kd.R_lower ho0 (below_size (by repeat (first|(with_reducible first|exact HB.out|apply zl1|apply zl2|apply zl3)|exact HB.out))));replace HB:=Aside0.mk (below_step (by repeat (first|(with_reducible first|exact HB.out|apply zl1|apply zl2|apply zl3)|exact HB.out)) hb);(try clear hb);(try clear ho0))|((with_reducible refine gate_callee (f:=11) rfl ?_);refine goesL_ (some 62) rfl rfl Tryd.func11 (by kernel_rfl) rfl #[.string (t331.extract 0 ((ji19):Int).toNat)] rfl (by (try simp only [List.map_toArray,List.map_cons,List.map_nil]);first|done|(simp only [hji19];rfl)|rfl|(simp only [List.length_drop,List.length_take];rfl)|(simp (disch:=omega) only [u64_in];rfl)) ?_;(with_reducible refine (code_Read.calls kj7 (t331.extract 0 ((ji19):Int).toNat) t339 t340 _ A22.out).mono ?_);rintro e w72 ⟨v341,rfl,ho0,hb⟩;refine ⟨_,rfl,?_⟩;have HO342:=Aside0.mk (Kd.R_lower (Kd.R_new' ho0 (Kd.R_lt (by (with_reducible repeat (first|apply zk1|apply zk2|apply zk3));exact HO338.out))) (below_size (by repeat (first|(with_reducible first|exact HB.out|apply zl1|apply zl2|apply zl3)|exact HB.out))));replace HO338:=Aside0.mk (Kd.R_elder' (by (with_reducible repeat (first|apply zk1|apply zk2|apply zk3));exact HO338.out) (Kd.R_base ho0) hb);replace HB:=Aside0.mk (below_step (by repeat (first|(with_reducible first|exact HB.out|apply zl1|apply zl2|apply zl3)|exact HB.out)) hb);(try clear hb);(try clear ho0))|((with_reducible refine gate_builtin (b:=.append) (xs:=#[.const (.slice none 0 0),.tmp 89]) rfl ?_);(try (refine gate_guard (by rfl) ?_;dsimp only));at_builtin;refine Kd.R_append_rows k42 (w0:=w) w.heap.size rfl (.const (.slice none 0 0)) (.tmp 89) 22 42 (.agg #[(.int .i64 0),(.int .i64 0),(.int .i64 0),(.int .i64 0),(.int .i64 0),(.int .i64 0),(.string ⟨#[]⟩)]) 64 rfl Tryd.underlying22 info42 rfl (by decide) (by omega) (.slice none 0 0) ([]:List (S42)) l0 _ _ _ (fun k_=>some k_ ≠ (v337:Value).ownBlock∧some k_ ≠ (v341:Value).ownBlock) (fun _=>False) rfl rfl ?aO ?aR (fun _ _ h=>h) (fun _ h=>h.elim) ?aF ?aB ?aS ?aL ?_;(case aR=>repeat (first|exact (Kd.C_below HR0.out HB.out)|(with_reducible refine Kd.C_alloc ?_ _)|(with_reducible refine Kd.C_drewN ?_ _)|(with_reducible refine Kd.C_drew ?_)));(case aB=>exact (by repeat (first|(with_reducible first|exact HB.out|apply zl1|apply zl2|apply zl3)|exact HB.out)));(case aF=>exact (fun k_ hk=>⟨Kd.fresh' (Kd.R_lt (by (with_reducible repeat (first|apply zk1|apply zk2|apply zk3));exact HO338.out)) k_ hk,Kd.fresh' (Kd.R_lt (by (with_reducible repeat (first|apply zk1|apply zk2|apply zk3));exact HO342.out)) k_ hk⟩));(case aO=>exact ((Kd.R_nil _ _ _ _ (fun k_=>some k_ ≠ (v337:Value).ownBlock∧some k_ ≠ (v341:Value).ownBlock))));(case aS=>exact (below_size (by repeat (first|(with_reducible first|exact HB.out|apply zl1|apply zl2|apply zl3)|exact HB.out))));(case aL=>have:=LMc66.out;omega);intro v363 w73 ho hb hg hat;rw [← Ny362.out] at ho;replace HO338:=Aside0.mk (Kd.R_after (Kd.R_apart_nil (by (with_reducible repeat (first|apply zk1|apply zk2|apply zk3));exact HO338.out)) hg hat);replace HO342:=Aside0.mk (Kd.R_after (Kd.R_apart_nil (by (with_reducible repeat (first|apply zk1|apply zk2|apply zk3));exact HO342.out)) hg hat);replace HB:=Aside0.mk (hb);have HO364:=Aside0.mk (ho);clear ho hb hg hat)|((with_reducible refine gate_builtin (b:=.append) (xs:=#[.tmp 90,.tmp 91]) rfl ?_);(try (refine gate_guard (by rfl) ?_;dsimp only));at_builtin;refine Kd.R_append_rows k42 (w0:=w) w.heap.size rfl (.tmp 90) (.tmp 91) 22 42 (.agg #[(.int .i64 0),(.int .i64 0),(.int .i64 0),(.int .i64 0),(.int .i64 0),(.int .i64 0),(.string ⟨#[]⟩)]) 64 rfl Tryd.underlying22 info42 rfl (by decide) (by omega) v363 y362 l1 _ _ _ (fun k_=>some k_ ≠ (v337:Value).ownBlock∧some k_ ≠ (v341:Value).ownBlock) (fun _=>False) rfl rfl ?aO ?aR (fun _ _ h=>h) (fun _ h=>h.elim) ?aF ?aB ?aS ?aL ?_;(case aR=>repeat (first|exact (Kd.C_below HR1.out HB.out)|(with_reducible refine Kd.C_alloc ?_ _)|(with_reducible refine Kd.C_drewN ?_ _)|(with_reducible refine Kd.C_drew ?_)));(case aB=>exact (by repeat (first|(with_reducible first|exact HB.out|apply zl1|apply zl2|apply zl3)|exact HB.out)));(case aF=>exact (fun k_ hk=>⟨Kd.fresh' (Kd.R_lt (by (with_reducible repeat (first|apply zk1|apply zk2|apply zk3));exact HO338.out)) k_ hk,Kd.fresh' (Kd.R_lt (by (with_reducible repeat (first|apply zk1|apply zk2|apply zk3));exact HO342.out)) k_ hk⟩));(case aO=>exact (by (with_reducible repeat (first|apply zk1|apply zk2|apply zk3));exact HO364.out));(case aS=>exact (below_size (by repeat (first|(with_reducible first|exact HB.out|apply zl1|apply zl2|apply zl3)|exact HB.out))));(case aL=>have:=LMc67.out;omega);intro v366 w74 ho hb hg hat;rw [← Ny365.out] at ho;have n0_:=Aside0.mk (Kd.R_after (ok:=(fun k_=>some k_ ≠ (v341:Value).ownBlock)) (by (with_reducible repeat (first|apply zk1|apply zk2|apply zk3));exact Kd.R_mono HO338.out (fun _ hk=>⟨hk.1.2,hk.2⟩)) hg hat);have n1_:=Aside0.mk (Kd.R_after (ok:=(fun k_=>some k_ ≠ (v337:Value).ownBlock)) (by (with_reducible repeat (first|apply zk1|apply zk2|apply zk3));exact Kd.R_mono HO342.out (fun _ hk=>⟨hk.1.2,hk.2⟩)) hg hat);have n2_:=Aside0.mk (hb);have n3_:=Aside0.mk (ho);clear HO338;clear HO342;clear HB;clear HO364;have HO338:=n0_;have HO342:=n1_;have HB:=n2_;have HO367:=n3_;clear n0_ n1_ n2_ n3_;clear ho hb hg hat;obtain ⟨Ao75,co75,eo75⟩:=Kd.R_slice HO338.out;subst eo75;obtain ⟨Ao76,co76,eo76⟩:=Kd.R_slice HO367.out;subst eo76)|(go_at_call 13;(with_reducible refine (factotumref13_Same.calls kj7 _ _ t335 _ _ y365 true _ ?side1 ?side2 ?side3 ?side4 A68.out).mono ?_);(case side1=>repeat (first|exact (Kd.R_reads' HO338.out).2.2|(with_reducible refine Kd.C_alloc ?_ _)|(with_reducible refine Kd.C_drewN ?_ _)|(with_reducible refine Kd.C_drew ?_)));(case side2=>exact (Kd.R_reads' HO338.out).2.1);(case side3=>repeat (first|exact (Kd.R_reads' HO367.out).2.2|(with_reducible refine Kd.C_alloc ?_ _)|(with_reducible refine Kd.C_drewN ?_ _)|(with_reducible refine Kd.C_drew ?_)));(case side4=>exact (Kd.R_reads' HO367.out).2.1);rintro e w' ⟨rfl,⟨nd,rfl⟩⟩))
                go_ret
                exact ⟨by first|(with_reducible rfl)|(simp only [isEmpty_bne,Bool.not_not] <;> with_reducible rfl)|(simp [errW_none,errW_some] <;> with_reducible rfl)|(simp only [isEmpty_bne,Bool.not_not] <;> rfl)|rfl|(simp [errW_none,errW_some] <;> rfl)|(simp only [← hji19];first|rfl|(simp [errW_none,errW_some] <;> rfl))|(simp [*,errW_none,errW_some] <;> rfl),by repeat (first|(with_reducible first|exact HB.out|apply zl1|apply zl2|apply zl3)|exact HB.out)⟩
               ·rw [if_neg c70] at H
                exact absurd H (by simp)
              ·replace c69:=Bool.eq_false_iff.mpr c69
               subst c69
               have H1:(none)=some r:=by rw [if_neg (show ¬ (false=true) by decide)] at H;exact H
               clear H
               have H:=H1
               clear H1
               exact absurd H (by simp)
             ·rw [if_neg c67] at H
              exact absurd H (by simp)
            ·rw [if_neg c66] at H
             exact absurd H (by simp)
           ·rw [if_neg c65] at H
            exact absurd H (by simp)
         ·rw [if_neg c21] at H
          exact absurd H (by simp)
        ·rw [if_neg c20] at H
         exact absurd H (by simp)
     ·rw [if_neg c14] at H
      exact absurd H (by simp)
 ·replace c5:=Bool.eq_false_iff.mpr c5
  subst c5
  have H1:(none)=some r:=by rw [if_neg (show ¬ (false=true) by decide)] at H;exact H
  clear H
  have H:=H1
  clear H1
  exact absurd H (by simp)

end Go.Proofs.YtljfichnlgfikaaDoor.PAll
