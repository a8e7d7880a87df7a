/- Printed walks of the functions that the laws reach: each function, what it computes, and that it does. No conditions. -/
import Derived.Test.YtnlfppfdfdopiaaDoorPAllx0
import Derived.Test.YtnlfppfdfdopiaaDoorPAllx1
import Derived.Test.YtnlfppfdfdopiaaDoorPAllx4
namespace Go.Proofs.YtnlfppfdfdopiaaDoor.PAll
open Go.RowKit Go.Proofs.YtnlfppfdfdopiaaDoor.XW Go.Proofs.YtnlfppfdfdopiaaDoor.XLib Go.Proofs.YtnlfppfdfdopiaaDoorW.PrintWords Go.Proofs.YtnlfppfdfdopiaaDoorW.PrintLast Go.Proofs.YtnlfppfdfdopiaaDoorW.PrintMore
attribute [local go_sem] max2_int min2_int max_two min_two max_three min_three max_four min_four   -- for this text's walks alone
set_option linter.unusedVariables false
set_option linter.unusedSimpArgs false

/-! ### outbox_Write: function 22 -/
def outbox_Write.j0:Nat→ByteArray→Bool→Int→Int→Int→Int→Int→ByteArray→Option (ByteArray × ByteArray × Int)
 | 0,_,_,_,_,_,_,_,_=>none
 | k + 1,x5,x34,x137000,x137001,x137002,x137003,x137004,x137005=>if x34=true then (some ((⟨#[]⟩:ByteArray),(⟨#[]⟩:ByteArray),4)) else ((pack_Num.f k ([]:List Int) (IntKind.u64.wrap (x137000)) 4).bind fun t142=>((pack_Num.f k ([]:List Int) (IntKind.u64.wrap (x137001)) 2).bind fun t145=>((pack_Num.f k t145 (IntKind.u64.wrap (x137002)) 1).bind fun t148=>(if (strOfNums t148).size + x5.size≤9223372036854775807 then (some (strOfNums t142,(strOfNums t148) ++ x5,0)) else (none)))))
def outbox_Write.f (k:Nat) (a0_0:Int) (a0_1:Int) (a0_2:Int) (a0_3:Int) (a0_4:Int) (a0_5:ByteArray):Option (ByteArray × ByteArray × Int):=(effects_Value.f k a0_3 a0_4 a0_5).bind fun bt137=>(if bt137.2=0 then ((outbox_within.f a0_0 1 2147483647).bind fun t139=>(if t139=true then ((outbox_within.f a0_1 0 65535).bind fun t140=>(if t140=true then ((outbox_within.f a0_2 0 255).bind fun t141=>(outbox_Write.j0 k bt137.1 (!t141) a0_0 a0_1 a0_2 a0_3 a0_4 a0_5)) else (outbox_Write.j0 k bt137.1 true a0_0 a0_1 a0_2 a0_3 a0_4 a0_5))) else (outbox_Write.j0 k bt137.1 true a0_0 a0_1 a0_2 a0_3 a0_4 a0_5))) else (outbox_Write.j0 k bt137.1 true a0_0 a0_1 a0_2 a0_3 a0_4 a0_5))
theorem outbox_Write.mono_l:∀ k,(∀ y0 y1 y2 y3 y4 y5 y6 y7,LeO (outbox_Write.j0 k y0 y1 y2 y3 y4 y5 y6 y7) (outbox_Write.j0 (k + 1) y0 y1 y2 y3 y4 y5 y6 y7))
 | 0=>fun _ _ _ _ _ _ _ _ r h=>by simp [outbox_Write.j0] at h
 | k + 1=>by
  have ih0:=outbox_Write.mono_l k
  ·intro y0 y1 y2 y3 y4 y5 y6 y7
   unfold outbox_Write.j0
   repeat' first
   | (with_reducible exact ih0 _ _ _ _ _ _ _ _)
   | (with_reducible exact effects_Value.mono _ _ _ _)
   | (with_reducible exact pack_Num.mono _ _ _ _)
   | (with_reducible exact LeO.refl _)
   | (with_reducible exact LeO.none _)
   | (with_reducible refine LeO.ite ?_ ?_)
   | (with_reducible refine LeO.bind ?_ (fun _=>?_))
   | exact ih0 _ _ _ _ _ _ _ _
   | exact effects_Value.mono _ _ _ _
   | exact pack_Num.mono _ _ _ _
   | exact LeO.none _
   | refine LeO.ite ?_ ?_
   | refine LeO.bind ?_ (fun _=>?_)
theorem outbox_Write.mono:∀ a0 a1 a2 a3 a4 a5 k,LeO (outbox_Write.f k a0 a1 a2 a3 a4 a5) (outbox_Write.f (k + 1) a0 a1 a2 a3 a4 a5):=by
 intro a0 a1 a2 a3 a4 a5 k
 have ih0:=outbox_Write.mono_l k
 unfold outbox_Write.f
 repeat' first
   | (with_reducible exact ih0 _ _ _ _ _ _ _ _)
   | (with_reducible exact effects_Value.mono _ _ _ _)
   | (with_reducible exact pack_Num.mono _ _ _ _)
   | (with_reducible exact LeO.refl _)
   | (with_reducible exact LeO.none _)
   | (with_reducible refine LeO.ite ?_ ?_)
   | (with_reducible refine LeO.bind ?_ (fun _=>?_))
   | exact ih0 _ _ _ _ _ _ _ _
   | exact effects_Value.mono _ _ _ _
   | exact pack_Num.mono _ _ _ _
   | exact LeO.none _
   | refine LeO.ite ?_ ?_
   | refine LeO.bind ?_ (fun _=>?_)
def outbox_Write.T5:Bool × List (List Nat × List Nat):=(true,[([],[]),([0],[0]),([1],[1]),([2],[2]),([],[]),([4],[4]),([5],[5]),([3,6,3],[3,6]),([7,7,0,1,2,3,4,5,6,7],[7])])
def outbox_Write.B5:List Nat:=[0,1,3,7,0,16,48,127,255]
theorem outbox_Write.tab5:rtab .any (opsOf Tryd.f22 5)=outbox_Write.T5:=by kernel_rfl
theorem outbox_Write.bits5:waitsOk outbox_Write.T5.2 outbox_Write.B5=true:=by kernel_rfl
def outbox_Write.T6:Bool × List (List Nat × List Nat):=(true,[([],[]),([0],[0]),([],[]),([2],[2]),([],[]),([3,4],[3,4]),([1,0,1],[1]),([5,6,0,1,2,3,4,5,6],[5]),([7,0,1,2,3,4,5,6,7],[])])
def outbox_Write.B6:List Nat:=[0,1,0,4,0,28,3,127,255]
theorem outbox_Write.tab6:rtab .any (opsOf Tryd.f22 6)=outbox_Write.T6:=by kernel_rfl
theorem outbox_Write.bits6:waitsOk outbox_Write.T6.2 outbox_Write.B6=true:=by kernel_rfl
set_option maxHeartbeats 8000000 in
set_option maxRecDepth 100000 in
theorem outbox_Write.calls (k:Nat) (a0_0:Int) (a0_1:Int) (a0_2:Int) (a0_3:Int) (a0_4:Int) (a0_5:ByteArray) (r1:ByteArray) (r2:ByteArray) (r3:Int) (w:World) (h:outbox_Write.f k a0_0 a0_1 a0_2 a0_3 a0_4 a0_5=some (r1,r2,r3)) :
  Calls Tryd.prog 22 #[.agg #[.int .i64 a0_0,.int .i64 a0_1,.int .i64 a0_2,.int .i64 a0_3,.int .i64 a0_4,.string a0_5]] w fun e w'=>e=.returned (.tuple #[.string r1,.string r2,.int .i64 r3])∧Below w.heap.size w w':=by
 have hu32:=Tryd.underlying32
 have hu30:=Tryd.underlying30
 have HB:=Aside0.mk (Below.refl w.heap.size w)
 have H:((effects_Value.f k a0_3 a0_4 a0_5).bind fun bt137=>(if bt137.2=0 then ((outbox_within.f a0_0 1 2147483647).bind fun t139=>(if t139=true then ((outbox_within.f a0_1 0 65535).bind fun t140=>(if t140=true then ((outbox_within.f a0_2 0 255).bind fun t141=>(outbox_Write.j0 k bt137.1 (!t141) a0_0 a0_1 a0_2 a0_3 a0_4 a0_5)) else (outbox_Write.j0 k bt137.1 true a0_0 a0_1 a0_2 a0_3 a0_4 a0_5))) else (outbox_Write.j0 k bt137.1 true a0_0 a0_1 a0_2 a0_3 a0_4 a0_5))) else (outbox_Write.j0 k bt137.1 true a0_0 a0_1 a0_2 a0_3 a0_4 a0_5)))=some (r1,r2,r3):=h
 clear h
 replace H:=Option.bind_eq_some_iff.mp H
 obtain ⟨⟨t137,t138⟩,A20,H⟩:=H
 replace H:(if t138=0 then ((outbox_within.f a0_0 1 2147483647).bind fun t139=>(if t139=true then ((outbox_within.f a0_1 0 65535).bind fun t140=>(if t140=true then ((outbox_within.f a0_2 0 255).bind fun t141=>(outbox_Write.j0 k t137 (!t141) a0_0 a0_1 a0_2 a0_3 a0_4 a0_5)) else (outbox_Write.j0 k t137 true a0_0 a0_1 a0_2 a0_3 a0_4 a0_5))) else (outbox_Write.j0 k t137 true a0_0 a0_1 a0_2 a0_3 a0_4 a0_5))) else (outbox_Write.j0 k t137 true a0_0 a0_1 a0_2 a0_3 a0_4 a0_5))=some (r1,r2,r3):=H
 have A2:=Aside0.mk A20
 clear A20
 have HC3:=Aside0.mk H
 clear H
 go_enter Tryd.func22,Tryd.ntmps22
 go_upto_region 2 with (first|((with_reducible refine gate_dst (N:=1) rfl ?_);refine box_event ?hg (N:=1) ?hd (cs:=#[.int .i64 a0_0,.int .i64 a0_1,.int .i64 a0_2,.int .i64 a0_3,.int .i64 a0_4,.string a0_5]) (t:=32) ?hr ?_;(case hd=>rfl);(case hg=>rfl);(case hr=>first|(go_simp;done)|(go_simp;rfl));intro gb136 hg w4 hbox hb;have BK136:=Aside0.mk (hbox);have GW136:=Aside0.mk ((by rw [hg];exact (below_size (by repeat (first|(with_reducible first|exact HB.out|apply zl1|apply zl2|apply zl3)|exact HB.out))):w.heap.size≤gb136));have GE136:=Aside0.mk ((by rw [hg];exact (below_size (by repeat (first|(with_reducible first|exact HB.out|apply zl1|apply zl2|apply zl3)|exact HB.out))):w.heap.size≤gb136));replace HB:=Aside0.mk (below_step (by repeat (first|(with_reducible first|exact HB.out|apply zl1|apply zl2|apply zl3)|exact HB.out)) hb);clear hb hbox hg;obtain ⟨hcz5_0,hcz5_1,hcz5_2,hcz5_3,hcz5_4,hcz5_5⟩:=zc6 BK136.out;obtain ⟨hfz5_0,hfz5_1,hfz5_2,hfz5_3,hfz5_4,hfz5_5⟩:=zf6 BK136.out)|((with_reducible refine gate_callee (f:=33) rfl ?_);refine goesL_ (some 12) rfl rfl Tryd.func33 (by kernel_rfl) rfl #[.agg #[.int .i64 a0_3,.int .i64 a0_4,.string a0_5]] rfl (by (try simp only [List.map_toArray,List.map_cons,List.map_nil]);first|done|rfl|(simp only [List.length_drop,List.length_take];rfl)|(simp (disch:=omega) only [u64_in];rfl)) ?_;(with_reducible refine (effects_Value.calls k a0_3 a0_4 a0_5 t137 t138 _ A2.out).mono ?_);rintro e w6 ⟨rfl,hb⟩;refine ⟨_,rfl,?_⟩;replace BK136:=Aside0.mk (blk_below (g:=gb136) (o:=.cells #[.int .i64 a0_0,.int .i64 a0_1,.int .i64 a0_2,.int .i64 a0_3,.int .i64 a0_4,.string a0_5] 32 (0,0)) (by (with_reducible repeat (first|apply zb1|apply zb2|apply zb3));exact BK136.out) hb);replace HB:=Aside0.mk (below_step (by repeat (first|(with_reducible first|exact HB.out|apply zl1|apply zl2|apply zl3|refine below_set ?_ GE136.out)|exact HB.out)) hb);(try clear hb)))
 (try simp only [Act.put,List.setIfInBounds_toArray,List.set_cons_zero,List.set_cons_succ])
 go_cut [34] (fun v34 wc=>∃ (kq:Nat) (x34_2:Bool),v34=.bool x34_2∧Aside0 (outbox_Write.j0 kq t137 x34_2 a0_0 a0_1 a0_2 a0_3 a0_4 a0_5=some (r1,r2,r3))∧Aside0 (kq≤k)∧Aside0 (wc.heap[gb136]?=some (.cells #[.int .i64 a0_0,.int .i64 a0_1,.int .i64 a0_2,.int .i64 a0_3,.int .i64 a0_4,.string a0_5] 32 (0,0)))∧Aside0 (Below w.heap.size w wc))
 case first =>
  have H:=HC3.out
  clear HC3
  by_cases c7:t138=0
  ·rw [if_pos c7] at H
   have c7b0:(t138 == 0)=true:=beq_iff_eq.mpr c7
   have c7b1:(t138 != 0)=false:=bne_eq_false_iff_eq.mpr c7
   clear c7
   (first|rw [c7b0]|(simp only [i64_w,i32_w];rw [c7b0])|skip)
   replace H:=Option.bind_eq_some_iff.mp H
   obtain ⟨t139,A80,H⟩:=H
   replace H:(if t139=true then ((outbox_within.f a0_1 0 65535).bind fun t140=>(if t140=true then ((outbox_within.f a0_2 0 255).bind fun t141=>(outbox_Write.j0 k t137 (!t141) a0_0 a0_1 a0_2 a0_3 a0_4 a0_5)) else (outbox_Write.j0 k t137 true a0_0 a0_1 a0_2 a0_3 a0_4 a0_5))) else (outbox_Write.j0 k t137 true a0_0 a0_1 a0_2 a0_3 a0_4 a0_5))=some (r1,r2,r3):=H
   have A8:=Aside0.mk A80
   clear A80
   by_cases c9:t139=true
   ·subst c9
    have H1:((outbox_within.f a0_1 0 65535).bind fun t140=>(if t140=true then ((outbox_within.f a0_2 0 255).bind fun t141=>(outbox_Write.j0 k t137 (!t141) a0_0 a0_1 a0_2 a0_3 a0_4 a0_5)) else (outbox_Write.j0 k t137 true a0_0 a0_1 a0_2 a0_3 a0_4 a0_5)))=some (r1,r2,r3):=by rw [if_pos rfl] at H;exact H
    clear H
    have H:=H1
    clear H1
    replace H:=Option.bind_eq_some_iff.mp H
    obtain ⟨t140,A100,H⟩:=H
    replace H:(if t140=true then ((outbox_within.f a0_2 0 255).bind fun t141=>(outbox_Write.j0 k t137 (!t141) a0_0 a0_1 a0_2 a0_3 a0_4 a0_5)) else (outbox_Write.j0 k t137 true a0_0 a0_1 a0_2 a0_3 a0_4 a0_5))=some (r1,r2,r3):=H
    have A10:=Aside0.mk A100
    clear A100
    by_cases c11:t140=true
    ·subst c11
     have H1:((outbox_within.f a0_2 0 255).bind fun t141=>(outbox_Write.j0 k t137 (!t141) a0_0 a0_1 a0_2 a0_3 a0_4 a0_5))=some (r1,r2,r3):=by rw [if_pos rfl] at H;exact H
     clear H
     have H:=H1
     clear H1
     replace H:=Option.bind_eq_some_iff.mp H
     obtain ⟨t141,A120,H⟩:=H
     replace H:(outbox_Write.j0 k t137 (!t141) a0_0 a0_1 a0_2 a0_3 a0_4 a0_5)=some (r1,r2,r3):=H
     have A12:=Aside0.mk A120
     clear A120
     have H':=Aside0.mk H
     clear H
     obtain ⟨hcz13_0,hcz13_1,hcz13_2,hcz13_3,hcz13_4,hcz13_5⟩:=zc6 BK136.out
     obtain ⟨hfz13_0,hfz13_1,hfz13_2,hfz13_3,hfz13_4,hfz13_5⟩:=zf6 BK136.out
     go_wp2_with (first|(go_at_call 34;(with_reducible refine (outbox_within.calls a0_0 1 2147483647 true _ A8.out).mono ?_);rintro e w' ⟨rfl,⟨nd,rfl⟩⟩)|(go_at_call 34;(with_reducible refine (outbox_within.calls a0_1 0 65535 true _ A10.out).mono ?_);rintro e w' ⟨rfl,⟨nd,rfl⟩⟩)|(go_at_call 34;(with_reducible refine (outbox_within.calls a0_2 0 255 t141 _ A12.out).mono ?_);rintro e w' ⟨rfl,⟨nd,rfl⟩⟩))
     go_meet
     case rel=>exact ⟨_,(!t141),(by first|(with_reducible rfl)|(simp;done)|(simp [*];done)|rfl|(simp only [not_isEmpty_bne])),H',⟨by first|omega|exact Nat.le_refl _⟩,⟨by (with_reducible repeat (first|apply zb1|apply zb2|apply zb3));exact BK136.out⟩,⟨by repeat (first|(with_reducible first|exact HB.out|apply zl1|apply zl2|apply zl3|refine below_set ?_ GE136.out)|exact HB.out)⟩⟩
    ·replace c11:=Bool.eq_false_iff.mpr c11
     subst c11
     have H1:(outbox_Write.j0 k t137 true a0_0 a0_1 a0_2 a0_3 a0_4 a0_5)=some (r1,r2,r3):=by rw [if_neg (show ¬ (false=true) by decide)] at H;exact H
     clear H
     have H:=H1
     clear H1
     have H':=Aside0.mk H
     clear H
     obtain ⟨hcz14_0,hcz14_1,hcz14_2,hcz14_3,hcz14_4,hcz14_5⟩:=zc6 BK136.out
     obtain ⟨hfz14_0,hfz14_1,hfz14_2,hfz14_3,hfz14_4,hfz14_5⟩:=zf6 BK136.out
     go_wp2_with (first|(go_at_call 34;(with_reducible refine (outbox_within.calls a0_0 1 2147483647 true _ A8.out).mono ?_);rintro e w' ⟨rfl,⟨nd,rfl⟩⟩)|(go_at_call 34;(with_reducible refine (outbox_within.calls a0_1 0 65535 false _ A10.out).mono ?_);rintro e w' ⟨rfl,⟨nd,rfl⟩⟩))
     go_meet
     case rel=>exact ⟨_,(true),(by first|(with_reducible rfl)|(simp;done)|(simp [*];done)|rfl|(simp only [not_isEmpty_bne])),H',⟨by first|omega|exact Nat.le_refl _⟩,⟨by (with_reducible repeat (first|apply zb1|apply zb2|apply zb3));exact BK136.out⟩,⟨by repeat (first|(with_reducible first|exact HB.out|apply zl1|apply zl2|apply zl3|refine below_set ?_ GE136.out)|exact HB.out)⟩⟩
   ·replace c9:=Bool.eq_false_iff.mpr c9
    subst c9
    have H1:(outbox_Write.j0 k t137 true a0_0 a0_1 a0_2 a0_3 a0_4 a0_5)=some (r1,r2,r3):=by rw [if_neg (show ¬ (false=true) by decide)] at H;exact H
    clear H
    have H:=H1
    clear H1
    have H':=Aside0.mk H
    clear H
    obtain ⟨hcz15_0,hcz15_1,hcz15_2,hcz15_3,hcz15_4,hcz15_5⟩:=zc6 BK136.out
    obtain ⟨hfz15_0,hfz15_1,hfz15_2,hfz15_3,hfz15_4,hfz15_5⟩:=zf6 BK136.out
    go_wp2_with (first|(go_at_call 34;(with_reducible refine (outbox_within.calls a0_0 1 2147483647 false _ A8.out).mono ?_);rintro e w' ⟨rfl,⟨nd,rfl⟩⟩))
    go_meet
    case rel=>exact ⟨_,(true),(by first|(with_reducible rfl)|(simp;done)|(simp [*];done)|rfl|(simp only [not_isEmpty_bne])),H',⟨by first|omega|exact Nat.le_refl _⟩,⟨by (with_reducible repeat (first|apply zb1|apply zb2|apply zb3));exact BK136.out⟩,⟨by repeat (first|(with_reducible first|exact HB.out|apply zl1|apply zl2|apply zl3|refine below_set ?_ GE136.out)|exact HB.out)⟩⟩
  ·rw [if_neg c7] at H
   have c7b0:(t138 == 0)=false:=beq_eq_false_iff_ne.mpr c7
   have c7b1:(t138 != 0)=true:=bne_iff_ne.mpr c7
   (first|rw [c7b0]|(simp only [i64_w,i32_w];rw [c7b0])|skip)
   have H':=Aside0.mk H
   clear H
   go_wp2
   go_meet
   case rel=>exact ⟨_,(true),(by first|(with_reducible rfl)|(simp;done)|(simp [*];done)|rfl|(simp only [not_isEmpty_bne])),H',⟨by first|omega|exact Nat.le_refl _⟩,⟨by (with_reducible repeat (first|apply zb1|apply zb2|apply zb3));exact BK136.out⟩,⟨by repeat (first|(with_reducible first|exact HB.out|apply zl1|apply zl2|apply zl3|refine below_set ?_ GE136.out)|exact HB.out)⟩⟩
 case rest =>
  clear HC3
  try clear hcz13_0 hcz13_1 hcz13_2 hcz13_3 hcz13_4 hcz13_5 hcz14_0 hcz14_1 hcz14_2 hcz14_3 hcz14_4 hcz14_5 hcz15_0 hcz15_1 hcz15_2 hcz15_3 hcz15_4 hcz15_5 hcz5_0 hcz5_1 hcz5_2
  try clear c1
  try clear c2
  try clear p2
  try clear c3
  try clear c7
  try clear c7b0
  try clear c7b1
  try clear c9
  try clear c11
  try clear hfz13_0 hfz13_1 hfz13_2 hfz13_3 hfz13_4 hfz13_5 hfz14_0 hfz14_1 hfz14_2 hfz14_3 hfz14_4 hfz14_5 hfz15_0 hfz15_1 hfz15_2 hfz15_3 hfz15_4 hfz15_5 hfz5_0 hfz5_1 hfz5_2 hfz5_3 hfz5_4 hfz5_5
  try clear hcz5_3 hcz5_4 hcz5_5
  obtain ⟨kq,x34_2,rfl,HA,HJ2,BK136,HB⟩:=hcut
  cases kq with
  | zero=>exact absurd HA.out (by simp [outbox_Write.j0])
  | succ kj2 =>
   have H:=HA.out
   clear HA
   simp only [outbox_Write.j0] at H
   by_cases c16:x34_2=true
   ·subst c16
    have H1:(some ((⟨#[]⟩:ByteArray),(⟨#[]⟩:ByteArray),4))=some (r1,r2,r3):=by rw [if_pos rfl] at H;exact H
    clear H
    have H:=H1
    clear H1
    simp only [Option.some.injEq,Prod.mk.injEq] at H
    obtain ⟨rfl,rfl,rfl⟩:=H
    go_wp2
    go_ret3
    exact ⟨by first|(with_reducible rfl)|(simp only [isEmpty_bne,Bool.not_not] <;> rfl)|rfl|(simp [*,errW_none,errW_some] <;> rfl),by repeat (first|(with_reducible first|exact HB.out|apply zl1|apply zl2|apply zl3|refine below_set ?_ GE136.out)|exact HB.out)⟩
   ·replace c16:=Bool.eq_false_iff.mpr c16
    subst c16
    have H1:((pack_Num.f kj2 ([]:List Int) (IntKind.u64.wrap (a0_0)) 4).bind fun t142=>((pack_Num.f kj2 ([]:List Int) (IntKind.u64.wrap (a0_1)) 2).bind fun t145=>((pack_Num.f kj2 t145 (IntKind.u64.wrap (a0_2)) 1).bind fun t148=>(if (strOfNums t148).size + t137.size≤9223372036854775807 then (some (strOfNums t142,(strOfNums t148) ++ t137,0)) else (none)))))=some (r1,r2,r3):=by rw [if_neg (show ¬ (false=true) by decide)] at H;exact H
    clear H
    have H:=H1
    clear H1
    replace H:=Option.bind_eq_some_iff.mp H
    obtain ⟨t142,A170,H⟩:=H
    replace H:((pack_Num.f kj2 ([]:List Int) (IntKind.u64.wrap (a0_1)) 2).bind fun t145=>((pack_Num.f kj2 t145 (IntKind.u64.wrap (a0_2)) 1).bind fun t148=>(if (strOfNums t148).size + t137.size≤9223372036854775807 then (some (strOfNums t142,(strOfNums t148) ++ t137,0)) else (none))))=some (r1,r2,r3):=H
    have A17:=Aside0.mk A170
    clear A170
    replace H:=Option.bind_eq_some_iff.mp H
    obtain ⟨t145,A180,H⟩:=H
    replace H:((pack_Num.f kj2 t145 (IntKind.u64.wrap (a0_2)) 1).bind fun t148=>(if (strOfNums t148).size + t137.size≤9223372036854775807 then (some (strOfNums t142,(strOfNums t148) ++ t137,0)) else (none)))=some (r1,r2,r3):=H
    have A18:=Aside0.mk A180
    clear A180
    replace H:=Option.bind_eq_some_iff.mp H
    obtain ⟨t148,A190,H⟩:=H
    replace H:(if (strOfNums t148).size + t137.size≤9223372036854775807 then (some (strOfNums t142,(strOfNums t148) ++ t137,0)) else (none))=some (r1,r2,r3):=H
    have A19:=Aside0.mk A190
    clear A190
    by_cases c20:(strOfNums t148).size + t137.size≤9223372036854775807
    ·rw [if_pos c20] at H
     have c20b0:=eq_true c20
     have c20b1:decide ((strOfNums t148).size + t137.size≤9223372036854775807)=true:=decide_eq_true c20
     try have c20b2:(9223372036854775807 < (strOfNums t148).size + t137.size)=False:=eq_false (Nat.not_lt.2 c20)
     simp only [Option.some.injEq,Prod.mk.injEq] at H
     obtain ⟨rfl,rfl,rfl⟩:=H
     obtain ⟨hcz21_0,hcz21_1,hcz21_2,hcz21_3,hcz21_4,hcz21_5⟩:=zc6 BK136.out
     obtain ⟨hfz21_0,hfz21_1,hfz21_2,hfz21_3,hfz21_4,hfz21_5⟩:=zf6 BK136.out
     try go_wp2_with (first|((with_reducible refine gate_callee (f:=35) rfl ?_);refine goesL_ (some 38) rfl rfl Tryd.func35 (by kernel_rfl) rfl #[.slice none 0 0,.int .u64 (IntKind.u64.wrap (a0_0)),.int .i64 4] rfl (by (try simp only [List.map_toArray,List.map_cons,List.map_nil]);first|done|rfl|(simp only [List.length_drop,List.length_take];rfl)|(simp (disch:=omega) only [u64_in];rfl)) ?_;(refine (pack_Num.calls kj2 (fun k_=>some k_=(.slice none 0 0:Value).ownBlock) (.slice none 0 0) ([]:List Int) (IntKind.u64.wrap (a0_0)) 4 t142 w _ ?side1 ?side2 A17.out).mono ?_);(case side1=>repeat (first|(with_reducible first|exact HB.out|apply zl1|apply zl2|apply zl3|refine below_set ?_ GE136.out)|exact HB.out));(case side2=>exact Kd.R_nil _ _ _ _ _);rintro e w22 ⟨v143,rfl,ho0,hb,hkp⟩;refine ⟨_,rfl,?_⟩;replace BK136:=Aside0.mk (blk_kept (by (with_reducible repeat (first|apply zb1|apply zb2|apply zb3));exact BK136.out) hkp (fun hs_=>(fun e_=>by simp [Value.ownBlock] at e_) hs_));have HO144:=Aside0.mk (Kd.R_mono (ok':=fun k_=>True) ho0 (fun k_ hk_=>trivial));replace HB:=Aside0.mk (hb);(try clear hb);(try clear hkp);(try clear ho0)))
     replace HO144:=Aside0.mk (Kd.R_drew HO144.out)
     replace BK136:=Aside0.mk (blk_drew BK136.out)
     replace HB:=Aside0.mk (below_drew1 HB.out)
     refine start_ (n:=9) (S:=fun w'=>w'.cell? ⟨gb136,0,none⟩=some (.int .i64 a0_0)∧w'.cell? ⟨gb136,1,none⟩=some (.int .i64 a0_1)∧w'.cell? ⟨gb136,2,none⟩=some (.int .i64 a0_2)∧w'.cell? ⟨gb136,3,none⟩=some (.int .i64 a0_3)∧w'.cell? ⟨gb136,4,none⟩=some (.int .i64 a0_4)∧w'.cell? ⟨gb136,5,none⟩=some (.string a0_5)) (ds:=[]) #[false,false,false,false,false,false,false,false,false] (by kernel_rfl) rfl rfl ⟨(blk_cell BK136.out 0).trans rfl,(blk_cell BK136.out 1).trans rfl,(blk_cell BK136.out 2).trans rfl,(blk_cell BK136.out 3).trans rfl,(blk_cell BK136.out 4).trans rfl,(blk_cell BK136.out 5).trans rfl⟩ (fun hHeld=>?_);refine with_tabW outbox_Write.tab5 outbox_Write.bits5 (fun HT_ HW_=>?_)
     generalize w22.drew=w23 at HO144 BK136 HB hHeld ⊢
     refine pure_ (i:=0) (N:=some 39) (v:=?_) (a':=?_) #[true,false,false,false,false,false,false,false,false] rfl rfl (any_of HT_.out (by kernel_rfl)) (fun _ _ _ h=>h) (Or.inl ⟨by rfl,?_⟩) ?_ ?_
     rotate_left
     ·intro w'
      go_simp
      with_reducible rfl
     rotate_left
     ·simp only [Act.put,List.setIfInBounds_toArray,List.set_cons_zero,List.set_cons_succ,i64_w,i32_w]
      rfl
     refine pure_ (i:=4) (N:=some 43) (v:=?_) (a':=?_) #[true,false,false,false,true,false,false,false,false] rfl rfl (any_of HT_.out (by kernel_rfl)) (fun _ _ _ h=>h) (Or.inl ⟨by rfl,?_⟩) ?_ ?_
     rotate_left
     ·intro w'
      go_simp
      with_reducible rfl
     rotate_left
     ·simp only [Act.put,List.setIfInBounds_toArray,List.set_cons_zero,List.set_cons_succ,i64_w,i32_w]
      rfl
     refine take_ (i:=1) (N:=some 40) (v:=?_) (a':=?_) #[true,true,false,false,true,false,false,false,false] rfl rfl (take_ofW HT_.out HW_.out (by kernel_rfl)) (fun _ _ _ h=>h) (Or.inl ⟨by rfl,?_⟩) hHeld ?_ ?_
     rotate_left
     ·rintro w' ⟨s0,s1,s2,s3,s4,s5⟩
      go_simp
      with_reducible rfl
     rotate_left
     ·simp only [Act.put,List.setIfInBounds_toArray,List.set_cons_zero,List.set_cons_succ,i64_w,i32_w]
      rfl
     refine pure_ (i:=2) (N:=some 41) (v:=?_) (a':=?_) #[true,true,true,false,true,false,false,false,false] rfl rfl (any_of HT_.out (by kernel_rfl)) (fun _ _ _ h=>h) (Or.inl ⟨by rfl,?_⟩) ?_ ?_
     rotate_left
     ·intro w'
      go_simp
      with_reducible rfl
     rotate_left
     ·simp only [Act.put,List.setIfInBounds_toArray,List.set_cons_zero,List.set_cons_succ,i64_w,i32_w]
      rfl
     refine take_ (i:=5) (N:=some 44) (v:=?_) (a':=?_) #[true,true,true,false,true,true,false,false,false] rfl rfl (take_ofW HT_.out HW_.out (by kernel_rfl)) (fun _ _ _ h=>h) (Or.inl ⟨by rfl,?_⟩) hHeld ?_ ?_
     rotate_left
     ·rintro w' ⟨s0,s1,s2,s3,s4,s5⟩
      go_simp
      with_reducible rfl
     rotate_left
     ·simp only [Act.put,List.setIfInBounds_toArray,List.set_cons_zero,List.set_cons_succ,i64_w,i32_w]
      rfl
     refine pure_ (i:=6) (N:=some 45) (v:=?_) (a':=?_) #[true,true,true,false,true,true,true,false,false] rfl rfl (any_of HT_.out (by kernel_rfl)) (fun _ _ _ h=>h) (Or.inl ⟨by rfl,?_⟩) ?_ ?_
     rotate_left
     ·intro w'
      go_simp
      with_reducible rfl
     rotate_left
     ·simp only [Act.put,List.setIfInBounds_toArray,List.set_cons_zero,List.set_cons_succ,i64_w,i32_w]
      rfl
     refine one_ (i:=3) (N:=some 42) #[true,true,true,true,true,true,true,false,false] rfl rfl (one_of HT_.out (by kernel_rfl)) (by decide) (fun K hK=>?_)
     refine goes_ Tryd.func35 (by kernel_rfl) rfl #[.slice none 0 0,.int .u64 (IntKind.u64.wrap (a0_1)),.int .i64 2] (by rfl) rfl rfl (by (try simp only [List.map_toArray,List.map_cons,List.map_nil]);first|done|rfl|(simp only [List.length_drop,List.length_take];rfl)|(simp (disch:=omega) only [u64_in];rfl)) ?_
     refine (pack_Num.calls kj2 (fun k_=>some k_=(.slice none 0 0:Value).ownBlock) (.slice none 0 0) ([]:List Int) (IntKind.u64.wrap (a0_1)) 2 t145 w _ ?side1 ?side2 A18.out).mono ?_
     (case side1=>repeat (first|(with_reducible first|exact HB.out|apply zl1|apply zl2|apply zl3|refine below_set ?_ GE136.out)|exact HB.out))
     (case side2=>exact Kd.R_nil _ _ _ _ _)
     rintro e w24 ⟨v146,rfl,ho0,hb,hkp⟩
     refine ⟨_,rfl,?_⟩
     replace BK136:=Aside0.mk (blk_kept (by (with_reducible repeat (first|apply zb1|apply zb2|apply zb3));exact BK136.out) hkp (fun hs_=>(fun e_=>by simp [Value.ownBlock] at e_) hs_))
     have HO147:=Aside0.mk (Kd.R_mono (ok':=fun k_=>some k_ ≠ (v143:Value).ownBlock) ho0 (fun k_ hk_=>Or.elim hk_ (fun hs_=>absurd hs_ (by simp [Value.ownBlock])) (fun hn_=>(Kd.fresh' (Kd.R_lt (by (with_reducible repeat (first|apply zk1|apply zk2|apply zk3));exact HO144.out)) k_ hn_))))
     replace HO144:=Aside0.mk (Kd.R_mono (ok':=fun k_=>some k_ ≠ (v146:Value).ownBlock) (Kd.R_keptB (HO144.out) hkp (fun k_ hk_ hs_=>(fun e_=>by simp [Value.ownBlock] at e_) hs_)) (fun k_ hk_=>fun e_=>Or.elim (ho0.1 k_ e_.symm) (fun hs_=>hk_.2.1 hs_) (fun hn_=>Nat.not_le.2 hk_.2.2 hn_)))
     replace HB:=Aside0.mk (hb)
     (try clear hb)
     (try clear hkp)
     (try clear ho0)
     obtain ⟨Ao25,co25,eo25⟩:=Kd.R_slice HO147.out
     (first|subst eo25|(injection eo25 with f1_ f2_ f3_;have f4_:=f1_.symm;have f5_:=f3_.symm;clear f1_ f2_ f3_;subst f4_;subst f5_))
     refine hK.out _ _ ⟨(blk_cell BK136.out 0).trans rfl,(blk_cell BK136.out 1).trans rfl,(blk_cell BK136.out 2).trans rfl,(blk_cell BK136.out 3).trans rfl,(blk_cell BK136.out 4).trans rfl,(blk_cell BK136.out 5).trans rfl⟩ (fun hHeld=>?_)
     clear hK K
     refine norm_ (a':=?_) ?_ ?_
     rotate_left
     ·show Act.put _ (some 42) _=_
      simp only [Act.put,List.setIfInBounds_toArray,List.set_cons_zero,List.set_cons_succ,i64_w,i32_w]
      rfl
     refine one_ (i:=7) (N:=some 46) #[true,true,true,true,true,true,true,true,false] rfl rfl (one_of HT_.out (by kernel_rfl)) (by decide) (fun K hK=>?_)
     refine goes_ Tryd.func35 (by kernel_rfl) rfl #[.slice Ao25 t145.length co25,.int .u64 (IntKind.u64.wrap (a0_2)),.int .i64 1] (by rfl) rfl rfl (by (try simp only [List.map_toArray,List.map_cons,List.map_nil]);first|done|rfl|(simp only [List.length_drop,List.length_take];rfl)|(simp (disch:=omega) only [u64_in];rfl)) ?_
     with_reducible refine (pack_Num.calls kj2 (fun k_=>some k_=(.slice Ao25 t145.length co25:Value).ownBlock) (.slice Ao25 t145.length co25) t145 (IntKind.u64.wrap (a0_2)) 1 t148 w _ ?side1 ?side2 A19.out).mono ?_
     (case side1=>repeat (first|(with_reducible first|exact HB.out|apply zl1|apply zl2|apply zl3|refine below_set ?_ GE136.out)|exact HB.out))
     (case side2=>exact Kd.R_tight rfl HO147.out)
     rintro e w26 ⟨v149,rfl,ho0,hb,hkp⟩
     refine ⟨_,rfl,?_⟩
     have n0_:=Aside0.mk (blk_kept (by (with_reducible repeat (first|apply zb1|apply zb2|apply zb3));exact BK136.out) hkp (fun hs_=>(fun e_=>(Kd.R_ne HO147.out BK136.out (by decide)) e_) hs_))
     have n1_:=Aside0.mk (Kd.R_mono (ok':=fun k_=>some k_ ≠ (v149:Value).ownBlock) (Kd.R_keptB (HO144.out) hkp (fun k_ hk_ hs_=>(hk_) hs_)) (fun k_ hk_=>fun e_=>Or.elim (ho0.1 k_ e_.symm) (fun hs_=>hk_.2.1 hs_) (fun hn_=>Nat.not_le.2 hk_.2.2 hn_)))
     have n2_:=Aside0.mk (Kd.R_mono (ok':=fun k_=>some k_ ≠ (v143:Value).ownBlock) ho0 (fun k_ hk_=>Or.elim hk_ (fun hs_=>fun e_=>(((HO144.out).1 k_ e_.symm)) hs_) (fun hn_=>(Kd.fresh' (Kd.R_lt (by (with_reducible repeat (first|apply zk1|apply zk2|apply zk3));exact HO144.out)) k_ hn_))))
     have n3_:=Aside0.mk (hb)
     clear BK136
     clear HO144
     clear HB
     clear HO147
     have BK136:=n0_
     have HO144:=n1_
     have HO150:=n2_
     have HB:=n3_
     clear n0_ n1_ n2_ n3_
     (try clear hb)
     (try clear hkp)
     (try clear ho0)
     refine hK.out _ _ ⟨(blk_cell BK136.out 0).trans rfl,(blk_cell BK136.out 1).trans rfl,(blk_cell BK136.out 2).trans rfl,(blk_cell BK136.out 3).trans rfl,(blk_cell BK136.out 4).trans rfl,(blk_cell BK136.out 5).trans rfl⟩ (fun hHeld=>?_)
     clear hK K
     refine norm_ (a':=?_) ?_ ?_
     rotate_left
     ·show Act.put _ (some 46) _=_
      simp only [Act.put,List.setIfInBounds_toArray,List.set_cons_zero,List.set_cons_succ,i64_w,i32_w]
      rfl
     refine pure_ (i:=8) (N:=some 8) (v:=?_) (a':=?_) #[true,true,true,true,true,true,true,true,true] rfl rfl (any_of HT_.out (by kernel_rfl)) (fun _ _ _ h=>h) (Or.inl ⟨by rfl,?_⟩) ?_ ?_
     rotate_left
     ·intro w'
      go_simp
      with_reducible rfl
     rotate_left
     ·simp only [Act.put,List.setIfInBounds_toArray,List.set_cons_zero,List.set_cons_succ,i64_w,i32_w]
      rfl
     refine done_ (done_of HT_.out (by kernel_rfl)) ?_
     try go_wp2
     replace HO144:=Aside0.mk (Kd.R_drew HO144.out)
     replace HO150:=Aside0.mk (Kd.R_drew HO150.out)
     replace BK136:=Aside0.mk (blk_drew BK136.out)
     replace HB:=Aside0.mk (below_drew1 HB.out)
     have hcv28:=own_string (P:=Tryd.prog) Tryd.underlying64 Tryd.underlying5 Tryd.underlying9 (Kd.own_of_R HO144.out)
     have hcv29:=own_string (P:=Tryd.prog) Tryd.underlying64 Tryd.underlying5 Tryd.underlying9 (Kd.own_of_R HO150.out)
     refine start_ (n:=9) (S:=fun w'=>Sem.run Tryd.prog (convert 64 9 v143) w'=Result.ok (Value.string (strOfNums t142)) w'∧Sem.run Tryd.prog (convert 64 9 v149) w'=Result.ok (Value.string (strOfNums t148)) w') (ds:=[]) #[false,false,false,false,false,false,false,false,false] (by kernel_rfl) rfl rfl ⟨(own_string (P:=Tryd.prog) Tryd.underlying64 Tryd.underlying5 Tryd.underlying9 (Kd.own_of_R HO144.out)),(own_string (P:=Tryd.prog) Tryd.underlying64 Tryd.underlying5 Tryd.underlying9 (Kd.own_of_R HO150.out))⟩ (fun hHeld=>?_);refine with_tabW outbox_Write.tab6 outbox_Write.bits6 (fun HT_ HW_=>?_)
     generalize w26.drew=w27 at HO144 HO150 BK136 HB hHeld ⊢
     refine pure_ (i:=0) (N:=some 47) (v:=?_) (a':=?_) #[true,false,false,false,false,false,false,false,false] rfl rfl (any_of HT_.out (by kernel_rfl)) (fun _ _ _ h=>h) (Or.inl ⟨by rfl,?_⟩) ?_ ?_
     rotate_left
     ·intro w'
      go_simp
      with_reducible rfl
     rotate_left
     ·simp only [Act.put,List.setIfInBounds_toArray,List.set_cons_zero,List.set_cons_succ,i64_w,i32_w]
      rfl
     refine pure_ (i:=2) (N:=some 49) (v:=?_) (a':=?_) #[true,false,true,false,false,false,false,false,false] rfl rfl (any_of HT_.out (by kernel_rfl)) (fun _ _ _ h=>h) (Or.inl ⟨by rfl,?_⟩) ?_ ?_
     rotate_left
     ·intro w'
      go_simp
      with_reducible rfl
     rotate_left
     ·simp only [Act.put,List.setIfInBounds_toArray,List.set_cons_zero,List.set_cons_succ,i64_w,i32_w]
      rfl
     refine pure_ (i:=4) (N:=some 51) (v:=?_) (a':=?_) #[true,false,true,false,true,false,false,false,false] rfl rfl (any_of HT_.out (by kernel_rfl)) (fun _ _ _ h=>h) (Or.inl ⟨by rfl,?_⟩) ?_ ?_
     rotate_left
     ·intro w'
      go_simp
      with_reducible rfl
     rotate_left
     ·simp only [Act.put,List.setIfInBounds_toArray,List.set_cons_zero,List.set_cons_succ,i64_w,i32_w]
      rfl
     refine take_ (i:=1) (N:=some 48) (v:=?_) (a':=?_) #[true,true,true,false,true,false,false,false,false] rfl rfl (take_ofW HT_.out HW_.out (by kernel_rfl)) (fun _ _ _ h=>h) (Or.inl ⟨by rfl,?_⟩) hHeld ?_ ?_
     rotate_left
     ·rintro w' ⟨s0,s1⟩
      go_simp
      with_reducible rfl
     rotate_left
     ·simp only [Act.put,List.setIfInBounds_toArray,List.set_cons_zero,List.set_cons_succ,i64_w,i32_w]
      rfl
     refine pure_ (i:=6) (N:=some 2) (v:=?_) (a':=?_) #[true,true,true,false,true,false,true,false,false] rfl rfl (any_of HT_.out (by kernel_rfl)) (fun _ _ _ h=>h) (Or.inl ⟨by rfl,?_⟩) ?_ ?_
     rotate_left
     ·intro w'
      go_simp
      with_reducible rfl
     rotate_left
     ·simp only [Act.put,List.setIfInBounds_toArray,List.set_cons_zero,List.set_cons_succ,i64_w,i32_w]
      rfl
     refine take_ (i:=3) (N:=some 50) (v:=?_) (a':=?_) #[true,true,true,true,true,false,true,false,false] rfl rfl (take_ofW HT_.out HW_.out (by kernel_rfl)) (fun _ _ _ h=>h) (Or.inl ⟨by rfl,?_⟩) hHeld ?_ ?_
     rotate_left
     ·rintro w' ⟨s0,s1⟩
      go_simp
      with_reducible rfl
     rotate_left
     ·simp only [Act.put,List.setIfInBounds_toArray,List.set_cons_zero,List.set_cons_succ,i64_w,i32_w]
      rfl
     refine pure_ (i:=5) (N:=some 52) (v:=?_) (a':=?_) #[true,true,true,true,true,true,true,false,false] rfl rfl (any_of HT_.out (by kernel_rfl)) (fun _ _ _ h=>h) (Or.inl ⟨by rfl,?_⟩) ?_ ?_
     rotate_left
     ·intro w'
      go_simp
      with_reducible rfl
     rotate_left
     ·simp only [Act.put,List.setIfInBounds_toArray,List.set_cons_zero,List.set_cons_succ,i64_w,i32_w]
      rfl
     refine pure_ (i:=7) (N:=some 3) (v:=?_) (a':=?_) #[true,true,true,true,true,true,true,true,false] rfl rfl (any_of HT_.out (by kernel_rfl)) (fun _ _ _ h=>h) (Or.inl ⟨by rfl,?_⟩) ?_ ?_
     rotate_left
     ·intro w'
      go_simp
      with_reducible rfl
     rotate_left
     ·simp only [Act.put,List.setIfInBounds_toArray,List.set_cons_zero,List.set_cons_succ,i64_w,i32_w]
      rfl
     refine pure_ (i:=8) (N:=some 4) (v:=?_) (a':=?_) #[true,true,true,true,true,true,true,true,true] rfl rfl (any_of HT_.out (by kernel_rfl)) (fun _ _ _ h=>h) (Or.inl ⟨by rfl,?_⟩) ?_ ?_
     rotate_left
     ·intro w'
      go_simp
      with_reducible rfl
     rotate_left
     ·simp only [Act.put,List.setIfInBounds_toArray,List.set_cons_zero,List.set_cons_succ,i64_w,i32_w]
      rfl
     refine done_ (done_of HT_.out (by kernel_rfl)) ?_
     try go_wp2
     go_ret3
     exact ⟨by first|(with_reducible rfl)|(simp only [isEmpty_bne,Bool.not_not] <;> rfl)|rfl|(simp [*,errW_none,errW_some] <;> rfl),by repeat (first|(with_reducible first|exact HB.out|apply zl1|apply zl2|apply zl3|refine below_set ?_ GE136.out)|exact HB.out)⟩
    ·rw [if_neg c20] at H
     exact absurd H (by simp)

end Go.Proofs.YtnlfppfdfdopiaaDoor.PAll
