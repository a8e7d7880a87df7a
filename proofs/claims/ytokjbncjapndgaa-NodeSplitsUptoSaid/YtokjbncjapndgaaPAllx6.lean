/- Printed walks of the functions that the laws reach: each function, what it computes, and that it does. No conditions. -/
import Derived.Test.YtokjbncjapndgaaPAllx0
import Derived.Test.YtokjbncjapndgaaPAllx5
namespace Go.Proofs.Ytokjbncjapndgaa.PAll
open Go.RowKit Go.Proofs.Ytokjbncjapndgaa.XW Go.Proofs.Ytokjbncjapndgaa.XLib Go.Proofs.YtokjbncjapndgaaW.PrintWords Go.Proofs.YtokjbncjapndgaaW.PrintLast Go.Proofs.YtokjbncjapndgaaW.PrintMore
attribute [local go_sem] max2_int min2_int max_two min_two max_three min_three max_four min_four   -- for this text's walks alone
set_option linter.unusedVariables false
set_option linter.unusedSimpArgs false

/-! ### slices_IndexFunc_at_node_right_1: function 63 -/
def slices_IndexFunc_at_node_right_1.l0:Nat→List (S43)→Int→Int→Option (Int)
 | 0,_,_,_=>none
 | k + 1,x0,x7,x8=>if x8 < x7 then (if 0≤x8 then (if x8 < (x0.length:Int) then ((node_right_1.f ((rd_T43 x0 x8).f0) ((rd_T43 x0 x8).f1)).bind fun t145=>(if t145=true then (some x8) else (slices_IndexFunc_at_node_right_1.l0 k x0 x7 (wrap64 (x8 + 1))))) else (none)) else (none)) else (some (-1))
def slices_IndexFunc_at_node_right_1.f (k:Nat) (l0:List (S43)) :Option (Int):=slices_IndexFunc_at_node_right_1.l0 k l0 (l0.length:Int) 0
theorem slices_IndexFunc_at_node_right_1.mono_l:∀ k,(∀ y0 y1 y2,LeO (slices_IndexFunc_at_node_right_1.l0 k y0 y1 y2) (slices_IndexFunc_at_node_right_1.l0 (k + 1) y0 y1 y2))
 | 0=>fun _ _ _ r h=>by simp [slices_IndexFunc_at_node_right_1.l0] at h
 | k + 1=>by
  have ih0:=slices_IndexFunc_at_node_right_1.mono_l k
  ·intro y0 y1 y2
   unfold slices_IndexFunc_at_node_right_1.l0
   repeat' first
   | (with_reducible exact ih0 _ _ _)
   | (with_reducible exact LeO.refl _)
   | (with_reducible exact LeO.none _)
   | (with_reducible refine LeO.ite ?_ ?_)
   | (with_reducible refine LeO.bind ?_ (fun _=>?_))
   | exact ih0 _ _ _
   | exact LeO.none _
   | refine LeO.ite ?_ ?_
   | refine LeO.bind ?_ (fun _=>?_)
theorem slices_IndexFunc_at_node_right_1.mono:∀ a0 k,LeO (slices_IndexFunc_at_node_right_1.f k a0) (slices_IndexFunc_at_node_right_1.f (k + 1) a0):=by
 intro a0 k
 have ih0:=slices_IndexFunc_at_node_right_1.mono_l k
 unfold slices_IndexFunc_at_node_right_1.f
 repeat' first
   | (with_reducible exact ih0 _ _ _)
   | (with_reducible exact LeO.refl _)
   | (with_reducible exact LeO.none _)
   | (with_reducible refine LeO.ite ?_ ?_)
   | (with_reducible refine LeO.bind ?_ (fun _=>?_))
   | exact ih0 _ _ _
   | exact LeO.none _
   | refine LeO.ite ?_ ?_
   | refine LeO.bind ?_ (fun _=>?_)
set_option maxHeartbeats 8000000 in
set_option maxRecDepth 100000 in
theorem slices_IndexFunc_at_node_right_1.calls (k:Nat) (A0:Option Addr) (c0:Nat) (l0:List (S43))  (r:Int) (w:World) (hr0:Kd.C k43 w A0 l0.length l0) (hc0:l0.length≤c0) (h:slices_IndexFunc_at_node_right_1.f k l0=some r) :
  Calls Try.prog 63 #[.slice A0 l0.length c0,.func (.func 42) #[] #[]] w fun e w'=>e=.returned (.int .i64 r)∧Below w.heap.size w w':=by
 have hu43:=Try.underlying43
 have HR0:=Aside0.mk hr0
 have HC0:=Aside0.mk hc0
 clear hr0 hc0
 have HB:=Aside0.mk (Below.refl w.heap.size w)
 have H:(slices_IndexFunc_at_node_right_1.l0 k l0 (l0.length:Int) 0)=some r:=h
 clear h
 have H':=Aside0.mk H
 clear H
 go_enter Try.func63,Try.ntmps63
 go_wp2
 go_loopg [8] k (fun kq v8 w'=>∃ (x8_1:Int),v8=.int .i64 x8_1∧Aside0 (slices_IndexFunc_at_node_right_1.l0 kq l0 (l0.length:Int) x8_1=some r)∧Aside0 (kq≤k)∧Aside0 (Below w.heap.size w w'))
 case atStart=>exact ⟨(0),(by first|(with_reducible rfl)|(simp;done)|(simp [*];done)|rfl|(simp only [not_isEmpty_bne])),H',⟨Nat.le_refl _⟩,⟨by repeat (first|(with_reducible first|exact HB.out|apply zl1|apply zl2|apply zl3)|exact HB.out)⟩⟩
 case round =>
  clear H'
  try clear p2
  obtain ⟨x8_1,rfl,HA,HK1,HB⟩:=hrel
  cases gk with
  | zero=>exact absurd HA.out (by simp [slices_IndexFunc_at_node_right_1.l0])
  | succ k1 =>
   have H:=HA.out
   clear HA
   simp only [slices_IndexFunc_at_node_right_1.l0] at H
   by_cases c3:x8_1 < (l0.length:Int)
   ·rw [if_pos c3] at H
    have c3b0:decide (x8_1 < (l0.length:Int))=true:=decide_eq_true c3
    clear c3
    by_cases c4:0≤x8_1
    ·rw [if_pos c4] at H
     have c4b0:decide (0≤x8_1)=true:=decide_eq_true c4
     clear c4
     by_cases c5:x8_1 < (l0.length:Int)
     ·rw [if_pos c5] at H
      have c5b0:decide (x8_1 < (l0.length:Int))=true:=decide_eq_true c5
      clear c5
      replace H:=Option.bind_eq_some_iff.mp H
      obtain ⟨t145,A60,H⟩:=H
      replace H:(if t145=true then (some x8_1) else (slices_IndexFunc_at_node_right_1.l0 k1 l0 (l0.length:Int) (wrap64 (x8_1 + 1))))=some r:=H
      have A6:=Aside0.mk A60
      clear A60
      by_cases c7:t145=true
      ·subst c7
       have H1:(some x8_1)=some r:=by rw [if_pos rfl] at H;exact H
       clear H
       have H:=H1
       clear H1
       obtain rfl:=Option.some.inj H
       have p144:0≤(x8_1:Int):=of_decide_eq_true (by first|(with_reducible assumption)|assumption)
       have q144:x8_1 < (l0.length:Int):=of_decide_eq_true (by first|(with_reducible assumption)|assumption)
       obtain ⟨ad144,e144,hx144_0,hx144_1⟩:=at_T43 HR0.out x8_1 p144 q144
       cases e144
       replace hx144_0:=(HB.out.cell (World.block_lt_of_cell? w _ hx144_0)).trans hx144_0
       replace hx144_1:=(HB.out.cell (World.block_lt_of_cell? w _ hx144_1)).trans hx144_1
       replace p144:=eq_true p144
       replace q144:=eq_true q144
       go_wp2_with (first|(go_at_call 42;(with_reducible refine (node_right_1.calls ((rd_T43 l0 x8_1).f0) ((rd_T43 l0 x8_1).f1) true _ A6.out).mono ?_);rintro e w8 ⟨rfl,hb⟩;replace HB:=Aside0.mk (below_step (by repeat (first|(with_reducible first|exact HB.out|apply zl1|apply zl2|apply zl3)|exact HB.out)) hb);(try clear hb)))
       go_ret
       exact ⟨by first|(with_reducible rfl)|(simp only [isEmpty_bne,Bool.not_not] <;> rfl)|rfl|(simp [*,errW_none,errW_some] <;> rfl),by repeat (first|(with_reducible first|exact HB.out|apply zl1|apply zl2|apply zl3)|exact HB.out)⟩
      ·replace c7:=Bool.eq_false_iff.mpr c7
       subst c7
       have H1:(slices_IndexFunc_at_node_right_1.l0 k1 l0 (l0.length:Int) (wrap64 (x8_1 + 1)))=some r:=by rw [if_neg (show ¬ (false=true) by decide)] at H;exact H
       clear H
       have H:=H1
       clear H1
       have H':=Aside0.mk H
       clear H
       have p144:0≤(x8_1:Int):=of_decide_eq_true (by first|(with_reducible assumption)|assumption)
       have q144:x8_1 < (l0.length:Int):=of_decide_eq_true (by first|(with_reducible assumption)|assumption)
       obtain ⟨ad144,e144,hx144_0,hx144_1⟩:=at_T43 HR0.out x8_1 p144 q144
       cases e144
       replace hx144_0:=(HB.out.cell (World.block_lt_of_cell? w _ hx144_0)).trans hx144_0
       replace hx144_1:=(HB.out.cell (World.block_lt_of_cell? w _ hx144_1)).trans hx144_1
       replace p144:=eq_true p144
       replace q144:=eq_true q144
       go_wp2_with (first|(go_at_call 42;(with_reducible refine (node_right_1.calls ((rd_T43 l0 x8_1).f0) ((rd_T43 l0 x8_1).f1) false _ A6.out).mono ?_);rintro e w9 ⟨rfl,hb⟩;replace HB:=Aside0.mk (below_step (by repeat (first|(with_reducible first|exact HB.out|apply zl1|apply zl2|apply zl3)|exact HB.out)) hb);(try clear hb)))
       go_roundg k1
       case measure=>have:=HK1.out;omega
       case rel=>exact ⟨(wrap64 (x8_1 + 1)),(by first|(with_reducible rfl)|(simp;done)|(simp [*];done)|rfl|(simp only [not_isEmpty_bne])),H',⟨by have:=HK1.out;omega⟩,⟨by repeat (first|(with_reducible first|exact HB.out|apply zl1|apply zl2|apply zl3)|exact HB.out)⟩⟩
     ·rw [if_neg c5] at H
      exact absurd H (by simp)
    ·rw [if_neg c4] at H
     exact absurd H (by simp)
   ·rw [if_neg c3] at H
    have c3b0:decide (x8_1 < (l0.length:Int))=false:=decide_eq_false c3
    clear c3
    obtain rfl:=Option.some.inj H
    go_wp2
    go_ret
    exact ⟨by first|(with_reducible rfl)|(simp only [isEmpty_bne,Bool.not_not] <;> rfl)|rfl|(simp [*,errW_none,errW_some] <;> rfl),by repeat (first|(with_reducible first|exact HB.out|apply zl1|apply zl2|apply zl3)|exact HB.out)⟩

/-! ### slices_ContainsFunc_at_node_right_1: function 45 -/
def slices_ContainsFunc_at_node_right_1.f (k:Nat) (l0:List (S43)) :Option (Bool):=(slices_IndexFunc_at_node_right_1.f k l0).bind fun t146=>(some (decide (t146 ≥ 0)))
theorem slices_ContainsFunc_at_node_right_1.mono:∀ a0 k,LeO (slices_ContainsFunc_at_node_right_1.f k a0) (slices_ContainsFunc_at_node_right_1.f (k + 1) a0):=by
 intro a0 k
 unfold slices_ContainsFunc_at_node_right_1.f
 repeat' first
   | (with_reducible exact slices_IndexFunc_at_node_right_1.mono _ _)
   | (with_reducible exact LeO.refl _)
   | (with_reducible exact LeO.none _)
   | (with_reducible refine LeO.ite ?_ ?_)
   | (with_reducible refine LeO.bind ?_ (fun _=>?_))
   | exact slices_IndexFunc_at_node_right_1.mono _ _
   | exact LeO.none _
   | refine LeO.ite ?_ ?_
   | refine LeO.bind ?_ (fun _=>?_)
set_option maxHeartbeats 8000000 in
set_option maxRecDepth 100000 in
theorem slices_ContainsFunc_at_node_right_1.calls (k:Nat) (A0:Option Addr) (c0:Nat) (l0:List (S43))  (r:Bool) (w:World) (hr0:Kd.C k43 w A0 l0.length l0) (hc0:l0.length≤c0) (h:slices_ContainsFunc_at_node_right_1.f k l0=some r) :
  Calls Try.prog 45 #[.slice A0 l0.length c0,.func (.func 42) #[] #[]] w fun e w'=>e=.returned (.bool r)∧Below w.heap.size w w':=by
 have HR0:=Aside0.mk hr0
 have HC0:=Aside0.mk hc0
 clear hr0 hc0
 have HB:=Aside0.mk (Below.refl w.heap.size w)
 have H:((slices_IndexFunc_at_node_right_1.f k l0).bind fun t146=>(some (decide (t146 ≥ 0))))=some r:=h
 clear h
 replace H:=Option.bind_eq_some_iff.mp H
 obtain ⟨t146,A30,H⟩:=H
 replace H:(some (decide (t146 ≥ 0)))=some r:=H
 have A3:=Aside0.mk A30
 clear A30
 obtain rfl:=Option.some.inj H
 go_enter Try.func45,Try.ntmps45
 go_wp2_with (first|((with_reducible refine gate_callee (f:=63) rfl ?_);refine goesL_ (some 7) rfl rfl Try.func63 (by kernel_rfl) rfl #[.slice A0 l0.length c0,.func (.func 42) #[] #[]] rfl (by (try simp only [List.map_toArray,List.map_cons,List.map_nil]);first|done|rfl|(simp only [List.length_drop,List.length_take];rfl)|(simp (disch:=omega) only [u64_in];rfl)) ?_;(with_reducible refine (slices_IndexFunc_at_node_right_1.calls k _ _ l0 t146 _ ?side1 ?side2 A3.out).mono ?_);(case side1=>repeat (first|exact HR0.out|(with_reducible refine Kd.C_alloc ?_ _)|(with_reducible refine Kd.C_drewN ?_ _)|(with_reducible refine Kd.C_drew ?_)));(case side2=>exact HC0.out);rintro e w4 ⟨rfl,hb⟩;refine ⟨_,rfl,?_⟩;replace HB:=Aside0.mk (below_step (by repeat (first|(with_reducible first|exact HB.out|apply zl1|apply zl2|apply zl3)|exact HB.out)) hb);(try clear hb)))
 go_ret
 exact ⟨by first|(with_reducible rfl)|(simp only [isEmpty_bne,Bool.not_not] <;> rfl)|rfl|(simp [*,errW_none,errW_some] <;> rfl),by repeat (first|(with_reducible first|exact HB.out|apply zl1|apply zl2|apply zl3)|exact HB.out)⟩

/-! ### node_right_2: function 46 -/
def node_right_2.f (a0:Int):Option (Bool):=if a0 < 1 then (some true) else (some (decide (a0 > 65535)))
set_option maxHeartbeats 8000000 in
set_option maxRecDepth 100000 in
theorem node_right_2.calls (a0:Int) (r:Bool) (w:World) (h:node_right_2.f a0=some r) :
  Calls Try.prog 46 #[.int .i64 a0] w fun e w'=>e=.returned (.bool r)∧Drawn0 w w':=by
 have H:(if a0 < 1 then (some true) else (some (decide (a0 > 65535))))=some r:=h
 clear h
 by_cases c2:a0 < 1
 ·rw [if_pos c2] at H
  have c2b0:decide (a0 < 1)=true:=decide_eq_true c2
  clear c2
  obtain rfl:=Option.some.inj H
  go_enter Try.func46,Try.ntmps46
  go_wp2
  go_ret
  exact ⟨by first|(with_reducible rfl)|(simp;done)|(simp [*];done)|rfl|(simp only [not_isEmpty_bne]),by repeat (first|exact Drawn0.refl _|apply Drawn0.step)⟩
 ·rw [if_neg c2] at H
  have c2b0:decide (a0 < 1)=false:=decide_eq_false c2
  clear c2
  obtain rfl:=Option.some.inj H
  go_enter Try.func46,Try.ntmps46
  go_wp2
  go_ret
  exact ⟨by first|(with_reducible rfl)|(simp;done)|(simp [*];done)|rfl|(simp only [not_isEmpty_bne]),by repeat (first|exact Drawn0.refl _|apply Drawn0.step)⟩

end Go.Proofs.Ytokjbncjapndgaa.PAll
