/- Printed walks of the functions that the laws reach: each function, what it computes, and that it does. No conditions. -/
import Derived.Test.YtnlfppfdfdopiaaDoorPAllx0
import Derived.Test.YtnlfppfdfdopiaaDoorPAllx1
namespace Go.Proofs.YtnlfppfdfdopiaaDoor.PAll
open Go.RowKit Go.Proofs.YtnlfppfdfdopiaaDoor.XW Go.Proofs.YtnlfppfdfdopiaaDoor.XLib Go.Proofs.YtnlfppfdfdopiaaDoorW.PrintWords Go.Proofs.YtnlfppfdfdopiaaDoorW.PrintLast Go.Proofs.YtnlfppfdfdopiaaDoorW.PrintMore
attribute [local go_sem] max2_int min2_int max_two min_two max_three min_three max_four min_four   -- for this text's walks alone
set_option linter.unusedVariables false
set_option linter.unusedSimpArgs false

/-! ### slices_IndexFunc_at_keys_odd: function 67 -/
def slices_IndexFunc_at_keys_odd.l0:Nat→List (S30)→Int→Int→Option (Int)
 | 0,_,_,_=>none
 | k + 1,x0,x7,x8=>if x8 < x7 then (if 0≤x8 then (if x8 < (x0.length:Int) then ((keys_odd.f ((rd_T30 x0 x8).f0) ((rd_T30 x0 x8).f1) ((rd_T30 x0 x8).f2)).bind fun t107=>(if t107=true then (some x8) else (slices_IndexFunc_at_keys_odd.l0 k x0 x7 (wrap64 (x8 + 1))))) else (none)) else (none)) else (some (-1))
def slices_IndexFunc_at_keys_odd.f (k:Nat) (l0:List (S30)) :Option (Int):=slices_IndexFunc_at_keys_odd.l0 k l0 (l0.length:Int) 0
theorem slices_IndexFunc_at_keys_odd.mono_l:∀ k,(∀ y0 y1 y2,LeO (slices_IndexFunc_at_keys_odd.l0 k y0 y1 y2) (slices_IndexFunc_at_keys_odd.l0 (k + 1) y0 y1 y2))
 | 0=>fun _ _ _ r h=>by simp [slices_IndexFunc_at_keys_odd.l0] at h
 | k + 1=>by
  have ih0:=slices_IndexFunc_at_keys_odd.mono_l k
  ·intro y0 y1 y2
   unfold slices_IndexFunc_at_keys_odd.l0
   repeat' first
   | (with_reducible exact ih0 _ _ _)
   | (with_reducible exact LeO.refl _)
   | (with_reducible exact LeO.none _)
   | (with_reducible refine LeO.ite ?_ ?_)
   | (with_reducible refine LeO.bind ?_ (fun _=>?_))
   | exact ih0 _ _ _
   | exact LeO.none _
   | refine LeO.ite ?_ ?_
   | refine LeO.bind ?_ (fun _=>?_)
theorem slices_IndexFunc_at_keys_odd.mono:∀ a0 k,LeO (slices_IndexFunc_at_keys_odd.f k a0) (slices_IndexFunc_at_keys_odd.f (k + 1) a0):=by
 intro a0 k
 have ih0:=slices_IndexFunc_at_keys_odd.mono_l k
 unfold slices_IndexFunc_at_keys_odd.f
 repeat' first
   | (with_reducible exact ih0 _ _ _)
   | (with_reducible exact LeO.refl _)
   | (with_reducible exact LeO.none _)
   | (with_reducible refine LeO.ite ?_ ?_)
   | (with_reducible refine LeO.bind ?_ (fun _=>?_))
   | exact ih0 _ _ _
   | exact LeO.none _
   | refine LeO.ite ?_ ?_
   | refine LeO.bind ?_ (fun _=>?_)
set_option maxHeartbeats 8000000 in
set_option maxRecDepth 100000 in
theorem slices_IndexFunc_at_keys_odd.calls (k:Nat) (A0:Option Addr) (c0:Nat) (l0:List (S30))  (r:Int) (w:World) (hr0:Kd.C k30 w A0 l0.length l0) (hc0:l0.length≤c0) (h:slices_IndexFunc_at_keys_odd.f k l0=some r) :
  Calls Tryd.prog 67 #[.slice A0 l0.length c0,.func (.func 65) #[] #[]] w fun e w'=>e=.returned (.int .i64 r)∧Below w.heap.size w w':=by
 have hu30:=Tryd.underlying30
 have HR0:=Aside0.mk hr0
 have HC0:=Aside0.mk hc0
 clear hr0 hc0
 have HB:=Aside0.mk (Below.refl w.heap.size w)
 have H:(slices_IndexFunc_at_keys_odd.l0 k l0 (l0.length:Int) 0)=some r:=h
 clear h
 have H':=Aside0.mk H
 clear H
 go_enter Tryd.func67,Tryd.ntmps67
 go_wp2
 go_loopg [8] k (fun kq v8 w'=>∃ (x8_1:Int),v8=.int .i64 x8_1∧Aside0 (slices_IndexFunc_at_keys_odd.l0 kq l0 (l0.length:Int) x8_1=some r)∧Aside0 (kq≤k)∧Aside0 (Below w.heap.size w w'))
 case atStart=>exact ⟨(0),(by first|(with_reducible rfl)|(simp;done)|(simp [*];done)|rfl|(simp only [not_isEmpty_bne])),H',⟨Nat.le_refl _⟩,⟨by repeat (first|(with_reducible first|exact HB.out|apply zl1|apply zl2|apply zl3)|exact HB.out)⟩⟩
 case round =>
  clear H'
  try clear p2
  obtain ⟨x8_1,rfl,HA,HK1,HB⟩:=hrel
  cases gk with
  | zero=>exact absurd HA.out (by simp [slices_IndexFunc_at_keys_odd.l0])
  | succ k1 =>
   have H:=HA.out
   clear HA
   simp only [slices_IndexFunc_at_keys_odd.l0] at H
   by_cases c3:x8_1 < (l0.length:Int)
   ·rw [if_pos c3] at H
    have c3b0:decide (x8_1 < (l0.length:Int))=true:=decide_eq_true c3
    clear c3
    by_cases c4:0≤x8_1
    ·rw [if_pos c4] at H
     have c4b0:decide (0≤x8_1)=true:=decide_eq_true c4
     clear c4
     by_cases c5:x8_1 < (l0.length:Int)
     ·rw [if_pos c5] at H
      have c5b0:decide (x8_1 < (l0.length:Int))=true:=decide_eq_true c5
      clear c5
      replace H:=Option.bind_eq_some_iff.mp H
      obtain ⟨t107,A60,H⟩:=H
      replace H:(if t107=true then (some x8_1) else (slices_IndexFunc_at_keys_odd.l0 k1 l0 (l0.length:Int) (wrap64 (x8_1 + 1))))=some r:=H
      have A6:=Aside0.mk A60
      clear A60
      by_cases c7:t107=true
      ·subst c7
       have H1:(some x8_1)=some r:=by rw [if_pos rfl] at H;exact H
       clear H
       have H:=H1
       clear H1
       obtain rfl:=Option.some.inj H
       have p106:0≤(x8_1:Int):=of_decide_eq_true (by first|(with_reducible assumption)|assumption)
       have q106:x8_1 < (l0.length:Int):=of_decide_eq_true (by first|(with_reducible assumption)|assumption)
       obtain ⟨ad106,e106,hx106_0,hx106_1,hx106_2⟩:=at_T30 HR0.out x8_1 p106 q106
       cases e106
       replace hx106_0:=(HB.out.cell (World.block_lt_of_cell? w _ hx106_0)).trans hx106_0
       replace hx106_1:=(HB.out.cell (World.block_lt_of_cell? w _ hx106_1)).trans hx106_1
       replace hx106_2:=(HB.out.cell (World.block_lt_of_cell? w _ hx106_2)).trans hx106_2
       replace p106:=eq_true p106
       replace q106:=eq_true q106
       go_wp2_with (first|(go_at_call 65;(with_reducible refine (keys_odd.calls ((rd_T30 l0 x8_1).f0) ((rd_T30 l0 x8_1).f1) ((rd_T30 l0 x8_1).f2) true _ A6.out).mono ?_);rintro e w8 ⟨rfl,hb⟩;replace HB:=Aside0.mk (below_step (by repeat (first|(with_reducible first|exact HB.out|apply zl1|apply zl2|apply zl3)|exact HB.out)) hb);(try clear hb)))
       go_ret
       exact ⟨by first|(with_reducible rfl)|(simp only [isEmpty_bne,Bool.not_not] <;> rfl)|rfl|(simp [*,errW_none,errW_some] <;> rfl),by repeat (first|(with_reducible first|exact HB.out|apply zl1|apply zl2|apply zl3)|exact HB.out)⟩
      ·replace c7:=Bool.eq_false_iff.mpr c7
       subst c7
       have H1:(slices_IndexFunc_at_keys_odd.l0 k1 l0 (l0.length:Int) (wrap64 (x8_1 + 1)))=some r:=by rw [if_neg (show ¬ (false=true) by decide)] at H;exact H
       clear H
       have H:=H1
       clear H1
       have H':=Aside0.mk H
       clear H
       have p106:0≤(x8_1:Int):=of_decide_eq_true (by first|(with_reducible assumption)|assumption)
       have q106:x8_1 < (l0.length:Int):=of_decide_eq_true (by first|(with_reducible assumption)|assumption)
       obtain ⟨ad106,e106,hx106_0,hx106_1,hx106_2⟩:=at_T30 HR0.out x8_1 p106 q106
       cases e106
       replace hx106_0:=(HB.out.cell (World.block_lt_of_cell? w _ hx106_0)).trans hx106_0
       replace hx106_1:=(HB.out.cell (World.block_lt_of_cell? w _ hx106_1)).trans hx106_1
       replace hx106_2:=(HB.out.cell (World.block_lt_of_cell? w _ hx106_2)).trans hx106_2
       replace p106:=eq_true p106
       replace q106:=eq_true q106
       go_wp2_with (first|(go_at_call 65;(with_reducible refine (keys_odd.calls ((rd_T30 l0 x8_1).f0) ((rd_T30 l0 x8_1).f1) ((rd_T30 l0 x8_1).f2) false _ A6.out).mono ?_);rintro e w9 ⟨rfl,hb⟩;replace HB:=Aside0.mk (below_step (by repeat (first|(with_reducible first|exact HB.out|apply zl1|apply zl2|apply zl3)|exact HB.out)) hb);(try clear hb)))
       go_roundg k1
       case measure=>have:=HK1.out;omega
       case rel=>exact ⟨(wrap64 (x8_1 + 1)),(by first|(with_reducible rfl)|(simp;done)|(simp [*];done)|rfl|(simp only [not_isEmpty_bne])),H',⟨by have:=HK1.out;omega⟩,⟨by repeat (first|(with_reducible first|exact HB.out|apply zl1|apply zl2|apply zl3)|exact HB.out)⟩⟩
     ·rw [if_neg c5] at H
      exact absurd H (by simp)
    ·rw [if_neg c4] at H
     exact absurd H (by simp)
   ·rw [if_neg c3] at H
    have c3b0:decide (x8_1 < (l0.length:Int))=false:=decide_eq_false c3
    clear c3
    obtain rfl:=Option.some.inj H
    go_wp2
    go_ret
    exact ⟨by first|(with_reducible rfl)|(simp only [isEmpty_bne,Bool.not_not] <;> rfl)|rfl|(simp [*,errW_none,errW_some] <;> rfl),by repeat (first|(with_reducible first|exact HB.out|apply zl1|apply zl2|apply zl3)|exact HB.out)⟩

/-! ### slices_ContainsFunc_at_keys_odd: function 64 -/
def slices_ContainsFunc_at_keys_odd.f (k:Nat) (l0:List (S30)) :Option (Bool):=(slices_IndexFunc_at_keys_odd.f k l0).bind fun t108=>(some (decide (t108 ≥ 0)))
theorem slices_ContainsFunc_at_keys_odd.mono:∀ a0 k,LeO (slices_ContainsFunc_at_keys_odd.f k a0) (slices_ContainsFunc_at_keys_odd.f (k + 1) a0):=by
 intro a0 k
 unfold slices_ContainsFunc_at_keys_odd.f
 repeat' first
   | (with_reducible exact slices_IndexFunc_at_keys_odd.mono _ _)
   | (with_reducible exact LeO.refl _)
   | (with_reducible exact LeO.none _)
   | (with_reducible refine LeO.ite ?_ ?_)
   | (with_reducible refine LeO.bind ?_ (fun _=>?_))
   | exact slices_IndexFunc_at_keys_odd.mono _ _
   | exact LeO.none _
   | refine LeO.ite ?_ ?_
   | refine LeO.bind ?_ (fun _=>?_)
set_option maxHeartbeats 8000000 in
set_option maxRecDepth 100000 in
theorem slices_ContainsFunc_at_keys_odd.calls (k:Nat) (A0:Option Addr) (c0:Nat) (l0:List (S30))  (r:Bool) (w:World) (hr0:Kd.C k30 w A0 l0.length l0) (hc0:l0.length≤c0) (h:slices_ContainsFunc_at_keys_odd.f k l0=some r) :
  Calls Tryd.prog 64 #[.slice A0 l0.length c0,.func (.func 65) #[] #[]] w fun e w'=>e=.returned (.bool r)∧Below w.heap.size w w':=by
 have HR0:=Aside0.mk hr0
 have HC0:=Aside0.mk hc0
 clear hr0 hc0
 have HB:=Aside0.mk (Below.refl w.heap.size w)
 have H:((slices_IndexFunc_at_keys_odd.f k l0).bind fun t108=>(some (decide (t108 ≥ 0))))=some r:=h
 clear h
 replace H:=Option.bind_eq_some_iff.mp H
 obtain ⟨t108,A30,H⟩:=H
 replace H:(some (decide (t108 ≥ 0)))=some r:=H
 have A3:=Aside0.mk A30
 clear A30
 obtain rfl:=Option.some.inj H
 go_enter Tryd.func64,Tryd.ntmps64
 go_wp2_with (first|((with_reducible refine gate_callee (f:=67) rfl ?_);refine goesL_ (some 7) rfl rfl Tryd.func67 (by kernel_rfl) rfl #[.slice A0 l0.length c0,.func (.func 65) #[] #[]] rfl (by (try simp only [List.map_toArray,List.map_cons,List.map_nil]);first|done|rfl|(simp only [List.length_drop,List.length_take];rfl)|(simp (disch:=omega) only [u64_in];rfl)) ?_;(with_reducible refine (slices_IndexFunc_at_keys_odd.calls k _ _ l0 t108 _ ?side1 ?side2 A3.out).mono ?_);(case side1=>repeat (first|exact HR0.out|(with_reducible refine Kd.C_alloc ?_ _)|(with_reducible refine Kd.C_drewN ?_ _)|(with_reducible refine Kd.C_drew ?_)));(case side2=>exact HC0.out);rintro e w4 ⟨rfl,hb⟩;refine ⟨_,rfl,?_⟩;replace HB:=Aside0.mk (below_step (by repeat (first|(with_reducible first|exact HB.out|apply zl1|apply zl2|apply zl3)|exact HB.out)) hb);(try clear hb)))
 go_ret
 exact ⟨by first|(with_reducible rfl)|(simp only [isEmpty_bne,Bool.not_not] <;> rfl)|rfl|(simp [*,errW_none,errW_some] <;> rfl),by repeat (first|(with_reducible first|exact HB.out|apply zl1|apply zl2|apply zl3)|exact HB.out)⟩

end Go.Proofs.YtnlfppfdfdopiaaDoor.PAll
