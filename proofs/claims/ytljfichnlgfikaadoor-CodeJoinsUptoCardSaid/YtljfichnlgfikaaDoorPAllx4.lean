/- Printed walks of the functions that the laws reach: each function, what it computes, and that it does. No conditions. -/
import Derived.Test.YtljfichnlgfikaaDoorPAllx0
namespace Go.Proofs.YtljfichnlgfikaaDoor.PAll
open Go.RowKit Go.Proofs.YtljfichnlgfikaaDoor.XW Go.Proofs.YtljfichnlgfikaaDoor.XLib Go.Proofs.YtljfichnlgfikaaDoorW.PrintWords Go.Proofs.YtljfichnlgfikaaDoorW.PrintLast Go.Proofs.YtljfichnlgfikaaDoorW.PrintMore
attribute [local go_sem] max2_int min2_int max_two min_two max_three min_three max_four min_four   -- for this text's walks alone
set_option linter.unusedVariables false
set_option linter.unusedSimpArgs false

/-! ### keys_odd: function 43 -/
def keys_odd.f (a0_0:Int) (a0_1:Int) (a0_2:ByteArray):Option (Bool):=if a0_0=1 then (some (a0_2.toList != ([]:List UInt8))) else (if a0_0=2 then (some (a0_1 != 0)) else (some true))
set_option maxHeartbeats 8000000 in
set_option maxRecDepth 100000 in
theorem keys_odd.calls (a0_0:Int) (a0_1:Int) (a0_2:ByteArray) (r:Bool) (w:World) (h:keys_odd.f a0_0 a0_1 a0_2=some r) :
  Calls Tryd.prog 43 #[.agg #[.int .i64 a0_0,.int .i64 a0_1,.string a0_2]] w fun e w'=>e=.returned (.bool r)∧Below w.heap.size w w':=by
 have hu40:=Tryd.underlying40
 have HB:=Aside0.mk (Below.refl w.heap.size w)
 have H:(if a0_0=1 then (some (a0_2.toList != ([]:List UInt8))) else (if a0_0=2 then (some (a0_1 != 0)) else (some true)))=some r:=h
 clear h
 by_cases c2:a0_0=1
 ·rw [if_pos c2] at H
  have c2b0:(a0_0 == 1)=true:=beq_iff_eq.mpr c2
  have c2b1:(a0_0 != 1)=false:=bne_eq_false_iff_eq.mpr c2
  clear c2
  obtain rfl:=Option.some.inj H
  go_enter Tryd.func43,Tryd.ntmps43
  go_wp2_with (first|((with_reducible refine gate_dst (N:=1) rfl ?_);refine box_event ?hg (N:=1) ?hd (cs:=#[.int .i64 a0_0,.int .i64 a0_1,.string a0_2]) (t:=40) ?hr ?_;(case hd=>rfl);(case hg=>rfl);(case hr=>first|(go_simp;done)|(go_simp;rfl));intro gb110 hg w3 hbox hb;have BK110:=Aside0.mk (hbox);have GW110:=Aside0.mk ((by rw [hg];exact (below_size (by repeat (first|(with_reducible first|exact HB.out|apply zl1|apply zl2|apply zl3)|exact HB.out))):w.heap.size≤gb110));have GE110:=Aside0.mk ((by rw [hg];exact (below_size (by repeat (first|(with_reducible first|exact HB.out|apply zl1|apply zl2|apply zl3)|exact HB.out))):w.heap.size≤gb110));replace HB:=Aside0.mk (below_step (by repeat (first|(with_reducible first|exact HB.out|apply zl1|apply zl2|apply zl3)|exact HB.out)) hb);clear hb hbox hg;obtain ⟨hcz4_0,hcz4_1,hcz4_2⟩:=zc3 BK110.out;obtain ⟨hfz4_0,hfz4_1,hfz4_2⟩:=zf3 BK110.out))
  go_ret
  exact ⟨by first|(with_reducible rfl)|(simp only [isEmpty_bne,Bool.not_not] <;> rfl)|rfl|(simp [*,errW_none,errW_some] <;> rfl),by repeat (first|(with_reducible first|exact HB.out|apply zl1|apply zl2|apply zl3|refine below_set ?_ GE110.out)|exact HB.out)⟩
 ·rw [if_neg c2] at H
  have c2b0:(a0_0 == 1)=false:=beq_eq_false_iff_ne.mpr c2
  have c2b1:(a0_0 != 1)=true:=bne_iff_ne.mpr c2
  by_cases c5:a0_0=2
  ·rw [if_pos c5] at H
   have c5b0:(a0_0 == 2)=true:=beq_iff_eq.mpr c5
   have c5b1:(a0_0 != 2)=false:=bne_eq_false_iff_eq.mpr c5
   clear c5
   obtain rfl:=Option.some.inj H
   go_enter Tryd.func43,Tryd.ntmps43
   go_wp2_with (first|((with_reducible refine gate_dst (N:=1) rfl ?_);refine box_event ?hg (N:=1) ?hd (cs:=#[.int .i64 a0_0,.int .i64 a0_1,.string a0_2]) (t:=40) ?hr ?_;(case hd=>rfl);(case hg=>rfl);(case hr=>first|(go_simp;done)|(go_simp;rfl));intro gb110 hg w6 hbox hb;have BK110:=Aside0.mk (hbox);have GW110:=Aside0.mk ((by rw [hg];exact (below_size (by repeat (first|(with_reducible first|exact HB.out|apply zl1|apply zl2|apply zl3)|exact HB.out))):w.heap.size≤gb110));have GE110:=Aside0.mk ((by rw [hg];exact (below_size (by repeat (first|(with_reducible first|exact HB.out|apply zl1|apply zl2|apply zl3)|exact HB.out))):w.heap.size≤gb110));replace HB:=Aside0.mk (below_step (by repeat (first|(with_reducible first|exact HB.out|apply zl1|apply zl2|apply zl3)|exact HB.out)) hb);clear hb hbox hg;obtain ⟨hcz7_0,hcz7_1,hcz7_2⟩:=zc3 BK110.out;obtain ⟨hfz7_0,hfz7_1,hfz7_2⟩:=zf3 BK110.out))
   go_ret
   exact ⟨by first|(with_reducible rfl)|(simp only [isEmpty_bne,Bool.not_not] <;> rfl)|rfl|(simp [*,errW_none,errW_some] <;> rfl),by repeat (first|(with_reducible first|exact HB.out|apply zl1|apply zl2|apply zl3|refine below_set ?_ GE110.out)|exact HB.out)⟩
  ·rw [if_neg c5] at H
   have c5b0:(a0_0 == 2)=false:=beq_eq_false_iff_ne.mpr c5
   have c5b1:(a0_0 != 2)=true:=bne_iff_ne.mpr c5
   obtain rfl:=Option.some.inj H
   go_enter Tryd.func43,Tryd.ntmps43
   go_wp2_with (first|((with_reducible refine gate_dst (N:=1) rfl ?_);refine box_event ?hg (N:=1) ?hd (cs:=#[.int .i64 a0_0,.int .i64 a0_1,.string a0_2]) (t:=40) ?hr ?_;(case hd=>rfl);(case hg=>rfl);(case hr=>first|(go_simp;done)|(go_simp;rfl));intro gb110 hg w8 hbox hb;have BK110:=Aside0.mk (hbox);have GW110:=Aside0.mk ((by rw [hg];exact (below_size (by repeat (first|(with_reducible first|exact HB.out|apply zl1|apply zl2|apply zl3)|exact HB.out))):w.heap.size≤gb110));have GE110:=Aside0.mk ((by rw [hg];exact (below_size (by repeat (first|(with_reducible first|exact HB.out|apply zl1|apply zl2|apply zl3)|exact HB.out))):w.heap.size≤gb110));replace HB:=Aside0.mk (below_step (by repeat (first|(with_reducible first|exact HB.out|apply zl1|apply zl2|apply zl3)|exact HB.out)) hb);clear hb hbox hg;obtain ⟨hcz9_0,hcz9_1,hcz9_2⟩:=zc3 BK110.out;obtain ⟨hfz9_0,hfz9_1,hfz9_2⟩:=zf3 BK110.out))
   go_ret
   exact ⟨by first|(with_reducible rfl)|(simp only [isEmpty_bne,Bool.not_not] <;> rfl)|rfl|(simp [*,errW_none,errW_some] <;> rfl),by repeat (first|(with_reducible first|exact HB.out|apply zl1|apply zl2|apply zl3|refine below_set ?_ GE110.out)|exact HB.out)⟩

/-! ### slices_IndexFunc_at_keys_odd: function 49 -/
def slices_IndexFunc_at_keys_odd.l0:Nat→List (S40)→Int→Int→Option (Int)
 | 0,_,_,_=>none
 | k + 1,x0,x7,x8=>if x8 < x7 then (if 0≤x8 then (if x8 < (x0.length:Int) then ((keys_odd.f ((rd_T40 x0 x8).f0) ((rd_T40 x0 x8).f1) ((rd_T40 x0 x8).f2)).bind fun t112=>(if t112=true then (some x8) else (slices_IndexFunc_at_keys_odd.l0 k x0 x7 (wrap64 (x8 + 1))))) else (none)) else (none)) else (some (-1))
def slices_IndexFunc_at_keys_odd.f (k:Nat) (l0:List (S40)) :Option (Int):=slices_IndexFunc_at_keys_odd.l0 k l0 (l0.length:Int) 0
theorem slices_IndexFunc_at_keys_odd.mono_l:∀ k,(∀ y0 y1 y2,LeO (slices_IndexFunc_at_keys_odd.l0 k y0 y1 y2) (slices_IndexFunc_at_keys_odd.l0 (k + 1) y0 y1 y2))
 | 0=>fun _ _ _ r h=>by simp [slices_IndexFunc_at_keys_odd.l0] at h
 | k + 1=>by
  have ih0:=slices_IndexFunc_at_keys_odd.mono_l k
  ·intro y0 y1 y2
   unfold slices_IndexFunc_at_keys_odd.l0
   repeat' first
   | (with_reducible exact ih0 _ _ _)
   | (with_reducible exact LeO.refl _)
   | (with_reducible exact LeO.none _)
   | (with_reducible refine LeO.ite ?_ ?_)
   | (with_reducible refine LeO.bind ?_ (fun _=>?_))
   | exact ih0 _ _ _
   | exact LeO.none _
   | refine LeO.ite ?_ ?_
   | refine LeO.bind ?_ (fun _=>?_)
theorem slices_IndexFunc_at_keys_odd.mono:∀ a0 k,LeO (slices_IndexFunc_at_keys_odd.f k a0) (slices_IndexFunc_at_keys_odd.f (k + 1) a0):=by
 intro a0 k
 have ih0:=slices_IndexFunc_at_keys_odd.mono_l k
 unfold slices_IndexFunc_at_keys_odd.f
 repeat' first
   | (with_reducible exact ih0 _ _ _)
   | (with_reducible exact LeO.refl _)
   | (with_reducible exact LeO.none _)
   | (with_reducible refine LeO.ite ?_ ?_)
   | (with_reducible refine LeO.bind ?_ (fun _=>?_))
   | exact ih0 _ _ _
   | exact LeO.none _
   | refine LeO.ite ?_ ?_
   | refine LeO.bind ?_ (fun _=>?_)
set_option maxHeartbeats 8000000 in
set_option maxRecDepth 100000 in
theorem slices_IndexFunc_at_keys_odd.calls (k:Nat) (A0:Option Addr) (c0:Nat) (l0:List (S40))  (r:Int) (w:World) (hr0:Kd.C k40 w A0 l0.length l0) (hc0:l0.length≤c0) (h:slices_IndexFunc_at_keys_odd.f k l0=some r) :
  Calls Tryd.prog 49 #[.slice A0 l0.length c0,.func (.func 43) #[] #[]] w fun e w'=>e=.returned (.int .i64 r)∧Below w.heap.size w w':=by
 have hu40:=Tryd.underlying40
 have HR0:=Aside0.mk hr0
 have HC0:=Aside0.mk hc0
 clear hr0 hc0
 have HB:=Aside0.mk (Below.refl w.heap.size w)
 have H:(slices_IndexFunc_at_keys_odd.l0 k l0 (l0.length:Int) 0)=some r:=h
 clear h
 have H':=Aside0.mk H
 clear H
 go_enter Tryd.func49,Tryd.ntmps49
 go_wp2
 go_loopg [8] k (fun kq v8 w'=>∃ (x8_1:Int),v8=.int .i64 x8_1∧Aside0 (slices_IndexFunc_at_keys_odd.l0 kq l0 (l0.length:Int) x8_1=some r)∧Aside0 (kq≤k)∧Aside0 (Below w.heap.size w w'))
 case atStart=>exact ⟨(0),(by first|(with_reducible rfl)|(simp;done)|(simp [*];done)|rfl|(simp only [not_isEmpty_bne])),H',⟨Nat.le_refl _⟩,⟨by repeat (first|(with_reducible first|exact HB.out|apply zl1|apply zl2|apply zl3)|exact HB.out)⟩⟩
 case round =>
  clear H'
  try clear p2
  obtain ⟨x8_1,rfl,HA,HK1,HB⟩:=hrel
  cases gk with
  | zero=>exact absurd HA.out (by simp [slices_IndexFunc_at_keys_odd.l0])
  | succ k1 =>
   have H:=HA.out
   clear HA
   simp only [slices_IndexFunc_at_keys_odd.l0] at H
   by_cases c3:x8_1 < (l0.length:Int)
   ·rw [if_pos c3] at H
    have c3b0:decide (x8_1 < (l0.length:Int))=true:=decide_eq_true c3
    clear c3
    by_cases c4:0≤x8_1
    ·rw [if_pos c4] at H
     have c4b0:decide (0≤x8_1)=true:=decide_eq_true c4
     clear c4
     by_cases c5:x8_1 < (l0.length:Int)
     ·rw [if_pos c5] at H
      have c5b0:decide (x8_1 < (l0.length:Int))=true:=decide_eq_true c5
      clear c5
      replace H:=Option.bind_eq_some_iff.mp H
      obtain ⟨t112,A60,H⟩:=H
      replace H:(if t112=true then (some x8_1) else (slices_IndexFunc_at_keys_odd.l0 k1 l0 (l0.length:Int) (wrap64 (x8_1 + 1))))=some r:=H
      have A6:=Aside0.mk A60
      clear A60
      by_cases c7:t112=true
      ·subst c7
       have H1:(some x8_1)=some r:=by rw [if_pos rfl] at H;exact H
       clear H
       have H:=H1
       clear H1
       obtain rfl:=Option.some.inj H
       have p111:0≤(x8_1:Int):=of_decide_eq_true (by first|(with_reducible assumption)|assumption)
       have q111:x8_1 < (l0.length:Int):=of_decide_eq_true (by first|(with_reducible assumption)|assumption)
       obtain ⟨ad111,e111,hx111_0,hx111_1,hx111_2⟩:=at_T40 HR0.out x8_1 p111 q111
       cases e111
       replace hx111_0:=(HB.out.cell (World.block_lt_of_cell? w _ hx111_0)).trans hx111_0
       replace hx111_1:=(HB.out.cell (World.block_lt_of_cell? w _ hx111_1)).trans hx111_1
       replace hx111_2:=(HB.out.cell (World.block_lt_of_cell? w _ hx111_2)).trans hx111_2
       replace p111:=eq_true p111
       replace q111:=eq_true q111
       go_wp2_with (first|(go_at_call 43;(with_reducible refine (keys_odd.calls ((rd_T40 l0 x8_1).f0) ((rd_T40 l0 x8_1).f1) ((rd_T40 l0 x8_1).f2) true _ A6.out).mono ?_);rintro e w8 ⟨rfl,hb⟩;replace HB:=Aside0.mk (below_step (by repeat (first|(with_reducible first|exact HB.out|apply zl1|apply zl2|apply zl3)|exact HB.out)) hb);(try clear hb)))
       go_ret
       exact ⟨by first|(with_reducible rfl)|(simp only [isEmpty_bne,Bool.not_not] <;> rfl)|rfl|(simp [*,errW_none,errW_some] <;> rfl),by repeat (first|(with_reducible first|exact HB.out|apply zl1|apply zl2|apply zl3)|exact HB.out)⟩
      ·replace c7:=Bool.eq_false_iff.mpr c7
       subst c7
       have H1:(slices_IndexFunc_at_keys_odd.l0 k1 l0 (l0.length:Int) (wrap64 (x8_1 + 1)))=some r:=by rw [if_neg (show ¬ (false=true) by decide)] at H;exact H
       clear H
       have H:=H1
       clear H1
       have H':=Aside0.mk H
       clear H
       have p111:0≤(x8_1:Int):=of_decide_eq_true (by first|(with_reducible assumption)|assumption)
       have q111:x8_1 < (l0.length:Int):=of_decide_eq_true (by first|(with_reducible assumption)|assumption)
       obtain ⟨ad111,e111,hx111_0,hx111_1,hx111_2⟩:=at_T40 HR0.out x8_1 p111 q111
       cases e111
       replace hx111_0:=(HB.out.cell (World.block_lt_of_cell? w _ hx111_0)).trans hx111_0
       replace hx111_1:=(HB.out.cell (World.block_lt_of_cell? w _ hx111_1)).trans hx111_1
       replace hx111_2:=(HB.out.cell (World.block_lt_of_cell? w _ hx111_2)).trans hx111_2
       replace p111:=eq_true p111
       replace q111:=eq_true q111
       go_wp2_with (first|(go_at_call 43;(with_reducible refine (keys_odd.calls ((rd_T40 l0 x8_1).f0) ((rd_T40 l0 x8_1).f1) ((rd_T40 l0 x8_1).f2) false _ A6.out).mono ?_);rintro e w9 ⟨rfl,hb⟩;replace HB:=Aside0.mk (below_step (by repeat (first|(with_reducible first|exact HB.out|apply zl1|apply zl2|apply zl3)|exact HB.out)) hb);(try clear hb)))
       go_roundg k1
       case measure=>have:=HK1.out;omega
       case rel=>exact ⟨(wrap64 (x8_1 + 1)),(by first|(with_reducible rfl)|(simp;done)|(simp [*];done)|rfl|(simp only [not_isEmpty_bne])),H',⟨by have:=HK1.out;omega⟩,⟨by repeat (first|(with_reducible first|exact HB.out|apply zl1|apply zl2|apply zl3)|exact HB.out)⟩⟩
     ·rw [if_neg c5] at H
      exact absurd H (by simp)
    ·rw [if_neg c4] at H
     exact absurd H (by simp)
   ·rw [if_neg c3] at H
    have c3b0:decide (x8_1 < (l0.length:Int))=false:=decide_eq_false c3
    clear c3
    obtain rfl:=Option.some.inj H
    go_wp2
    go_ret
    exact ⟨by first|(with_reducible rfl)|(simp only [isEmpty_bne,Bool.not_not] <;> rfl)|rfl|(simp [*,errW_none,errW_some] <;> rfl),by repeat (first|(with_reducible first|exact HB.out|apply zl1|apply zl2|apply zl3)|exact HB.out)⟩

/-! ### slices_ContainsFunc_at_keys_odd: function 42 -/
def slices_ContainsFunc_at_keys_odd.f (k:Nat) (l0:List (S40)) :Option (Bool):=(slices_IndexFunc_at_keys_odd.f k l0).bind fun t113=>(some (decide (t113 ≥ 0)))
theorem slices_ContainsFunc_at_keys_odd.mono:∀ a0 k,LeO (slices_ContainsFunc_at_keys_odd.f k a0) (slices_ContainsFunc_at_keys_odd.f (k + 1) a0):=by
 intro a0 k
 unfold slices_ContainsFunc_at_keys_odd.f
 repeat' first
   | (with_reducible exact slices_IndexFunc_at_keys_odd.mono _ _)
   | (with_reducible exact LeO.refl _)
   | (with_reducible exact LeO.none _)
   | (with_reducible refine LeO.ite ?_ ?_)
   | (with_reducible refine LeO.bind ?_ (fun _=>?_))
   | exact slices_IndexFunc_at_keys_odd.mono _ _
   | exact LeO.none _
   | refine LeO.ite ?_ ?_
   | refine LeO.bind ?_ (fun _=>?_)
set_option maxHeartbeats 8000000 in
set_option maxRecDepth 100000 in
theorem slices_ContainsFunc_at_keys_odd.calls (k:Nat) (A0:Option Addr) (c0:Nat) (l0:List (S40))  (r:Bool) (w:World) (hr0:Kd.C k40 w A0 l0.length l0) (hc0:l0.length≤c0) (h:slices_ContainsFunc_at_keys_odd.f k l0=some r) :
  Calls Tryd.prog 42 #[.slice A0 l0.length c0,.func (.func 43) #[] #[]] w fun e w'=>e=.returned (.bool r)∧Below w.heap.size w w':=by
 have HR0:=Aside0.mk hr0
 have HC0:=Aside0.mk hc0
 clear hr0 hc0
 have HB:=Aside0.mk (Below.refl w.heap.size w)
 have H:((slices_IndexFunc_at_keys_odd.f k l0).bind fun t113=>(some (decide (t113 ≥ 0))))=some r:=h
 clear h
 replace H:=Option.bind_eq_some_iff.mp H
 obtain ⟨t113,A30,H⟩:=H
 replace H:(some (decide (t113 ≥ 0)))=some r:=H
 have A3:=Aside0.mk A30
 clear A30
 obtain rfl:=Option.some.inj H
 go_enter Tryd.func42,Tryd.ntmps42
 go_wp2_with (first|((with_reducible refine gate_callee (f:=49) rfl ?_);refine goesL_ (some 7) rfl rfl Tryd.func49 (by kernel_rfl) rfl #[.slice A0 l0.length c0,.func (.func 43) #[] #[]] rfl (by (try simp only [List.map_toArray,List.map_cons,List.map_nil]);first|done|rfl|(simp only [List.length_drop,List.length_take];rfl)|(simp (disch:=omega) only [u64_in];rfl)) ?_;(with_reducible refine (slices_IndexFunc_at_keys_odd.calls k _ _ l0 t113 _ ?side1 ?side2 A3.out).mono ?_);(case side1=>repeat (first|exact HR0.out|(with_reducible refine Kd.C_alloc ?_ _)|(with_reducible refine Kd.C_drewN ?_ _)|(with_reducible refine Kd.C_drew ?_)));(case side2=>exact HC0.out);rintro e w4 ⟨rfl,hb⟩;refine ⟨_,rfl,?_⟩;replace HB:=Aside0.mk (below_step (by repeat (first|(with_reducible first|exact HB.out|apply zl1|apply zl2|apply zl3)|exact HB.out)) hb);(try clear hb)))
 go_ret
 exact ⟨by first|(with_reducible rfl)|(simp only [isEmpty_bne,Bool.not_not] <;> rfl)|rfl|(simp [*,errW_none,errW_some] <;> rfl),by repeat (first|(with_reducible first|exact HB.out|apply zl1|apply zl2|apply zl3)|exact HB.out)⟩

end Go.Proofs.YtljfichnlgfikaaDoor.PAll
