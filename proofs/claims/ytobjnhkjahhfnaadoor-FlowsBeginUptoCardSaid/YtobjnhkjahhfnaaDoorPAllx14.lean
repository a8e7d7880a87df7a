/- Printed walks of the functions that the laws reach: each function, what it computes, and that it does. No conditions. -/
import Derived.Test.YtobjnhkjahhfnaaDoorPAllx0
namespace Go.Proofs.YtobjnhkjahhfnaaDoor.PAll
open Go.RowKit Go.Proofs.YtobjnhkjahhfnaaDoor.XW Go.Proofs.YtobjnhkjahhfnaaDoor.XLib Go.Proofs.YtobjnhkjahhfnaaDoorW.PrintWords Go.Proofs.YtobjnhkjahhfnaaDoorW.PrintLast Go.Proofs.YtobjnhkjahhfnaaDoorW.PrintMore
attribute [local go_sem] max2_int min2_int max_two min_two max_three min_three max_four min_four   -- for this text's walks alone
set_option linter.unusedVariables false
set_option linter.unusedSimpArgs false

/-! ### factotumref02_Right: function 36 -/
def factotumref02_Right.f (a0_0:Int) (a0_1:Int) (a0_2:ByteArray):Option (Bool):=if a0_0=1 then (if a0_2.toList=([]:List UInt8) then (some true) else (if a0_0=2 then (some (a0_1 == 0)) else (some false))) else (if a0_0=2 then (some (a0_1 == 0)) else (some false))
set_option maxHeartbeats 8000000 in
set_option maxRecDepth 100000 in
theorem factotumref02_Right.calls (a0_0:Int) (a0_1:Int) (a0_2:ByteArray) (r:Bool) (w:World) (h:factotumref02_Right.f a0_0 a0_1 a0_2=some r) :
  Calls Tryd.prog 36 #[.agg #[.int .i64 a0_0,.int .i64 a0_1,.string a0_2]] w fun e w'=>e=.returned (.bool r)∧Below w.heap.size w w':=by
 have hu24:=Tryd.underlying24
 have HB:=Aside0.mk (Below.refl w.heap.size w)
 have H:(if a0_0=1 then (if a0_2.toList=([]:List UInt8) then (some true) else (if a0_0=2 then (some (a0_1 == 0)) else (some false))) else (if a0_0=2 then (some (a0_1 == 0)) else (some false)))=some r:=h
 clear h
 by_cases c2:a0_0=1
 ·rw [if_pos c2] at H
  have c2b0:(a0_0 == 1)=true:=beq_iff_eq.mpr c2
  have c2b1:(a0_0 != 1)=false:=bne_eq_false_iff_eq.mpr c2
  clear c2
  by_cases c3:a0_2.toList=([]:List UInt8)
  ·rw [if_pos c3] at H
   have c3b0:(a0_2.toList == ([]:List UInt8))=true:=beq_iff_eq.mpr c3
   (try (have c3b7:(a0_2.toList.isEmpty)=true:=by simp only [isEmpty_beq];exact c3b0))
   have c3b1:(a0_2.toList != ([]:List UInt8))=false:=bne_eq_false_iff_eq.mpr c3
   clear c3
   obtain rfl:=Option.some.inj H
   go_enter Tryd.func36,Tryd.ntmps36
   go_wp2_with (first|((with_reducible refine gate_dst (N:=1) rfl ?_);refine box_event ?hg (N:=1) ?hd (cs:=#[.int .i64 a0_0,.int .i64 a0_1,.string a0_2]) (t:=24) ?hr ?_;(case hd=>rfl);(case hg=>rfl);(case hr=>first|(go_simp;done)|(go_simp;rfl));intro gb279 hg w4 hbox hb;have BK279:=Aside0.mk (hbox);have GW279:=Aside0.mk ((by rw [hg];exact (below_size (by repeat (first|(with_reducible first|exact HB.out|apply zl1|apply zl2|apply zl3)|exact HB.out))):w.heap.size≤gb279));have GE279:=Aside0.mk ((by rw [hg];exact (below_size (by repeat (first|(with_reducible first|exact HB.out|apply zl1|apply zl2|apply zl3)|exact HB.out))):w.heap.size≤gb279));replace HB:=Aside0.mk (below_step (by repeat (first|(with_reducible first|exact HB.out|apply zl1|apply zl2|apply zl3)|exact HB.out)) hb);clear hb hbox hg;have hcz5_0:w4.cell? ⟨gb279,0,none⟩=some (.int .i64 a0_0):=(blk_cell BK279.out 0).trans rfl;have hcz5_1:w4.cell? ⟨gb279,1,none⟩=some (.int .i64 a0_1):=(blk_cell BK279.out 1).trans rfl;have hcz5_2:w4.cell? ⟨gb279,2,none⟩=some (.string a0_2):=(blk_cell BK279.out 2).trans rfl;have hfz5_0:=blk_frozen BK279.out 0;have hfz5_1:=blk_frozen BK279.out 1;have hfz5_2:=blk_frozen BK279.out 2))
   go_ret
   exact ⟨by first|(with_reducible rfl)|(simp only [isEmpty_bne,Bool.not_not] <;> rfl)|rfl|(simp [*,errW_none,errW_some] <;> rfl),by repeat (first|(with_reducible first|exact HB.out|apply zl1|apply zl2|apply zl3|refine below_set ?_ GE279.out)|exact HB.out)⟩
  ·rw [if_neg c3] at H
   have c3b0:(a0_2.toList == ([]:List UInt8))=false:=beq_eq_false_iff_ne.mpr c3
   (try (have c3b7:(a0_2.toList.isEmpty)=false:=by simp only [isEmpty_beq];exact c3b0))
   have c3b1:(a0_2.toList != ([]:List UInt8))=true:=bne_iff_ne.mpr c3
   by_cases c6:a0_0=2
   ·rw [if_pos c6] at H
    have c6b0:(a0_0 == 2)=true:=beq_iff_eq.mpr c6
    have c6b1:(a0_0 != 2)=false:=bne_eq_false_iff_eq.mpr c6
    clear c6
    obtain rfl:=Option.some.inj H
    go_enter Tryd.func36,Tryd.ntmps36
    go_wp2_with (first|((with_reducible refine gate_dst (N:=1) rfl ?_);refine box_event ?hg (N:=1) ?hd (cs:=#[.int .i64 a0_0,.int .i64 a0_1,.string a0_2]) (t:=24) ?hr ?_;(case hd=>rfl);(case hg=>rfl);(case hr=>first|(go_simp;done)|(go_simp;rfl));intro gb279 hg w7 hbox hb;have BK279:=Aside0.mk (hbox);have GW279:=Aside0.mk ((by rw [hg];exact (below_size (by repeat (first|(with_reducible first|exact HB.out|apply zl1|apply zl2|apply zl3)|exact HB.out))):w.heap.size≤gb279));have GE279:=Aside0.mk ((by rw [hg];exact (below_size (by repeat (first|(with_reducible first|exact HB.out|apply zl1|apply zl2|apply zl3)|exact HB.out))):w.heap.size≤gb279));replace HB:=Aside0.mk (below_step (by repeat (first|(with_reducible first|exact HB.out|apply zl1|apply zl2|apply zl3)|exact HB.out)) hb);clear hb hbox hg;have hcz8_0:w7.cell? ⟨gb279,0,none⟩=some (.int .i64 a0_0):=(blk_cell BK279.out 0).trans rfl;have hcz8_1:w7.cell? ⟨gb279,1,none⟩=some (.int .i64 a0_1):=(blk_cell BK279.out 1).trans rfl;have hcz8_2:w7.cell? ⟨gb279,2,none⟩=some (.string a0_2):=(blk_cell BK279.out 2).trans rfl;have hfz8_0:=blk_frozen BK279.out 0;have hfz8_1:=blk_frozen BK279.out 1;have hfz8_2:=blk_frozen BK279.out 2))
    go_ret
    exact ⟨by first|(with_reducible rfl)|(simp only [isEmpty_bne,Bool.not_not] <;> rfl)|rfl|(simp [*,errW_none,errW_some] <;> rfl),by repeat (first|(with_reducible first|exact HB.out|apply zl1|apply zl2|apply zl3|refine below_set ?_ GE279.out)|exact HB.out)⟩
   ·rw [if_neg c6] at H
    have c6b0:(a0_0 == 2)=false:=beq_eq_false_iff_ne.mpr c6
    have c6b1:(a0_0 != 2)=true:=bne_iff_ne.mpr c6
    obtain rfl:=Option.some.inj H
    go_enter Tryd.func36,Tryd.ntmps36
    go_wp2_with (first|((with_reducible refine gate_dst (N:=1) rfl ?_);refine box_event ?hg (N:=1) ?hd (cs:=#[.int .i64 a0_0,.int .i64 a0_1,.string a0_2]) (t:=24) ?hr ?_;(case hd=>rfl);(case hg=>rfl);(case hr=>first|(go_simp;done)|(go_simp;rfl));intro gb279 hg w9 hbox hb;have BK279:=Aside0.mk (hbox);have GW279:=Aside0.mk ((by rw [hg];exact (below_size (by repeat (first|(with_reducible first|exact HB.out|apply zl1|apply zl2|apply zl3)|exact HB.out))):w.heap.size≤gb279));have GE279:=Aside0.mk ((by rw [hg];exact (below_size (by repeat (first|(with_reducible first|exact HB.out|apply zl1|apply zl2|apply zl3)|exact HB.out))):w.heap.size≤gb279));replace HB:=Aside0.mk (below_step (by repeat (first|(with_reducible first|exact HB.out|apply zl1|apply zl2|apply zl3)|exact HB.out)) hb);clear hb hbox hg;have hcz10_0:w9.cell? ⟨gb279,0,none⟩=some (.int .i64 a0_0):=(blk_cell BK279.out 0).trans rfl;have hcz10_1:w9.cell? ⟨gb279,1,none⟩=some (.int .i64 a0_1):=(blk_cell BK279.out 1).trans rfl;have hcz10_2:w9.cell? ⟨gb279,2,none⟩=some (.string a0_2):=(blk_cell BK279.out 2).trans rfl;have hfz10_0:=blk_frozen BK279.out 0;have hfz10_1:=blk_frozen BK279.out 1;have hfz10_2:=blk_frozen BK279.out 2))
    go_ret
    exact ⟨by first|(with_reducible rfl)|(simp only [isEmpty_bne,Bool.not_not] <;> rfl)|rfl|(simp [*,errW_none,errW_some] <;> rfl),by repeat (first|(with_reducible first|exact HB.out|apply zl1|apply zl2|apply zl3|refine below_set ?_ GE279.out)|exact HB.out)⟩
 ·rw [if_neg c2] at H
  have c2b0:(a0_0 == 1)=false:=beq_eq_false_iff_ne.mpr c2
  have c2b1:(a0_0 != 1)=true:=bne_iff_ne.mpr c2
  by_cases c11:a0_0=2
  ·rw [if_pos c11] at H
   have c11b0:(a0_0 == 2)=true:=beq_iff_eq.mpr c11
   have c11b1:(a0_0 != 2)=false:=bne_eq_false_iff_eq.mpr c11
   clear c11
   obtain rfl:=Option.some.inj H
   go_enter Tryd.func36,Tryd.ntmps36
   go_wp2_with (first|((with_reducible refine gate_dst (N:=1) rfl ?_);refine box_event ?hg (N:=1) ?hd (cs:=#[.int .i64 a0_0,.int .i64 a0_1,.string a0_2]) (t:=24) ?hr ?_;(case hd=>rfl);(case hg=>rfl);(case hr=>first|(go_simp;done)|(go_simp;rfl));intro gb279 hg w12 hbox hb;have BK279:=Aside0.mk (hbox);have GW279:=Aside0.mk ((by rw [hg];exact (below_size (by repeat (first|(with_reducible first|exact HB.out|apply zl1|apply zl2|apply zl3)|exact HB.out))):w.heap.size≤gb279));have GE279:=Aside0.mk ((by rw [hg];exact (below_size (by repeat (first|(with_reducible first|exact HB.out|apply zl1|apply zl2|apply zl3)|exact HB.out))):w.heap.size≤gb279));replace HB:=Aside0.mk (below_step (by repeat (first|(with_reducible first|exact HB.out|apply zl1|apply zl2|apply zl3)|exact HB.out)) hb);clear hb hbox hg;have hcz13_0:w12.cell? ⟨gb279,0,none⟩=some (.int .i64 a0_0):=(blk_cell BK279.out 0).trans rfl;have hcz13_1:w12.cell? ⟨gb279,1,none⟩=some (.int .i64 a0_1):=(blk_cell BK279.out 1).trans rfl;have hcz13_2:w12.cell? ⟨gb279,2,none⟩=some (.string a0_2):=(blk_cell BK279.out 2).trans rfl;have hfz13_0:=blk_frozen BK279.out 0;have hfz13_1:=blk_frozen BK279.out 1;have hfz13_2:=blk_frozen BK279.out 2))
   go_ret
   exact ⟨by first|(with_reducible rfl)|(simp only [isEmpty_bne,Bool.not_not] <;> rfl)|rfl|(simp [*,errW_none,errW_some] <;> rfl),by repeat (first|(with_reducible first|exact HB.out|apply zl1|apply zl2|apply zl3|refine below_set ?_ GE279.out)|exact HB.out)⟩
  ·rw [if_neg c11] at H
   have c11b0:(a0_0 == 2)=false:=beq_eq_false_iff_ne.mpr c11
   have c11b1:(a0_0 != 2)=true:=bne_iff_ne.mpr c11
   obtain rfl:=Option.some.inj H
   go_enter Tryd.func36,Tryd.ntmps36
   go_wp2_with (first|((with_reducible refine gate_dst (N:=1) rfl ?_);refine box_event ?hg (N:=1) ?hd (cs:=#[.int .i64 a0_0,.int .i64 a0_1,.string a0_2]) (t:=24) ?hr ?_;(case hd=>rfl);(case hg=>rfl);(case hr=>first|(go_simp;done)|(go_simp;rfl));intro gb279 hg w14 hbox hb;have BK279:=Aside0.mk (hbox);have GW279:=Aside0.mk ((by rw [hg];exact (below_size (by repeat (first|(with_reducible first|exact HB.out|apply zl1|apply zl2|apply zl3)|exact HB.out))):w.heap.size≤gb279));have GE279:=Aside0.mk ((by rw [hg];exact (below_size (by repeat (first|(with_reducible first|exact HB.out|apply zl1|apply zl2|apply zl3)|exact HB.out))):w.heap.size≤gb279));replace HB:=Aside0.mk (below_step (by repeat (first|(with_reducible first|exact HB.out|apply zl1|apply zl2|apply zl3)|exact HB.out)) hb);clear hb hbox hg;have hcz15_0:w14.cell? ⟨gb279,0,none⟩=some (.int .i64 a0_0):=(blk_cell BK279.out 0).trans rfl;have hcz15_1:w14.cell? ⟨gb279,1,none⟩=some (.int .i64 a0_1):=(blk_cell BK279.out 1).trans rfl;have hcz15_2:w14.cell? ⟨gb279,2,none⟩=some (.string a0_2):=(blk_cell BK279.out 2).trans rfl;have hfz15_0:=blk_frozen BK279.out 0;have hfz15_1:=blk_frozen BK279.out 1;have hfz15_2:=blk_frozen BK279.out 2))
   go_ret
   exact ⟨by first|(with_reducible rfl)|(simp only [isEmpty_bne,Bool.not_not] <;> rfl)|rfl|(simp [*,errW_none,errW_some] <;> rfl),by repeat (first|(with_reducible first|exact HB.out|apply zl1|apply zl2|apply zl3|refine below_set ?_ GE279.out)|exact HB.out)⟩

/-! ### factotumref16_Is: function 14 -/
def factotumref16_Is.f (a0_0:Int) (a0_1:Int) (a0_2:ByteArray):Option (Bool):=(factotumref02_Right.f a0_0 a0_1 a0_2).bind fun t281=>(if t281=true then (some (decide ((a0_2.size:Int)≤10))) else (some false))
set_option maxHeartbeats 8000000 in
set_option maxRecDepth 100000 in
theorem factotumref16_Is.calls (a0_0:Int) (a0_1:Int) (a0_2:ByteArray) (r:Bool) (w:World) (h:factotumref16_Is.f a0_0 a0_1 a0_2=some r) :
  Calls Tryd.prog 14 #[.agg #[.int .i64 a0_0,.int .i64 a0_1,.string a0_2]] w fun e w'=>e=.returned (.bool r)∧Below w.heap.size w w':=by
 have hu24:=Tryd.underlying24
 have HB:=Aside0.mk (Below.refl w.heap.size w)
 have H:((factotumref02_Right.f a0_0 a0_1 a0_2).bind fun t281=>(if t281=true then (some (decide ((a0_2.size:Int)≤10))) else (some false)))=some r:=h
 clear h
 replace H:=Option.bind_eq_some_iff.mp H
 obtain ⟨t281,A20,H⟩:=H
 replace H:(if t281=true then (some (decide ((a0_2.size:Int)≤10))) else (some false))=some r:=H
 have A2:=Aside0.mk A20
 clear A20
 by_cases c3:t281=true
 ·subst c3
  have H1:(some (decide ((a0_2.size:Int)≤10)))=some r:=by rw [if_pos rfl] at H;exact H
  clear H
  have H:=H1
  clear H1
  obtain rfl:=Option.some.inj H
  go_enter Tryd.func14,Tryd.ntmps14
  go_wp2_with (first|((with_reducible refine gate_dst (N:=1) rfl ?_);(try (refine gate_guard (by rfl) ?_;dsimp only));refine box_event ?hg (N:=1) ?hd (cs:=#[.int .i64 a0_0,.int .i64 a0_1,.string a0_2]) (t:=24) ?hr ?_;(case hd=>rfl);(case hg=>rfl);(case hr=>first|(go_simp;done)|(go_simp;rfl));intro gb280 hg w4 hbox hb;have BK280:=Aside0.mk (hbox);have GW280:=Aside0.mk ((by rw [hg];exact (below_size (by repeat (first|(with_reducible first|exact HB.out|apply zl1|apply zl2|apply zl3)|exact HB.out))):w.heap.size≤gb280));have GE280:=Aside0.mk ((by rw [hg];exact (below_size (by repeat (first|(with_reducible first|exact HB.out|apply zl1|apply zl2|apply zl3)|exact HB.out))):w.heap.size≤gb280));replace HB:=Aside0.mk (below_step (by repeat (first|(with_reducible first|exact HB.out|apply zl1|apply zl2|apply zl3)|exact HB.out)) hb);clear hb hbox hg;have hcz5_0:w4.cell? ⟨gb280,0,none⟩=some (.int .i64 a0_0):=(blk_cell BK280.out 0).trans rfl;have hcz5_1:w4.cell? ⟨gb280,1,none⟩=some (.int .i64 a0_1):=(blk_cell BK280.out 1).trans rfl;have hcz5_2:w4.cell? ⟨gb280,2,none⟩=some (.string a0_2):=(blk_cell BK280.out 2).trans rfl;have hfz5_0:=blk_frozen BK280.out 0;have hfz5_1:=blk_frozen BK280.out 1;have hfz5_2:=blk_frozen BK280.out 2)|((with_reducible refine gate_callee (f:=36) rfl ?_);refine goesL_ (some 4) rfl rfl Tryd.func36 (by kernel_rfl) rfl #[.agg #[.int .i64 a0_0,.int .i64 a0_1,.string a0_2]] rfl (by (try simp only [List.map_toArray,List.map_cons,List.map_nil]);first|done|rfl|(simp only [List.length_drop,List.length_take];rfl)|(simp (disch:=omega) only [u64_in];rfl)) ?_;(with_reducible refine (factotumref02_Right.calls a0_0 a0_1 a0_2 true _ A2.out).mono ?_);rintro e w6 ⟨rfl,hb⟩;refine ⟨_,rfl,?_⟩;replace BK280:=Aside0.mk (blk_below (g:=gb280) (o:=.cells #[.int .i64 a0_0,.int .i64 a0_1,.string a0_2] 24 (0,0)) (by (with_reducible repeat (first|apply zb1|apply zb2|apply zb3));exact BK280.out) hb);replace HB:=Aside0.mk (below_step (by repeat (first|(with_reducible first|exact HB.out|apply zl1|apply zl2|apply zl3|refine below_set ?_ GE280.out)|exact HB.out)) hb);(try clear hb);have hcz7_0:w6.cell? ⟨gb280,0,none⟩=some (.int .i64 a0_0):=(blk_cell BK280.out 0).trans rfl;have hcz7_1:w6.cell? ⟨gb280,1,none⟩=some (.int .i64 a0_1):=(blk_cell BK280.out 1).trans rfl;have hcz7_2:w6.cell? ⟨gb280,2,none⟩=some (.string a0_2):=(blk_cell BK280.out 2).trans rfl;have hfz7_0:=blk_frozen BK280.out 0;have hfz7_1:=blk_frozen BK280.out 1;have hfz7_2:=blk_frozen BK280.out 2))
  go_ret
  exact ⟨by first|(with_reducible rfl)|(simp only [isEmpty_bne,Bool.not_not] <;> rfl)|rfl|(simp [*,errW_none,errW_some] <;> rfl),by repeat (first|(with_reducible first|exact HB.out|apply zl1|apply zl2|apply zl3|refine below_set ?_ GE280.out)|exact HB.out)⟩
 ·replace c3:=Bool.eq_false_iff.mpr c3
  subst c3
  have H1:(some false)=some r:=by rw [if_neg (show ¬ (false=true) by decide)] at H;exact H
  clear H
  have H:=H1
  clear H1
  obtain rfl:=Option.some.inj H
  go_enter Tryd.func14,Tryd.ntmps14
  go_wp2_with (first|((with_reducible refine gate_dst (N:=1) rfl ?_);(try (refine gate_guard (by rfl) ?_;dsimp only));refine box_event ?hg (N:=1) ?hd (cs:=#[.int .i64 a0_0,.int .i64 a0_1,.string a0_2]) (t:=24) ?hr ?_;(case hd=>rfl);(case hg=>rfl);(case hr=>first|(go_simp;done)|(go_simp;rfl));intro gb280 hg w8 hbox hb;have BK280:=Aside0.mk (hbox);have GW280:=Aside0.mk ((by rw [hg];exact (below_size (by repeat (first|(with_reducible first|exact HB.out|apply zl1|apply zl2|apply zl3)|exact HB.out))):w.heap.size≤gb280));have GE280:=Aside0.mk ((by rw [hg];exact (below_size (by repeat (first|(with_reducible first|exact HB.out|apply zl1|apply zl2|apply zl3)|exact HB.out))):w.heap.size≤gb280));replace HB:=Aside0.mk (below_step (by repeat (first|(with_reducible first|exact HB.out|apply zl1|apply zl2|apply zl3)|exact HB.out)) hb);clear hb hbox hg;have hcz9_0:w8.cell? ⟨gb280,0,none⟩=some (.int .i64 a0_0):=(blk_cell BK280.out 0).trans rfl;have hcz9_1:w8.cell? ⟨gb280,1,none⟩=some (.int .i64 a0_1):=(blk_cell BK280.out 1).trans rfl;have hcz9_2:w8.cell? ⟨gb280,2,none⟩=some (.string a0_2):=(blk_cell BK280.out 2).trans rfl;have hfz9_0:=blk_frozen BK280.out 0;have hfz9_1:=blk_frozen BK280.out 1;have hfz9_2:=blk_frozen BK280.out 2)|((with_reducible refine gate_callee (f:=36) rfl ?_);refine goesL_ (some 4) rfl rfl Tryd.func36 (by kernel_rfl) rfl #[.agg #[.int .i64 a0_0,.int .i64 a0_1,.string a0_2]] rfl (by (try simp only [List.map_toArray,List.map_cons,List.map_nil]);first|done|rfl|(simp only [List.length_drop,List.length_take];rfl)|(simp (disch:=omega) only [u64_in];rfl)) ?_;(with_reducible refine (factotumref02_Right.calls a0_0 a0_1 a0_2 false _ A2.out).mono ?_);rintro e w10 ⟨rfl,hb⟩;refine ⟨_,rfl,?_⟩;replace BK280:=Aside0.mk (blk_below (g:=gb280) (o:=.cells #[.int .i64 a0_0,.int .i64 a0_1,.string a0_2] 24 (0,0)) (by (with_reducible repeat (first|apply zb1|apply zb2|apply zb3));exact BK280.out) hb);replace HB:=Aside0.mk (below_step (by repeat (first|(with_reducible first|exact HB.out|apply zl1|apply zl2|apply zl3|refine below_set ?_ GE280.out)|exact HB.out)) hb);(try clear hb)))
  go_ret
  exact ⟨by first|(with_reducible rfl)|(simp only [isEmpty_bne,Bool.not_not] <;> rfl)|rfl|(simp [*,errW_none,errW_some] <;> rfl),by repeat (first|(with_reducible first|exact HB.out|apply zl1|apply zl2|apply zl3|refine below_set ?_ GE280.out)|exact HB.out)⟩

end Go.Proofs.YtobjnhkjahhfnaaDoor.PAll
