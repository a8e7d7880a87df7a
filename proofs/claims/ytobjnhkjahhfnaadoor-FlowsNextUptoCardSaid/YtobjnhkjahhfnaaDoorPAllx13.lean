/- Printed walks of the functions that the laws reach: each function, what it computes, and that it does. No conditions. -/
import Derived.Test.YtobjnhkjahhfnaaDoorPAllx0
import Derived.Test.YtobjnhkjahhfnaaDoorPAllx12
namespace Go.Proofs.YtobjnhkjahhfnaaDoor.PAll
open Go.RowKit Go.Proofs.YtobjnhkjahhfnaaDoor.XW Go.Proofs.YtobjnhkjahhfnaaDoor.XLib Go.Proofs.YtobjnhkjahhfnaaDoorW.PrintWords Go.Proofs.YtobjnhkjahhfnaaDoorW.PrintLast Go.Proofs.YtobjnhkjahhfnaaDoorW.PrintMore
attribute [local go_sem] max2_int min2_int max_two min_two max_three min_three max_four min_four   -- for this text's walks alone
set_option linter.unusedVariables false
set_option linter.unusedSimpArgs false

/-! ### factotumref16_Is: function 14 -/
def factotumref16_Is.f (a0_0:Int) (a0_1:Int) (a0_2:ByteArray):Option (Bool):=(factotumref02_Right.f a0_0 a0_1 a0_2).bind fun t268=>(if t268=true then (some (decide ((a0_2.size:Int)≤10))) else (some false))
set_option maxHeartbeats 8000000 in
set_option maxRecDepth 100000 in
theorem factotumref16_Is.calls (a0_0:Int) (a0_1:Int) (a0_2:ByteArray) (r:Bool) (w:World) (h:factotumref16_Is.f a0_0 a0_1 a0_2=some r) :
  Calls Tryd.prog 14 #[.agg #[.int .i64 a0_0,.int .i64 a0_1,.string a0_2]] w fun e w'=>e=.returned (.bool r)∧Below w.heap.size w w':=by
 have hu24:=Tryd.underlying24
 have HB:=Aside0.mk (Below.refl w.heap.size w)
 have H:((factotumref02_Right.f a0_0 a0_1 a0_2).bind fun t268=>(if t268=true then (some (decide ((a0_2.size:Int)≤10))) else (some false)))=some r:=h
 clear h
 replace H:=Option.bind_eq_some_iff.mp H
 obtain ⟨t268,A20,H⟩:=H
 replace H:(if t268=true then (some (decide ((a0_2.size:Int)≤10))) else (some false))=some r:=H
 have A2:=Aside0.mk A20
 clear A20
 by_cases c3:t268=true
 ·subst c3
  have H1:(some (decide ((a0_2.size:Int)≤10)))=some r:=by rw [if_pos rfl] at H;exact H
  clear H
  have H:=H1
  clear H1
  obtain rfl:=Option.some.inj H
  go_enter Tryd.func14,Tryd.ntmps14
  go_wp2_with (first|((with_reducible refine gate_dst (N:=1) rfl ?_);(try (refine gate_guard (by rfl) ?_;dsimp only));refine box_event ?hg (N:=1) ?hd (cs:=#[.int .i64 a0_0,.int .i64 a0_1,.string a0_2]) (t:=24) ?hr ?_;(case hd=>rfl);(case hg=>rfl);(case hr=>first|(go_simp;done)|(go_simp;rfl));intro gb267 hg w4 hbox hb;have BK267:=Aside0.mk (hbox);have GW267:=Aside0.mk ((by rw [hg];exact (below_size (by repeat (first|(with_reducible first|exact HB.out|apply zl1|apply zl2|apply zl3)|exact HB.out))):w.heap.size≤gb267));have GE267:=Aside0.mk ((by rw [hg];exact (below_size (by repeat (first|(with_reducible first|exact HB.out|apply zl1|apply zl2|apply zl3)|exact HB.out))):w.heap.size≤gb267));replace HB:=Aside0.mk (below_step (by repeat (first|(with_reducible first|exact HB.out|apply zl1|apply zl2|apply zl3)|exact HB.out)) hb);clear hb hbox hg;obtain ⟨hcz5_0,hcz5_1,hcz5_2⟩:=zc3 BK267.out;obtain ⟨hfz5_0,hfz5_1,hfz5_2⟩:=zf3 BK267.out)|((with_reducible refine gate_callee (f:=36) rfl ?_);refine goesL_ (some 4) rfl rfl Tryd.func36 (by kernel_rfl) rfl #[.agg #[.int .i64 a0_0,.int .i64 a0_1,.string a0_2]] rfl (by (try simp only [List.map_toArray,List.map_cons,List.map_nil]);first|done|rfl|(simp only [List.length_drop,List.length_take];rfl)|(simp (disch:=omega) only [u64_in];rfl)) ?_;(with_reducible refine (factotumref02_Right.calls a0_0 a0_1 a0_2 true _ A2.out).mono ?_);rintro e w6 ⟨rfl,hb⟩;refine ⟨_,rfl,?_⟩;replace BK267:=Aside0.mk (blk_below (g:=gb267) (o:=.cells #[.int .i64 a0_0,.int .i64 a0_1,.string a0_2] 24 (0,0)) (by (with_reducible repeat (first|apply zb1|apply zb2|apply zb3));exact BK267.out) hb);replace HB:=Aside0.mk (below_step (by repeat (first|(with_reducible first|exact HB.out|apply zl1|apply zl2|apply zl3|refine below_set ?_ GE267.out)|exact HB.out)) hb);(try clear hb);obtain ⟨hcz7_0,hcz7_1,hcz7_2⟩:=zc3 BK267.out;obtain ⟨hfz7_0,hfz7_1,hfz7_2⟩:=zf3 BK267.out))
  go_ret
  exact ⟨by first|(with_reducible rfl)|(simp only [isEmpty_bne,Bool.not_not] <;> rfl)|rfl|(simp [*,errW_none,errW_some] <;> rfl),by repeat (first|(with_reducible first|exact HB.out|apply zl1|apply zl2|apply zl3|refine below_set ?_ GE267.out)|exact HB.out)⟩
 ·replace c3:=Bool.eq_false_iff.mpr c3
  subst c3
  have H1:(some false)=some r:=by rw [if_neg (show ¬ (false=true) by decide)] at H;exact H
  clear H
  have H:=H1
  clear H1
  obtain rfl:=Option.some.inj H
  go_enter Tryd.func14,Tryd.ntmps14
  go_wp2_with (first|((with_reducible refine gate_dst (N:=1) rfl ?_);(try (refine gate_guard (by rfl) ?_;dsimp only));refine box_event ?hg (N:=1) ?hd (cs:=#[.int .i64 a0_0,.int .i64 a0_1,.string a0_2]) (t:=24) ?hr ?_;(case hd=>rfl);(case hg=>rfl);(case hr=>first|(go_simp;done)|(go_simp;rfl));intro gb267 hg w8 hbox hb;have BK267:=Aside0.mk (hbox);have GW267:=Aside0.mk ((by rw [hg];exact (below_size (by repeat (first|(with_reducible first|exact HB.out|apply zl1|apply zl2|apply zl3)|exact HB.out))):w.heap.size≤gb267));have GE267:=Aside0.mk ((by rw [hg];exact (below_size (by repeat (first|(with_reducible first|exact HB.out|apply zl1|apply zl2|apply zl3)|exact HB.out))):w.heap.size≤gb267));replace HB:=Aside0.mk (below_step (by repeat (first|(with_reducible first|exact HB.out|apply zl1|apply zl2|apply zl3)|exact HB.out)) hb);clear hb hbox hg;obtain ⟨hcz9_0,hcz9_1,hcz9_2⟩:=zc3 BK267.out;obtain ⟨hfz9_0,hfz9_1,hfz9_2⟩:=zf3 BK267.out)|((with_reducible refine gate_callee (f:=36) rfl ?_);refine goesL_ (some 4) rfl rfl Tryd.func36 (by kernel_rfl) rfl #[.agg #[.int .i64 a0_0,.int .i64 a0_1,.string a0_2]] rfl (by (try simp only [List.map_toArray,List.map_cons,List.map_nil]);first|done|rfl|(simp only [List.length_drop,List.length_take];rfl)|(simp (disch:=omega) only [u64_in];rfl)) ?_;(with_reducible refine (factotumref02_Right.calls a0_0 a0_1 a0_2 false _ A2.out).mono ?_);rintro e w10 ⟨rfl,hb⟩;refine ⟨_,rfl,?_⟩;replace BK267:=Aside0.mk (blk_below (g:=gb267) (o:=.cells #[.int .i64 a0_0,.int .i64 a0_1,.string a0_2] 24 (0,0)) (by (with_reducible repeat (first|apply zb1|apply zb2|apply zb3));exact BK267.out) hb);replace HB:=Aside0.mk (below_step (by repeat (first|(with_reducible first|exact HB.out|apply zl1|apply zl2|apply zl3|refine below_set ?_ GE267.out)|exact HB.out)) hb);(try clear hb)))
  go_ret
  exact ⟨by first|(with_reducible rfl)|(simp only [isEmpty_bne,Bool.not_not] <;> rfl)|rfl|(simp [*,errW_none,errW_some] <;> rfl),by repeat (first|(with_reducible first|exact HB.out|apply zl1|apply zl2|apply zl3|refine below_set ?_ GE267.out)|exact HB.out)⟩

end Go.Proofs.YtobjnhkjahhfnaaDoor.PAll
