/- Printed walks of the functions that the laws reach: each function, what it computes, and that it does. No conditions. -/
import Derived.Test.YtnlfppfdfdopiaaDoorPAllx0
namespace Go.Proofs.YtnlfppfdfdopiaaDoor.PAll
open Go.RowKit Go.Proofs.YtnlfppfdfdopiaaDoor.XW Go.Proofs.YtnlfppfdfdopiaaDoor.XLib Go.Proofs.YtnlfppfdfdopiaaDoorW.PrintWords Go.Proofs.YtnlfppfdfdopiaaDoorW.PrintLast Go.Proofs.YtnlfppfdfdopiaaDoorW.PrintMore
attribute [local go_sem] max2_int min2_int max_two min_two max_three min_three max_four min_four   -- for this text's walks alone
set_option linter.unusedVariables false
set_option linter.unusedSimpArgs false

/-! ### factotumlaw19_num: function 26 -/
def factotumlaw19_num.f (a0:Int):Option (Int × Int × ByteArray):=some (1,a0,(⟨#[]⟩:ByteArray))
set_option maxHeartbeats 8000000 in
set_option maxRecDepth 100000 in
theorem factotumlaw19_num.calls (a0:Int) (r1:Int) (r2:Int) (r3:ByteArray) (w:World) (h:factotumlaw19_num.f a0=some (r1,r2,r3)) :
  Calls Tryd.prog 26 #[.int .i64 a0] w fun e w'=>e=.returned (.agg #[.int .i64 r1,.int .i64 r2,.string r3])∧Below w.heap.size w w':=by
 have hu30:=Tryd.underlying30
 have HB:=Aside0.mk (Below.refl w.heap.size w)
 have H:(some (1,a0,(⟨#[]⟩:ByteArray)))=some (r1,r2,r3):=h
 clear h
 simp only [Option.some.injEq,Prod.mk.injEq] at H
 obtain ⟨rfl,rfl,rfl⟩:=H
 go_enter Tryd.func26,Tryd.ntmps26
 go_wp2_with (first|((with_reducible refine gate_dst (N:=2) rfl ?_);refine box_event ?hg (N:=2) ?hd (cs:=#[.int .i64 0,.int .i64 0,.string (⟨#[]⟩:ByteArray)]) (t:=30) ?hr ?_;(case hd=>rfl);(case hg=>rfl);(case hr=>first|(go_simp;done)|(go_simp;rfl));intro gb151 hg w2 hbox hb;have BK151:=Aside0.mk (hbox);have GW151:=Aside0.mk ((by rw [hg];exact (below_size (by repeat (first|(with_reducible first|exact HB.out|apply zl1|apply zl2|apply zl3)|exact HB.out))):w.heap.size≤gb151));have GE151:=Aside0.mk ((by rw [hg];exact (below_size (by repeat (first|(with_reducible first|exact HB.out|apply zl1|apply zl2|apply zl3)|exact HB.out))):w.heap.size≤gb151));replace HB:=Aside0.mk (below_step (by repeat (first|(with_reducible first|exact HB.out|apply zl1|apply zl2|apply zl3)|exact HB.out)) hb);clear hb hbox hg;obtain ⟨hcz3_0,hcz3_1,hcz3_2⟩:=zc3 BK151.out;obtain ⟨hfz3_0,hfz3_1,hfz3_2⟩:=zf3 BK151.out))
 refine bodyPost_ret (results_cell_row rfl _ _ gb151 30 #[.int .i64 1,.int .i64 a0,.string (⟨#[]⟩:ByteArray)] (0,0) _ rfl (by apply zpe;(repeat (first|(with_reducible first|apply zb1|apply zb2|apply zb3|apply zpi|exact BK151.out)));rfl) Tryd.underlying30 rfl (by kernel_rfl)) rfl ?_
 exact ⟨by first|(with_reducible rfl)|(simp only [isEmpty_bne,Bool.not_not] <;> rfl)|rfl|(simp [*,errW_none,errW_some] <;> rfl),by repeat (first|(with_reducible first|exact HB.out|apply zl1|apply zl2|apply zl3|refine below_set ?_ GE151.out)|exact HB.out)⟩

end Go.Proofs.YtnlfppfdfdopiaaDoor.PAll
