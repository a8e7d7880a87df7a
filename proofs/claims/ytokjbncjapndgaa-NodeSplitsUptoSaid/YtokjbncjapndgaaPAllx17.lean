/- Printed walks of the functions that the laws reach: each function, what it computes, and that it does. No conditions. -/
import Derived.Test.YtokjbncjapndgaaPAllx0
namespace Go.Proofs.Ytokjbncjapndgaa.PAll
open Go.RowKit Go.Proofs.Ytokjbncjapndgaa.XW Go.Proofs.Ytokjbncjapndgaa.XLib Go.Proofs.YtokjbncjapndgaaW.PrintWords Go.Proofs.YtokjbncjapndgaaW.PrintLast Go.Proofs.YtokjbncjapndgaaW.PrintMore
attribute [local go_sem] max2_int min2_int max_two min_two max_three min_three max_four min_four   -- for this text's walks alone
set_option linter.unusedVariables false
set_option linter.unusedSimpArgs false

/-! ### factotumref09_pair: function 30 -/
def factotumref09_pair.f (a0_0:ByteArray) (a0_1:ByteArray):Option (Int):=some (wrap64 ((wrap64 (2 + (a0_0.size:Int))) + (a0_1.size:Int)))
set_option maxHeartbeats 8000000 in
set_option maxRecDepth 100000 in
theorem factotumref09_pair.calls (a0_0:ByteArray) (a0_1:ByteArray) (r:Int) (w:World) (h:factotumref09_pair.f a0_0 a0_1=some r) :
  Calls Try.prog 30 #[.agg #[.string a0_0,.string a0_1]] w fun e w'=>e=.returned (.int .i64 r)∧Below w.heap.size w w':=by
 have hu43:=Try.underlying43
 have HB:=Aside0.mk (Below.refl w.heap.size w)
 have H:(some (wrap64 ((wrap64 (2 + (a0_0.size:Int))) + (a0_1.size:Int))))=some r:=h
 clear h
 obtain rfl:=Option.some.inj H
 go_enter Try.func30,Try.ntmps30
 go_wp2_with (first|((with_reducible refine gate_dst (N:=1) rfl ?_);refine box_event ?hg (N:=1) ?hd (cs:=#[.string a0_0,.string a0_1]) (t:=43) ?hr ?_;(case hd=>rfl);(case hg=>rfl);(case hr=>first|(go_simp;done)|(go_simp;rfl));intro gb327 hg w2 hbox hb;have BK327:=Aside0.mk (hbox);have GW327:=Aside0.mk ((by rw [hg];exact (below_size (by repeat (first|(with_reducible first|exact HB.out|apply zl1|apply zl2|apply zl3)|exact HB.out))):w.heap.size≤gb327));have GE327:=Aside0.mk ((by rw [hg];exact (below_size (by repeat (first|(with_reducible first|exact HB.out|apply zl1|apply zl2|apply zl3)|exact HB.out))):w.heap.size≤gb327));replace HB:=Aside0.mk (below_step (by repeat (first|(with_reducible first|exact HB.out|apply zl1|apply zl2|apply zl3)|exact HB.out)) hb);clear hb hbox hg;have hcz3_0:w2.cell? ⟨gb327,0,none⟩=some (.string a0_0):=(blk_cell BK327.out 0).trans rfl;have hcz3_1:w2.cell? ⟨gb327,1,none⟩=some (.string a0_1):=(blk_cell BK327.out 1).trans rfl;have hfz3_0:=blk_frozen BK327.out 0;have hfz3_1:=blk_frozen BK327.out 1))
 go_ret
 exact ⟨by first|(with_reducible rfl)|(simp only [isEmpty_bne,Bool.not_not] <;> rfl)|rfl|(simp [*,errW_none,errW_some] <;> rfl),by repeat (first|(with_reducible first|exact HB.out|apply zl1|apply zl2|apply zl3|refine below_set ?_ GE327.out)|exact HB.out)⟩

end Go.Proofs.Ytokjbncjapndgaa.PAll
